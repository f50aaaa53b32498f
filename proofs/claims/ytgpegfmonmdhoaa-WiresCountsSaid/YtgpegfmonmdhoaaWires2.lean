/-
  The walks of the net's functions.
-/
import Derived.Test.YtgpegfmonmdhoaaWires1
set_option linter.unusedVariables false
set_option linter.unusedSimpArgs false
set_option maxHeartbeats 4000000
namespace Go.Proofs.Ytgpegfmonmdhoaa
open Go.SL


/-- drayage/drayagelaw18.letter -/
theorem letter_reads (f t : Int) (n : BitVec 64) (H : List Ck) : Reads Try.prog 11 [.int .i64 f, .int .i64 t, .int .u64 n.toNat] H (.agg (ltc (ackL f t n) (.slice none 0 0) (.slice none 0 0)).toArray) := by
  refine Tells.enter Try.func11 rfl Try.ntmps11 rfl ?_
  intro w0 R
  refine WC.seq ?_
  refine WC.region ?_
  refine WL.h rfl (Hd.alloc (zs := [.int .i64 0, .int .i64 0, .int .i64 0, .int .u32 0, .int .u32 0, .int .u64 0, .int .u64 0, .int .u32 0, .int .i64 0, .bool false, .int .i64 0, .slice none 0 0, .slice none 0 0]) (by kernel_rfl) fun b6 => ⟨_, rfl, ?_⟩)
  refine WL.nil ?_
  refine DN.then_normal ?_
  refine WC.seq ?_
  refine WC.region ?_
  refine WL.y rfl (Yd.move rfl) ?_
  refine WL.y rfl (Yd.move rfl) ?_
  refine WL.y rfl (Yd.move rfl) ?_
  refine WL.y rfl (Yd.buildL (pl := [(0, 1), (1, 1), (2, 1), (3, 1), (4, 1), (5, 1), (6, 1), (7, 1), (8, 1), (9, 1), (10, 1)]) (zs := [.int .i64 0, .int .u32 0, .int .u32 0, .int .u64 0, .int .u64 0, .int .u32 0, .int .i64 0, .bool false, .int .i64 0, .slice none 0 0, .slice none 0 0]) (parts := [(0, .const (.int .i64 2)), (1, .const (.int .u32 1)), (3, .tmp 9)]) (vs := [(0, _), (1, _), (3, _)]) (cells := [_, _, .int .u32 0, _, .int .u64 0, .int .u32 0, .int .i64 0, .bool false, .int .i64 0, .slice none 0 0, .slice none 0 0]) (by kernel_rfl) (by kernel_rfl) rfl rfl) ?_
  refine WL.y rfl (Yd.buildL (pl := [(0, 1), (1, 1), (2, 11)]) (zs := [.int .i64 0, .int .i64 0, .int .i64 0, .int .u32 0, .int .u32 0, .int .u64 0, .int .u64 0, .int .u32 0, .int .i64 0, .bool false, .int .i64 0, .slice none 0 0, .slice none 0 0]) (parts := [(0, .tmp 7), (1, .tmp 8), (2, .tmp 10)]) (vs := [(0, _), (1, _), (2, _)]) (cells := [_, _, _, _, _, _, _, _, _, _, _, _, _]) (by kernel_rfl) (by kernel_rfl) rfl rfl) ?_
  refine WL.s (Hd.storeAll (n := 13) (by kernel_rfl) rfl rfl (by rfl) (by repeat (first | exact fun _ h => absurd h List.not_mem_nil | refine List.forall_mem_cons.2 ⟨by first | rfl | assumption, ?_⟩)) (by repeat (first | exact Fr.here | apply Fr.fc | apply Fr.al | apply Fr.fa)) (by rfl) ⟨rfl, ?_⟩)
  refine WL.nil ?_
  refine DN.then_normal ?_
  refine WC.ret ?_
  refine DN.retCS (s := 13) (H) Try.results11 (by kernel_rfl) rfl (by repeat (first | exact List.mem_cons_self | apply List.mem_cons_of_mem | apply List.mem_append_right)) (by rfl) (by repeat (first | exact Sp.here | exact Sp.sn | exact Sp.s0 | exact Fr.here | apply Sp.s2 | apply Sp.sx | apply Fr.fc | apply Fr.al | apply Fr.fa | apply Sp.sc | apply Sp.al | apply Sp.sa)) ?_
  exact ⟨rfl, rfl⟩

/-- drayage/wires.own -/
theorem own_tells (L : Lt) (vk vd : Value) (H : List Ck) (hk : Bs vk L.n.key H) (hd : Bs vd L.n.data H) (bk : L.n.key.length ≤ 140737488355328) (bd : L.n.data.length ≤ 140737488355328) : Tells Try.prog 32 [.agg (ltc L vk vd).toArray] H fun r H' => ∃ vk' vd' A B, r = .agg (ltc L vk' vd').toArray ∧ Ob 5 vk' L.n.key A ∧ Ob 5 vd' L.n.data B ∧ H' = A ++ (B ++ H) := by
  refine Tells.enter Try.func32 rfl Try.ntmps32 rfl ?_
  intro w0 R
  obtain ⟨ko, kc, rfl, _⟩ := hk.form
  obtain ⟨eo, ec, rfl, _⟩ := hd.form
  refine WC.seq ?_
  refine WC.region ?_
  refine WL.h rfl (Hd.boxA rfl fun b1 => ⟨_, rfl, ?_⟩)
  refine WL.h rfl (Hd.alloc (zs := [.int .i64 0, .int .i64 0, .int .i64 0, .int .u32 0, .int .u32 0, .int .u64 0, .int .u64 0, .int .u32 0, .int .i64 0, .bool false, .int .i64 0, .slice none 0 0, .slice none 0 0]) (by kernel_rfl) fun b2 => ⟨_, rfl, ?_⟩)
  refine WL.nil ?_
  refine DN.then_normal ?_
  refine WC.seq ?_
  refine WC.region ?_
  refine WL.h rfl (Hd.buildBytes (e := 5) [] (by kernel_rfl) (by kernel_rfl) (by kernel_rfl) rfl rfl (by kernel_rfl) fun b3 => ⟨_, rfl, ?_⟩)
  refine WL.y rfl (Yd.fieldAddr (k := 2) (by kernel_rfl) rfl) ?_
  refine WL.y rfl (Yd.fieldAddr (k := 9) (by kernel_rfl) rfl) ?_
  refine WL.h rfl (Hd.load1 (by kernel_rfl) rfl (by repeat (first | exact List.mem_cons_self | apply List.mem_cons_of_mem | apply List.mem_append_right)) (by rfl) ⟨_, rfl, ?_⟩)
  refine WL.h rfl (Hd.appendBs (a := []) (b := L.n.key) (e := 5) (zs := [.int .u8 0]) (by kernel_rfl) (by kernel_rfl) rfl rfl rfl (Ob.block b3 [] (by decide)) (by repeat (first | exact Sp.here | exact Sp.sn | exact Sp.s0 | exact Fr.here | apply Sp.s2 | apply Sp.sx | apply Fr.fc | apply Fr.al | apply Fr.fa | apply Sp.sc | apply Sp.al | apply Sp.sa)) (hk.mono (by repeat (first | exact Gr.refl | exact Gr.left Gr.refl | exact Gr.nil | exact Gr.app (Gr.left Gr.refl) | refine Gr.cons ?_ | refine Gr.app ?_ | refine Gr.both ?_ ?_ | refine Gr.put (by repeat (first | exact List.mem_cons_self | apply List.mem_cons_of_mem | apply List.mem_append_right)) ?_))) (by simpa using bk) fun v7 A hA => ⟨_, rfl, ?_⟩)
  rw [List.nil_append] at hA
  obtain ⟨ao, ac, rfl, _⟩ := hA.form
  refine WL.y rfl (Yd.fieldAddr (k := 2) (by kernel_rfl) rfl) ?_
  refine WL.y rfl (Yd.fieldAddr (k := 9) (by kernel_rfl) rfl) ?_
  refine WL.s (Hd.store1s (by kernel_rfl) rfl rfl (by rfl) (by repeat (first | exact Fr.here | apply Fr.fc | apply Fr.al | apply Fr.fa)) (by rfl) (by first | (simp only [List.set_cons_zero, List.set_cons_succ, Nat.zero_add, Nat.add_zero, Nat.reduceAdd]; rfl) | rfl) ⟨rfl, ?_⟩)
  refine WL.nil ?_
  refine DN.then_normal ?_
  refine WC.seq ?_
  refine WC.region ?_
  refine WL.h rfl (Hd.buildBytes (e := 5) [] (by kernel_rfl) (by kernel_rfl) (by kernel_rfl) rfl rfl (by kernel_rfl) fun b10 => ⟨_, rfl, ?_⟩)
  refine WL.y rfl (Yd.fieldAddr (k := 2) (by kernel_rfl) rfl) ?_
  refine WL.y rfl (Yd.fieldAddr (k := 10) (by kernel_rfl) rfl) ?_
  refine WL.h rfl (Hd.load1 (by kernel_rfl) rfl (by repeat (first | exact List.mem_cons_self | apply List.mem_cons_of_mem | apply List.mem_append_right)) (by rfl) ⟨_, rfl, ?_⟩)
  refine WL.h rfl (Hd.appendBs (a := []) (b := L.n.data) (e := 5) (zs := [.int .u8 0]) (by kernel_rfl) (by kernel_rfl) rfl rfl rfl (Ob.block b10 [] (by decide)) (by repeat (first | exact Sp.here | exact Sp.sn | exact Sp.s0 | exact Fr.here | apply Sp.s2 | apply Sp.sx | apply Fr.fc | apply Fr.al | apply Fr.fa | apply Sp.sc | apply Sp.al | apply Sp.sa)) (hd.mono (by repeat (first | exact Gr.refl | exact Gr.left Gr.refl | exact Gr.nil | exact Gr.app (Gr.left Gr.refl) | refine Gr.cons ?_ | refine Gr.app ?_ | refine Gr.both ?_ ?_ | refine Gr.put (by repeat (first | exact List.mem_cons_self | apply List.mem_cons_of_mem | apply List.mem_append_right)) ?_))) (by simpa using bd) fun v14 B hB => ⟨_, rfl, ?_⟩)
  rw [List.nil_append] at hB
  obtain ⟨bo, bc, rfl, _⟩ := hB.form
  refine WL.y rfl (Yd.fieldAddr (k := 2) (by kernel_rfl) rfl) ?_
  refine WL.y rfl (Yd.fieldAddr (k := 10) (by kernel_rfl) rfl) ?_
  refine WL.s (Hd.store1s (by kernel_rfl) rfl rfl (by rfl) (by repeat (first | exact Fr.here | apply Fr.fc | apply Fr.al | apply Fr.fa)) (by rfl) (by first | (simp only [List.set_cons_zero, List.set_cons_succ, Nat.zero_add, Nat.add_zero, Nat.reduceAdd]; rfl) | rfl) ⟨rfl, ?_⟩)
  refine WL.nil ?_
  refine DN.then_normal ?_
  refine WC.seq ?_
  refine WC.region ?_
  refine WL.h rfl (Hd.loadAll (n := 13) (by kernel_rfl) rfl (by repeat (first | exact List.mem_cons_self | apply List.mem_cons_of_mem | apply List.mem_append_right)) (by rfl) ⟨_, rfl, ?_⟩)
  refine WL.s (Hd.storeAll (n := 13) (by kernel_rfl) rfl rfl (by rfl) (by repeat (first | exact fun _ h => absurd h List.not_mem_nil | refine List.forall_mem_cons.2 ⟨by first | rfl | assumption, ?_⟩)) (by repeat (first | exact Fr.here | apply Fr.fc | apply Fr.al | apply Fr.fa)) (by rfl) ⟨rfl, ?_⟩)
  refine WL.nil ?_
  refine DN.then_normal ?_
  refine WC.ret ?_
  refine DN.retCS (s := 13) (A ++ (B ++ H)) Try.results32 (by kernel_rfl) rfl (by repeat (first | exact List.mem_cons_self | apply List.mem_cons_of_mem | apply List.mem_append_right)) (by rfl) (by repeat (first | exact Sp.here | exact Sp.sn | exact Sp.s0 | exact Fr.here | apply Sp.s2 | apply Sp.sx | apply Fr.fc | apply Fr.al | apply Fr.fa | apply Sp.sc | apply Sp.al | apply Sp.sa)) ?_
  exact ⟨_, _, A, B, rfl, hA, hB, rfl⟩

/-- (*drayage/wires.Wires).is -/
theorem is_reads (p : Nat) (W : Wn) (C : List Ck) (h : WAt 72 34 5 p W C) (k : Int) : Reads Try.prog 29 [.pointer (some ⟨p, 0, none⟩), .int .i64 k] C (.bool (isNode W k)) := by
  refine Tells.enter Try.func29 rfl Try.ntmps29 rfl ?_
  intro w0 R
  obtain ⟨vl, Cl, cs, D, rfl, ho, hL⟩ := h
  obtain ⟨xo, xc, rfl, hxc⟩ := ho.form
  refine WC.seq ?_
  refine WC.region ?_
  refine WL.y rfl (Yd.assign rfl) ?_
  refine WL.nil ?_
  refine DN.then_normal ?_
  refine WC.seq ?_
  refine WC.region ?_
  refine WL.y rfl (Yd.move rfl) ?_
  refine WL.y rfl (Yd.geq rfl rfl) ?_
  refine WL.y rfl (Yd.move rfl) ?_
  refine WL.partP (t := 7) rfl (fun hg7 => ?_) (fun hg7 => ?_)
  · refine WL.gy (dj := 7) rfl rfl rfl (Yd.move rfl) ?_
    refine WL.gy (dj := 7) rfl rfl rfl (Yd.move rfl) ?_
    refine WL.gy (dj := 7) rfl rfl rfl (Yd.notNil rfl) ?_
    refine WL.gy (dj := 7) rfl rfl rfl (Yd.fieldAddr (k := 0) (by kernel_rfl) rfl) ?_
    refine WL.gh (dj := 7) rfl rfl rfl (Hd.load1 (by kernel_rfl) rfl (by repeat (first | exact List.mem_cons_self | apply List.mem_cons_of_mem | apply List.mem_append_right)) (by rfl) ⟨_, rfl, ?_⟩)
    refine WL.gy (dj := 7) rfl rfl rfl (Yd.lss rfl rfl) ?_
    refine WL.y rfl (Yd.pickT rfl rfl) ?_
    refine WL.y rfl (Yd.assign rfl) ?_
    refine WL.nil ?_
    refine DN.then_normal ?_
    refine WC.ret ?_
    refine DN.ret1 Try.results29 rfl ?_
    exact ⟨by simp [isNode, hg7], rfl⟩
  · refine WL.gn (dj := 7) rfl rfl rfl rfl ?_
    refine WL.gn (dj := 7) rfl rfl rfl rfl ?_
    refine WL.gn (dj := 7) rfl rfl rfl rfl ?_
    refine WL.gn (dj := 7) rfl rfl rfl rfl ?_
    refine WL.gn (dj := 7) rfl rfl rfl rfl ?_
    refine WL.gn (dj := 7) rfl rfl rfl rfl ?_
    refine WL.y rfl (Yd.pickF rfl rfl) ?_
    refine WL.y rfl (Yd.assign rfl) ?_
    refine WL.nil ?_
    refine DN.then_normal ?_
    refine WC.ret ?_
    refine DN.ret1 Try.results29 rfl ?_
    exact ⟨by simp [isNode, hg7], rfl⟩

/-- (*drayage/wires.Wires).there -/
theorem there_reads (p : Nat) (W : Wn) (C : List Ck) (h : WAt 72 34 5 p W C) (k : Int) : Reads Try.prog 33 [.pointer (some ⟨p, 0, none⟩), .int .i64 k] C (.bool (decide (0 ≤ k) && decide (k < (W.ls.length : Int)))) := by
  refine Tells.enter Try.func33 rfl Try.ntmps33 rfl ?_
  intro w0 R
  obtain ⟨vl, Cl, cs, D, rfl, ho, hL⟩ := h
  obtain ⟨xo, xc, rfl, hxc⟩ := ho.form
  refine WC.seq ?_
  refine WC.region ?_
  refine WL.y rfl (Yd.assign rfl) ?_
  refine WL.nil ?_
  refine DN.then_normal ?_
  refine WC.seq ?_
  refine WC.region ?_
  refine WL.y rfl (Yd.move rfl) ?_
  refine WL.y rfl (Yd.neqNil Try.underlying22 rfl rfl) ?_
  refine WL.renamed (t := 6) (v := .bool true) rfl (congrArg Value.bool (rfl)) ?_
  refine WL.y rfl (Yd.move rfl) ?_
  refine WL.gy (dj := 7) rfl rfl rfl (Yd.move rfl) ?_
  refine WL.gy (dj := 7) rfl rfl rfl (Yd.geq rfl rfl) ?_
  refine WL.y rfl (Yd.pickT rfl rfl) ?_
  refine WL.y rfl (Yd.move rfl) ?_
  refine WL.partP (t := 11) rfl (fun hg11 => ?_) (fun hg11 => ?_)
  · refine WL.gy (dj := 11) rfl rfl rfl (Yd.move rfl) ?_
    refine WL.gy (dj := 11) rfl rfl rfl (Yd.move rfl) ?_
    refine WL.gy (dj := 11) rfl rfl rfl (Yd.notNil rfl) ?_
    refine WL.gy (dj := 11) rfl rfl rfl (Yd.fieldAddr (k := 1) (by kernel_rfl) rfl) ?_
    refine WL.gh (dj := 11) rfl rfl rfl (Hd.load1 (by kernel_rfl) rfl (by repeat (first | exact List.mem_cons_self | apply List.mem_cons_of_mem | apply List.mem_append_right)) (by rfl) ⟨_, rfl, ?_⟩)
    refine WL.gy (dj := 11) rfl rfl rfl (Yd.len (e := 34) (by kernel_rfl) rfl) ?_
    refine WL.gy (dj := 11) rfl rfl rfl (Yd.lss rfl rfl) ?_
    refine WL.y rfl (Yd.pickT rfl rfl) ?_
    refine WL.y rfl (Yd.assign rfl) ?_
    refine WL.nil ?_
    refine DN.then_normal ?_
    refine WC.ret ?_
    refine DN.ret1 Try.results33 rfl ?_
    exact ⟨by simp [hg11], rfl⟩
  · refine WL.gn (dj := 11) rfl rfl rfl rfl ?_
    refine WL.gn (dj := 11) rfl rfl rfl rfl ?_
    refine WL.gn (dj := 11) rfl rfl rfl rfl ?_
    refine WL.gn (dj := 11) rfl rfl rfl rfl ?_
    refine WL.gn (dj := 11) rfl rfl rfl rfl ?_
    refine WL.gn (dj := 11) rfl rfl rfl rfl ?_
    refine WL.gn (dj := 11) rfl rfl rfl rfl ?_
    refine WL.y rfl (Yd.pickF rfl rfl) ?_
    refine WL.y rfl (Yd.assign rfl) ?_
    refine WL.nil ?_
    refine DN.then_normal ?_
    refine WC.ret ?_
    refine DN.ret1 Try.results33 rfl ?_
    exact ⟨by simp [hg11], rfl⟩

/-- (*drayage/wires.Wires).Len -/
theorem len_reads (p : Nat) (W : Wn) (C : List Ck) (h : WAt 72 34 5 p W C) : Reads Try.prog 14 [.pointer (some ⟨p, 0, none⟩)] C (.int .i64 (W.ls.length : Int)) := by
  refine Tells.enter Try.func14 rfl Try.ntmps14 rfl ?_
  intro w0 R
  obtain ⟨vl, Cl, cs, D, rfl, ho, hL⟩ := h
  obtain ⟨xo, xc, rfl, hxc⟩ := ho.form
  refine WC.seq ?_
  refine WC.region ?_
  refine WL.y rfl (Yd.assign rfl) ?_
  refine WL.nil ?_
  refine DN.then_normal ?_
  refine WC.seq ?_
  refine WC.seq ?_
  refine WC.region ?_
  refine WL.y rfl (Yd.move rfl) ?_
  refine WL.y rfl (Yd.eqlNil Try.underlying22 rfl rfl) ?_
  refine WL.renamed (t := 4) (v := .bool false) rfl (congrArg Value.bool (rfl)) ?_
  refine WL.nil ?_
  refine DN.then_normal ?_
  refine WC.no rfl ?_
  refine WC.skip ?_
  refine DN.then_normal ?_
  refine WC.seq ?_
  refine WC.region ?_
  refine WL.y rfl (Yd.move rfl) ?_
  refine WL.y rfl (Yd.notNil rfl) ?_
  refine WL.y rfl (Yd.fieldAddr (k := 1) (by kernel_rfl) rfl) ?_
  refine WL.h rfl (Hd.load1 (by kernel_rfl) rfl (by repeat (first | exact List.mem_cons_self | apply List.mem_cons_of_mem | apply List.mem_append_right)) (by rfl) ⟨_, rfl, ?_⟩)
  refine WL.y rfl (Yd.len (e := 34) (by kernel_rfl) rfl) ?_
  refine WL.y rfl (Yd.assign rfl) ?_
  refine WL.nil ?_
  refine DN.then_normal ?_
  refine WC.ret ?_
  refine DN.ret1 Try.results14 rfl ?_
  exact ⟨rfl, rfl⟩


theorem rep0 (n k : Nat) : (List.replicate n (0 : Int)).getD k 0 = 0 := by
  simp only [List.getD, List.getElem?_replicate]
  split <;> rfl
theorem cells_cut (n : Int) (vl : Value) (cut : List Int) (clk : List (BitVec 64)) (h : cut.length = 36) : ((Value.int .i64 n :: vl :: (ic cut ++ uc clk)).drop 2).take 36 = ic cut := by
  show (ic cut ++ uc clk).take 36 = ic cut
  rw [List.take_append_of_le_length (by rw [ic_length]; omega)]
  rw [List.take_of_length_le (by rw [ic_length]; omega)]
theorem cells_cutAt (n : Int) (vl : Value) (cut : List Int) (clk : List (BitVec 64)) (i : Nat) (h : i < cut.length) : (Value.int .i64 n :: vl :: (ic cut ++ uc clk))[2 + i]? = some (.int .i64 (cut.getD i 0)) := by
  rw [show 2 + i = i + 1 + 1 by omega]
  show (ic cut ++ uc clk)[i]? = _
  rw [List.getElem?_append_left (by rw [ic_length]; exact h)]
  exact ic_getD h
theorem cells_clkAt (n : Int) (vl : Value) (cut : List Int) (clk : List (BitVec 64)) (i : Nat) (hc : cut.length = 36) (h : i < clk.length) : (Value.int .i64 n :: vl :: (ic cut ++ uc clk))[38 + i]? = some (.int .u64 (clk.getD i 0#64).toNat) := by
  rw [show 38 + i = 36 + i + 1 + 1 by omega]
  show (ic cut ++ uc clk)[36 + i]? = _
  rw [List.getElem?_append_right (by rw [ic_length]; omega), ic_length, hc]
  simp [uc, h]


/-- (*drayage/wires.Wires).open -/
theorem open_reads (p : Nat) (W : Wn) (C H : List Ck) (h : WAt 72 34 5 p W C) (hc : W.cut.length = 36) (L : Lt) (vk vd : Value) (hf : 0 ≤ L.f ∧ L.f < 6) (ht : 0 ≤ L.t ∧ L.t < 6) : Reads Try.prog 31 [.pointer (some ⟨p, 0, none⟩), .agg (ltc L vk vd).toArray] C (.bool (openB W L)) := by
  refine Tells.enter Try.func31 rfl Try.ntmps31 rfl ?_
  intro w0 R
  obtain ⟨vl, Cl, cs, D, rfl, ho, hL⟩ := h
  obtain ⟨xo, xc, rfl, hxc⟩ := ho.form
  refine WC.seq ?_
  refine WC.region ?_
  refine WL.h rfl (Hd.boxA rfl fun b3 => ⟨_, rfl, ?_⟩)
  refine WL.y rfl (Yd.assign rfl) ?_
  refine WL.nil ?_
  refine DN.then_normal ?_
  refine WC.seq ?_
  refine WC.region ?_
  refine WL.h rfl (Hd.alloc (zs := [.int .i64 0, .int .i64 0, .int .i64 0, .int .i64 0, .int .i64 0, .int .i64 0, .int .i64 0, .int .i64 0, .int .i64 0, .int .i64 0, .int .i64 0, .int .i64 0, .int .i64 0, .int .i64 0, .int .i64 0, .int .i64 0, .int .i64 0, .int .i64 0, .int .i64 0, .int .i64 0, .int .i64 0, .int .i64 0, .int .i64 0, .int .i64 0, .int .i64 0, .int .i64 0, .int .i64 0, .int .i64 0, .int .i64 0, .int .i64 0, .int .i64 0, .int .i64 0, .int .i64 0, .int .i64 0, .int .i64 0, .int .i64 0]) (by kernel_rfl) fun b5 => ⟨_, rfl, ?_⟩)
  refine WL.nil ?_
  refine DN.then_normal ?_
  refine WC.seq ?_
  refine WC.draw 20 (by kernel_rfl) rfl ?_
  refine WA.y (i := 0) (NoPanic.then (NoPanic.body)) rfl (by kernel_rfl) (by kernel_rfl) (by kernel_rfl) rfl (Yd.move rfl) ?_
  refine WA.y (i := 1) (NoPanic.then (NoPanic.body)) rfl (by kernel_rfl) (by kernel_rfl) (by kernel_rfl) rfl (Yd.notNil rfl) ?_
  refine WA.y (i := 2) (NoPanic.then (NoPanic.body)) rfl (by kernel_rfl) (by kernel_rfl) (by kernel_rfl) rfl (Yd.fieldAddr (k := 2) (by kernel_rfl) rfl) ?_
  refine WA.two (i := 3) (j := 4) (by kernel_rfl) ?_ ?_
  · refine WO.h rfl Wt.none rfl (Hd.loadA (n := 36) (vs := ic W.cut) (by kernel_rfl) rfl (by repeat (first | exact List.mem_cons_self | apply List.mem_cons_of_mem | apply List.mem_append_right)) (by rw [ic_length]; exact hc) (by exact cells_cut _ _ _ _ hc) ⟨_, rfl, ?_⟩)
    refine WA.one (i := 4) (by kernel_rfl) ?_
    refine WO.h rfl Wt.none rfl (Hd.loadAll (n := 36) (by kernel_rfl) rfl (by repeat (first | exact List.mem_cons_self | apply List.mem_cons_of_mem | apply List.mem_append_right)) (by rfl) ⟨_, rfl, ?_⟩)
    refine WA.y (i := 5) (NoPanic.then (NoPanic.body)) rfl (by kernel_rfl) (by kernel_rfl) (by kernel_rfl) rfl (Yd.eqlArr2 (n := 6) (m := 6) (T1 := 68) (e := 3) (kd := .i64) (ys := List.replicate 36 0) Try.underlying69 Try.underlying68 (by kernel_rfl) (by kernel_rfl) Try.underlying3 (by kernel_rfl) rfl rfl (by rw [hc]) (by rfl)) ?_
    refine WA.y (i := 6) (NoPanic.then (NoPanic.body)) rfl (by kernel_rfl) (by kernel_rfl) (by kernel_rfl) rfl (Yd.move rfl) ?_
    refine WA.partP (t := 12) rfl (fun hg12 => ?_) (fun hg12 => ?_)
    · refine WA.gn (i := 7) (dj := 12) (NoPanic.then (NoPanic.body)) rfl (by kernel_rfl) (by kernel_rfl) (by kernel_rfl) rfl rfl rfl rfl ?_
      refine WA.gn (i := 8) (dj := 12) (NoPanic.then (NoPanic.body)) rfl (by kernel_rfl) (by kernel_rfl) (by kernel_rfl) rfl rfl rfl rfl ?_
      refine WA.gn (i := 9) (dj := 12) (NoPanic.then (NoPanic.body)) rfl (by kernel_rfl) (by kernel_rfl) (by kernel_rfl) rfl rfl rfl rfl ?_
      refine WA.gn (i := 10) (dj := 12) (NoPanic.then (NoPanic.body)) rfl (by kernel_rfl) (by kernel_rfl) (by kernel_rfl) rfl rfl rfl rfl ?_
      refine WA.gn (i := 11) (dj := 12) (NoPanic.then (NoPanic.body)) rfl (by kernel_rfl) (by kernel_rfl) (by kernel_rfl) rfl rfl rfl rfl ?_
      refine WA.gn (i := 12) (dj := 12) (NoPanic.then (NoPanic.body)) rfl (by kernel_rfl) (by kernel_rfl) (by kernel_rfl) rfl rfl rfl rfl ?_
      refine WA.gn (i := 13) (dj := 12) (NoPanic.then (NoPanic.body)) rfl (by kernel_rfl) (by kernel_rfl) (by kernel_rfl) rfl rfl rfl rfl ?_
      refine WA.gn (i := 14) (dj := 12) (NoPanic.then (NoPanic.body)) rfl (by kernel_rfl) (by kernel_rfl) (by kernel_rfl) rfl rfl rfl rfl ?_
      refine WA.gn (i := 15) (dj := 12) (NoPanic.then (NoPanic.body)) rfl (by kernel_rfl) (by kernel_rfl) (by kernel_rfl) rfl rfl rfl rfl ?_
      refine WA.gn (i := 16) (dj := 12) (NoPanic.then (NoPanic.body)) rfl (by kernel_rfl) (by kernel_rfl) (by kernel_rfl) rfl rfl rfl rfl ?_
      refine WA.gn (i := 17) (dj := 12) (NoPanic.then (NoPanic.body)) rfl (by kernel_rfl) (by kernel_rfl) (by kernel_rfl) rfl rfl rfl rfl ?_
      refine WA.y (i := 18) (NoPanic.then (NoPanic.body)) rfl (by kernel_rfl) (by kernel_rfl) (by kernel_rfl) rfl (Yd.pickT rfl rfl) ?_
      refine WA.y (i := 19) (NoPanic.then (NoPanic.body)) rfl (by kernel_rfl) (by kernel_rfl) (by kernel_rfl) rfl (Yd.assign rfl) ?_
      refine WA.done (by kernel_rfl) ?_
      refine DN.then_normal ?_
      refine WC.ret ?_
      refine DN.fit (C := row p (.int .i64 W.n :: .slice xo W.ls.length xc :: (ic W.cut ++ uc W.clk)) 72 :: (Cl ++ D)) (by repeat (first | exact Sp.here | exact Sp.sn | exact Sp.s0 | exact Fr.here | apply Sp.s2 | apply Sp.sx | apply Fr.fc | apply Fr.al | apply Fr.fa | apply Sp.sc | apply Sp.al | apply Sp.sa)) ?_
      refine DN.ret1 Try.results31 rfl ?_
      exact ⟨by first | rfl | (congr 1; symm; rw [openB, cutAt, hg12, rep0]; rfl), rfl⟩
    · refine WA.gy (i := 7) (dj := 12) (NoPanic.then (NoPanic.body)) rfl (by kernel_rfl) (by kernel_rfl) (by kernel_rfl) rfl rfl rfl (Yd.move rfl) ?_
      refine WA.gy (i := 8) (dj := 12) (NoPanic.then (NoPanic.body)) rfl (by kernel_rfl) (by kernel_rfl) (by kernel_rfl) rfl rfl rfl (Yd.fieldAddr (k := 0) (by kernel_rfl) rfl) ?_
      refine WA.gy (i := 10) (dj := 12) (NoPanic.then (NoPanic.body)) rfl (by kernel_rfl) (by kernel_rfl) (by kernel_rfl) rfl rfl rfl (Yd.fieldAddr (k := 1) (by kernel_rfl) rfl) ?_
      refine WA.gy (i := 12) (dj := 12) (NoPanic.then (NoPanic.body)) rfl (by kernel_rfl) (by kernel_rfl) (by kernel_rfl) rfl rfl rfl (Yd.notNil rfl) ?_
      refine WA.gy (i := 13) (dj := 12) (NoPanic.then (NoPanic.body)) rfl (by kernel_rfl) (by kernel_rfl) (by kernel_rfl) rfl rfl rfl (Yd.fieldAddr (k := 2) (by kernel_rfl) rfl) ?_
      refine WA.two (i := 9) (j := 11) (by kernel_rfl) ?_ ?_
      · refine WO.h rfl (Wt.yes (dj := 12) rfl rfl) rfl (Hd.load1 (by kernel_rfl) rfl (by repeat (first | exact List.mem_cons_self | apply List.mem_cons_of_mem | apply List.mem_append_right)) (by rfl) ⟨_, rfl, ?_⟩)
        refine WA.gy (i := 14) (dj := 12) (NoPanic.then (NoPanic.body)) rfl (by kernel_rfl) (by kernel_rfl) (by kernel_rfl) rfl rfl rfl (Yd.indexArr (n := 6) (e := 68) (s := 6) (by kernel_rfl) (by kernel_rfl) rfl rfl (by omega) (by omega)) ?_
        refine WA.one (i := 11) (by kernel_rfl) ?_
        refine WO.h rfl (Wt.yes (dj := 12) rfl rfl) rfl (Hd.load1 (by kernel_rfl) rfl (by repeat (first | exact List.mem_cons_self | apply List.mem_cons_of_mem | apply List.mem_append_right)) (by rfl) ⟨_, rfl, ?_⟩)
        refine WA.gy (i := 15) (dj := 12) (NoPanic.then (NoPanic.body)) rfl (by kernel_rfl) (by kernel_rfl) (by kernel_rfl) rfl rfl rfl (Yd.indexArr (n := 6) (e := 3) (s := 1) (by kernel_rfl) (by kernel_rfl) rfl rfl (by omega) (by omega)) ?_
        refine WA.one (i := 16) (by kernel_rfl) ?_
        refine WO.h rfl (Wt.yes (dj := 12) rfl rfl) rfl (Hd.load1 (v := .int .i64 (cutAt W L.f L.t)) (by kernel_rfl) rfl (by repeat (first | exact List.mem_cons_self | apply List.mem_cons_of_mem | apply List.mem_append_right)) (by rw [show 0 + 2 + L.f.toNat * 6 + L.t.toNat * 1 = 2 + (L.f.toNat * 6 + L.t.toNat) by omega]; exact cells_cutAt _ _ _ _ _ (by omega)) ⟨_, rfl, ?_⟩)
        refine WA.gy (i := 17) (dj := 12) (NoPanic.then (NoPanic.body)) rfl (by kernel_rfl) (by kernel_rfl) (by kernel_rfl) rfl rfl rfl (Yd.eql rfl rfl) ?_
        refine WA.y (i := 18) (NoPanic.then (NoPanic.body)) rfl (by kernel_rfl) (by kernel_rfl) (by kernel_rfl) rfl (Yd.pickF rfl rfl) ?_
        refine WA.y (i := 19) (NoPanic.then (NoPanic.body)) rfl (by kernel_rfl) (by kernel_rfl) (by kernel_rfl) rfl (Yd.assign rfl) ?_
        refine WA.done (by kernel_rfl) ?_
        refine DN.then_normal ?_
        refine WC.ret ?_
        refine DN.fit (C := row p (.int .i64 W.n :: .slice xo W.ls.length xc :: (ic W.cut ++ uc W.clk)) 72 :: (Cl ++ D)) (by repeat (first | exact Sp.here | exact Sp.sn | exact Sp.s0 | exact Fr.here | apply Sp.s2 | apply Sp.sx | apply Fr.fc | apply Fr.al | apply Fr.fa | apply Sp.sc | apply Sp.al | apply Sp.sa)) ?_
        refine DN.ret1 Try.results31 rfl ?_
        exact ⟨by first | rfl | (congr 1; symm; rw [openB, cutAt, hg12, rep0]; rfl), rfl⟩
      · refine WO.h rfl (Wt.yes (dj := 12) rfl rfl) rfl (Hd.load1 (by kernel_rfl) rfl (by repeat (first | exact List.mem_cons_self | apply List.mem_cons_of_mem | apply List.mem_append_right)) (by rfl) ⟨_, rfl, ?_⟩)
        refine WA.one (i := 9) (by kernel_rfl) ?_
        refine WO.h rfl (Wt.yes (dj := 12) rfl rfl) rfl (Hd.load1 (by kernel_rfl) rfl (by repeat (first | exact List.mem_cons_self | apply List.mem_cons_of_mem | apply List.mem_append_right)) (by rfl) ⟨_, rfl, ?_⟩)
        refine WA.gy (i := 14) (dj := 12) (NoPanic.then (NoPanic.body)) rfl (by kernel_rfl) (by kernel_rfl) (by kernel_rfl) rfl rfl rfl (Yd.indexArr (n := 6) (e := 68) (s := 6) (by kernel_rfl) (by kernel_rfl) rfl rfl (by omega) (by omega)) ?_
        refine WA.gy (i := 15) (dj := 12) (NoPanic.then (NoPanic.body)) rfl (by kernel_rfl) (by kernel_rfl) (by kernel_rfl) rfl rfl rfl (Yd.indexArr (n := 6) (e := 3) (s := 1) (by kernel_rfl) (by kernel_rfl) rfl rfl (by omega) (by omega)) ?_
        refine WA.one (i := 16) (by kernel_rfl) ?_
        refine WO.h rfl (Wt.yes (dj := 12) rfl rfl) rfl (Hd.load1 (v := .int .i64 (cutAt W L.f L.t)) (by kernel_rfl) rfl (by repeat (first | exact List.mem_cons_self | apply List.mem_cons_of_mem | apply List.mem_append_right)) (by rw [show 0 + 2 + L.f.toNat * 6 + L.t.toNat * 1 = 2 + (L.f.toNat * 6 + L.t.toNat) by omega]; exact cells_cutAt _ _ _ _ _ (by omega)) ⟨_, rfl, ?_⟩)
        refine WA.gy (i := 17) (dj := 12) (NoPanic.then (NoPanic.body)) rfl (by kernel_rfl) (by kernel_rfl) (by kernel_rfl) rfl rfl rfl (Yd.eql rfl rfl) ?_
        refine WA.y (i := 18) (NoPanic.then (NoPanic.body)) rfl (by kernel_rfl) (by kernel_rfl) (by kernel_rfl) rfl (Yd.pickF rfl rfl) ?_
        refine WA.y (i := 19) (NoPanic.then (NoPanic.body)) rfl (by kernel_rfl) (by kernel_rfl) (by kernel_rfl) rfl (Yd.assign rfl) ?_
        refine WA.done (by kernel_rfl) ?_
        refine DN.then_normal ?_
        refine WC.ret ?_
        refine DN.fit (C := row p (.int .i64 W.n :: .slice xo W.ls.length xc :: (ic W.cut ++ uc W.clk)) 72 :: (Cl ++ D)) (by repeat (first | exact Sp.here | exact Sp.sn | exact Sp.s0 | exact Fr.here | apply Sp.s2 | apply Sp.sx | apply Fr.fc | apply Fr.al | apply Fr.fa | apply Sp.sc | apply Sp.al | apply Sp.sa)) ?_
        refine DN.ret1 Try.results31 rfl ?_
        exact ⟨by first | rfl | (congr 1; symm; rw [openB, cutAt, hg12, rep0]; rfl), rfl⟩
  · refine WO.h rfl Wt.none rfl (Hd.loadAll (n := 36) (by kernel_rfl) rfl (by repeat (first | exact List.mem_cons_self | apply List.mem_cons_of_mem | apply List.mem_append_right)) (by rfl) ⟨_, rfl, ?_⟩)
    refine WA.one (i := 3) (by kernel_rfl) ?_
    refine WO.h rfl Wt.none rfl (Hd.loadA (n := 36) (vs := ic W.cut) (by kernel_rfl) rfl (by repeat (first | exact List.mem_cons_self | apply List.mem_cons_of_mem | apply List.mem_append_right)) (by rw [ic_length]; exact hc) (by exact cells_cut _ _ _ _ hc) ⟨_, rfl, ?_⟩)
    refine WA.y (i := 5) (NoPanic.then (NoPanic.body)) rfl (by kernel_rfl) (by kernel_rfl) (by kernel_rfl) rfl (Yd.eqlArr2 (n := 6) (m := 6) (T1 := 68) (e := 3) (kd := .i64) (ys := List.replicate 36 0) Try.underlying69 Try.underlying68 (by kernel_rfl) (by kernel_rfl) Try.underlying3 (by kernel_rfl) rfl rfl (by rw [hc]) (by rfl)) ?_
    refine WA.y (i := 6) (NoPanic.then (NoPanic.body)) rfl (by kernel_rfl) (by kernel_rfl) (by kernel_rfl) rfl (Yd.move rfl) ?_
    refine WA.partP (t := 12) rfl (fun hg12 => ?_) (fun hg12 => ?_)
    · refine WA.gn (i := 7) (dj := 12) (NoPanic.then (NoPanic.body)) rfl (by kernel_rfl) (by kernel_rfl) (by kernel_rfl) rfl rfl rfl rfl ?_
      refine WA.gn (i := 8) (dj := 12) (NoPanic.then (NoPanic.body)) rfl (by kernel_rfl) (by kernel_rfl) (by kernel_rfl) rfl rfl rfl rfl ?_
      refine WA.gn (i := 9) (dj := 12) (NoPanic.then (NoPanic.body)) rfl (by kernel_rfl) (by kernel_rfl) (by kernel_rfl) rfl rfl rfl rfl ?_
      refine WA.gn (i := 10) (dj := 12) (NoPanic.then (NoPanic.body)) rfl (by kernel_rfl) (by kernel_rfl) (by kernel_rfl) rfl rfl rfl rfl ?_
      refine WA.gn (i := 11) (dj := 12) (NoPanic.then (NoPanic.body)) rfl (by kernel_rfl) (by kernel_rfl) (by kernel_rfl) rfl rfl rfl rfl ?_
      refine WA.gn (i := 12) (dj := 12) (NoPanic.then (NoPanic.body)) rfl (by kernel_rfl) (by kernel_rfl) (by kernel_rfl) rfl rfl rfl rfl ?_
      refine WA.gn (i := 13) (dj := 12) (NoPanic.then (NoPanic.body)) rfl (by kernel_rfl) (by kernel_rfl) (by kernel_rfl) rfl rfl rfl rfl ?_
      refine WA.gn (i := 14) (dj := 12) (NoPanic.then (NoPanic.body)) rfl (by kernel_rfl) (by kernel_rfl) (by kernel_rfl) rfl rfl rfl rfl ?_
      refine WA.gn (i := 15) (dj := 12) (NoPanic.then (NoPanic.body)) rfl (by kernel_rfl) (by kernel_rfl) (by kernel_rfl) rfl rfl rfl rfl ?_
      refine WA.gn (i := 16) (dj := 12) (NoPanic.then (NoPanic.body)) rfl (by kernel_rfl) (by kernel_rfl) (by kernel_rfl) rfl rfl rfl rfl ?_
      refine WA.gn (i := 17) (dj := 12) (NoPanic.then (NoPanic.body)) rfl (by kernel_rfl) (by kernel_rfl) (by kernel_rfl) rfl rfl rfl rfl ?_
      refine WA.y (i := 18) (NoPanic.then (NoPanic.body)) rfl (by kernel_rfl) (by kernel_rfl) (by kernel_rfl) rfl (Yd.pickT rfl rfl) ?_
      refine WA.y (i := 19) (NoPanic.then (NoPanic.body)) rfl (by kernel_rfl) (by kernel_rfl) (by kernel_rfl) rfl (Yd.assign rfl) ?_
      refine WA.done (by kernel_rfl) ?_
      refine DN.then_normal ?_
      refine WC.ret ?_
      refine DN.fit (C := row p (.int .i64 W.n :: .slice xo W.ls.length xc :: (ic W.cut ++ uc W.clk)) 72 :: (Cl ++ D)) (by repeat (first | exact Sp.here | exact Sp.sn | exact Sp.s0 | exact Fr.here | apply Sp.s2 | apply Sp.sx | apply Fr.fc | apply Fr.al | apply Fr.fa | apply Sp.sc | apply Sp.al | apply Sp.sa)) ?_
      refine DN.ret1 Try.results31 rfl ?_
      exact ⟨by first | rfl | (congr 1; symm; rw [openB, cutAt, hg12, rep0]; rfl), rfl⟩
    · refine WA.gy (i := 7) (dj := 12) (NoPanic.then (NoPanic.body)) rfl (by kernel_rfl) (by kernel_rfl) (by kernel_rfl) rfl rfl rfl (Yd.move rfl) ?_
      refine WA.gy (i := 8) (dj := 12) (NoPanic.then (NoPanic.body)) rfl (by kernel_rfl) (by kernel_rfl) (by kernel_rfl) rfl rfl rfl (Yd.fieldAddr (k := 0) (by kernel_rfl) rfl) ?_
      refine WA.gy (i := 10) (dj := 12) (NoPanic.then (NoPanic.body)) rfl (by kernel_rfl) (by kernel_rfl) (by kernel_rfl) rfl rfl rfl (Yd.fieldAddr (k := 1) (by kernel_rfl) rfl) ?_
      refine WA.gy (i := 12) (dj := 12) (NoPanic.then (NoPanic.body)) rfl (by kernel_rfl) (by kernel_rfl) (by kernel_rfl) rfl rfl rfl (Yd.notNil rfl) ?_
      refine WA.gy (i := 13) (dj := 12) (NoPanic.then (NoPanic.body)) rfl (by kernel_rfl) (by kernel_rfl) (by kernel_rfl) rfl rfl rfl (Yd.fieldAddr (k := 2) (by kernel_rfl) rfl) ?_
      refine WA.two (i := 9) (j := 11) (by kernel_rfl) ?_ ?_
      · refine WO.h rfl (Wt.yes (dj := 12) rfl rfl) rfl (Hd.load1 (by kernel_rfl) rfl (by repeat (first | exact List.mem_cons_self | apply List.mem_cons_of_mem | apply List.mem_append_right)) (by rfl) ⟨_, rfl, ?_⟩)
        refine WA.gy (i := 14) (dj := 12) (NoPanic.then (NoPanic.body)) rfl (by kernel_rfl) (by kernel_rfl) (by kernel_rfl) rfl rfl rfl (Yd.indexArr (n := 6) (e := 68) (s := 6) (by kernel_rfl) (by kernel_rfl) rfl rfl (by omega) (by omega)) ?_
        refine WA.one (i := 11) (by kernel_rfl) ?_
        refine WO.h rfl (Wt.yes (dj := 12) rfl rfl) rfl (Hd.load1 (by kernel_rfl) rfl (by repeat (first | exact List.mem_cons_self | apply List.mem_cons_of_mem | apply List.mem_append_right)) (by rfl) ⟨_, rfl, ?_⟩)
        refine WA.gy (i := 15) (dj := 12) (NoPanic.then (NoPanic.body)) rfl (by kernel_rfl) (by kernel_rfl) (by kernel_rfl) rfl rfl rfl (Yd.indexArr (n := 6) (e := 3) (s := 1) (by kernel_rfl) (by kernel_rfl) rfl rfl (by omega) (by omega)) ?_
        refine WA.one (i := 16) (by kernel_rfl) ?_
        refine WO.h rfl (Wt.yes (dj := 12) rfl rfl) rfl (Hd.load1 (v := .int .i64 (cutAt W L.f L.t)) (by kernel_rfl) rfl (by repeat (first | exact List.mem_cons_self | apply List.mem_cons_of_mem | apply List.mem_append_right)) (by rw [show 0 + 2 + L.f.toNat * 6 + L.t.toNat * 1 = 2 + (L.f.toNat * 6 + L.t.toNat) by omega]; exact cells_cutAt _ _ _ _ _ (by omega)) ⟨_, rfl, ?_⟩)
        refine WA.gy (i := 17) (dj := 12) (NoPanic.then (NoPanic.body)) rfl (by kernel_rfl) (by kernel_rfl) (by kernel_rfl) rfl rfl rfl (Yd.eql rfl rfl) ?_
        refine WA.y (i := 18) (NoPanic.then (NoPanic.body)) rfl (by kernel_rfl) (by kernel_rfl) (by kernel_rfl) rfl (Yd.pickF rfl rfl) ?_
        refine WA.y (i := 19) (NoPanic.then (NoPanic.body)) rfl (by kernel_rfl) (by kernel_rfl) (by kernel_rfl) rfl (Yd.assign rfl) ?_
        refine WA.done (by kernel_rfl) ?_
        refine DN.then_normal ?_
        refine WC.ret ?_
        refine DN.fit (C := row p (.int .i64 W.n :: .slice xo W.ls.length xc :: (ic W.cut ++ uc W.clk)) 72 :: (Cl ++ D)) (by repeat (first | exact Sp.here | exact Sp.sn | exact Sp.s0 | exact Fr.here | apply Sp.s2 | apply Sp.sx | apply Fr.fc | apply Fr.al | apply Fr.fa | apply Sp.sc | apply Sp.al | apply Sp.sa)) ?_
        refine DN.ret1 Try.results31 rfl ?_
        exact ⟨by first | rfl | (congr 1; symm; rw [openB, cutAt, hg12, rep0]; rfl), rfl⟩
      · refine WO.h rfl (Wt.yes (dj := 12) rfl rfl) rfl (Hd.load1 (by kernel_rfl) rfl (by repeat (first | exact List.mem_cons_self | apply List.mem_cons_of_mem | apply List.mem_append_right)) (by rfl) ⟨_, rfl, ?_⟩)
        refine WA.one (i := 9) (by kernel_rfl) ?_
        refine WO.h rfl (Wt.yes (dj := 12) rfl rfl) rfl (Hd.load1 (by kernel_rfl) rfl (by repeat (first | exact List.mem_cons_self | apply List.mem_cons_of_mem | apply List.mem_append_right)) (by rfl) ⟨_, rfl, ?_⟩)
        refine WA.gy (i := 14) (dj := 12) (NoPanic.then (NoPanic.body)) rfl (by kernel_rfl) (by kernel_rfl) (by kernel_rfl) rfl rfl rfl (Yd.indexArr (n := 6) (e := 68) (s := 6) (by kernel_rfl) (by kernel_rfl) rfl rfl (by omega) (by omega)) ?_
        refine WA.gy (i := 15) (dj := 12) (NoPanic.then (NoPanic.body)) rfl (by kernel_rfl) (by kernel_rfl) (by kernel_rfl) rfl rfl rfl (Yd.indexArr (n := 6) (e := 3) (s := 1) (by kernel_rfl) (by kernel_rfl) rfl rfl (by omega) (by omega)) ?_
        refine WA.one (i := 16) (by kernel_rfl) ?_
        refine WO.h rfl (Wt.yes (dj := 12) rfl rfl) rfl (Hd.load1 (v := .int .i64 (cutAt W L.f L.t)) (by kernel_rfl) rfl (by repeat (first | exact List.mem_cons_self | apply List.mem_cons_of_mem | apply List.mem_append_right)) (by rw [show 0 + 2 + L.f.toNat * 6 + L.t.toNat * 1 = 2 + (L.f.toNat * 6 + L.t.toNat) by omega]; exact cells_cutAt _ _ _ _ _ (by omega)) ⟨_, rfl, ?_⟩)
        refine WA.gy (i := 17) (dj := 12) (NoPanic.then (NoPanic.body)) rfl (by kernel_rfl) (by kernel_rfl) (by kernel_rfl) rfl rfl rfl (Yd.eql rfl rfl) ?_
        refine WA.y (i := 18) (NoPanic.then (NoPanic.body)) rfl (by kernel_rfl) (by kernel_rfl) (by kernel_rfl) rfl (Yd.pickF rfl rfl) ?_
        refine WA.y (i := 19) (NoPanic.then (NoPanic.body)) rfl (by kernel_rfl) (by kernel_rfl) (by kernel_rfl) rfl (Yd.assign rfl) ?_
        refine WA.done (by kernel_rfl) ?_
        refine DN.then_normal ?_
        refine WC.ret ?_
        refine DN.fit (C := row p (.int .i64 W.n :: .slice xo W.ls.length xc :: (ic W.cut ++ uc W.clk)) 72 :: (Cl ++ D)) (by repeat (first | exact Sp.here | exact Sp.sn | exact Sp.s0 | exact Fr.here | apply Sp.s2 | apply Sp.sx | apply Fr.fc | apply Fr.al | apply Fr.fa | apply Sp.sc | apply Sp.al | apply Sp.sa)) ?_
        refine DN.ret1 Try.results31 rfl ?_
        exact ⟨by first | rfl | (congr 1; symm; rw [openB, cutAt, hg12, rep0]; rfl), rfl⟩

end Go.Proofs.Ytgpegfmonmdhoaa
