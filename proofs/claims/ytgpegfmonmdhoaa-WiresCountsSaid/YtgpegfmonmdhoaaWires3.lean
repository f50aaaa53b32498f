/-
  The walks of the net's functions, continued.
-/
import Derived.Test.YtgpegfmonmdhoaaWires2
set_option linter.unusedVariables false
set_option linter.unusedSimpArgs false
set_option maxHeartbeats 4000000
namespace Go.Proofs.Ytgpegfmonmdhoaa
open Go.SL


/-- slices.Delete[[]drayage/api.Letter,drayage/api.Letter] -/
theorem delete_tells (v : Value) (n i : Nat) (cs : List Value) (C : List Ck) (h : Own v n cs 34 13 C) (h1 : ∀ u ∈ cs, u.oneCell' = true) (hi : i < n) (hn : n ≤ 1000) (i2 : Int) (hi2 : i2 = (i : Int) + 1) : Tells Try.prog 48 [v, .int .i64 i, .int .i64 i2] C fun r C' => Own r (n - 1) (cs.take (i * 13) ++ cs.drop ((i + 1) * 13)) 34 13 C' := by
  refine Tells.enter Try.func48 rfl Try.ntmps48 rfl ?_
  intro w0 R
  rcases h with ⟨_, h0, _⟩ | ⟨b, cap, extra, rfl, hc1, hc2, hcl, hel, rfl⟩
  · omega
  subst hi2
  have hsrc := Rs.sub (i := i + 1) (j := n) (s := 13) (show Rs (.slice (some ⟨b, 0, none⟩) n cap) n cs [row b (cs ++ extra) 34] from .inr ⟨b, 0, cap, cs ++ extra, _, (0, 0), true, rfl, hc1, List.mem_cons_self, by simp⟩) hcl (by omega) (Nat.le_refl _)
  rw [List.take_of_length_le (by rw [List.length_drop, hcl, ← Nat.sub_mul]; exact Nat.le_refl _)] at hsrc
  refine WC.seq ?_
  refine WC.region ?_
  refine WL.y rfl (Yd.assign rfl) ?_
  refine WL.nil ?_
  refine DN.then_normal ?_
  refine WC.seq ?_
  refine WC.region ?_
  refine WL.y rfl (Yd.move rfl) ?_
  refine WL.y rfl (Yd.move rfl) ?_
  refine WL.y rfl (Yd.move rfl) ?_
  refine WL.y rfl (Yd.move rfl) ?_
  refine WL.y rfl (Yd.len (e := 34) (by kernel_rfl) rfl) ?_
  refine WL.y rfl (Yd.slice3 (e := 34) (s := 13) (i := i) (j := i + 1) (q := n) (by kernel_rfl) (by kernel_rfl) rfl rfl rfl rfl rfl (by omega) rfl (by omega) (by omega) (by omega)) ?_
  refine WL.nil ?_
  refine DN.then_normal ?_
  refine WC.seq ?_
  refine WC.seq ?_
  refine WC.region ?_
  refine WL.y rfl (Yd.move rfl) ?_
  refine WL.y rfl (Yd.move rfl) ?_
  refine WL.y rfl (Yd.eql rfl rfl) ?_
  refine WL.nil ?_
  refine DN.then_normal ?_
  refine WC.ite rfl (fun h16 => absurd h16 (by omega)) (fun h16 => ?_)
  refine WC.skip ?_
  refine DN.then_normal ?_
  refine WC.seq ?_
  refine WC.region ?_
  refine WL.y rfl (Yd.move rfl) ?_
  refine WL.y rfl (Yd.len (e := 34) (by kernel_rfl) rfl) ?_
  refine WL.y rfl (Yd.assign rfl) ?_
  refine WL.nil ?_
  refine DN.then_normal ?_
  refine WC.seq ?_
  refine WC.draw 8 (by kernel_rfl) rfl ?_
  refine WA.y (i := 0) (NoPanic.then (NoPanic.body)) rfl (by kernel_rfl) (by kernel_rfl) (by kernel_rfl) rfl (Yd.move rfl) ?_
  refine WA.y (i := 1) (NoPanic.then (NoPanic.body)) rfl (by kernel_rfl) (by kernel_rfl) (by kernel_rfl) rfl (Yd.move rfl) ?_
  refine WA.y (i := 2) (NoPanic.then (NoPanic.body)) rfl (by kernel_rfl) (by kernel_rfl) (by kernel_rfl) rfl (Yd.sliceTo (e := 34) (s := 13) (j := i) (by kernel_rfl) (by kernel_rfl) rfl rfl rfl (by omega)) ?_
  refine WA.y (i := 3) (NoPanic.then (NoPanic.body)) rfl (by kernel_rfl) (by kernel_rfl) (by kernel_rfl) rfl (Yd.move rfl) ?_
  refine WA.y (i := 4) (NoPanic.then (NoPanic.body)) rfl (by kernel_rfl) (by kernel_rfl) (by kernel_rfl) rfl (Yd.move rfl) ?_
  refine WA.y (i := 5) (NoPanic.then (NoPanic.body)) rfl (by kernel_rfl) (by kernel_rfl) (by kernel_rfl) rfl (Yd.slice (e := 34) (s := 13) (i := i + 1) (j := n) (by kernel_rfl) (by kernel_rfl) rfl ⟨_, _, rfl, by omega⟩ rfl (by omega) (by omega)) ?_
  refine WA.one (i := 6) (by kernel_rfl) ?_
  refine WO.h rfl Wt.none rfl (Hd.appendIn (e := 34) (sz := 13) (bytes := 128) (zs := [.int .i64 0, .int .i64 0, .int .i64 0, .int .u32 0, .int .u32 0, .int .u64 0, .int .u64 0, .int .u32 0, .int .i64 0, .bool false, .int .i64 0, .slice none 0 0, .slice none 0 0]) (m := n - (i + 1)) (news := cs.drop ((i + 1) * 13)) (by kernel_rfl) (by kernel_rfl) rfl rfl (by repeat (first | exact Fr.here | apply Fr.fc | apply Fr.al | apply Fr.fa)) (hsrc.mono (by repeat (first | exact Gr.refl | exact Gr.left Gr.refl | exact Gr.nil | exact Gr.app (Gr.left Gr.refl) | refine Gr.cons ?_ | refine Gr.app ?_ | refine Gr.both ?_ ?_ | refine Gr.put (by repeat (first | exact List.mem_cons_self | apply List.mem_cons_of_mem | apply List.mem_append_right)) ?_))) (by rw [List.length_drop, hcl, ← Nat.sub_mul]) (fun u hu => h1 u (List.mem_of_mem_drop hu)) (by omega) (by simp only [List.length_append, hcl]; omega) ⟨_, rfl, ?_⟩)
  refine WA.y (i := 7) (NoPanic.then (NoPanic.body)) rfl (by kernel_rfl) (by kernel_rfl) (by kernel_rfl) rfl (Yd.assign rfl) ?_
  refine WA.done (by kernel_rfl) ?_
  refine DN.then_normal ?_
  refine WC.seq ?_
  rw [show i + (n - (i + 1)) = n - 1 by omega]
  refine WC.region ?_
  refine WL.y rfl (Yd.move rfl) ?_
  refine WL.y rfl (Yd.move rfl) ?_
  refine WL.y rfl (Yd.len (e := 34) (by kernel_rfl) rfl) ?_
  refine WL.y rfl (Yd.move rfl) ?_
  refine WL.y rfl (Yd.slice (e := 34) (s := 13) (i := n - 1) (j := n) (by kernel_rfl) (by kernel_rfl) rfl ⟨_, _, rfl, by omega⟩ ⟨_, _, rfl, rfl⟩ (by omega) (by omega)) ?_
  refine WL.renamed (t := 31) (v := .slice (some ⟨b, (n - 1) * 13, none⟩) 1 (cap - (n - 1))) rfl (by rw [if_neg (by omega), show n - (n - 1) = 1 by omega]; simp [add_plain]) ?_
  refine WL.h0 (Hd.clearN (e := 34) (sz := 13) (bytes := 128) (zs := [.int .i64 0, .int .i64 0, .int .i64 0, .int .u32 0, .int .u32 0, .int .u64 0, .int .u64 0, .int .u32 0, .int .i64 0, .bool false, .int .i64 0, .slice none 0 0, .slice none 0 0]) (by kernel_rfl) (by kernel_rfl) rfl (by repeat (first | exact fun _ h => absurd h List.not_mem_nil | refine List.forall_mem_cons.2 ⟨by first | rfl | assumption, ?_⟩)) rfl (by omega) (by repeat (first | exact Fr.here | apply Fr.fc | apply Fr.al | apply Fr.fa)) (by simp only [List.length_append, List.length_take, List.length_drop, hcl]; omega) fun tl htl => ⟨_, rfl, ?_⟩)
  refine WL.nil ?_
  refine DN.then_normal ?_
  refine WC.seq ?_
  refine WC.region ?_
  refine WL.y rfl (Yd.move rfl) ?_
  refine WL.y rfl (Yd.assign rfl) ?_
  refine WL.nil ?_
  refine DN.then_normal ?_
  refine WC.ret ?_
  have hA : (cs ++ extra).take (i * 13) = cs.take (i * 13) := by rw [List.take_append_of_le_length (by rw [hcl]; omega)]
  rw [hA]
  refine DN.ret1 Try.results48 rfl ?_
  refine .inr ⟨b, cap, tl ++ (cs ++ extra).drop (n * 13), rfl, by omega, hc2, ?_, ?_, ?_⟩
  · simp only [List.length_append, List.length_take, List.length_drop, hcl]; omega
  · simp only [List.length_append, List.length_drop, hcl, hel, htl]
    omega
  · congr 2
    have e1 : (cs.take (i * 13) ++ (cs.drop ((i + 1) * 13) ++ (cs ++ extra).drop ((i + (n - (i + 1))) * 13))).take ((n - 1) * 13) = cs.take (i * 13) ++ cs.drop ((i + 1) * 13) := by
      rw [← List.append_assoc, List.take_append_of_le_length (by simp only [List.length_append, List.length_take, List.length_drop, hcl]; omega)]
      rw [List.take_of_length_le (by simp only [List.length_append, List.length_take, List.length_drop, hcl]; omega)]
    have e2 : (cs.take (i * 13) ++ (cs.drop ((i + 1) * 13) ++ (cs ++ extra).drop ((i + (n - (i + 1))) * 13))).drop ((n - 1) * 13 + 1 * 13) = (cs ++ extra).drop (n * 13) := by
      rw [← List.append_assoc, List.drop_append, List.drop_eq_nil_of_le (by simp only [List.length_append, List.length_take, List.length_drop, hcl]; omega), List.nil_append, List.drop_drop]
      congr 1
      simp only [List.length_append, List.length_take, List.length_drop, hcl]
      omega
    rw [show i + (n - (i + 1)) = n - 1 by omega] at e1 e2
    rw [e1, e2]

/-- (*drayage/wires.Wires).take -/
theorem take_tells (p : Nat) (W : Wn) (C : List Ck) (h : WAt 72 34 5 p W C) (hf : W.ls.length ≤ 200) (k : Nat) (hk : k < W.ls.length) : Tells Try.prog 34 [.pointer (some ⟨p, 0, none⟩), .int .i64 k] C fun r C' => ∃ vk vd A B C2, r = .agg (ltc (W.ls.getD k zeroL) vk vd).toArray ∧ Ob 5 vk (W.ls.getD k zeroL).n.key A ∧ Ob 5 vd (W.ls.getD k zeroL).n.data B ∧ WAt 72 34 5 p  { W with ls := W.ls.eraseIdx k } C2 ∧ C' = C2 ++ (A ++ B) := by
  refine Tells.enter Try.func34 rfl Try.ntmps34 rfl ?_
  intro w0 R
  obtain ⟨vl, Cl, cs, D, rfl, ho, hL⟩ := h
  obtain ⟨xo, xc, rfl, hxc⟩ := ho.form
  obtain ⟨vk, vd, A, B, D1, D2, rfl, hcell, hA, hB, hL2⟩ := hL.at k hk
  have hone := hL.one
  have eg : W.ls[k] = W.ls.getD k zeroL := by simp [List.getD, hk]
  rw [eg] at hcell hA hB
  have hk1 := hA.one_cell
  have hk2 := hB.one_cell
  refine WC.seq ?_
  refine WC.region ?_
  refine WL.h rfl (Hd.alloc (zs := [.int .i64 0, .int .i64 0, .int .i64 0, .int .u32 0, .int .u32 0, .int .u64 0, .int .u64 0, .int .u32 0, .int .i64 0, .bool false, .int .i64 0, .slice none 0 0, .slice none 0 0]) (by kernel_rfl) fun b4 => ⟨_, rfl, ?_⟩)
  refine WL.nil ?_
  refine DN.then_normal ?_
  refine WC.seq ?_
  refine WC.region ?_
  refine WL.y rfl (Yd.move rfl) ?_
  refine WL.y rfl (Yd.notNil rfl) ?_
  refine WL.y rfl (Yd.fieldAddr (k := 1) (by kernel_rfl) rfl) ?_
  refine WL.h rfl (Hd.load1 (by kernel_rfl) rfl (by repeat (first | exact List.mem_cons_self | apply List.mem_cons_of_mem | apply List.mem_append_right)) (by rfl) ⟨_, rfl, ?_⟩)
  refine WL.y rfl (Yd.move rfl) ?_
  refine WL.elemA (e := 34) (s := 13) (by kernel_rfl) (by kernel_rfl) (by kernel_rfl) rfl rfl (rfl) (ho.rs.mono (by repeat (first | exact Gr.refl | exact Gr.left Gr.refl | exact Gr.nil | exact Gr.app (Gr.left Gr.refl) | refine Gr.cons ?_ | refine Gr.app ?_ | refine Gr.both ?_ ?_ | refine Gr.put (by repeat (first | exact List.mem_cons_self | apply List.mem_cons_of_mem | apply List.mem_append_right)) ?_))) (hcell) (by rfl) (by omega) (hk) rfl rfl ?_
  intro p11
  refine WL.h rfl (Hd.alloc (zs := [.int .i64 0, .int .i64 0, .int .i64 0, .int .u32 0, .int .u32 0, .int .u64 0, .int .u64 0, .int .u32 0, .int .i64 0, .bool false, .int .i64 0, .slice none 0 0, .slice none 0 0]) (by kernel_rfl) fun b5 => ⟨_, rfl, ?_⟩)
  refine WL.s (Hd.storeAll (n := 13) (by kernel_rfl) rfl rfl (by rfl) (by repeat (first | exact fun _ h => absurd h List.not_mem_nil | refine List.forall_mem_cons.2 ⟨by first | rfl | assumption, ?_⟩)) (by repeat (first | exact Fr.here | apply Fr.fc | apply Fr.al | apply Fr.fa)) (by rfl) ⟨rfl, ?_⟩)
  refine WL.nil ?_
  refine DN.then_normal ?_
  refine WC.seq ?_
  refine WC.region ?_
  refine WL.y rfl (Yd.move rfl) ?_
  refine WL.y rfl (Yd.move rfl) ?_
  refine WL.y rfl (Yd.notNil rfl) ?_
  refine WL.y rfl (Yd.fieldAddr (k := 1) (by kernel_rfl) rfl) ?_
  refine WL.h rfl (Hd.load1 (by kernel_rfl) rfl (by repeat (first | exact List.mem_cons_self | apply List.mem_cons_of_mem | apply List.mem_append_right)) (by rfl) ⟨_, rfl, ?_⟩)
  refine WL.y rfl (Yd.move rfl) ?_
  refine WL.y rfl (Yd.move rfl) ?_
  refine WL.y rfl (Yd.add rfl rfl (by omega) (by omega)) ?_
  refine WL.c rfl (Ent.func Try.call48 rfl) (delete_tells _ W.ls.length k cs Cl ho hone hk (by omega) _ rfl) (Sp.p (by repeat (first | exact Sp.here | exact Sp.sn | exact Sp.s0 | exact Fr.here | apply Sp.s2 | apply Sp.sx | apply Fr.fc | apply Fr.al | apply Fr.fa | apply Sp.sc | apply Sp.al | apply Sp.sa))) ?_
  rintro q C2 hq
  obtain ⟨zo, zc, rfl, _⟩ := hq.form
  refine WL.y rfl (Yd.notNil rfl) ?_
  refine WL.y rfl (Yd.fieldAddr (k := 1) (by kernel_rfl) rfl) ?_
  refine WL.s (Hd.store1s (by kernel_rfl) rfl rfl (by rfl) (by repeat (first | exact Fr.here | apply Fr.fc | apply Fr.al | apply Fr.fa)) (by rfl) (by first | (simp only [List.set_cons_zero, List.set_cons_succ, Nat.zero_add, Nat.add_zero, Nat.reduceAdd]; rfl) | rfl) ⟨rfl, ?_⟩)
  refine WL.nil ?_
  refine DN.then_normal ?_
  refine WC.seq ?_
  refine WC.region ?_
  refine WL.h rfl (Hd.loadAll (n := 13) (by kernel_rfl) rfl (by repeat (first | exact List.mem_cons_self | apply List.mem_cons_of_mem | apply List.mem_append_right)) (by rfl) ⟨_, rfl, ?_⟩)
  refine WL.s (Hd.storeAll (n := 13) (by kernel_rfl) rfl rfl (by rfl) (by repeat (first | exact fun _ h => absurd h List.not_mem_nil | refine List.forall_mem_cons.2 ⟨by first | rfl | assumption, ?_⟩)) (by repeat (first | exact Fr.here | apply Fr.fc | apply Fr.al | apply Fr.fa)) (by rfl) ⟨rfl, ?_⟩)
  refine WL.nil ?_
  refine DN.then_normal ?_
  refine WC.ret ?_
  refine DN.retCS (s := 13) ((row p (.int .i64 W.n :: .slice zo (W.ls.length - 1) zc :: (ic W.cut ++ uc W.clk)) 72 :: (C2 ++ (D1 ++ D2))) ++ (A ++ B)) Try.results34 (by kernel_rfl) rfl (by repeat (first | exact List.mem_cons_self | apply List.mem_cons_of_mem | apply List.mem_append_right)) (by rfl) (by repeat (first | exact Sp.here | exact Sp.sn | exact Sp.s0 | exact Fr.here | apply Sp.s2 | apply Sp.sx | apply Fr.fc | apply Fr.al | apply Fr.fa | apply Sp.sc | apply Sp.al | apply Sp.sa)) ?_
  exact ⟨vk, vd, A, B, _, rfl, hA, hB, ⟨_, C2, _, D1 ++ D2, rfl, by rw [List.length_eraseIdx_of_lt hk]; exact hq, hL2⟩, rfl⟩

/-- (*drayage/wires.Wires).Send -/
theorem send_tells (p : Nat) (W : Wn) (C H : List Ck) (h : WAt 72 34 5 p W C) (inv : WInv W) (L : Lt) (vk vd : Value) (hk : Bs vk L.n.key H) (hd : Bs vd L.n.data H) (bk : L.n.key.length ≤ 140737488355328) (bd : L.n.data.length ≤ 140737488355328) : Tells Try.prog 10 [.pointer (some ⟨p, 0, none⟩), .agg (ltc L vk vd).toArray] (C ++ H) fun r H' => ∃ C2, r = .int .i64 (sendE W L) ∧ WAt 72 34 5 p  (sendW W L) C2 ∧ H' = C2 ++ H := by
  refine Tells.enter Try.func10 rfl Try.ntmps10 rfl ?_
  intro w0 R
  obtain ⟨ko, kc, rfl, _⟩ := hk.form
  obtain ⟨eo, ec, rfl, _⟩ := hd.form
  have hfew := inv.few
  have hW := h
  obtain ⟨vl, Cl, cs, D, rfl, ho, hL⟩ := h
  obtain ⟨xo, xc, rfl, hxc⟩ := ho.form
  refine WC.seq ?_
  refine WC.region ?_
  refine WL.h rfl (Hd.boxA rfl fun b3 => ⟨_, rfl, ?_⟩)
  refine WL.y rfl (Yd.assign rfl) ?_
  refine WL.nil ?_
  refine DN.then_normal ?_
  refine WC.seq ?_
  refine WC.block ?_
  refine WC.seq ?_
  refine WC.region ?_
  refine WL.y rfl (Yd.move rfl) ?_
  refine WL.y rfl (Yd.eqlNil Try.underlying22 rfl rfl) ?_
  refine WL.renamed (t := 7) (v := .bool false) rfl (congrArg Value.bool (rfl)) ?_
  refine WL.y rfl (Yd.assign rfl) ?_
  refine WL.nil ?_
  refine DN.then_normal ?_
  refine WC.no rfl ?_
  refine WC.seq ?_
  refine WC.region ?_
  refine WL.y rfl (Yd.move rfl) ?_
  refine WL.y rfl (Yd.fieldAddr (k := 0) (by kernel_rfl) rfl) ?_
  refine WL.h rfl (Hd.load1 (by kernel_rfl) rfl (by repeat (first | exact List.mem_cons_self | apply List.mem_cons_of_mem | apply List.mem_append_right)) (by rfl) ⟨_, rfl, ?_⟩)
  refine WL.rf rfl (Ent.func Try.call29 rfl) (is_reads p W _ hW L.f) (by repeat (first | exact Sp.here | exact Sp.sn | exact Sp.s0 | exact Fr.here | apply Sp.s2 | apply Sp.sx | apply Fr.fc | apply Fr.al | apply Fr.fa | apply Sp.sc | apply Sp.al | apply Sp.sa)) ?_
  refine WL.y rfl (Yd.notB rfl) ?_
  refine WL.y rfl (Yd.move rfl) ?_
  refine WL.part (t := 14) rfl (fun hg14 => ?_) (fun hg14 => ?_)
  · refine WL.gn (dj := 14) rfl rfl rfl rfl ?_
    refine WL.gn (dj := 14) rfl rfl rfl rfl ?_
    refine WL.gn (dj := 14) rfl rfl rfl rfl ?_
    refine WL.gn (dj := 14) rfl rfl rfl rfl ?_
    refine WL.gn (dj := 14) rfl rfl rfl rfl ?_
    refine WL.y rfl (Yd.pickT rfl rfl) ?_
    refine WL.y rfl (Yd.move rfl) ?_
    refine WL.gn (dj := 21) rfl rfl rfl rfl ?_
    refine WL.gn (dj := 21) rfl rfl rfl rfl ?_
    refine WL.gn (dj := 21) rfl rfl rfl rfl ?_
    refine WL.gn (dj := 21) rfl rfl rfl rfl ?_
    refine WL.y rfl (Yd.pickT rfl rfl) ?_
    refine WL.y rfl (Yd.assign rfl) ?_
    refine WL.nil ?_
    refine DN.then_normal ?_
    refine WC.yes rfl ?_
    refine WC.seq ?_
    refine WC.region ?_
    refine WL.y rfl (Yd.assign rfl) ?_
    refine WL.nil ?_
    refine DN.then_normal ?_
    refine WC.ret ?_
    refine DN.block_ret ?_
    refine DN.then_ret ?_
    first | refine DN.fit (C := (row p (.int .i64 W.n :: .slice zo (W.ls.length + 1) zc :: (ic W.cut ++ uc W.clk)) 72 :: (C2 ++ (D ++ (A ++ B)))) ++ H) (by repeat (first | exact Sp.here | exact Sp.sn | exact Sp.s0 | exact Fr.here | apply Sp.s2 | apply Sp.sx | apply Fr.fc | apply Fr.al | apply Fr.fa | apply Sp.sc | apply Sp.al | apply Sp.sa)) ?_ | refine DN.fit (C := (row p (.int .i64 W.n :: .slice xo W.ls.length xc :: (ic W.cut ++ uc W.clk)) 72 :: (Cl ++ D)) ++ H) (by repeat (first | exact Sp.here | exact Sp.sn | exact Sp.s0 | exact Fr.here | apply Sp.s2 | apply Sp.sx | apply Fr.fc | apply Fr.al | apply Fr.fa | apply Sp.sc | apply Sp.al | apply Sp.sa)) ?_
    refine DN.ret1 Try.results10 rfl ?_
    try simp only [Bool.not_eq_true', Bool.not_eq_false'] at hg14
    try simp only [Bool.not_eq_true', Bool.not_eq_false'] at hg21
    try (have hnb : noteBad L.n = true := by
          cases h : noteBad L.n with
          | true => rfl
          | false => simp [h] at h8)
    try (have hnb : noteBad L.n = false := by
          cases h : noteBad L.n with
          | false => rfl
          | true => simp [h] at h8)
    first
      | (have e : sendE W L = 2 := by simp [sendE, *]
         have e2 : sendW W L = W := by simp [sendW, e]
         rw [e, e2]
         exact ⟨_, rfl, hW, rfl⟩)
      | (have e : sendE W L = 5 := by simp [sendE, *]
         have e2 : sendW W L = W := by simp [sendW, e]
         rw [e, e2]
         exact ⟨_, rfl, hW, rfl⟩)
      | (have e : sendE W L = 0 := by simp [sendE, *]
         have e2 : sendW W L = W := by simp [sendW, h36]
         rw [e, e2]
         exact ⟨_, rfl, hW, rfl⟩)
      | (have e : sendE W L = 0 := by simp [sendE, *]
         have e2 : sendW W L = { W with ls := W.ls ++ [L] } := by simp [sendW, e, h36]
         rw [e, e2]
         exact ⟨_, rfl, ⟨_, C2, _, D ++ (A ++ B), rfl, by rw [List.length_append]; exact h2, hL.append (Lts.one' hA hB)⟩, rfl⟩)
  · refine WL.gy (dj := 14) rfl rfl rfl (Yd.move rfl) ?_
    refine WL.gy (dj := 14) rfl rfl rfl (Yd.fieldAddr (k := 1) (by kernel_rfl) rfl) ?_
    refine WL.gh (dj := 14) rfl rfl rfl (Hd.load1 (by kernel_rfl) rfl (by repeat (first | exact List.mem_cons_self | apply List.mem_cons_of_mem | apply List.mem_append_right)) (by rfl) ⟨_, rfl, ?_⟩)
    refine WL.grf (dj := 14) rfl rfl rfl (Ent.func Try.call29 rfl) (is_reads p W _ hW L.t) (by repeat (first | exact Sp.here | exact Sp.sn | exact Sp.s0 | exact Fr.here | apply Sp.s2 | apply Sp.sx | apply Fr.fc | apply Fr.al | apply Fr.fa | apply Sp.sc | apply Sp.al | apply Sp.sa)) ?_
    refine WL.gy (dj := 14) rfl rfl rfl (Yd.notB rfl) ?_
    refine WL.y rfl (Yd.pickF rfl rfl) ?_
    refine WL.y rfl (Yd.move rfl) ?_
    refine WL.part (t := 21) rfl (fun hg21 => ?_) (fun hg21 => ?_)
    · refine WL.gn (dj := 21) rfl rfl rfl rfl ?_
      refine WL.gn (dj := 21) rfl rfl rfl rfl ?_
      refine WL.gn (dj := 21) rfl rfl rfl rfl ?_
      refine WL.gn (dj := 21) rfl rfl rfl rfl ?_
      refine WL.y rfl (Yd.pickT rfl rfl) ?_
      refine WL.y rfl (Yd.assign rfl) ?_
      refine WL.nil ?_
      refine DN.then_normal ?_
      refine WC.yes rfl ?_
      refine WC.seq ?_
      refine WC.region ?_
      refine WL.y rfl (Yd.assign rfl) ?_
      refine WL.nil ?_
      refine DN.then_normal ?_
      refine WC.ret ?_
      refine DN.block_ret ?_
      refine DN.then_ret ?_
      first | refine DN.fit (C := (row p (.int .i64 W.n :: .slice zo (W.ls.length + 1) zc :: (ic W.cut ++ uc W.clk)) 72 :: (C2 ++ (D ++ (A ++ B)))) ++ H) (by repeat (first | exact Sp.here | exact Sp.sn | exact Sp.s0 | exact Fr.here | apply Sp.s2 | apply Sp.sx | apply Fr.fc | apply Fr.al | apply Fr.fa | apply Sp.sc | apply Sp.al | apply Sp.sa)) ?_ | refine DN.fit (C := (row p (.int .i64 W.n :: .slice xo W.ls.length xc :: (ic W.cut ++ uc W.clk)) 72 :: (Cl ++ D)) ++ H) (by repeat (first | exact Sp.here | exact Sp.sn | exact Sp.s0 | exact Fr.here | apply Sp.s2 | apply Sp.sx | apply Fr.fc | apply Fr.al | apply Fr.fa | apply Sp.sc | apply Sp.al | apply Sp.sa)) ?_
      refine DN.ret1 Try.results10 rfl ?_
      try simp only [Bool.not_eq_true', Bool.not_eq_false'] at hg14
      try simp only [Bool.not_eq_true', Bool.not_eq_false'] at hg21
      try (have hnb : noteBad L.n = true := by
            cases h : noteBad L.n with
            | true => rfl
            | false => simp [h] at h8)
      try (have hnb : noteBad L.n = false := by
            cases h : noteBad L.n with
            | false => rfl
            | true => simp [h] at h8)
      first
        | (have e : sendE W L = 2 := by simp [sendE, *]
           have e2 : sendW W L = W := by simp [sendW, e]
           rw [e, e2]
           exact ⟨_, rfl, hW, rfl⟩)
        | (have e : sendE W L = 5 := by simp [sendE, *]
           have e2 : sendW W L = W := by simp [sendW, e]
           rw [e, e2]
           exact ⟨_, rfl, hW, rfl⟩)
        | (have e : sendE W L = 0 := by simp [sendE, *]
           have e2 : sendW W L = W := by simp [sendW, h36]
           rw [e, e2]
           exact ⟨_, rfl, hW, rfl⟩)
        | (have e : sendE W L = 0 := by simp [sendE, *]
           have e2 : sendW W L = { W with ls := W.ls ++ [L] } := by simp [sendW, e, h36]
           rw [e, e2]
           exact ⟨_, rfl, ⟨_, C2, _, D ++ (A ++ B), rfl, by rw [List.length_append]; exact h2, hL.append (Lts.one' hA hB)⟩, rfl⟩)
    · refine WL.gy (dj := 21) rfl rfl rfl (Yd.fieldAddr (k := 2) (by kernel_rfl) rfl) ?_
      refine WL.gh (dj := 21) rfl rfl rfl (Hd.loadA (n := 11) (vs := [_, _, _, _, _, _, _, _, _, _, _]) (by kernel_rfl) rfl (by repeat (first | exact List.mem_cons_self | apply List.mem_cons_of_mem | apply List.mem_append_right)) (by rfl) (by rfl) ⟨_, rfl, ?_⟩)
      refine WL.gr (dj := 21) rfl rfl rfl (Ent.func Try.call30 rfl) (check_reads L.n _ _ ⟨_, _, rfl⟩ ⟨_, _, rfl⟩ _) ?_
      refine WL.gy (dj := 21) rfl rfl rfl (Yd.neq rfl rfl) ?_
      refine WL.y rfl (Yd.pickF rfl rfl) ?_
      refine WL.y rfl (Yd.assign rfl) ?_
      refine WL.nil ?_
      refine DN.then_normal ?_
      refine WC.ite rfl (fun h8 => ?_) (fun h8 => ?_)
      · refine WC.seq ?_
        refine WC.region ?_
        refine WL.y rfl (Yd.assign rfl) ?_
        refine WL.nil ?_
        refine DN.then_normal ?_
        refine WC.ret ?_
        refine DN.block_ret ?_
        refine DN.then_ret ?_
        first | refine DN.fit (C := (row p (.int .i64 W.n :: .slice zo (W.ls.length + 1) zc :: (ic W.cut ++ uc W.clk)) 72 :: (C2 ++ (D ++ (A ++ B)))) ++ H) (by repeat (first | exact Sp.here | exact Sp.sn | exact Sp.s0 | exact Fr.here | apply Sp.s2 | apply Sp.sx | apply Fr.fc | apply Fr.al | apply Fr.fa | apply Sp.sc | apply Sp.al | apply Sp.sa)) ?_ | refine DN.fit (C := (row p (.int .i64 W.n :: .slice xo W.ls.length xc :: (ic W.cut ++ uc W.clk)) 72 :: (Cl ++ D)) ++ H) (by repeat (first | exact Sp.here | exact Sp.sn | exact Sp.s0 | exact Fr.here | apply Sp.s2 | apply Sp.sx | apply Fr.fc | apply Fr.al | apply Fr.fa | apply Sp.sc | apply Sp.al | apply Sp.sa)) ?_
        refine DN.ret1 Try.results10 rfl ?_
        try simp only [Bool.not_eq_true', Bool.not_eq_false'] at hg14
        try simp only [Bool.not_eq_true', Bool.not_eq_false'] at hg21
        try (have hnb : noteBad L.n = true := by
              cases h : noteBad L.n with
              | true => rfl
              | false => simp [h] at h8)
        try (have hnb : noteBad L.n = false := by
              cases h : noteBad L.n with
              | false => rfl
              | true => simp [h] at h8)
        first
          | (have e : sendE W L = 2 := by simp [sendE, *]
             have e2 : sendW W L = W := by simp [sendW, e]
             rw [e, e2]
             exact ⟨_, rfl, hW, rfl⟩)
          | (have e : sendE W L = 5 := by simp [sendE, *]
             have e2 : sendW W L = W := by simp [sendW, e]
             rw [e, e2]
             exact ⟨_, rfl, hW, rfl⟩)
          | (have e : sendE W L = 0 := by simp [sendE, *]
             have e2 : sendW W L = W := by simp [sendW, h36]
             rw [e, e2]
             exact ⟨_, rfl, hW, rfl⟩)
          | (have e : sendE W L = 0 := by simp [sendE, *]
             have e2 : sendW W L = { W with ls := W.ls ++ [L] } := by simp [sendW, e, h36]
             rw [e, e2]
             exact ⟨_, rfl, ⟨_, C2, _, D ++ (A ++ B), rfl, by rw [List.length_append]; exact h2, hL.append (Lts.one' hA hB)⟩, rfl⟩)
      · have hn1 : isNode W L.f = true := by simpa using hg14
        have hn2 : isNode W L.t = true := by simpa using hg21
        have hwf : 0 ≤ L.f ∧ L.f < 6 := by have := inv.n; simp only [isNode, Bool.and_eq_true, decide_eq_true_eq] at hn1; omega
        have hwt : 0 ≤ L.t ∧ L.t < 6 := by have := inv.n; simp only [isNode, Bool.and_eq_true, decide_eq_true_eq] at hn2; omega
        refine WC.seq ?_
        refine WC.region ?_
        refine WL.y rfl (Yd.move rfl) ?_
        refine WL.y rfl (Yd.notNil rfl) ?_
        refine WL.y rfl (Yd.fieldAddr (k := 1) (by kernel_rfl) rfl) ?_
        refine WL.h rfl (Hd.load1 (by kernel_rfl) rfl (by repeat (first | exact List.mem_cons_self | apply List.mem_cons_of_mem | apply List.mem_append_right)) (by rfl) ⟨_, rfl, ?_⟩)
        refine WL.y rfl (Yd.len (e := 34) (by kernel_rfl) rfl) ?_
        refine WL.y rfl (Yd.geq rfl rfl) ?_
        refine WL.y rfl (Yd.assign rfl) ?_
        refine WL.nil ?_
        refine DN.then_normal ?_
        refine WC.ite rfl (fun h27 => ?_) (fun h27 => ?_)
        · refine WC.seq ?_
          refine WC.region ?_
          refine WL.y rfl (Yd.assign rfl) ?_
          refine WL.nil ?_
          refine DN.then_normal ?_
          refine WC.ret ?_
          refine DN.block_ret ?_
          refine DN.then_ret ?_
          first | refine DN.fit (C := (row p (.int .i64 W.n :: .slice zo (W.ls.length + 1) zc :: (ic W.cut ++ uc W.clk)) 72 :: (C2 ++ (D ++ (A ++ B)))) ++ H) (by repeat (first | exact Sp.here | exact Sp.sn | exact Sp.s0 | exact Fr.here | apply Sp.s2 | apply Sp.sx | apply Fr.fc | apply Fr.al | apply Fr.fa | apply Sp.sc | apply Sp.al | apply Sp.sa)) ?_ | refine DN.fit (C := (row p (.int .i64 W.n :: .slice xo W.ls.length xc :: (ic W.cut ++ uc W.clk)) 72 :: (Cl ++ D)) ++ H) (by repeat (first | exact Sp.here | exact Sp.sn | exact Sp.s0 | exact Fr.here | apply Sp.s2 | apply Sp.sx | apply Fr.fc | apply Fr.al | apply Fr.fa | apply Sp.sc | apply Sp.al | apply Sp.sa)) ?_
          refine DN.ret1 Try.results10 rfl ?_
          try simp only [Bool.not_eq_true', Bool.not_eq_false'] at hg14
          try simp only [Bool.not_eq_true', Bool.not_eq_false'] at hg21
          try (have hnb : noteBad L.n = true := by
                cases h : noteBad L.n with
                | true => rfl
                | false => simp [h] at h8)
          try (have hnb : noteBad L.n = false := by
                cases h : noteBad L.n with
                | false => rfl
                | true => simp [h] at h8)
          first
            | (have e : sendE W L = 2 := by simp [sendE, *]
               have e2 : sendW W L = W := by simp [sendW, e]
               rw [e, e2]
               exact ⟨_, rfl, hW, rfl⟩)
            | (have e : sendE W L = 5 := by simp [sendE, *]
               have e2 : sendW W L = W := by simp [sendW, e]
               rw [e, e2]
               exact ⟨_, rfl, hW, rfl⟩)
            | (have e : sendE W L = 0 := by simp [sendE, *]
               have e2 : sendW W L = W := by simp [sendW, h36]
               rw [e, e2]
               exact ⟨_, rfl, hW, rfl⟩)
            | (have e : sendE W L = 0 := by simp [sendE, *]
               have e2 : sendW W L = { W with ls := W.ls ++ [L] } := by simp [sendW, e, h36]
               rw [e, e2]
               exact ⟨_, rfl, ⟨_, C2, _, D ++ (A ++ B), rfl, by rw [List.length_append]; exact h2, hL.append (Lts.one' hA hB)⟩, rfl⟩)
        · refine WC.skip ?_
          refine DN.block_normal ?_
          refine DN.then_normal ?_
          refine WC.seq ?_
          refine WC.seq ?_
          refine WC.region ?_
          refine WL.y rfl (Yd.move rfl) ?_
          refine WL.h rfl (Hd.loadAll (n := 13) (by kernel_rfl) rfl (by repeat (first | exact List.mem_cons_self | apply List.mem_cons_of_mem | apply List.mem_append_right)) (by rfl) ⟨_, rfl, ?_⟩)
          refine WL.rf rfl (Ent.func Try.call31 rfl) (open_reads p W _ [] hW inv.cut L _ _ hwf hwt) (by repeat (first | exact Sp.here | exact Sp.sn | exact Sp.s0 | exact Fr.here | apply Sp.s2 | apply Sp.sx | apply Fr.fc | apply Fr.al | apply Fr.fa | apply Sp.sc | apply Sp.al | apply Sp.sa)) ?_
          refine WL.nil ?_
          refine DN.then_normal ?_
          refine WC.cond rfl (fun h36 => ?_) (fun h36 => ?_)
          · refine WC.draw 12 (by kernel_rfl) rfl ?_
            refine WA.y (i := 0) (NoPanic.then (NoPanic.body)) rfl (by kernel_rfl) (by kernel_rfl) (by kernel_rfl) rfl (Yd.move rfl) ?_
            refine WA.y (i := 1) (NoPanic.then (NoPanic.body)) rfl (by kernel_rfl) (by kernel_rfl) (by kernel_rfl) rfl (Yd.move rfl) ?_
            refine WA.y (i := 2) (NoPanic.then (NoPanic.body)) rfl (by kernel_rfl) (by kernel_rfl) (by kernel_rfl) rfl (Yd.notNil rfl) ?_
            refine WA.y (i := 3) (NoPanic.then (NoPanic.body)) rfl (by kernel_rfl) (by kernel_rfl) (by kernel_rfl) rfl (Yd.fieldAddr (k := 1) (by kernel_rfl) rfl) ?_
            refine WA.two (i := 4) (j := 5) (by kernel_rfl) ?_ ?_
            · refine WO.h rfl Wt.none rfl (Hd.load1 (by kernel_rfl) rfl (by repeat (first | exact List.mem_cons_self | apply List.mem_cons_of_mem | apply List.mem_append_right)) (by rfl) ⟨_, rfl, ?_⟩)
              refine WA.one (i := 5) (by kernel_rfl) ?_
              refine WO.h rfl Wt.none rfl (Hd.loadAll (n := 13) (by kernel_rfl) rfl (by repeat (first | exact List.mem_cons_self | apply List.mem_cons_of_mem | apply List.mem_append_right)) (by rfl) ⟨_, rfl, ?_⟩)
              refine WA.one (i := 6) (by kernel_rfl) ?_
              refine WO.c rfl Wt.none rfl (Ent.func Try.call32 rfl) (own_tells L _ _ _ (hk.mono (by repeat (first | exact Gr.refl | exact Gr.left Gr.refl | exact Gr.nil | exact Gr.app (Gr.left Gr.refl) | refine Gr.cons ?_ | refine Gr.app ?_ | refine Gr.both ?_ ?_ | refine Gr.put (by repeat (first | exact List.mem_cons_self | apply List.mem_cons_of_mem | apply List.mem_append_right)) ?_))) (hd.mono (by repeat (first | exact Gr.refl | exact Gr.left Gr.refl | exact Gr.nil | exact Gr.app (Gr.left Gr.refl) | refine Gr.cons ?_ | refine Gr.app ?_ | refine Gr.both ?_ ?_ | refine Gr.put (by repeat (first | exact List.mem_cons_self | apply List.mem_cons_of_mem | apply List.mem_append_right)) ?_))) bk bd) (Sp.p (by repeat (first | exact Sp.here | exact Sp.sn | exact Sp.s0 | exact Fr.here | apply Sp.s2 | apply Sp.sx | apply Fr.fc | apply Fr.al | apply Fr.fa | apply Sp.sc | apply Sp.al | apply Sp.sa))) ?_
              rintro q H2 ⟨vk2, vd2, A, B, rfl, hA, hB, rfl⟩
              have hk1 := hA.one_cell
              have hk2 := hB.one_cell
              refine WA.one (i := 7) (by kernel_rfl) ?_
              refine WO.h rfl Wt.none rfl (Hd.buildA (e := 34) (sz := 13) (zs := [.int .i64 0, .int .i64 0, .int .i64 0, .int .u32 0, .int .u32 0, .int .u64 0, .int .u64 0, .int .u32 0, .int .i64 0, .bool false, .int .i64 0, .slice none 0 0, .slice none 0 0]) (by kernel_rfl) (by kernel_rfl) (by kernel_rfl) rfl rfl (by rfl) (by kernel_rfl) fun b44 => ⟨_, rfl, ?_⟩)
              refine WA.one (i := 8) (by kernel_rfl) ?_
              refine WO.h rfl Wt.none rfl (Hd.appendRow (e := 34) (sz := 13) (bytes := 128) (zs := [.int .i64 0, .int .i64 0, .int .i64 0, .int .u32 0, .int .u32 0, .int .u64 0, .int .u64 0, .int .u32 0, .int .i64 0, .bool false, .int .i64 0, .slice none 0 0, .slice none 0 0]) (by kernel_rfl) (by kernel_rfl) rfl (by omega) rfl rfl (ho) (by repeat (first | exact Sp.here | exact Sp.sn | exact Sp.s0 | exact Fr.here | apply Sp.s2 | apply Sp.sx | apply Fr.fc | apply Fr.al | apply Fr.fa | apply Sp.sc | apply Sp.al | apply Sp.sa)) (by repeat (first | exact List.mem_cons_self | apply List.mem_cons_of_mem | apply List.mem_append_right)) (by rfl) (by repeat (first | exact fun _ h => absurd h List.not_mem_nil | refine List.forall_mem_cons.2 ⟨by first | rfl | assumption, ?_⟩)) (by simp only [maxLen]; omega) (by omega) fun v2 C2 h2 => ⟨_, rfl, ?_⟩)
              obtain ⟨zo, zc, rfl, _⟩ := h2.form
              refine WA.y (i := 9) (NoPanic.then (NoPanic.body)) rfl (by kernel_rfl) (by kernel_rfl) (by kernel_rfl) rfl (Yd.notNil rfl) ?_
              refine WA.y (i := 10) (NoPanic.then (NoPanic.body)) rfl (by kernel_rfl) (by kernel_rfl) (by kernel_rfl) rfl (Yd.fieldAddr (k := 1) (by kernel_rfl) rfl) ?_
              refine WA.one (i := 11) (by kernel_rfl) ?_
              refine WO.s rfl Wt.none (Hd.store1s (by kernel_rfl) rfl rfl (by rfl) (by repeat (first | exact Fr.here | apply Fr.fc | apply Fr.al | apply Fr.fa)) (by rfl) (by first | (simp only [List.set_cons_zero, List.set_cons_succ, Nat.zero_add, Nat.add_zero, Nat.reduceAdd]; rfl) | rfl) ⟨rfl, ?_⟩)
              refine WA.done (by kernel_rfl) ?_
              refine DN.then_normal ?_
              refine WC.seq ?_
              refine WC.region ?_
              refine WL.y rfl (Yd.assign rfl) ?_
              refine WL.nil ?_
              refine DN.then_normal ?_
              refine WC.ret ?_
              first | refine DN.fit (C := (row p (.int .i64 W.n :: .slice zo (W.ls.length + 1) zc :: (ic W.cut ++ uc W.clk)) 72 :: (C2 ++ (D ++ (A ++ B)))) ++ H) (by repeat (first | exact Sp.here | exact Sp.sn | exact Sp.s0 | exact Fr.here | apply Sp.s2 | apply Sp.sx | apply Fr.fc | apply Fr.al | apply Fr.fa | apply Sp.sc | apply Sp.al | apply Sp.sa)) ?_ | refine DN.fit (C := (row p (.int .i64 W.n :: .slice xo W.ls.length xc :: (ic W.cut ++ uc W.clk)) 72 :: (Cl ++ D)) ++ H) (by repeat (first | exact Sp.here | exact Sp.sn | exact Sp.s0 | exact Fr.here | apply Sp.s2 | apply Sp.sx | apply Fr.fc | apply Fr.al | apply Fr.fa | apply Sp.sc | apply Sp.al | apply Sp.sa)) ?_
              refine DN.ret1 Try.results10 rfl ?_
              try simp only [Bool.not_eq_true', Bool.not_eq_false'] at hg14
              try simp only [Bool.not_eq_true', Bool.not_eq_false'] at hg21
              try (have hnb : noteBad L.n = true := by
                    cases h : noteBad L.n with
                    | true => rfl
                    | false => simp [h] at h8)
              try (have hnb : noteBad L.n = false := by
                    cases h : noteBad L.n with
                    | false => rfl
                    | true => simp [h] at h8)
              first
                | (have e : sendE W L = 2 := by simp [sendE, *]
                   have e2 : sendW W L = W := by simp [sendW, e]
                   rw [e, e2]
                   exact ⟨_, rfl, hW, rfl⟩)
                | (have e : sendE W L = 5 := by simp [sendE, *]
                   have e2 : sendW W L = W := by simp [sendW, e]
                   rw [e, e2]
                   exact ⟨_, rfl, hW, rfl⟩)
                | (have e : sendE W L = 0 := by simp [sendE, *]
                   have e2 : sendW W L = W := by simp [sendW, h36]
                   rw [e, e2]
                   exact ⟨_, rfl, hW, rfl⟩)
                | (have e : sendE W L = 0 := by simp [sendE, *]
                   have e2 : sendW W L = { W with ls := W.ls ++ [L] } := by simp [sendW, e, h36]
                   rw [e, e2]
                   exact ⟨_, rfl, ⟨_, C2, _, D ++ (A ++ B), rfl, by rw [List.length_append]; exact h2, hL.append (Lts.one' hA hB)⟩, rfl⟩)
            · refine WO.h rfl Wt.none rfl (Hd.loadAll (n := 13) (by kernel_rfl) rfl (by repeat (first | exact List.mem_cons_self | apply List.mem_cons_of_mem | apply List.mem_append_right)) (by rfl) ⟨_, rfl, ?_⟩)
              refine WA.two (i := 4) (j := 6) (by kernel_rfl) ?_ ?_
              · refine WO.h rfl Wt.none rfl (Hd.load1 (by kernel_rfl) rfl (by repeat (first | exact List.mem_cons_self | apply List.mem_cons_of_mem | apply List.mem_append_right)) (by rfl) ⟨_, rfl, ?_⟩)
                refine WA.one (i := 6) (by kernel_rfl) ?_
                refine WO.c rfl Wt.none rfl (Ent.func Try.call32 rfl) (own_tells L _ _ _ (hk.mono (by repeat (first | exact Gr.refl | exact Gr.left Gr.refl | exact Gr.nil | exact Gr.app (Gr.left Gr.refl) | refine Gr.cons ?_ | refine Gr.app ?_ | refine Gr.both ?_ ?_ | refine Gr.put (by repeat (first | exact List.mem_cons_self | apply List.mem_cons_of_mem | apply List.mem_append_right)) ?_))) (hd.mono (by repeat (first | exact Gr.refl | exact Gr.left Gr.refl | exact Gr.nil | exact Gr.app (Gr.left Gr.refl) | refine Gr.cons ?_ | refine Gr.app ?_ | refine Gr.both ?_ ?_ | refine Gr.put (by repeat (first | exact List.mem_cons_self | apply List.mem_cons_of_mem | apply List.mem_append_right)) ?_))) bk bd) (Sp.p (by repeat (first | exact Sp.here | exact Sp.sn | exact Sp.s0 | exact Fr.here | apply Sp.s2 | apply Sp.sx | apply Fr.fc | apply Fr.al | apply Fr.fa | apply Sp.sc | apply Sp.al | apply Sp.sa))) ?_
                rintro q H2 ⟨vk2, vd2, A, B, rfl, hA, hB, rfl⟩
                have hk1 := hA.one_cell
                have hk2 := hB.one_cell
                refine WA.one (i := 7) (by kernel_rfl) ?_
                refine WO.h rfl Wt.none rfl (Hd.buildA (e := 34) (sz := 13) (zs := [.int .i64 0, .int .i64 0, .int .i64 0, .int .u32 0, .int .u32 0, .int .u64 0, .int .u64 0, .int .u32 0, .int .i64 0, .bool false, .int .i64 0, .slice none 0 0, .slice none 0 0]) (by kernel_rfl) (by kernel_rfl) (by kernel_rfl) rfl rfl (by rfl) (by kernel_rfl) fun b44 => ⟨_, rfl, ?_⟩)
                refine WA.one (i := 8) (by kernel_rfl) ?_
                refine WO.h rfl Wt.none rfl (Hd.appendRow (e := 34) (sz := 13) (bytes := 128) (zs := [.int .i64 0, .int .i64 0, .int .i64 0, .int .u32 0, .int .u32 0, .int .u64 0, .int .u64 0, .int .u32 0, .int .i64 0, .bool false, .int .i64 0, .slice none 0 0, .slice none 0 0]) (by kernel_rfl) (by kernel_rfl) rfl (by omega) rfl rfl (ho) (by repeat (first | exact Sp.here | exact Sp.sn | exact Sp.s0 | exact Fr.here | apply Sp.s2 | apply Sp.sx | apply Fr.fc | apply Fr.al | apply Fr.fa | apply Sp.sc | apply Sp.al | apply Sp.sa)) (by repeat (first | exact List.mem_cons_self | apply List.mem_cons_of_mem | apply List.mem_append_right)) (by rfl) (by repeat (first | exact fun _ h => absurd h List.not_mem_nil | refine List.forall_mem_cons.2 ⟨by first | rfl | assumption, ?_⟩)) (by simp only [maxLen]; omega) (by omega) fun v2 C2 h2 => ⟨_, rfl, ?_⟩)
                obtain ⟨zo, zc, rfl, _⟩ := h2.form
                refine WA.y (i := 9) (NoPanic.then (NoPanic.body)) rfl (by kernel_rfl) (by kernel_rfl) (by kernel_rfl) rfl (Yd.notNil rfl) ?_
                refine WA.y (i := 10) (NoPanic.then (NoPanic.body)) rfl (by kernel_rfl) (by kernel_rfl) (by kernel_rfl) rfl (Yd.fieldAddr (k := 1) (by kernel_rfl) rfl) ?_
                refine WA.one (i := 11) (by kernel_rfl) ?_
                refine WO.s rfl Wt.none (Hd.store1s (by kernel_rfl) rfl rfl (by rfl) (by repeat (first | exact Fr.here | apply Fr.fc | apply Fr.al | apply Fr.fa)) (by rfl) (by first | (simp only [List.set_cons_zero, List.set_cons_succ, Nat.zero_add, Nat.add_zero, Nat.reduceAdd]; rfl) | rfl) ⟨rfl, ?_⟩)
                refine WA.done (by kernel_rfl) ?_
                refine DN.then_normal ?_
                refine WC.seq ?_
                refine WC.region ?_
                refine WL.y rfl (Yd.assign rfl) ?_
                refine WL.nil ?_
                refine DN.then_normal ?_
                refine WC.ret ?_
                first | refine DN.fit (C := (row p (.int .i64 W.n :: .slice zo (W.ls.length + 1) zc :: (ic W.cut ++ uc W.clk)) 72 :: (C2 ++ (D ++ (A ++ B)))) ++ H) (by repeat (first | exact Sp.here | exact Sp.sn | exact Sp.s0 | exact Fr.here | apply Sp.s2 | apply Sp.sx | apply Fr.fc | apply Fr.al | apply Fr.fa | apply Sp.sc | apply Sp.al | apply Sp.sa)) ?_ | refine DN.fit (C := (row p (.int .i64 W.n :: .slice xo W.ls.length xc :: (ic W.cut ++ uc W.clk)) 72 :: (Cl ++ D)) ++ H) (by repeat (first | exact Sp.here | exact Sp.sn | exact Sp.s0 | exact Fr.here | apply Sp.s2 | apply Sp.sx | apply Fr.fc | apply Fr.al | apply Fr.fa | apply Sp.sc | apply Sp.al | apply Sp.sa)) ?_
                refine DN.ret1 Try.results10 rfl ?_
                try simp only [Bool.not_eq_true', Bool.not_eq_false'] at hg14
                try simp only [Bool.not_eq_true', Bool.not_eq_false'] at hg21
                try (have hnb : noteBad L.n = true := by
                      cases h : noteBad L.n with
                      | true => rfl
                      | false => simp [h] at h8)
                try (have hnb : noteBad L.n = false := by
                      cases h : noteBad L.n with
                      | false => rfl
                      | true => simp [h] at h8)
                first
                  | (have e : sendE W L = 2 := by simp [sendE, *]
                     have e2 : sendW W L = W := by simp [sendW, e]
                     rw [e, e2]
                     exact ⟨_, rfl, hW, rfl⟩)
                  | (have e : sendE W L = 5 := by simp [sendE, *]
                     have e2 : sendW W L = W := by simp [sendW, e]
                     rw [e, e2]
                     exact ⟨_, rfl, hW, rfl⟩)
                  | (have e : sendE W L = 0 := by simp [sendE, *]
                     have e2 : sendW W L = W := by simp [sendW, h36]
                     rw [e, e2]
                     exact ⟨_, rfl, hW, rfl⟩)
                  | (have e : sendE W L = 0 := by simp [sendE, *]
                     have e2 : sendW W L = { W with ls := W.ls ++ [L] } := by simp [sendW, e, h36]
                     rw [e, e2]
                     exact ⟨_, rfl, ⟨_, C2, _, D ++ (A ++ B), rfl, by rw [List.length_append]; exact h2, hL.append (Lts.one' hA hB)⟩, rfl⟩)
              · refine WO.c rfl Wt.none rfl (Ent.func Try.call32 rfl) (own_tells L _ _ _ (hk.mono (by repeat (first | exact Gr.refl | exact Gr.left Gr.refl | exact Gr.nil | exact Gr.app (Gr.left Gr.refl) | refine Gr.cons ?_ | refine Gr.app ?_ | refine Gr.both ?_ ?_ | refine Gr.put (by repeat (first | exact List.mem_cons_self | apply List.mem_cons_of_mem | apply List.mem_append_right)) ?_))) (hd.mono (by repeat (first | exact Gr.refl | exact Gr.left Gr.refl | exact Gr.nil | exact Gr.app (Gr.left Gr.refl) | refine Gr.cons ?_ | refine Gr.app ?_ | refine Gr.both ?_ ?_ | refine Gr.put (by repeat (first | exact List.mem_cons_self | apply List.mem_cons_of_mem | apply List.mem_append_right)) ?_))) bk bd) (Sp.p (by repeat (first | exact Sp.here | exact Sp.sn | exact Sp.s0 | exact Fr.here | apply Sp.s2 | apply Sp.sx | apply Fr.fc | apply Fr.al | apply Fr.fa | apply Sp.sc | apply Sp.al | apply Sp.sa))) ?_
                rintro q H2 ⟨vk2, vd2, A, B, rfl, hA, hB, rfl⟩
                have hk1 := hA.one_cell
                have hk2 := hB.one_cell
                refine WA.two (i := 4) (j := 7) (by kernel_rfl) ?_ ?_
                · refine WO.h rfl Wt.none rfl (Hd.load1 (by kernel_rfl) rfl (by repeat (first | exact List.mem_cons_self | apply List.mem_cons_of_mem | apply List.mem_append_right)) (by rfl) ⟨_, rfl, ?_⟩)
                  refine WA.one (i := 7) (by kernel_rfl) ?_
                  refine WO.h rfl Wt.none rfl (Hd.buildA (e := 34) (sz := 13) (zs := [.int .i64 0, .int .i64 0, .int .i64 0, .int .u32 0, .int .u32 0, .int .u64 0, .int .u64 0, .int .u32 0, .int .i64 0, .bool false, .int .i64 0, .slice none 0 0, .slice none 0 0]) (by kernel_rfl) (by kernel_rfl) (by kernel_rfl) rfl rfl (by rfl) (by kernel_rfl) fun b44 => ⟨_, rfl, ?_⟩)
                  refine WA.one (i := 8) (by kernel_rfl) ?_
                  refine WO.h rfl Wt.none rfl (Hd.appendRow (e := 34) (sz := 13) (bytes := 128) (zs := [.int .i64 0, .int .i64 0, .int .i64 0, .int .u32 0, .int .u32 0, .int .u64 0, .int .u64 0, .int .u32 0, .int .i64 0, .bool false, .int .i64 0, .slice none 0 0, .slice none 0 0]) (by kernel_rfl) (by kernel_rfl) rfl (by omega) rfl rfl (ho) (by repeat (first | exact Sp.here | exact Sp.sn | exact Sp.s0 | exact Fr.here | apply Sp.s2 | apply Sp.sx | apply Fr.fc | apply Fr.al | apply Fr.fa | apply Sp.sc | apply Sp.al | apply Sp.sa)) (by repeat (first | exact List.mem_cons_self | apply List.mem_cons_of_mem | apply List.mem_append_right)) (by rfl) (by repeat (first | exact fun _ h => absurd h List.not_mem_nil | refine List.forall_mem_cons.2 ⟨by first | rfl | assumption, ?_⟩)) (by simp only [maxLen]; omega) (by omega) fun v2 C2 h2 => ⟨_, rfl, ?_⟩)
                  obtain ⟨zo, zc, rfl, _⟩ := h2.form
                  refine WA.y (i := 9) (NoPanic.then (NoPanic.body)) rfl (by kernel_rfl) (by kernel_rfl) (by kernel_rfl) rfl (Yd.notNil rfl) ?_
                  refine WA.y (i := 10) (NoPanic.then (NoPanic.body)) rfl (by kernel_rfl) (by kernel_rfl) (by kernel_rfl) rfl (Yd.fieldAddr (k := 1) (by kernel_rfl) rfl) ?_
                  refine WA.one (i := 11) (by kernel_rfl) ?_
                  refine WO.s rfl Wt.none (Hd.store1s (by kernel_rfl) rfl rfl (by rfl) (by repeat (first | exact Fr.here | apply Fr.fc | apply Fr.al | apply Fr.fa)) (by rfl) (by first | (simp only [List.set_cons_zero, List.set_cons_succ, Nat.zero_add, Nat.add_zero, Nat.reduceAdd]; rfl) | rfl) ⟨rfl, ?_⟩)
                  refine WA.done (by kernel_rfl) ?_
                  refine DN.then_normal ?_
                  refine WC.seq ?_
                  refine WC.region ?_
                  refine WL.y rfl (Yd.assign rfl) ?_
                  refine WL.nil ?_
                  refine DN.then_normal ?_
                  refine WC.ret ?_
                  first | refine DN.fit (C := (row p (.int .i64 W.n :: .slice zo (W.ls.length + 1) zc :: (ic W.cut ++ uc W.clk)) 72 :: (C2 ++ (D ++ (A ++ B)))) ++ H) (by repeat (first | exact Sp.here | exact Sp.sn | exact Sp.s0 | exact Fr.here | apply Sp.s2 | apply Sp.sx | apply Fr.fc | apply Fr.al | apply Fr.fa | apply Sp.sc | apply Sp.al | apply Sp.sa)) ?_ | refine DN.fit (C := (row p (.int .i64 W.n :: .slice xo W.ls.length xc :: (ic W.cut ++ uc W.clk)) 72 :: (Cl ++ D)) ++ H) (by repeat (first | exact Sp.here | exact Sp.sn | exact Sp.s0 | exact Fr.here | apply Sp.s2 | apply Sp.sx | apply Fr.fc | apply Fr.al | apply Fr.fa | apply Sp.sc | apply Sp.al | apply Sp.sa)) ?_
                  refine DN.ret1 Try.results10 rfl ?_
                  try simp only [Bool.not_eq_true', Bool.not_eq_false'] at hg14
                  try simp only [Bool.not_eq_true', Bool.not_eq_false'] at hg21
                  try (have hnb : noteBad L.n = true := by
                        cases h : noteBad L.n with
                        | true => rfl
                        | false => simp [h] at h8)
                  try (have hnb : noteBad L.n = false := by
                        cases h : noteBad L.n with
                        | false => rfl
                        | true => simp [h] at h8)
                  first
                    | (have e : sendE W L = 2 := by simp [sendE, *]
                       have e2 : sendW W L = W := by simp [sendW, e]
                       rw [e, e2]
                       exact ⟨_, rfl, hW, rfl⟩)
                    | (have e : sendE W L = 5 := by simp [sendE, *]
                       have e2 : sendW W L = W := by simp [sendW, e]
                       rw [e, e2]
                       exact ⟨_, rfl, hW, rfl⟩)
                    | (have e : sendE W L = 0 := by simp [sendE, *]
                       have e2 : sendW W L = W := by simp [sendW, h36]
                       rw [e, e2]
                       exact ⟨_, rfl, hW, rfl⟩)
                    | (have e : sendE W L = 0 := by simp [sendE, *]
                       have e2 : sendW W L = { W with ls := W.ls ++ [L] } := by simp [sendW, e, h36]
                       rw [e, e2]
                       exact ⟨_, rfl, ⟨_, C2, _, D ++ (A ++ B), rfl, by rw [List.length_append]; exact h2, hL.append (Lts.one' hA hB)⟩, rfl⟩)
                · refine WO.h rfl Wt.none rfl (Hd.buildA (e := 34) (sz := 13) (zs := [.int .i64 0, .int .i64 0, .int .i64 0, .int .u32 0, .int .u32 0, .int .u64 0, .int .u64 0, .int .u32 0, .int .i64 0, .bool false, .int .i64 0, .slice none 0 0, .slice none 0 0]) (by kernel_rfl) (by kernel_rfl) (by kernel_rfl) rfl rfl (by rfl) (by kernel_rfl) fun b44 => ⟨_, rfl, ?_⟩)
                  refine WA.one (i := 4) (by kernel_rfl) ?_
                  refine WO.h rfl Wt.none rfl (Hd.load1 (by kernel_rfl) rfl (by repeat (first | exact List.mem_cons_self | apply List.mem_cons_of_mem | apply List.mem_append_right)) (by rfl) ⟨_, rfl, ?_⟩)
                  refine WA.one (i := 8) (by kernel_rfl) ?_
                  refine WO.h rfl Wt.none rfl (Hd.appendRow (e := 34) (sz := 13) (bytes := 128) (zs := [.int .i64 0, .int .i64 0, .int .i64 0, .int .u32 0, .int .u32 0, .int .u64 0, .int .u64 0, .int .u32 0, .int .i64 0, .bool false, .int .i64 0, .slice none 0 0, .slice none 0 0]) (by kernel_rfl) (by kernel_rfl) rfl (by omega) rfl rfl (ho) (by repeat (first | exact Sp.here | exact Sp.sn | exact Sp.s0 | exact Fr.here | apply Sp.s2 | apply Sp.sx | apply Fr.fc | apply Fr.al | apply Fr.fa | apply Sp.sc | apply Sp.al | apply Sp.sa)) (by repeat (first | exact List.mem_cons_self | apply List.mem_cons_of_mem | apply List.mem_append_right)) (by rfl) (by repeat (first | exact fun _ h => absurd h List.not_mem_nil | refine List.forall_mem_cons.2 ⟨by first | rfl | assumption, ?_⟩)) (by simp only [maxLen]; omega) (by omega) fun v2 C2 h2 => ⟨_, rfl, ?_⟩)
                  obtain ⟨zo, zc, rfl, _⟩ := h2.form
                  refine WA.y (i := 9) (NoPanic.then (NoPanic.body)) rfl (by kernel_rfl) (by kernel_rfl) (by kernel_rfl) rfl (Yd.notNil rfl) ?_
                  refine WA.y (i := 10) (NoPanic.then (NoPanic.body)) rfl (by kernel_rfl) (by kernel_rfl) (by kernel_rfl) rfl (Yd.fieldAddr (k := 1) (by kernel_rfl) rfl) ?_
                  refine WA.one (i := 11) (by kernel_rfl) ?_
                  refine WO.s rfl Wt.none (Hd.store1s (by kernel_rfl) rfl rfl (by rfl) (by repeat (first | exact Fr.here | apply Fr.fc | apply Fr.al | apply Fr.fa)) (by rfl) (by first | (simp only [List.set_cons_zero, List.set_cons_succ, Nat.zero_add, Nat.add_zero, Nat.reduceAdd]; rfl) | rfl) ⟨rfl, ?_⟩)
                  refine WA.done (by kernel_rfl) ?_
                  refine DN.then_normal ?_
                  refine WC.seq ?_
                  refine WC.region ?_
                  refine WL.y rfl (Yd.assign rfl) ?_
                  refine WL.nil ?_
                  refine DN.then_normal ?_
                  refine WC.ret ?_
                  first | refine DN.fit (C := (row p (.int .i64 W.n :: .slice zo (W.ls.length + 1) zc :: (ic W.cut ++ uc W.clk)) 72 :: (C2 ++ (D ++ (A ++ B)))) ++ H) (by repeat (first | exact Sp.here | exact Sp.sn | exact Sp.s0 | exact Fr.here | apply Sp.s2 | apply Sp.sx | apply Fr.fc | apply Fr.al | apply Fr.fa | apply Sp.sc | apply Sp.al | apply Sp.sa)) ?_ | refine DN.fit (C := (row p (.int .i64 W.n :: .slice xo W.ls.length xc :: (ic W.cut ++ uc W.clk)) 72 :: (Cl ++ D)) ++ H) (by repeat (first | exact Sp.here | exact Sp.sn | exact Sp.s0 | exact Fr.here | apply Sp.s2 | apply Sp.sx | apply Fr.fc | apply Fr.al | apply Fr.fa | apply Sp.sc | apply Sp.al | apply Sp.sa)) ?_
                  refine DN.ret1 Try.results10 rfl ?_
                  try simp only [Bool.not_eq_true', Bool.not_eq_false'] at hg14
                  try simp only [Bool.not_eq_true', Bool.not_eq_false'] at hg21
                  try (have hnb : noteBad L.n = true := by
                        cases h : noteBad L.n with
                        | true => rfl
                        | false => simp [h] at h8)
                  try (have hnb : noteBad L.n = false := by
                        cases h : noteBad L.n with
                        | false => rfl
                        | true => simp [h] at h8)
                  first
                    | (have e : sendE W L = 2 := by simp [sendE, *]
                       have e2 : sendW W L = W := by simp [sendW, e]
                       rw [e, e2]
                       exact ⟨_, rfl, hW, rfl⟩)
                    | (have e : sendE W L = 5 := by simp [sendE, *]
                       have e2 : sendW W L = W := by simp [sendW, e]
                       rw [e, e2]
                       exact ⟨_, rfl, hW, rfl⟩)
                    | (have e : sendE W L = 0 := by simp [sendE, *]
                       have e2 : sendW W L = W := by simp [sendW, h36]
                       rw [e, e2]
                       exact ⟨_, rfl, hW, rfl⟩)
                    | (have e : sendE W L = 0 := by simp [sendE, *]
                       have e2 : sendW W L = { W with ls := W.ls ++ [L] } := by simp [sendW, e, h36]
                       rw [e, e2]
                       exact ⟨_, rfl, ⟨_, C2, _, D ++ (A ++ B), rfl, by rw [List.length_append]; exact h2, hL.append (Lts.one' hA hB)⟩, rfl⟩)
          · refine WC.skip ?_
            refine DN.then_normal ?_
            refine WC.seq ?_
            refine WC.region ?_
            refine WL.y rfl (Yd.assign rfl) ?_
            refine WL.nil ?_
            refine DN.then_normal ?_
            refine WC.ret ?_
            first | refine DN.fit (C := (row p (.int .i64 W.n :: .slice zo (W.ls.length + 1) zc :: (ic W.cut ++ uc W.clk)) 72 :: (C2 ++ (D ++ (A ++ B)))) ++ H) (by repeat (first | exact Sp.here | exact Sp.sn | exact Sp.s0 | exact Fr.here | apply Sp.s2 | apply Sp.sx | apply Fr.fc | apply Fr.al | apply Fr.fa | apply Sp.sc | apply Sp.al | apply Sp.sa)) ?_ | refine DN.fit (C := (row p (.int .i64 W.n :: .slice xo W.ls.length xc :: (ic W.cut ++ uc W.clk)) 72 :: (Cl ++ D)) ++ H) (by repeat (first | exact Sp.here | exact Sp.sn | exact Sp.s0 | exact Fr.here | apply Sp.s2 | apply Sp.sx | apply Fr.fc | apply Fr.al | apply Fr.fa | apply Sp.sc | apply Sp.al | apply Sp.sa)) ?_
            refine DN.ret1 Try.results10 rfl ?_
            try simp only [Bool.not_eq_true', Bool.not_eq_false'] at hg14
            try simp only [Bool.not_eq_true', Bool.not_eq_false'] at hg21
            try (have hnb : noteBad L.n = true := by
                  cases h : noteBad L.n with
                  | true => rfl
                  | false => simp [h] at h8)
            try (have hnb : noteBad L.n = false := by
                  cases h : noteBad L.n with
                  | false => rfl
                  | true => simp [h] at h8)
            first
              | (have e : sendE W L = 2 := by simp [sendE, *]
                 have e2 : sendW W L = W := by simp [sendW, e]
                 rw [e, e2]
                 exact ⟨_, rfl, hW, rfl⟩)
              | (have e : sendE W L = 5 := by simp [sendE, *]
                 have e2 : sendW W L = W := by simp [sendW, e]
                 rw [e, e2]
                 exact ⟨_, rfl, hW, rfl⟩)
              | (have e : sendE W L = 0 := by simp [sendE, *]
                 have e2 : sendW W L = W := by simp [sendW, h36]
                 rw [e, e2]
                 exact ⟨_, rfl, hW, rfl⟩)
              | (have e : sendE W L = 0 := by simp [sendE, *]
                 have e2 : sendW W L = { W with ls := W.ls ++ [L] } := by simp [sendW, e, h36]
                 rw [e, e2]
                 exact ⟨_, rfl, ⟨_, C2, _, D ++ (A ++ B), rfl, by rw [List.length_append]; exact h2, hL.append (Lts.one' hA hB)⟩, rfl⟩)

end Go.Proofs.Ytgpegfmonmdhoaa
