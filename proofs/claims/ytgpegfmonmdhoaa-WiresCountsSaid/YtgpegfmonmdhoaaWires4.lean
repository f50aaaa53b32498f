/-
  The walks of the net's functions: Pick, Lose, Copy, Late, Look, Cut, Tick, Clock, New.
-/
import Derived.Test.YtgpegfmonmdhoaaWires3
set_option linter.unusedVariables false
set_option linter.unusedSimpArgs false
set_option maxHeartbeats 4000000
namespace Go.Proofs.Ytgpegfmonmdhoaa
open Go.SL


/-- (*drayage/wires.Wires).Pick -/
theorem pick_tells (p : Nat) (W : Wn) (C : List Ck) (h : WAt 72 34 5 p W C) (inv : WInv W) (k : Int) : Tells Try.prog 13 [.pointer (some ⟨p, 0, none⟩), .int .i64 k] C fun r C' => ∃ vk vd A B C2, r = .tuple #[.agg (ltc (pickL W k) vk vd).toArray, .bool (pickB W k)] ∧ Ob 5 vk (pickL W k).n.key A ∧ Ob 5 vd (pickL W k).n.data B ∧ WAt 72 34 5 p  (outW W k) C2 ∧ C' = C2 ++ (A ++ B) := by
  refine Tells.enter Try.func13 rfl Try.ntmps13 rfl ?_
  intro w0 R
  have hW := h
  obtain ⟨vl, Cl, cs, D, rfl, ho, hL⟩ := h
  obtain ⟨xo, xc, rfl, hxc⟩ := ho.form
  refine WC.seq ?_
  refine WC.region ?_
  refine WL.h rfl (Hd.alloc (zs := [.int .i64 0, .int .i64 0, .int .i64 0, .int .u32 0, .int .u32 0, .int .u64 0, .int .u64 0, .int .u32 0, .int .i64 0, .bool false, .int .i64 0, .slice none 0 0, .slice none 0 0]) (by kernel_rfl) fun b4 => ⟨_, rfl, ?_⟩)
  refine WL.y rfl (Yd.assign rfl) ?_
  refine WL.nil ?_
  refine DN.then_normal ?_
  refine WC.seq ?_
  refine WC.seq ?_
  refine WC.region ?_
  refine WL.y rfl (Yd.move rfl) ?_
  refine WL.y rfl (Yd.move rfl) ?_
  refine WL.rf rfl (Ent.func Try.call33 rfl) (there_reads p W _ hW k) (by repeat (first | exact Sp.here | exact Sp.sn | exact Sp.s0 | exact Fr.here | apply Sp.s2 | apply Sp.sx | apply Fr.fc | apply Fr.al | apply Fr.fa | apply Sp.sc | apply Sp.al | apply Sp.sa)) ?_
  refine WL.y rfl (Yd.notB rfl) ?_
  refine WL.nil ?_
  refine DN.then_normal ?_
  refine WC.cond rfl (fun h10 => ?_) (fun h10 => ?_)
  · have hth : thereB W k = false := by simp only [Bool.not_eq_true'] at h10; exact h10
    refine WC.seq ?_
    refine WC.region ?_
    refine WL.y rfl (Yd.buildL (pl := [(0, 1), (1, 1), (2, 11)]) (zs := [.int .i64 0, .int .i64 0, .int .i64 0, .int .u32 0, .int .u32 0, .int .u64 0, .int .u64 0, .int .u32 0, .int .i64 0, .bool false, .int .i64 0, .slice none 0 0, .slice none 0 0]) (parts := []) (vs := []) (cells := [.int .i64 0, .int .i64 0, .int .i64 0, .int .u32 0, .int .u32 0, .int .u64 0, .int .u64 0, .int .u32 0, .int .i64 0, .bool false, .int .i64 0, .slice none 0 0, .slice none 0 0]) (by kernel_rfl) (by kernel_rfl) rfl rfl) ?_
    refine WL.s (Hd.storeAll (n := 13) (by kernel_rfl) rfl rfl (by rfl) (by repeat (first | exact fun _ h => absurd h List.not_mem_nil | refine List.forall_mem_cons.2 ⟨by first | rfl | assumption, ?_⟩)) (by repeat (first | exact Fr.here | apply Fr.fc | apply Fr.al | apply Fr.fa)) (by rfl) ⟨rfl, ?_⟩)
    refine WL.y rfl (Yd.assign rfl) ?_
    refine WL.nil ?_
    refine DN.then_normal ?_
    refine WC.ret ?_
    refine DN.then_ret ?_
    refine DN.retCT (s := 13) (row p (.int .i64 W.n :: .slice xo W.ls.length xc :: (ic W.cut ++ uc W.clk)) 72 :: (Cl ++ D)) Try.results13 (by kernel_rfl) rfl rfl (by repeat (first | exact List.mem_cons_self | apply List.mem_cons_of_mem | apply List.mem_append_right)) (by rfl) (by repeat (first | exact Sp.here | exact Sp.sn | exact Sp.s0 | exact Fr.here | apply Sp.s2 | apply Sp.sx | apply Fr.fc | apply Fr.al | apply Fr.fa | apply Sp.sc | apply Sp.al | apply Sp.sa)) ?_
    first
      | (have e1 : pickB W k = false := by simp [pickB, hth]
         have e2 : pickL W k = zeroL := by simp [pickL, e1]
         have e3 : outW W k = W := by simp [outW, hth]
         rw [e1, e2, e3]
         exact ⟨_, _, [], [], _, rfl, Ob.nil _, Ob.nil _, hW, by simp⟩)
      | (have e1 : pickB W (j : Int) = false := by simp only [Bool.not_eq_true'] at h18; simp only [pickB, hth, hat, Bool.true_and]; exact h18
         have e2 : pickL W (j : Int) = zeroL := by simp [pickL, e1]
         rw [e1, e2, hout]
         exact ⟨_, _, [], [], _, rfl, Ob.nil _, Ob.nil _, hW2, by simp⟩)
      | (have e1 : pickB W (j : Int) = true := by simp only [Bool.not_eq_false'] at h18; simp only [pickB, hth, hat, Bool.true_and]; exact h18
         have e2 : pickL W (j : Int) = W.ls.getD j zeroL := by simp only [pickL, e1, if_true, hat]
         rw [e1, e2, hout]
         exact ⟨_, _, A, B, C2, rfl, hA, hB, hW2, rfl⟩)
  · have hth : thereB W k = true := by simp only [Bool.not_eq_false'] at h10; exact h10
    obtain ⟨j, rfl, hj⟩ : ∃ j : Nat, k = (j : Int) ∧ j < W.ls.length := ⟨k.toNat, by simp [thereB] at hth; omega, by simp [thereB] at hth; omega⟩
    have hat : atW W (j : Int) = W.ls.getD j zeroL := rfl
    have hout : outW W (j : Int) = { W with ls := W.ls.eraseIdx j } := by simp [outW, hth]
    refine WC.skip ?_
    refine DN.then_normal ?_
    refine WC.seq ?_
    refine WC.region ?_
    refine WL.y rfl (Yd.move rfl) ?_
    refine WL.y rfl (Yd.move rfl) ?_
    refine WL.c rfl (Ent.func Try.call34 rfl) (take_tells p W _ hW inv.few j hj) (Sp.p (by repeat (first | exact Sp.here | exact Sp.sn | exact Sp.s0 | exact Fr.here | apply Sp.s2 | apply Sp.sx | apply Fr.fc | apply Fr.al | apply Fr.fa | apply Sp.sc | apply Sp.al | apply Sp.sa))) ?_
    rintro q H2 ⟨vk, vd, A, B, C2, rfl, hA, hB, hW2, rfl⟩
    have hk1 := hA.one_cell
    have hk2 := hB.one_cell
    have hway := inv.way (W.ls.getD j zeroL) (by simp [List.getD, hj])
    have hin := inv.n
    have hwf : 0 ≤ (W.ls.getD j zeroL).f ∧ (W.ls.getD j zeroL).f < 6 := by omega
    have hwt : 0 ≤ (W.ls.getD j zeroL).t ∧ (W.ls.getD j zeroL).t < 6 := by omega
    refine WL.h rfl (Hd.alloc (zs := [.int .i64 0, .int .i64 0, .int .i64 0, .int .u32 0, .int .u32 0, .int .u64 0, .int .u64 0, .int .u32 0, .int .i64 0, .bool false, .int .i64 0, .slice none 0 0, .slice none 0 0]) (by kernel_rfl) fun b6 => ⟨_, rfl, ?_⟩)
    refine WL.s (Hd.storeAll (n := 13) (by kernel_rfl) rfl rfl (by rfl) (by repeat (first | exact fun _ h => absurd h List.not_mem_nil | refine List.forall_mem_cons.2 ⟨by first | rfl | assumption, ?_⟩)) (by repeat (first | exact Fr.here | apply Fr.fc | apply Fr.al | apply Fr.fa)) (by rfl) ⟨rfl, ?_⟩)
    refine WL.nil ?_
    refine DN.then_normal ?_
    refine WC.seq ?_
    refine WC.seq ?_
    refine WC.region ?_
    refine WL.y rfl (Yd.move rfl) ?_
    refine WL.h rfl (Hd.loadAll (n := 13) (by kernel_rfl) rfl (by repeat (first | exact List.mem_cons_self | apply List.mem_cons_of_mem | apply List.mem_append_right)) (by rfl) ⟨_, rfl, ?_⟩)
    refine WL.rf rfl (Ent.func Try.call31 rfl) (open_reads p _ C2 [] hW2 inv.cut (W.ls.getD j zeroL) _ _ hwf hwt) (by repeat (first | exact Sp.here | exact Sp.sn | exact Sp.s0 | exact Fr.here | apply Sp.s2 | apply Sp.sx | apply Fr.fc | apply Fr.al | apply Fr.fa | apply Sp.sc | apply Sp.al | apply Sp.sa)) ?_
    refine WL.y rfl (Yd.notB rfl) ?_
    refine WL.nil ?_
    refine DN.then_normal ?_
    refine WC.cond rfl (fun h18 => ?_) (fun h18 => ?_)
    · refine WC.seq ?_
      refine WC.region ?_
      refine WL.y rfl (Yd.buildL (pl := [(0, 1), (1, 1), (2, 11)]) (zs := [.int .i64 0, .int .i64 0, .int .i64 0, .int .u32 0, .int .u32 0, .int .u64 0, .int .u64 0, .int .u32 0, .int .i64 0, .bool false, .int .i64 0, .slice none 0 0, .slice none 0 0]) (parts := []) (vs := []) (cells := [.int .i64 0, .int .i64 0, .int .i64 0, .int .u32 0, .int .u32 0, .int .u64 0, .int .u64 0, .int .u32 0, .int .i64 0, .bool false, .int .i64 0, .slice none 0 0, .slice none 0 0]) (by kernel_rfl) (by kernel_rfl) rfl rfl) ?_
      refine WL.s (Hd.storeAll (n := 13) (by kernel_rfl) rfl rfl (by rfl) (by repeat (first | exact fun _ h => absurd h List.not_mem_nil | refine List.forall_mem_cons.2 ⟨by first | rfl | assumption, ?_⟩)) (by repeat (first | exact Fr.here | apply Fr.fc | apply Fr.al | apply Fr.fa)) (by rfl) ⟨rfl, ?_⟩)
      refine WL.y rfl (Yd.assign rfl) ?_
      refine WL.nil ?_
      refine DN.then_normal ?_
      refine WC.ret ?_
      refine DN.then_ret ?_
      refine DN.retCT (s := 13) (C2) Try.results13 (by kernel_rfl) rfl rfl (by repeat (first | exact List.mem_cons_self | apply List.mem_cons_of_mem | apply List.mem_append_right)) (by rfl) (by repeat (first | exact Sp.here | exact Sp.sn | exact Sp.s0 | exact Fr.here | apply Sp.s2 | apply Sp.sx | apply Fr.fc | apply Fr.al | apply Fr.fa | apply Sp.sc | apply Sp.al | apply Sp.sa)) ?_
      first
        | (have e1 : pickB W k = false := by simp [pickB, hth]
           have e2 : pickL W k = zeroL := by simp [pickL, e1]
           have e3 : outW W k = W := by simp [outW, hth]
           rw [e1, e2, e3]
           exact ⟨_, _, [], [], _, rfl, Ob.nil _, Ob.nil _, hW, by simp⟩)
        | (have e1 : pickB W (j : Int) = false := by simp only [Bool.not_eq_true'] at h18; simp only [pickB, hth, hat, Bool.true_and]; exact h18
           have e2 : pickL W (j : Int) = zeroL := by simp [pickL, e1]
           rw [e1, e2, hout]
           exact ⟨_, _, [], [], _, rfl, Ob.nil _, Ob.nil _, hW2, by simp⟩)
        | (have e1 : pickB W (j : Int) = true := by simp only [Bool.not_eq_false'] at h18; simp only [pickB, hth, hat, Bool.true_and]; exact h18
           have e2 : pickL W (j : Int) = W.ls.getD j zeroL := by simp only [pickL, e1, if_true, hat]
           rw [e1, e2, hout]
           exact ⟨_, _, A, B, C2, rfl, hA, hB, hW2, rfl⟩)
    · refine WC.skip ?_
      refine DN.then_normal ?_
      refine WC.seq ?_
      refine WC.region ?_
      refine WL.h rfl (Hd.loadAll (n := 13) (by kernel_rfl) rfl (by repeat (first | exact List.mem_cons_self | apply List.mem_cons_of_mem | apply List.mem_append_right)) (by rfl) ⟨_, rfl, ?_⟩)
      refine WL.s (Hd.storeAll (n := 13) (by kernel_rfl) rfl rfl (by rfl) (by repeat (first | exact fun _ h => absurd h List.not_mem_nil | refine List.forall_mem_cons.2 ⟨by first | rfl | assumption, ?_⟩)) (by repeat (first | exact Fr.here | apply Fr.fc | apply Fr.al | apply Fr.fa)) (by rfl) ⟨rfl, ?_⟩)
      refine WL.y rfl (Yd.assign rfl) ?_
      refine WL.nil ?_
      refine DN.then_normal ?_
      refine WC.ret ?_
      refine DN.retCT (s := 13) (C2 ++ (A ++ B)) Try.results13 (by kernel_rfl) rfl rfl (by repeat (first | exact List.mem_cons_self | apply List.mem_cons_of_mem | apply List.mem_append_right)) (by rfl) (by repeat (first | exact Sp.here | exact Sp.sn | exact Sp.s0 | exact Fr.here | apply Sp.s2 | apply Sp.sx | apply Fr.fc | apply Fr.al | apply Fr.fa | apply Sp.sc | apply Sp.al | apply Sp.sa)) ?_
      first
        | (have e1 : pickB W k = false := by simp [pickB, hth]
           have e2 : pickL W k = zeroL := by simp [pickL, e1]
           have e3 : outW W k = W := by simp [outW, hth]
           rw [e1, e2, e3]
           exact ⟨_, _, [], [], _, rfl, Ob.nil _, Ob.nil _, hW, by simp⟩)
        | (have e1 : pickB W (j : Int) = false := by simp only [Bool.not_eq_true'] at h18; simp only [pickB, hth, hat, Bool.true_and]; exact h18
           have e2 : pickL W (j : Int) = zeroL := by simp [pickL, e1]
           rw [e1, e2, hout]
           exact ⟨_, _, [], [], _, rfl, Ob.nil _, Ob.nil _, hW2, by simp⟩)
        | (have e1 : pickB W (j : Int) = true := by simp only [Bool.not_eq_false'] at h18; simp only [pickB, hth, hat, Bool.true_and]; exact h18
           have e2 : pickL W (j : Int) = W.ls.getD j zeroL := by simp only [pickL, e1, if_true, hat]
           rw [e1, e2, hout]
           exact ⟨_, _, A, B, C2, rfl, hA, hB, hW2, rfl⟩)

/-- (*drayage/wires.Wires).Lose -/
theorem lose_tells (p : Nat) (W : Wn) (C : List Ck) (h : WAt 72 34 5 p W C) (inv : WInv W) (k : Int) : Tells Try.prog 19 [.pointer (some ⟨p, 0, none⟩), .int .i64 k] C fun r C' => r = .bool (thereB W k) ∧ WAt 72 34 5 p  (outW W k) C' := by
  refine Tells.enter Try.func19 rfl Try.ntmps19 rfl ?_
  intro w0 R
  have hW := h
  obtain ⟨vl, Cl, cs, D, rfl, ho, hL⟩ := h
  obtain ⟨xo, xc, rfl, hxc⟩ := ho.form
  refine WC.seq ?_
  refine WC.region ?_
  refine WL.y rfl (Yd.assign rfl) ?_
  refine WL.nil ?_
  refine DN.then_normal ?_
  refine WC.seq ?_
  refine WC.seq ?_
  refine WC.region ?_
  refine WL.y rfl (Yd.move rfl) ?_
  refine WL.y rfl (Yd.move rfl) ?_
  refine WL.rf rfl (Ent.func Try.call33 rfl) (there_reads p W _ hW k) (by repeat (first | exact Sp.here | exact Sp.sn | exact Sp.s0 | exact Fr.here | apply Sp.s2 | apply Sp.sx | apply Fr.fc | apply Fr.al | apply Fr.fa | apply Sp.sc | apply Sp.al | apply Sp.sa)) ?_
  refine WL.y rfl (Yd.notB rfl) ?_
  refine WL.nil ?_
  refine DN.then_normal ?_
  refine WC.cond rfl (fun h8 => ?_) (fun h8 => ?_)
  · have hth : thereB W k = false := by simp only [Bool.not_eq_true'] at h8; exact h8
    refine WC.seq ?_
    refine WC.region ?_
    refine WL.y rfl (Yd.assign rfl) ?_
    refine WL.nil ?_
    refine DN.then_normal ?_
    refine WC.ret ?_
    refine DN.then_ret ?_
    first | refine DN.fit (C := C2) (by repeat (first | exact Sp.here | exact Sp.sn | exact Sp.s0 | exact Fr.here | apply Sp.s2 | apply Sp.sx | apply Fr.fc | apply Fr.al | apply Fr.fa | apply Sp.sc | apply Sp.al | apply Sp.sa)) ?_ | skip
    refine DN.ret1 Try.results19 rfl ?_
    first | exact ⟨by rw [hth], by rw [hout]; exact hW2⟩ | exact ⟨by rw [hth], by rw [outW, hth]; exact hW⟩
  · have hth : thereB W k = true := by simp only [Bool.not_eq_false'] at h8; exact h8
    obtain ⟨j, rfl, hj⟩ : ∃ j : Nat, k = (j : Int) ∧ j < W.ls.length := ⟨k.toNat, by simp [thereB] at hth; omega, by simp [thereB] at hth; omega⟩
    have hat : atW W (j : Int) = W.ls.getD j zeroL := rfl
    have hout : outW W (j : Int) = { W with ls := W.ls.eraseIdx j } := by simp [outW, hth]
    refine WC.skip ?_
    refine DN.then_normal ?_
    refine WC.seq ?_
    refine WC.region ?_
    refine WL.y rfl (Yd.move rfl) ?_
    refine WL.y rfl (Yd.move rfl) ?_
    refine WL.c rfl (Ent.func Try.call34 rfl) (take_tells p W _ hW inv.few j hj) (Sp.p (by repeat (first | exact Sp.here | exact Sp.sn | exact Sp.s0 | exact Fr.here | apply Sp.s2 | apply Sp.sx | apply Fr.fc | apply Fr.al | apply Fr.fa | apply Sp.sc | apply Sp.al | apply Sp.sa))) ?_
    rintro q H2 ⟨vk, vd, A, B, C2, rfl, hA, hB, hW2, rfl⟩
    have hk1 := hA.one_cell
    have hk2 := hB.one_cell
    refine WL.nil ?_
    refine DN.then_normal ?_
    refine WC.seq ?_
    refine WC.region ?_
    refine WL.y rfl (Yd.assign rfl) ?_
    refine WL.nil ?_
    refine DN.then_normal ?_
    refine WC.ret ?_
    first | refine DN.fit (C := C2) (by repeat (first | exact Sp.here | exact Sp.sn | exact Sp.s0 | exact Fr.here | apply Sp.s2 | apply Sp.sx | apply Fr.fc | apply Fr.al | apply Fr.fa | apply Sp.sc | apply Sp.al | apply Sp.sa)) ?_ | skip
    refine DN.ret1 Try.results19 rfl ?_
    first | exact ⟨by rw [hth], by rw [hout]; exact hW2⟩ | exact ⟨by rw [hth], by rw [outW, hth]; exact hW⟩

/-- (*drayage/wires.Wires).Late -/
theorem late_tells (p : Nat) (W : Wn) (C : List Ck) (h : WAt 72 34 5 p W C) (inv : WInv W) (k : Int) : Tells Try.prog 12 [.pointer (some ⟨p, 0, none⟩), .int .i64 k] C fun r C' => r = .bool (thereB W k) ∧ WAt 72 34 5 p  (lateW W k) C' := by
  refine Tells.enter Try.func12 rfl Try.ntmps12 rfl ?_
  intro w0 R
  have hW := h
  obtain ⟨vl, Cl, cs, D, rfl, ho, hL⟩ := h
  obtain ⟨xo, xc, rfl, hxc⟩ := ho.form
  have hfew := inv.few
  refine WC.seq ?_
  refine WC.region ?_
  refine WL.y rfl (Yd.assign rfl) ?_
  refine WL.nil ?_
  refine DN.then_normal ?_
  refine WC.seq ?_
  refine WC.seq ?_
  refine WC.region ?_
  refine WL.y rfl (Yd.move rfl) ?_
  refine WL.y rfl (Yd.move rfl) ?_
  refine WL.rf rfl (Ent.func Try.call33 rfl) (there_reads p W _ hW k) (by repeat (first | exact Sp.here | exact Sp.sn | exact Sp.s0 | exact Fr.here | apply Sp.s2 | apply Sp.sx | apply Fr.fc | apply Fr.al | apply Fr.fa | apply Sp.sc | apply Sp.al | apply Sp.sa)) ?_
  refine WL.y rfl (Yd.notB rfl) ?_
  refine WL.nil ?_
  refine DN.then_normal ?_
  refine WC.cond rfl (fun h9 => ?_) (fun h9 => ?_)
  · have hth : thereB W k = false := by simp only [Bool.not_eq_true'] at h9; exact h9
    refine WC.seq ?_
    refine WC.region ?_
    refine WL.y rfl (Yd.assign rfl) ?_
    refine WL.nil ?_
    refine DN.then_normal ?_
    refine WC.ret ?_
    refine DN.then_ret ?_
    first | refine DN.fit (C := row p (.int .i64 W.n :: .slice zo ((W.ls.eraseIdx j).length + 1) zc :: (ic W.cut ++ uc W.clk)) 72 :: (C3 ++ (D2 ++ (A ++ B)))) (by repeat (first | exact Sp.here | exact Sp.sn | exact Sp.s0 | exact Fr.here | apply Sp.s2 | apply Sp.sx | apply Fr.fc | apply Fr.al | apply Fr.fa | apply Sp.sc | apply Sp.al | apply Sp.sa)) ?_ | skip
    refine DN.ret1 Try.results12 rfl ?_
    first
      | exact ⟨by rw [hth], by rw [lateW, hth]; exact hW⟩
      | (refine ⟨by rw [hth], ?_⟩
         have e : lateW W (j : Int) = { W with ls := W.ls.eraseIdx j ++ [W.ls.getD j zeroL] } := by simp only [lateW, hth, if_true, hat, Int.toNat_natCast]
         rw [e]
         exact ⟨_, C3, _, D2 ++ (A ++ B), rfl, by rw [List.length_append]; exact h3, hL2.append (Lts.one' hA hB)⟩)
  · have hth : thereB W k = true := by simp only [Bool.not_eq_false'] at h9; exact h9
    obtain ⟨j, rfl, hj⟩ : ∃ j : Nat, k = (j : Int) ∧ j < W.ls.length := ⟨k.toNat, by simp [thereB] at hth; omega, by simp [thereB] at hth; omega⟩
    have hat : atW W (j : Int) = W.ls.getD j zeroL := rfl
    have hout : outW W (j : Int) = { W with ls := W.ls.eraseIdx j } := by simp [outW, hth]
    refine WC.skip ?_
    refine DN.then_normal ?_
    refine WC.seq ?_
    refine WC.region ?_
    refine WL.y rfl (Yd.move rfl) ?_
    refine WL.y rfl (Yd.move rfl) ?_
    refine WL.c rfl (Ent.func Try.call34 rfl) (take_tells p W _ hW inv.few j hj) (Sp.p (by repeat (first | exact Sp.here | exact Sp.sn | exact Sp.s0 | exact Fr.here | apply Sp.s2 | apply Sp.sx | apply Fr.fc | apply Fr.al | apply Fr.fa | apply Sp.sc | apply Sp.al | apply Sp.sa))) ?_
    rintro q H2 ⟨vk, vd, A, B, C2, rfl, hA, hB, hW2, rfl⟩
    have hk1 := hA.one_cell
    have hk2 := hB.one_cell
    obtain ⟨vl2, Cl2, cs2, D2, rfl, ho2, hL2⟩ := hW2
    obtain ⟨yo, yc, rfl, hyc⟩ := ho2.form
    simp only at ho2 hL2
    have hle : (W.ls.eraseIdx j).length = W.ls.length - 1 := List.length_eraseIdx_of_lt hj
    refine WL.h rfl (Hd.alloc (zs := [.int .i64 0, .int .i64 0, .int .i64 0, .int .u32 0, .int .u32 0, .int .u64 0, .int .u64 0, .int .u32 0, .int .i64 0, .bool false, .int .i64 0, .slice none 0 0, .slice none 0 0]) (by kernel_rfl) fun b5 => ⟨_, rfl, ?_⟩)
    refine WL.s (Hd.storeAll (n := 13) (by kernel_rfl) rfl rfl (by rfl) (by repeat (first | exact fun _ h => absurd h List.not_mem_nil | refine List.forall_mem_cons.2 ⟨by first | rfl | assumption, ?_⟩)) (by repeat (first | exact Fr.here | apply Fr.fc | apply Fr.al | apply Fr.fa)) (by rfl) ⟨rfl, ?_⟩)
    refine WL.nil ?_
    refine DN.then_normal ?_
    refine WC.seq ?_
    refine WC.draw 11 (by kernel_rfl) rfl ?_
    refine WA.y (i := 0) (NoPanic.then (NoPanic.body)) rfl (by kernel_rfl) (by kernel_rfl) (by kernel_rfl) rfl (Yd.move rfl) ?_
    refine WA.y (i := 1) (NoPanic.then (NoPanic.body)) rfl (by kernel_rfl) (by kernel_rfl) (by kernel_rfl) rfl (Yd.move rfl) ?_
    refine WA.y (i := 2) (NoPanic.then (NoPanic.body)) rfl (by kernel_rfl) (by kernel_rfl) (by kernel_rfl) rfl (Yd.notNil rfl) ?_
    refine WA.y (i := 3) (NoPanic.then (NoPanic.body)) rfl (by kernel_rfl) (by kernel_rfl) (by kernel_rfl) rfl (Yd.fieldAddr (k := 1) (by kernel_rfl) rfl) ?_
    refine WA.two (i := 4) (j := 5) (by kernel_rfl) ?_ ?_
    · refine WO.h rfl Wt.none rfl (Hd.load1 (by kernel_rfl) rfl (by repeat (first | exact List.mem_cons_self | apply List.mem_cons_of_mem | apply List.mem_append_right)) (by rfl) ⟨_, rfl, ?_⟩)
      refine WA.one (i := 5) (by kernel_rfl) ?_
      refine WO.h rfl Wt.none rfl (Hd.loadAll (n := 13) (by kernel_rfl) rfl (by repeat (first | exact List.mem_cons_self | apply List.mem_cons_of_mem | apply List.mem_append_right)) (by rfl) ⟨_, rfl, ?_⟩)
      refine WA.one (i := 6) (by kernel_rfl) ?_
      refine WO.h rfl Wt.none rfl (Hd.buildA (e := 34) (sz := 13) (zs := [.int .i64 0, .int .i64 0, .int .i64 0, .int .u32 0, .int .u32 0, .int .u64 0, .int .u64 0, .int .u32 0, .int .i64 0, .bool false, .int .i64 0, .slice none 0 0, .slice none 0 0]) (by kernel_rfl) (by kernel_rfl) (by kernel_rfl) rfl rfl (by rfl) (by kernel_rfl) fun b19 => ⟨_, rfl, ?_⟩)
      refine WA.one (i := 7) (by kernel_rfl) ?_
      refine WO.h rfl Wt.none rfl (Hd.appendRow (e := 34) (sz := 13) (bytes := 128) (zs := [.int .i64 0, .int .i64 0, .int .i64 0, .int .u32 0, .int .u32 0, .int .u64 0, .int .u64 0, .int .u32 0, .int .i64 0, .bool false, .int .i64 0, .slice none 0 0, .slice none 0 0]) (by kernel_rfl) (by kernel_rfl) rfl (by omega) rfl rfl (ho2) (by repeat (first | exact Sp.here | exact Sp.sn | exact Sp.s0 | exact Fr.here | apply Sp.s2 | apply Sp.sx | apply Fr.fc | apply Fr.al | apply Fr.fa | apply Sp.sc | apply Sp.al | apply Sp.sa)) (by repeat (first | exact List.mem_cons_self | apply List.mem_cons_of_mem | apply List.mem_append_right)) (by rfl) (by repeat (first | exact fun _ h => absurd h List.not_mem_nil | refine List.forall_mem_cons.2 ⟨by first | rfl | assumption, ?_⟩)) (by simp only [maxLen]; omega) (by omega) fun v3 C3 h3 => ⟨_, rfl, ?_⟩)
      obtain ⟨zo, zc, rfl, _⟩ := h3.form
      refine WA.y (i := 8) (NoPanic.then (NoPanic.body)) rfl (by kernel_rfl) (by kernel_rfl) (by kernel_rfl) rfl (Yd.notNil rfl) ?_
      refine WA.y (i := 9) (NoPanic.then (NoPanic.body)) rfl (by kernel_rfl) (by kernel_rfl) (by kernel_rfl) rfl (Yd.fieldAddr (k := 1) (by kernel_rfl) rfl) ?_
      refine WA.one (i := 10) (by kernel_rfl) ?_
      refine WO.s rfl Wt.none (Hd.store1s (by kernel_rfl) rfl rfl (by rfl) (by repeat (first | exact Fr.here | apply Fr.fc | apply Fr.al | apply Fr.fa)) (by rfl) (by first | (simp only [List.set_cons_zero, List.set_cons_succ, Nat.zero_add, Nat.add_zero, Nat.reduceAdd]; rfl) | rfl) ⟨rfl, ?_⟩)
      refine WA.done (by kernel_rfl) ?_
      refine DN.then_normal ?_
      refine WC.seq ?_
      refine WC.region ?_
      refine WL.y rfl (Yd.assign rfl) ?_
      refine WL.nil ?_
      refine DN.then_normal ?_
      refine WC.ret ?_
      first | refine DN.fit (C := row p (.int .i64 W.n :: .slice zo ((W.ls.eraseIdx j).length + 1) zc :: (ic W.cut ++ uc W.clk)) 72 :: (C3 ++ (D2 ++ (A ++ B)))) (by repeat (first | exact Sp.here | exact Sp.sn | exact Sp.s0 | exact Fr.here | apply Sp.s2 | apply Sp.sx | apply Fr.fc | apply Fr.al | apply Fr.fa | apply Sp.sc | apply Sp.al | apply Sp.sa)) ?_ | skip
      refine DN.ret1 Try.results12 rfl ?_
      first
        | exact ⟨by rw [hth], by rw [lateW, hth]; exact hW⟩
        | (refine ⟨by rw [hth], ?_⟩
           have e : lateW W (j : Int) = { W with ls := W.ls.eraseIdx j ++ [W.ls.getD j zeroL] } := by simp only [lateW, hth, if_true, hat, Int.toNat_natCast]
           rw [e]
           exact ⟨_, C3, _, D2 ++ (A ++ B), rfl, by rw [List.length_append]; exact h3, hL2.append (Lts.one' hA hB)⟩)
    · refine WO.h rfl Wt.none rfl (Hd.loadAll (n := 13) (by kernel_rfl) rfl (by repeat (first | exact List.mem_cons_self | apply List.mem_cons_of_mem | apply List.mem_append_right)) (by rfl) ⟨_, rfl, ?_⟩)
      refine WA.two (i := 4) (j := 6) (by kernel_rfl) ?_ ?_
      · refine WO.h rfl Wt.none rfl (Hd.load1 (by kernel_rfl) rfl (by repeat (first | exact List.mem_cons_self | apply List.mem_cons_of_mem | apply List.mem_append_right)) (by rfl) ⟨_, rfl, ?_⟩)
        refine WA.one (i := 6) (by kernel_rfl) ?_
        refine WO.h rfl Wt.none rfl (Hd.buildA (e := 34) (sz := 13) (zs := [.int .i64 0, .int .i64 0, .int .i64 0, .int .u32 0, .int .u32 0, .int .u64 0, .int .u64 0, .int .u32 0, .int .i64 0, .bool false, .int .i64 0, .slice none 0 0, .slice none 0 0]) (by kernel_rfl) (by kernel_rfl) (by kernel_rfl) rfl rfl (by rfl) (by kernel_rfl) fun b19 => ⟨_, rfl, ?_⟩)
        refine WA.one (i := 7) (by kernel_rfl) ?_
        refine WO.h rfl Wt.none rfl (Hd.appendRow (e := 34) (sz := 13) (bytes := 128) (zs := [.int .i64 0, .int .i64 0, .int .i64 0, .int .u32 0, .int .u32 0, .int .u64 0, .int .u64 0, .int .u32 0, .int .i64 0, .bool false, .int .i64 0, .slice none 0 0, .slice none 0 0]) (by kernel_rfl) (by kernel_rfl) rfl (by omega) rfl rfl (ho2) (by repeat (first | exact Sp.here | exact Sp.sn | exact Sp.s0 | exact Fr.here | apply Sp.s2 | apply Sp.sx | apply Fr.fc | apply Fr.al | apply Fr.fa | apply Sp.sc | apply Sp.al | apply Sp.sa)) (by repeat (first | exact List.mem_cons_self | apply List.mem_cons_of_mem | apply List.mem_append_right)) (by rfl) (by repeat (first | exact fun _ h => absurd h List.not_mem_nil | refine List.forall_mem_cons.2 ⟨by first | rfl | assumption, ?_⟩)) (by simp only [maxLen]; omega) (by omega) fun v3 C3 h3 => ⟨_, rfl, ?_⟩)
        obtain ⟨zo, zc, rfl, _⟩ := h3.form
        refine WA.y (i := 8) (NoPanic.then (NoPanic.body)) rfl (by kernel_rfl) (by kernel_rfl) (by kernel_rfl) rfl (Yd.notNil rfl) ?_
        refine WA.y (i := 9) (NoPanic.then (NoPanic.body)) rfl (by kernel_rfl) (by kernel_rfl) (by kernel_rfl) rfl (Yd.fieldAddr (k := 1) (by kernel_rfl) rfl) ?_
        refine WA.one (i := 10) (by kernel_rfl) ?_
        refine WO.s rfl Wt.none (Hd.store1s (by kernel_rfl) rfl rfl (by rfl) (by repeat (first | exact Fr.here | apply Fr.fc | apply Fr.al | apply Fr.fa)) (by rfl) (by first | (simp only [List.set_cons_zero, List.set_cons_succ, Nat.zero_add, Nat.add_zero, Nat.reduceAdd]; rfl) | rfl) ⟨rfl, ?_⟩)
        refine WA.done (by kernel_rfl) ?_
        refine DN.then_normal ?_
        refine WC.seq ?_
        refine WC.region ?_
        refine WL.y rfl (Yd.assign rfl) ?_
        refine WL.nil ?_
        refine DN.then_normal ?_
        refine WC.ret ?_
        first | refine DN.fit (C := row p (.int .i64 W.n :: .slice zo ((W.ls.eraseIdx j).length + 1) zc :: (ic W.cut ++ uc W.clk)) 72 :: (C3 ++ (D2 ++ (A ++ B)))) (by repeat (first | exact Sp.here | exact Sp.sn | exact Sp.s0 | exact Fr.here | apply Sp.s2 | apply Sp.sx | apply Fr.fc | apply Fr.al | apply Fr.fa | apply Sp.sc | apply Sp.al | apply Sp.sa)) ?_ | skip
        refine DN.ret1 Try.results12 rfl ?_
        first
          | exact ⟨by rw [hth], by rw [lateW, hth]; exact hW⟩
          | (refine ⟨by rw [hth], ?_⟩
             have e : lateW W (j : Int) = { W with ls := W.ls.eraseIdx j ++ [W.ls.getD j zeroL] } := by simp only [lateW, hth, if_true, hat, Int.toNat_natCast]
             rw [e]
             exact ⟨_, C3, _, D2 ++ (A ++ B), rfl, by rw [List.length_append]; exact h3, hL2.append (Lts.one' hA hB)⟩)
      · refine WO.h rfl Wt.none rfl (Hd.buildA (e := 34) (sz := 13) (zs := [.int .i64 0, .int .i64 0, .int .i64 0, .int .u32 0, .int .u32 0, .int .u64 0, .int .u64 0, .int .u32 0, .int .i64 0, .bool false, .int .i64 0, .slice none 0 0, .slice none 0 0]) (by kernel_rfl) (by kernel_rfl) (by kernel_rfl) rfl rfl (by rfl) (by kernel_rfl) fun b19 => ⟨_, rfl, ?_⟩)
        refine WA.one (i := 4) (by kernel_rfl) ?_
        refine WO.h rfl Wt.none rfl (Hd.load1 (by kernel_rfl) rfl (by repeat (first | exact List.mem_cons_self | apply List.mem_cons_of_mem | apply List.mem_append_right)) (by rfl) ⟨_, rfl, ?_⟩)
        refine WA.one (i := 7) (by kernel_rfl) ?_
        refine WO.h rfl Wt.none rfl (Hd.appendRow (e := 34) (sz := 13) (bytes := 128) (zs := [.int .i64 0, .int .i64 0, .int .i64 0, .int .u32 0, .int .u32 0, .int .u64 0, .int .u64 0, .int .u32 0, .int .i64 0, .bool false, .int .i64 0, .slice none 0 0, .slice none 0 0]) (by kernel_rfl) (by kernel_rfl) rfl (by omega) rfl rfl (ho2) (by repeat (first | exact Sp.here | exact Sp.sn | exact Sp.s0 | exact Fr.here | apply Sp.s2 | apply Sp.sx | apply Fr.fc | apply Fr.al | apply Fr.fa | apply Sp.sc | apply Sp.al | apply Sp.sa)) (by repeat (first | exact List.mem_cons_self | apply List.mem_cons_of_mem | apply List.mem_append_right)) (by rfl) (by repeat (first | exact fun _ h => absurd h List.not_mem_nil | refine List.forall_mem_cons.2 ⟨by first | rfl | assumption, ?_⟩)) (by simp only [maxLen]; omega) (by omega) fun v3 C3 h3 => ⟨_, rfl, ?_⟩)
        obtain ⟨zo, zc, rfl, _⟩ := h3.form
        refine WA.y (i := 8) (NoPanic.then (NoPanic.body)) rfl (by kernel_rfl) (by kernel_rfl) (by kernel_rfl) rfl (Yd.notNil rfl) ?_
        refine WA.y (i := 9) (NoPanic.then (NoPanic.body)) rfl (by kernel_rfl) (by kernel_rfl) (by kernel_rfl) rfl (Yd.fieldAddr (k := 1) (by kernel_rfl) rfl) ?_
        refine WA.one (i := 10) (by kernel_rfl) ?_
        refine WO.s rfl Wt.none (Hd.store1s (by kernel_rfl) rfl rfl (by rfl) (by repeat (first | exact Fr.here | apply Fr.fc | apply Fr.al | apply Fr.fa)) (by rfl) (by first | (simp only [List.set_cons_zero, List.set_cons_succ, Nat.zero_add, Nat.add_zero, Nat.reduceAdd]; rfl) | rfl) ⟨rfl, ?_⟩)
        refine WA.done (by kernel_rfl) ?_
        refine DN.then_normal ?_
        refine WC.seq ?_
        refine WC.region ?_
        refine WL.y rfl (Yd.assign rfl) ?_
        refine WL.nil ?_
        refine DN.then_normal ?_
        refine WC.ret ?_
        first | refine DN.fit (C := row p (.int .i64 W.n :: .slice zo ((W.ls.eraseIdx j).length + 1) zc :: (ic W.cut ++ uc W.clk)) 72 :: (C3 ++ (D2 ++ (A ++ B)))) (by repeat (first | exact Sp.here | exact Sp.sn | exact Sp.s0 | exact Fr.here | apply Sp.s2 | apply Sp.sx | apply Fr.fc | apply Fr.al | apply Fr.fa | apply Sp.sc | apply Sp.al | apply Sp.sa)) ?_ | skip
        refine DN.ret1 Try.results12 rfl ?_
        first
          | exact ⟨by rw [hth], by rw [lateW, hth]; exact hW⟩
          | (refine ⟨by rw [hth], ?_⟩
             have e : lateW W (j : Int) = { W with ls := W.ls.eraseIdx j ++ [W.ls.getD j zeroL] } := by simp only [lateW, hth, if_true, hat, Int.toNat_natCast]
             rw [e]
             exact ⟨_, C3, _, D2 ++ (A ++ B), rfl, by rw [List.length_append]; exact h3, hL2.append (Lts.one' hA hB)⟩)

/-- (*drayage/wires.Wires).Look -/
theorem look_tells (p : Nat) (W : Wn) (C : List Ck) (h : WAt 72 34 5 p W C) (inv : WInv W) (k : Int) : Tells Try.prog 23 [.pointer (some ⟨p, 0, none⟩), .int .i64 k] C fun r C' => ∃ vk vd A B, r = .tuple #[.agg (ltc (lookL W k) vk vd).toArray, .bool (thereB W k)] ∧ Ob 5 vk (lookL W k).n.key A ∧ Ob 5 vd (lookL W k).n.data B ∧ C' = C ++ (A ++ B) := by
  refine Tells.enter Try.func23 rfl Try.ntmps23 rfl ?_
  intro w0 R
  have hW := h
  obtain ⟨vl, Cl, cs, D, rfl, ho, hL⟩ := h
  obtain ⟨xo, xc, rfl, hxc⟩ := ho.form
  have hfew := inv.few
  refine WC.seq ?_
  refine WC.region ?_
  refine WL.h rfl (Hd.alloc (zs := [.int .i64 0, .int .i64 0, .int .i64 0, .int .u32 0, .int .u32 0, .int .u64 0, .int .u64 0, .int .u32 0, .int .i64 0, .bool false, .int .i64 0, .slice none 0 0, .slice none 0 0]) (by kernel_rfl) fun b4 => ⟨_, rfl, ?_⟩)
  refine WL.y rfl (Yd.assign rfl) ?_
  refine WL.nil ?_
  refine DN.then_normal ?_
  refine WC.seq ?_
  refine WC.seq ?_
  refine WC.region ?_
  refine WL.y rfl (Yd.move rfl) ?_
  refine WL.y rfl (Yd.move rfl) ?_
  refine WL.rf rfl (Ent.func Try.call33 rfl) (there_reads p W _ hW k) (by repeat (first | exact Sp.here | exact Sp.sn | exact Sp.s0 | exact Fr.here | apply Sp.s2 | apply Sp.sx | apply Fr.fc | apply Fr.al | apply Fr.fa | apply Sp.sc | apply Sp.al | apply Sp.sa)) ?_
  refine WL.y rfl (Yd.notB rfl) ?_
  refine WL.nil ?_
  refine DN.then_normal ?_
  refine WC.cond rfl (fun h9 => ?_) (fun h9 => ?_)
  · have hth : thereB W k = false := by simp only [Bool.not_eq_true'] at h9; exact h9
    refine WC.seq ?_
    refine WC.region ?_
    refine WL.y rfl (Yd.buildL (pl := [(0, 1), (1, 1), (2, 11)]) (zs := [.int .i64 0, .int .i64 0, .int .i64 0, .int .u32 0, .int .u32 0, .int .u64 0, .int .u64 0, .int .u32 0, .int .i64 0, .bool false, .int .i64 0, .slice none 0 0, .slice none 0 0]) (parts := []) (vs := []) (cells := [.int .i64 0, .int .i64 0, .int .i64 0, .int .u32 0, .int .u32 0, .int .u64 0, .int .u64 0, .int .u32 0, .int .i64 0, .bool false, .int .i64 0, .slice none 0 0, .slice none 0 0]) (by kernel_rfl) (by kernel_rfl) rfl rfl) ?_
    refine WL.s (Hd.storeAll (n := 13) (by kernel_rfl) rfl rfl (by rfl) (by repeat (first | exact fun _ h => absurd h List.not_mem_nil | refine List.forall_mem_cons.2 ⟨by first | rfl | assumption, ?_⟩)) (by repeat (first | exact Fr.here | apply Fr.fc | apply Fr.al | apply Fr.fa)) (by rfl) ⟨rfl, ?_⟩)
    refine WL.y rfl (Yd.assign rfl) ?_
    refine WL.nil ?_
    refine DN.then_normal ?_
    refine WC.ret ?_
    refine DN.then_ret ?_
    first | refine DN.retCT (s := 13) ((row p (.int .i64 W.n :: .slice xo W.ls.length xc :: (ic W.cut ++ uc W.clk)) 72 :: (Cl ++ D)) ++ (A ++ B)) Try.results23 (by kernel_rfl) rfl rfl (by repeat (first | exact List.mem_cons_self | apply List.mem_cons_of_mem | apply List.mem_append_right)) (by rfl) (by repeat (first | exact Sp.here | exact Sp.sn | exact Sp.s0 | exact Fr.here | apply Sp.s2 | apply Sp.sx | apply Fr.fc | apply Fr.al | apply Fr.fa | apply Sp.sc | apply Sp.al | apply Sp.sa)) ?_ | refine DN.retCT (s := 13) (row p (.int .i64 W.n :: .slice xo W.ls.length xc :: (ic W.cut ++ uc W.clk)) 72 :: (Cl ++ D)) Try.results23 (by kernel_rfl) rfl rfl (by repeat (first | exact List.mem_cons_self | apply List.mem_cons_of_mem | apply List.mem_append_right)) (by rfl) (by repeat (first | exact Sp.here | exact Sp.sn | exact Sp.s0 | exact Fr.here | apply Sp.s2 | apply Sp.sx | apply Fr.fc | apply Fr.al | apply Fr.fa | apply Sp.sc | apply Sp.al | apply Sp.sa)) ?_
    first
      | (have e2 : lookL W k = zeroL := by simp [lookL, hth]
         rw [e2, hth]
         exact ⟨_, _, [], [], rfl, Ob.nil _, Ob.nil _, by simp⟩)
      | (have e2 : lookL W (j : Int) = W.ls.getD j zeroL := by simp only [lookL, hth, if_true, hat]
         rw [e2, hth]
         exact ⟨_, _, A, B, rfl, hA, hB, rfl⟩)
  · have hth : thereB W k = true := by simp only [Bool.not_eq_false'] at h9; exact h9
    obtain ⟨j, rfl, hj⟩ : ∃ j : Nat, k = (j : Int) ∧ j < W.ls.length := ⟨k.toNat, by simp [thereB] at hth; omega, by simp [thereB] at hth; omega⟩
    have hat : atW W (j : Int) = W.ls.getD j zeroL := rfl
    have hout : outW W (j : Int) = { W with ls := W.ls.eraseIdx j } := by simp [outW, hth]
    obtain ⟨vk, vd, A0, B0, D1, D2, hD, hcell, hA0, hB0, _⟩ := hL.at j hj
    have eg : W.ls[j] = W.ls.getD j zeroL := by simp [List.getD, hj]
    rw [eg] at hcell hA0 hB0
    have hsm := inv.small (W.ls.getD j zeroL) (by simp [List.getD, hj])
    have hkv : ∀ c ∈ A0, c ∈ D := fun c hc => by rw [hD]; simp [hc]
    have hdv : ∀ c ∈ B0, c ∈ D := fun c hc => by rw [hD]; simp [hc]
    refine WC.skip ?_
    refine DN.then_normal ?_
    refine WC.seq ?_
    refine WC.region ?_
    refine WL.y rfl (Yd.move rfl) ?_
    refine WL.y rfl (Yd.notNil rfl) ?_
    refine WL.y rfl (Yd.fieldAddr (k := 1) (by kernel_rfl) rfl) ?_
    refine WL.h rfl (Hd.load1 (by kernel_rfl) rfl (by repeat (first | exact List.mem_cons_self | apply List.mem_cons_of_mem | apply List.mem_append_right)) (by rfl) ⟨_, rfl, ?_⟩)
    refine WL.y rfl (Yd.move rfl) ?_
    refine WL.elemA (e := 34) (s := 13) (by kernel_rfl) (by kernel_rfl) (by kernel_rfl) rfl rfl (rfl) (ho.rs.mono (by repeat (first | exact Gr.refl | exact Gr.left Gr.refl | exact Gr.nil | exact Gr.app (Gr.left Gr.refl) | refine Gr.cons ?_ | refine Gr.app ?_ | refine Gr.both ?_ ?_ | refine Gr.put (by repeat (first | exact List.mem_cons_self | apply List.mem_cons_of_mem | apply List.mem_append_right)) ?_))) (hcell) (by rfl) (by omega) (hj) rfl rfl ?_
    intro p16
    refine WL.c rfl (Ent.func Try.call32 rfl) (own_tells (W.ls.getD j zeroL) vk vd _ ((hA0.bs.mono hkv).mono (by repeat (first | exact Gr.refl | exact Gr.left Gr.refl | exact Gr.nil | exact Gr.app (Gr.left Gr.refl) | refine Gr.cons ?_ | refine Gr.app ?_ | refine Gr.both ?_ ?_ | refine Gr.put (by repeat (first | exact List.mem_cons_self | apply List.mem_cons_of_mem | apply List.mem_append_right)) ?_))) ((hB0.bs.mono hdv).mono (by repeat (first | exact Gr.refl | exact Gr.left Gr.refl | exact Gr.nil | exact Gr.app (Gr.left Gr.refl) | refine Gr.cons ?_ | refine Gr.app ?_ | refine Gr.both ?_ ?_ | refine Gr.put (by repeat (first | exact List.mem_cons_self | apply List.mem_cons_of_mem | apply List.mem_append_right)) ?_))) (by omega) (by omega)) (Sp.p (by repeat (first | exact Sp.here | exact Sp.sn | exact Sp.s0 | exact Fr.here | apply Sp.s2 | apply Sp.sx | apply Fr.fc | apply Fr.al | apply Fr.fa | apply Sp.sc | apply Sp.al | apply Sp.sa))) ?_
    rintro q H2 ⟨vk2, vd2, A, B, rfl, hA, hB, rfl⟩
    have hk1 := hA.one_cell
    have hk2 := hB.one_cell
    refine WL.s (Hd.storeAll (n := 13) (by kernel_rfl) rfl rfl (by rfl) (by repeat (first | exact fun _ h => absurd h List.not_mem_nil | refine List.forall_mem_cons.2 ⟨by first | rfl | assumption, ?_⟩)) (by repeat (first | exact Fr.here | apply Fr.fc | apply Fr.al | apply Fr.fa)) (by rfl) ⟨rfl, ?_⟩)
    refine WL.y rfl (Yd.assign rfl) ?_
    refine WL.nil ?_
    refine DN.then_normal ?_
    refine WC.ret ?_
    first | refine DN.retCT (s := 13) ((row p (.int .i64 W.n :: .slice xo W.ls.length xc :: (ic W.cut ++ uc W.clk)) 72 :: (Cl ++ D)) ++ (A ++ B)) Try.results23 (by kernel_rfl) rfl rfl (by repeat (first | exact List.mem_cons_self | apply List.mem_cons_of_mem | apply List.mem_append_right)) (by rfl) (by repeat (first | exact Sp.here | exact Sp.sn | exact Sp.s0 | exact Fr.here | apply Sp.s2 | apply Sp.sx | apply Fr.fc | apply Fr.al | apply Fr.fa | apply Sp.sc | apply Sp.al | apply Sp.sa)) ?_ | refine DN.retCT (s := 13) (row p (.int .i64 W.n :: .slice xo W.ls.length xc :: (ic W.cut ++ uc W.clk)) 72 :: (Cl ++ D)) Try.results23 (by kernel_rfl) rfl rfl (by repeat (first | exact List.mem_cons_self | apply List.mem_cons_of_mem | apply List.mem_append_right)) (by rfl) (by repeat (first | exact Sp.here | exact Sp.sn | exact Sp.s0 | exact Fr.here | apply Sp.s2 | apply Sp.sx | apply Fr.fc | apply Fr.al | apply Fr.fa | apply Sp.sc | apply Sp.al | apply Sp.sa)) ?_
    first
      | (have e2 : lookL W k = zeroL := by simp [lookL, hth]
         rw [e2, hth]
         exact ⟨_, _, [], [], rfl, Ob.nil _, Ob.nil _, by simp⟩)
      | (have e2 : lookL W (j : Int) = W.ls.getD j zeroL := by simp only [lookL, hth, if_true, hat]
         rw [e2, hth]
         exact ⟨_, _, A, B, rfl, hA, hB, rfl⟩)

/-- (*drayage/wires.Wires).Copy -/
theorem copy_tells (p : Nat) (W : Wn) (C : List Ck) (h : WAt 72 34 5 p W C) (inv : WInv W) (k : Int) : Tells Try.prog 20 [.pointer (some ⟨p, 0, none⟩), .int .i64 k] C fun r C' => r = .bool (copyB W k) ∧ WAt 72 34 5 p  (copyW W k) C' := by
  refine Tells.enter Try.func20 rfl Try.ntmps20 rfl ?_
  intro w0 R
  have hW := h
  obtain ⟨vl, Cl, cs, D, rfl, ho, hL⟩ := h
  obtain ⟨xo, xc, rfl, hxc⟩ := ho.form
  have hfew := inv.few
  refine WC.seq ?_
  refine WC.region ?_
  refine WL.y rfl (Yd.assign rfl) ?_
  refine WL.nil ?_
  refine DN.then_normal ?_
  refine WC.seq ?_
  refine WC.seq ?_
  refine WC.region ?_
  refine WL.y rfl (Yd.move rfl) ?_
  refine WL.y rfl (Yd.move rfl) ?_
  refine WL.rf rfl (Ent.func Try.call33 rfl) (there_reads p W _ hW k) (by repeat (first | exact Sp.here | exact Sp.sn | exact Sp.s0 | exact Fr.here | apply Sp.s2 | apply Sp.sx | apply Fr.fc | apply Fr.al | apply Fr.fa | apply Sp.sc | apply Sp.al | apply Sp.sa)) ?_
  refine WL.y rfl (Yd.notB rfl) ?_
  refine WL.y rfl (Yd.move rfl) ?_
  refine WL.part (t := 9) rfl (fun hg9 => ?_) (fun hg9 => ?_)
  · refine WL.gn (dj := 9) rfl rfl rfl rfl ?_
    refine WL.gn (dj := 9) rfl rfl rfl rfl ?_
    refine WL.gn (dj := 9) rfl rfl rfl rfl ?_
    refine WL.gn (dj := 9) rfl rfl rfl rfl ?_
    refine WL.gn (dj := 9) rfl rfl rfl rfl ?_
    refine WL.gn (dj := 9) rfl rfl rfl rfl ?_
    refine WL.y rfl (Yd.pickT rfl rfl) ?_
    refine WL.nil ?_
    refine DN.then_normal ?_
    refine WC.yes rfl ?_
    refine WC.seq ?_
    refine WC.region ?_
    refine WL.y rfl (Yd.assign rfl) ?_
    refine WL.nil ?_
    refine DN.then_normal ?_
    refine WC.ret ?_
    refine DN.then_ret ?_
    first | refine DN.fit (C := row p (.int .i64 W.n :: .slice zo (W.ls.length + 1) zc :: (ic W.cut ++ uc W.clk)) 72 :: (C2 ++ (D ++ (A ++ B)))) (by repeat (first | exact Sp.here | exact Sp.sn | exact Sp.s0 | exact Fr.here | apply Sp.s2 | apply Sp.sx | apply Fr.fc | apply Fr.al | apply Fr.fa | apply Sp.sc | apply Sp.al | apply Sp.sa)) ?_ | skip
    refine DN.ret1 Try.results20 rfl ?_
    try simp only [Bool.not_eq_true', Bool.not_eq_false'] at hg9
    first
      | (have hth : thereB W k = false := hg9
         have e : copyB W k = false := by simp [copyB, hth]
         exact ⟨by rw [e], by rw [copyW, e]; exact hW⟩)
      | (have e : copyB W k = false := by simp only [copyB, Bool.and_eq_false_iff, decide_eq_false_iff_not]; right; omega
         exact ⟨by rw [e], by rw [copyW, e]; exact hW⟩)
      | (have e : copyB W (j : Int) = true := by simp only [copyB, hth, Bool.true_and, decide_eq_true_eq]; omega
         refine ⟨by rw [e], ?_⟩
         have e2 : copyW W (j : Int) = { W with ls := W.ls ++ [W.ls.getD j zeroL] } := by simp only [copyW, e, if_true, hat]
         rw [e2]
         exact ⟨_, C2, _, D ++ (A ++ B), rfl, by rw [List.length_append]; exact h2, hL.append (Lts.one' hA hB)⟩)
  · refine WL.gy (dj := 9) rfl rfl rfl (Yd.move rfl) ?_
    refine WL.gy (dj := 9) rfl rfl rfl (Yd.notNil rfl) ?_
    refine WL.gy (dj := 9) rfl rfl rfl (Yd.fieldAddr (k := 1) (by kernel_rfl) rfl) ?_
    refine WL.gh (dj := 9) rfl rfl rfl (Hd.load1 (by kernel_rfl) rfl (by repeat (first | exact List.mem_cons_self | apply List.mem_cons_of_mem | apply List.mem_append_right)) (by rfl) ⟨_, rfl, ?_⟩)
    refine WL.gy (dj := 9) rfl rfl rfl (Yd.len (e := 34) (by kernel_rfl) rfl) ?_
    refine WL.gy (dj := 9) rfl rfl rfl (Yd.geq rfl rfl) ?_
    refine WL.y rfl (Yd.pickF rfl rfl) ?_
    refine WL.nil ?_
    refine DN.then_normal ?_
    refine WC.ite rfl (fun h16 => ?_) (fun h16 => ?_)
    · refine WC.seq ?_
      refine WC.region ?_
      refine WL.y rfl (Yd.assign rfl) ?_
      refine WL.nil ?_
      refine DN.then_normal ?_
      refine WC.ret ?_
      refine DN.then_ret ?_
      first | refine DN.fit (C := row p (.int .i64 W.n :: .slice zo (W.ls.length + 1) zc :: (ic W.cut ++ uc W.clk)) 72 :: (C2 ++ (D ++ (A ++ B)))) (by repeat (first | exact Sp.here | exact Sp.sn | exact Sp.s0 | exact Fr.here | apply Sp.s2 | apply Sp.sx | apply Fr.fc | apply Fr.al | apply Fr.fa | apply Sp.sc | apply Sp.al | apply Sp.sa)) ?_ | skip
      refine DN.ret1 Try.results20 rfl ?_
      try simp only [Bool.not_eq_true', Bool.not_eq_false'] at hg9
      first
        | (have hth : thereB W k = false := hg9
           have e : copyB W k = false := by simp [copyB, hth]
           exact ⟨by rw [e], by rw [copyW, e]; exact hW⟩)
        | (have e : copyB W k = false := by simp only [copyB, Bool.and_eq_false_iff, decide_eq_false_iff_not]; right; omega
           exact ⟨by rw [e], by rw [copyW, e]; exact hW⟩)
        | (have e : copyB W (j : Int) = true := by simp only [copyB, hth, Bool.true_and, decide_eq_true_eq]; omega
           refine ⟨by rw [e], ?_⟩
           have e2 : copyW W (j : Int) = { W with ls := W.ls ++ [W.ls.getD j zeroL] } := by simp only [copyW, e, if_true, hat]
           rw [e2]
           exact ⟨_, C2, _, D ++ (A ++ B), rfl, by rw [List.length_append]; exact h2, hL.append (Lts.one' hA hB)⟩)
    · refine WC.skip ?_
      refine DN.then_normal ?_
      refine WC.seq ?_
      have hth : thereB W k = true := by simp only [Bool.not_eq_false'] at hg9; exact hg9
      obtain ⟨j, rfl, hj⟩ : ∃ j : Nat, k = (j : Int) ∧ j < W.ls.length := ⟨k.toNat, by simp [thereB] at hth; omega, by simp [thereB] at hth; omega⟩
      have hat : atW W (j : Int) = W.ls.getD j zeroL := rfl
      obtain ⟨vk, vd, A0, B0, D1, D2, hD, hcell, hA0, hB0, _⟩ := hL.at j hj
      have eg : W.ls[j] = W.ls.getD j zeroL := by simp [List.getD, hj]
      rw [eg] at hcell hA0 hB0
      have hsm := inv.small (W.ls.getD j zeroL) (by simp [List.getD, hj])
      have hkv : ∀ c ∈ A0, c ∈ D := fun c hc => by rw [hD]; simp [hc]
      have hdv : ∀ c ∈ B0, c ∈ D := fun c hc => by rw [hD]; simp [hc]
      obtain ⟨b0, o0, hbo, c0, T0, fr0, ex0, hm0, hc0⟩ : ∃ b o, xo = some ⟨b, o, none⟩ ∧ ∃ (c0 : List Value) (T0 : TypeId) (fr0 : Nat × Nat) (ex0 : Bool), (⟨b, .cells c0.toArray T0 fr0, ex0⟩ : Ck) ∈ Cl ∧ (c0.drop (o + j * 13)).take 13 = ltc (W.ls.getD j zeroL) vk vd := by
        rcases ho with ⟨_, h0, _⟩ | ⟨b, cap, extra, he, hc1, hc2, hcl, hel, rfl⟩
        · omega
        · simp only [Value.slice.injEq] at he
          refine ⟨b, 0, he.1, cs ++ extra, _, _, _, List.mem_cons_self, ?_⟩
          rw [Nat.zero_add, List.drop_append_of_le_length (by omega), List.take_append_of_le_length (by rw [List.length_drop]; omega)]
          exact hcell
      subst hbo
      refine WC.draw 18 (by kernel_rfl) rfl ?_
      refine WA.y (i := 0) (NoPanic.then (NoPanic.body)) rfl (by kernel_rfl) (by kernel_rfl) (by kernel_rfl) rfl (Yd.move rfl) ?_
      refine WA.y (i := 1) (NoPanic.then (NoPanic.body)) rfl (by kernel_rfl) (by kernel_rfl) (by kernel_rfl) rfl (Yd.move rfl) ?_
      refine WA.y (i := 2) (NoPanic.then (NoPanic.body)) rfl (by kernel_rfl) (by kernel_rfl) (by kernel_rfl) rfl (Yd.notNil rfl) ?_
      refine WA.y (i := 3) (NoPanic.then (NoPanic.body)) rfl (by kernel_rfl) (by kernel_rfl) (by kernel_rfl) rfl (Yd.fieldAddr (k := 1) (by kernel_rfl) rfl) ?_
      refine WA.y (i := 5) (NoPanic.then (NoPanic.body)) rfl (by kernel_rfl) (by kernel_rfl) (by kernel_rfl) rfl (Yd.move rfl) ?_
      refine WA.y (i := 6) (NoPanic.then (NoPanic.body)) rfl (by kernel_rfl) (by kernel_rfl) (by kernel_rfl) rfl (Yd.notNil rfl) ?_
      refine WA.y (i := 7) (NoPanic.then (NoPanic.body)) rfl (by kernel_rfl) (by kernel_rfl) (by kernel_rfl) rfl (Yd.fieldAddr (k := 1) (by kernel_rfl) rfl) ?_
      refine WA.y (i := 9) (NoPanic.then (NoPanic.body)) rfl (by kernel_rfl) (by kernel_rfl) (by kernel_rfl) rfl (Yd.move rfl) ?_
      refine WA.two (i := 4) (j := 8) (by kernel_rfl) ?_ ?_
      · refine WO.h rfl Wt.none rfl (Hd.load1 (by kernel_rfl) rfl (by repeat (first | exact List.mem_cons_self | apply List.mem_cons_of_mem | apply List.mem_append_right)) (by rfl) ⟨_, rfl, ?_⟩)
        refine WA.one (i := 8) (by kernel_rfl) ?_
        refine WO.h rfl Wt.none rfl (Hd.load1 (by kernel_rfl) rfl (by repeat (first | exact List.mem_cons_self | apply List.mem_cons_of_mem | apply List.mem_append_right)) (by rfl) ⟨_, rfl, ?_⟩)
        refine WA.y (i := 10) (NoPanic.then (NoPanic.body)) rfl (by kernel_rfl) (by kernel_rfl) (by kernel_rfl) rfl (Yd.indexAddr (e := 34) (s := 13) (by kernel_rfl) (by kernel_rfl) rfl rfl (by omega) (by omega)) ?_
        refine WA.one (i := 11) (by kernel_rfl) ?_
        refine WO.h rfl Wt.none rfl (Hd.loadA (n := 13) (vs := ltc (W.ls.getD j zeroL) vk vd) (by kernel_rfl) rfl (List.mem_cons_of_mem _ (List.mem_append_left _ hm0)) (by rfl) (by rw [← hc0]; congr 2) ⟨_, rfl, ?_⟩)
        refine WA.one (i := 12) (by kernel_rfl) ?_
        refine WO.c rfl Wt.none rfl (Ent.func Try.call32 rfl) (own_tells (W.ls.getD j zeroL) vk vd _ ((hA0.bs.mono hkv).mono (by repeat (first | exact Gr.refl | exact Gr.left Gr.refl | exact Gr.nil | exact Gr.app (Gr.left Gr.refl) | refine Gr.cons ?_ | refine Gr.app ?_ | refine Gr.both ?_ ?_ | refine Gr.put (by repeat (first | exact List.mem_cons_self | apply List.mem_cons_of_mem | apply List.mem_append_right)) ?_))) ((hB0.bs.mono hdv).mono (by repeat (first | exact Gr.refl | exact Gr.left Gr.refl | exact Gr.nil | exact Gr.app (Gr.left Gr.refl) | refine Gr.cons ?_ | refine Gr.app ?_ | refine Gr.both ?_ ?_ | refine Gr.put (by repeat (first | exact List.mem_cons_self | apply List.mem_cons_of_mem | apply List.mem_append_right)) ?_))) (by omega) (by omega)) (Sp.p (by repeat (first | exact Sp.here | exact Sp.sn | exact Sp.s0 | exact Fr.here | apply Sp.s2 | apply Sp.sx | apply Fr.fc | apply Fr.al | apply Fr.fa | apply Sp.sc | apply Sp.al | apply Sp.sa))) ?_
        rintro q H2 ⟨vk2, vd2, A, B, rfl, hA, hB, rfl⟩
        have hk1 := hA.one_cell
        have hk2 := hB.one_cell
        refine WA.one (i := 13) (by kernel_rfl) ?_
        refine WO.h rfl Wt.none rfl (Hd.buildA (e := 34) (sz := 13) (zs := [.int .i64 0, .int .i64 0, .int .i64 0, .int .u32 0, .int .u32 0, .int .u64 0, .int .u64 0, .int .u32 0, .int .i64 0, .bool false, .int .i64 0, .slice none 0 0, .slice none 0 0]) (by kernel_rfl) (by kernel_rfl) (by kernel_rfl) rfl rfl (by rfl) (by kernel_rfl) fun b30 => ⟨_, rfl, ?_⟩)
        refine WA.one (i := 14) (by kernel_rfl) ?_
        refine WO.h rfl Wt.none rfl (Hd.appendRow (e := 34) (sz := 13) (bytes := 128) (zs := [.int .i64 0, .int .i64 0, .int .i64 0, .int .u32 0, .int .u32 0, .int .u64 0, .int .u64 0, .int .u32 0, .int .i64 0, .bool false, .int .i64 0, .slice none 0 0, .slice none 0 0]) (by kernel_rfl) (by kernel_rfl) rfl (by omega) rfl rfl (ho) (by repeat (first | exact Sp.here | exact Sp.sn | exact Sp.s0 | exact Fr.here | apply Sp.s2 | apply Sp.sx | apply Fr.fc | apply Fr.al | apply Fr.fa | apply Sp.sc | apply Sp.al | apply Sp.sa)) (by repeat (first | exact List.mem_cons_self | apply List.mem_cons_of_mem | apply List.mem_append_right)) (by rfl) (by repeat (first | exact fun _ h => absurd h List.not_mem_nil | refine List.forall_mem_cons.2 ⟨by first | rfl | assumption, ?_⟩)) (by simp only [maxLen]; omega) (by omega) fun v2 C2 h2 => ⟨_, rfl, ?_⟩)
        obtain ⟨zo, zc, rfl, _⟩ := h2.form
        refine WA.y (i := 15) (NoPanic.then (NoPanic.body)) rfl (by kernel_rfl) (by kernel_rfl) (by kernel_rfl) rfl (Yd.notNil rfl) ?_
        refine WA.y (i := 16) (NoPanic.then (NoPanic.body)) rfl (by kernel_rfl) (by kernel_rfl) (by kernel_rfl) rfl (Yd.fieldAddr (k := 1) (by kernel_rfl) rfl) ?_
        refine WA.one (i := 17) (by kernel_rfl) ?_
        refine WO.s rfl Wt.none (Hd.store1s (by kernel_rfl) rfl rfl (by rfl) (by repeat (first | exact Fr.here | apply Fr.fc | apply Fr.al | apply Fr.fa)) (by rfl) (by first | (simp only [List.set_cons_zero, List.set_cons_succ, Nat.zero_add, Nat.add_zero, Nat.reduceAdd]; rfl) | rfl) ⟨rfl, ?_⟩)
        refine WA.done (by kernel_rfl) ?_
        refine DN.then_normal ?_
        refine WC.seq ?_
        refine WC.region ?_
        refine WL.y rfl (Yd.assign rfl) ?_
        refine WL.nil ?_
        refine DN.then_normal ?_
        refine WC.ret ?_
        first | refine DN.fit (C := row p (.int .i64 W.n :: .slice zo (W.ls.length + 1) zc :: (ic W.cut ++ uc W.clk)) 72 :: (C2 ++ (D ++ (A ++ B)))) (by repeat (first | exact Sp.here | exact Sp.sn | exact Sp.s0 | exact Fr.here | apply Sp.s2 | apply Sp.sx | apply Fr.fc | apply Fr.al | apply Fr.fa | apply Sp.sc | apply Sp.al | apply Sp.sa)) ?_ | skip
        refine DN.ret1 Try.results20 rfl ?_
        try simp only [Bool.not_eq_true', Bool.not_eq_false'] at hg9
        first
          | (have hth : thereB W k = false := hg9
             have e : copyB W k = false := by simp [copyB, hth]
             exact ⟨by rw [e], by rw [copyW, e]; exact hW⟩)
          | (have e : copyB W k = false := by simp only [copyB, Bool.and_eq_false_iff, decide_eq_false_iff_not]; right; omega
             exact ⟨by rw [e], by rw [copyW, e]; exact hW⟩)
          | (have e : copyB W (j : Int) = true := by simp only [copyB, hth, Bool.true_and, decide_eq_true_eq]; omega
             refine ⟨by rw [e], ?_⟩
             have e2 : copyW W (j : Int) = { W with ls := W.ls ++ [W.ls.getD j zeroL] } := by simp only [copyW, e, if_true, hat]
             rw [e2]
             exact ⟨_, C2, _, D ++ (A ++ B), rfl, by rw [List.length_append]; exact h2, hL.append (Lts.one' hA hB)⟩)
      · refine WO.h rfl Wt.none rfl (Hd.load1 (by kernel_rfl) rfl (by repeat (first | exact List.mem_cons_self | apply List.mem_cons_of_mem | apply List.mem_append_right)) (by rfl) ⟨_, rfl, ?_⟩)
        refine WA.y (i := 10) (NoPanic.then (NoPanic.body)) rfl (by kernel_rfl) (by kernel_rfl) (by kernel_rfl) rfl (Yd.indexAddr (e := 34) (s := 13) (by kernel_rfl) (by kernel_rfl) rfl rfl (by omega) (by omega)) ?_
        refine WA.two (i := 4) (j := 11) (by kernel_rfl) ?_ ?_
        · refine WO.h rfl Wt.none rfl (Hd.load1 (by kernel_rfl) rfl (by repeat (first | exact List.mem_cons_self | apply List.mem_cons_of_mem | apply List.mem_append_right)) (by rfl) ⟨_, rfl, ?_⟩)
          refine WA.one (i := 11) (by kernel_rfl) ?_
          refine WO.h rfl Wt.none rfl (Hd.loadA (n := 13) (vs := ltc (W.ls.getD j zeroL) vk vd) (by kernel_rfl) rfl (List.mem_cons_of_mem _ (List.mem_append_left _ hm0)) (by rfl) (by rw [← hc0]; congr 2) ⟨_, rfl, ?_⟩)
          refine WA.one (i := 12) (by kernel_rfl) ?_
          refine WO.c rfl Wt.none rfl (Ent.func Try.call32 rfl) (own_tells (W.ls.getD j zeroL) vk vd _ ((hA0.bs.mono hkv).mono (by repeat (first | exact Gr.refl | exact Gr.left Gr.refl | exact Gr.nil | exact Gr.app (Gr.left Gr.refl) | refine Gr.cons ?_ | refine Gr.app ?_ | refine Gr.both ?_ ?_ | refine Gr.put (by repeat (first | exact List.mem_cons_self | apply List.mem_cons_of_mem | apply List.mem_append_right)) ?_))) ((hB0.bs.mono hdv).mono (by repeat (first | exact Gr.refl | exact Gr.left Gr.refl | exact Gr.nil | exact Gr.app (Gr.left Gr.refl) | refine Gr.cons ?_ | refine Gr.app ?_ | refine Gr.both ?_ ?_ | refine Gr.put (by repeat (first | exact List.mem_cons_self | apply List.mem_cons_of_mem | apply List.mem_append_right)) ?_))) (by omega) (by omega)) (Sp.p (by repeat (first | exact Sp.here | exact Sp.sn | exact Sp.s0 | exact Fr.here | apply Sp.s2 | apply Sp.sx | apply Fr.fc | apply Fr.al | apply Fr.fa | apply Sp.sc | apply Sp.al | apply Sp.sa))) ?_
          rintro q H2 ⟨vk2, vd2, A, B, rfl, hA, hB, rfl⟩
          have hk1 := hA.one_cell
          have hk2 := hB.one_cell
          refine WA.one (i := 13) (by kernel_rfl) ?_
          refine WO.h rfl Wt.none rfl (Hd.buildA (e := 34) (sz := 13) (zs := [.int .i64 0, .int .i64 0, .int .i64 0, .int .u32 0, .int .u32 0, .int .u64 0, .int .u64 0, .int .u32 0, .int .i64 0, .bool false, .int .i64 0, .slice none 0 0, .slice none 0 0]) (by kernel_rfl) (by kernel_rfl) (by kernel_rfl) rfl rfl (by rfl) (by kernel_rfl) fun b30 => ⟨_, rfl, ?_⟩)
          refine WA.one (i := 14) (by kernel_rfl) ?_
          refine WO.h rfl Wt.none rfl (Hd.appendRow (e := 34) (sz := 13) (bytes := 128) (zs := [.int .i64 0, .int .i64 0, .int .i64 0, .int .u32 0, .int .u32 0, .int .u64 0, .int .u64 0, .int .u32 0, .int .i64 0, .bool false, .int .i64 0, .slice none 0 0, .slice none 0 0]) (by kernel_rfl) (by kernel_rfl) rfl (by omega) rfl rfl (ho) (by repeat (first | exact Sp.here | exact Sp.sn | exact Sp.s0 | exact Fr.here | apply Sp.s2 | apply Sp.sx | apply Fr.fc | apply Fr.al | apply Fr.fa | apply Sp.sc | apply Sp.al | apply Sp.sa)) (by repeat (first | exact List.mem_cons_self | apply List.mem_cons_of_mem | apply List.mem_append_right)) (by rfl) (by repeat (first | exact fun _ h => absurd h List.not_mem_nil | refine List.forall_mem_cons.2 ⟨by first | rfl | assumption, ?_⟩)) (by simp only [maxLen]; omega) (by omega) fun v2 C2 h2 => ⟨_, rfl, ?_⟩)
          obtain ⟨zo, zc, rfl, _⟩ := h2.form
          refine WA.y (i := 15) (NoPanic.then (NoPanic.body)) rfl (by kernel_rfl) (by kernel_rfl) (by kernel_rfl) rfl (Yd.notNil rfl) ?_
          refine WA.y (i := 16) (NoPanic.then (NoPanic.body)) rfl (by kernel_rfl) (by kernel_rfl) (by kernel_rfl) rfl (Yd.fieldAddr (k := 1) (by kernel_rfl) rfl) ?_
          refine WA.one (i := 17) (by kernel_rfl) ?_
          refine WO.s rfl Wt.none (Hd.store1s (by kernel_rfl) rfl rfl (by rfl) (by repeat (first | exact Fr.here | apply Fr.fc | apply Fr.al | apply Fr.fa)) (by rfl) (by first | (simp only [List.set_cons_zero, List.set_cons_succ, Nat.zero_add, Nat.add_zero, Nat.reduceAdd]; rfl) | rfl) ⟨rfl, ?_⟩)
          refine WA.done (by kernel_rfl) ?_
          refine DN.then_normal ?_
          refine WC.seq ?_
          refine WC.region ?_
          refine WL.y rfl (Yd.assign rfl) ?_
          refine WL.nil ?_
          refine DN.then_normal ?_
          refine WC.ret ?_
          first | refine DN.fit (C := row p (.int .i64 W.n :: .slice zo (W.ls.length + 1) zc :: (ic W.cut ++ uc W.clk)) 72 :: (C2 ++ (D ++ (A ++ B)))) (by repeat (first | exact Sp.here | exact Sp.sn | exact Sp.s0 | exact Fr.here | apply Sp.s2 | apply Sp.sx | apply Fr.fc | apply Fr.al | apply Fr.fa | apply Sp.sc | apply Sp.al | apply Sp.sa)) ?_ | skip
          refine DN.ret1 Try.results20 rfl ?_
          try simp only [Bool.not_eq_true', Bool.not_eq_false'] at hg9
          first
            | (have hth : thereB W k = false := hg9
               have e : copyB W k = false := by simp [copyB, hth]
               exact ⟨by rw [e], by rw [copyW, e]; exact hW⟩)
            | (have e : copyB W k = false := by simp only [copyB, Bool.and_eq_false_iff, decide_eq_false_iff_not]; right; omega
               exact ⟨by rw [e], by rw [copyW, e]; exact hW⟩)
            | (have e : copyB W (j : Int) = true := by simp only [copyB, hth, Bool.true_and, decide_eq_true_eq]; omega
               refine ⟨by rw [e], ?_⟩
               have e2 : copyW W (j : Int) = { W with ls := W.ls ++ [W.ls.getD j zeroL] } := by simp only [copyW, e, if_true, hat]
               rw [e2]
               exact ⟨_, C2, _, D ++ (A ++ B), rfl, by rw [List.length_append]; exact h2, hL.append (Lts.one' hA hB)⟩)
        · refine WO.h rfl Wt.none rfl (Hd.loadA (n := 13) (vs := ltc (W.ls.getD j zeroL) vk vd) (by kernel_rfl) rfl (List.mem_cons_of_mem _ (List.mem_append_left _ hm0)) (by rfl) (by rw [← hc0]; congr 2) ⟨_, rfl, ?_⟩)
          refine WA.two (i := 4) (j := 12) (by kernel_rfl) ?_ ?_
          · refine WO.h rfl Wt.none rfl (Hd.load1 (by kernel_rfl) rfl (by repeat (first | exact List.mem_cons_self | apply List.mem_cons_of_mem | apply List.mem_append_right)) (by rfl) ⟨_, rfl, ?_⟩)
            refine WA.one (i := 12) (by kernel_rfl) ?_
            refine WO.c rfl Wt.none rfl (Ent.func Try.call32 rfl) (own_tells (W.ls.getD j zeroL) vk vd _ ((hA0.bs.mono hkv).mono (by repeat (first | exact Gr.refl | exact Gr.left Gr.refl | exact Gr.nil | exact Gr.app (Gr.left Gr.refl) | refine Gr.cons ?_ | refine Gr.app ?_ | refine Gr.both ?_ ?_ | refine Gr.put (by repeat (first | exact List.mem_cons_self | apply List.mem_cons_of_mem | apply List.mem_append_right)) ?_))) ((hB0.bs.mono hdv).mono (by repeat (first | exact Gr.refl | exact Gr.left Gr.refl | exact Gr.nil | exact Gr.app (Gr.left Gr.refl) | refine Gr.cons ?_ | refine Gr.app ?_ | refine Gr.both ?_ ?_ | refine Gr.put (by repeat (first | exact List.mem_cons_self | apply List.mem_cons_of_mem | apply List.mem_append_right)) ?_))) (by omega) (by omega)) (Sp.p (by repeat (first | exact Sp.here | exact Sp.sn | exact Sp.s0 | exact Fr.here | apply Sp.s2 | apply Sp.sx | apply Fr.fc | apply Fr.al | apply Fr.fa | apply Sp.sc | apply Sp.al | apply Sp.sa))) ?_
            rintro q H2 ⟨vk2, vd2, A, B, rfl, hA, hB, rfl⟩
            have hk1 := hA.one_cell
            have hk2 := hB.one_cell
            refine WA.one (i := 13) (by kernel_rfl) ?_
            refine WO.h rfl Wt.none rfl (Hd.buildA (e := 34) (sz := 13) (zs := [.int .i64 0, .int .i64 0, .int .i64 0, .int .u32 0, .int .u32 0, .int .u64 0, .int .u64 0, .int .u32 0, .int .i64 0, .bool false, .int .i64 0, .slice none 0 0, .slice none 0 0]) (by kernel_rfl) (by kernel_rfl) (by kernel_rfl) rfl rfl (by rfl) (by kernel_rfl) fun b30 => ⟨_, rfl, ?_⟩)
            refine WA.one (i := 14) (by kernel_rfl) ?_
            refine WO.h rfl Wt.none rfl (Hd.appendRow (e := 34) (sz := 13) (bytes := 128) (zs := [.int .i64 0, .int .i64 0, .int .i64 0, .int .u32 0, .int .u32 0, .int .u64 0, .int .u64 0, .int .u32 0, .int .i64 0, .bool false, .int .i64 0, .slice none 0 0, .slice none 0 0]) (by kernel_rfl) (by kernel_rfl) rfl (by omega) rfl rfl (ho) (by repeat (first | exact Sp.here | exact Sp.sn | exact Sp.s0 | exact Fr.here | apply Sp.s2 | apply Sp.sx | apply Fr.fc | apply Fr.al | apply Fr.fa | apply Sp.sc | apply Sp.al | apply Sp.sa)) (by repeat (first | exact List.mem_cons_self | apply List.mem_cons_of_mem | apply List.mem_append_right)) (by rfl) (by repeat (first | exact fun _ h => absurd h List.not_mem_nil | refine List.forall_mem_cons.2 ⟨by first | rfl | assumption, ?_⟩)) (by simp only [maxLen]; omega) (by omega) fun v2 C2 h2 => ⟨_, rfl, ?_⟩)
            obtain ⟨zo, zc, rfl, _⟩ := h2.form
            refine WA.y (i := 15) (NoPanic.then (NoPanic.body)) rfl (by kernel_rfl) (by kernel_rfl) (by kernel_rfl) rfl (Yd.notNil rfl) ?_
            refine WA.y (i := 16) (NoPanic.then (NoPanic.body)) rfl (by kernel_rfl) (by kernel_rfl) (by kernel_rfl) rfl (Yd.fieldAddr (k := 1) (by kernel_rfl) rfl) ?_
            refine WA.one (i := 17) (by kernel_rfl) ?_
            refine WO.s rfl Wt.none (Hd.store1s (by kernel_rfl) rfl rfl (by rfl) (by repeat (first | exact Fr.here | apply Fr.fc | apply Fr.al | apply Fr.fa)) (by rfl) (by first | (simp only [List.set_cons_zero, List.set_cons_succ, Nat.zero_add, Nat.add_zero, Nat.reduceAdd]; rfl) | rfl) ⟨rfl, ?_⟩)
            refine WA.done (by kernel_rfl) ?_
            refine DN.then_normal ?_
            refine WC.seq ?_
            refine WC.region ?_
            refine WL.y rfl (Yd.assign rfl) ?_
            refine WL.nil ?_
            refine DN.then_normal ?_
            refine WC.ret ?_
            first | refine DN.fit (C := row p (.int .i64 W.n :: .slice zo (W.ls.length + 1) zc :: (ic W.cut ++ uc W.clk)) 72 :: (C2 ++ (D ++ (A ++ B)))) (by repeat (first | exact Sp.here | exact Sp.sn | exact Sp.s0 | exact Fr.here | apply Sp.s2 | apply Sp.sx | apply Fr.fc | apply Fr.al | apply Fr.fa | apply Sp.sc | apply Sp.al | apply Sp.sa)) ?_ | skip
            refine DN.ret1 Try.results20 rfl ?_
            try simp only [Bool.not_eq_true', Bool.not_eq_false'] at hg9
            first
              | (have hth : thereB W k = false := hg9
                 have e : copyB W k = false := by simp [copyB, hth]
                 exact ⟨by rw [e], by rw [copyW, e]; exact hW⟩)
              | (have e : copyB W k = false := by simp only [copyB, Bool.and_eq_false_iff, decide_eq_false_iff_not]; right; omega
                 exact ⟨by rw [e], by rw [copyW, e]; exact hW⟩)
              | (have e : copyB W (j : Int) = true := by simp only [copyB, hth, Bool.true_and, decide_eq_true_eq]; omega
                 refine ⟨by rw [e], ?_⟩
                 have e2 : copyW W (j : Int) = { W with ls := W.ls ++ [W.ls.getD j zeroL] } := by simp only [copyW, e, if_true, hat]
                 rw [e2]
                 exact ⟨_, C2, _, D ++ (A ++ B), rfl, by rw [List.length_append]; exact h2, hL.append (Lts.one' hA hB)⟩)
          · refine WO.c rfl Wt.none rfl (Ent.func Try.call32 rfl) (own_tells (W.ls.getD j zeroL) vk vd _ ((hA0.bs.mono hkv).mono (by repeat (first | exact Gr.refl | exact Gr.left Gr.refl | exact Gr.nil | exact Gr.app (Gr.left Gr.refl) | refine Gr.cons ?_ | refine Gr.app ?_ | refine Gr.both ?_ ?_ | refine Gr.put (by repeat (first | exact List.mem_cons_self | apply List.mem_cons_of_mem | apply List.mem_append_right)) ?_))) ((hB0.bs.mono hdv).mono (by repeat (first | exact Gr.refl | exact Gr.left Gr.refl | exact Gr.nil | exact Gr.app (Gr.left Gr.refl) | refine Gr.cons ?_ | refine Gr.app ?_ | refine Gr.both ?_ ?_ | refine Gr.put (by repeat (first | exact List.mem_cons_self | apply List.mem_cons_of_mem | apply List.mem_append_right)) ?_))) (by omega) (by omega)) (Sp.p (by repeat (first | exact Sp.here | exact Sp.sn | exact Sp.s0 | exact Fr.here | apply Sp.s2 | apply Sp.sx | apply Fr.fc | apply Fr.al | apply Fr.fa | apply Sp.sc | apply Sp.al | apply Sp.sa))) ?_
            rintro q H2 ⟨vk2, vd2, A, B, rfl, hA, hB, rfl⟩
            have hk1 := hA.one_cell
            have hk2 := hB.one_cell
            refine WA.two (i := 4) (j := 13) (by kernel_rfl) ?_ ?_
            · refine WO.h rfl Wt.none rfl (Hd.load1 (by kernel_rfl) rfl (by repeat (first | exact List.mem_cons_self | apply List.mem_cons_of_mem | apply List.mem_append_right)) (by rfl) ⟨_, rfl, ?_⟩)
              refine WA.one (i := 13) (by kernel_rfl) ?_
              refine WO.h rfl Wt.none rfl (Hd.buildA (e := 34) (sz := 13) (zs := [.int .i64 0, .int .i64 0, .int .i64 0, .int .u32 0, .int .u32 0, .int .u64 0, .int .u64 0, .int .u32 0, .int .i64 0, .bool false, .int .i64 0, .slice none 0 0, .slice none 0 0]) (by kernel_rfl) (by kernel_rfl) (by kernel_rfl) rfl rfl (by rfl) (by kernel_rfl) fun b30 => ⟨_, rfl, ?_⟩)
              refine WA.one (i := 14) (by kernel_rfl) ?_
              refine WO.h rfl Wt.none rfl (Hd.appendRow (e := 34) (sz := 13) (bytes := 128) (zs := [.int .i64 0, .int .i64 0, .int .i64 0, .int .u32 0, .int .u32 0, .int .u64 0, .int .u64 0, .int .u32 0, .int .i64 0, .bool false, .int .i64 0, .slice none 0 0, .slice none 0 0]) (by kernel_rfl) (by kernel_rfl) rfl (by omega) rfl rfl (ho) (by repeat (first | exact Sp.here | exact Sp.sn | exact Sp.s0 | exact Fr.here | apply Sp.s2 | apply Sp.sx | apply Fr.fc | apply Fr.al | apply Fr.fa | apply Sp.sc | apply Sp.al | apply Sp.sa)) (by repeat (first | exact List.mem_cons_self | apply List.mem_cons_of_mem | apply List.mem_append_right)) (by rfl) (by repeat (first | exact fun _ h => absurd h List.not_mem_nil | refine List.forall_mem_cons.2 ⟨by first | rfl | assumption, ?_⟩)) (by simp only [maxLen]; omega) (by omega) fun v2 C2 h2 => ⟨_, rfl, ?_⟩)
              obtain ⟨zo, zc, rfl, _⟩ := h2.form
              refine WA.y (i := 15) (NoPanic.then (NoPanic.body)) rfl (by kernel_rfl) (by kernel_rfl) (by kernel_rfl) rfl (Yd.notNil rfl) ?_
              refine WA.y (i := 16) (NoPanic.then (NoPanic.body)) rfl (by kernel_rfl) (by kernel_rfl) (by kernel_rfl) rfl (Yd.fieldAddr (k := 1) (by kernel_rfl) rfl) ?_
              refine WA.one (i := 17) (by kernel_rfl) ?_
              refine WO.s rfl Wt.none (Hd.store1s (by kernel_rfl) rfl rfl (by rfl) (by repeat (first | exact Fr.here | apply Fr.fc | apply Fr.al | apply Fr.fa)) (by rfl) (by first | (simp only [List.set_cons_zero, List.set_cons_succ, Nat.zero_add, Nat.add_zero, Nat.reduceAdd]; rfl) | rfl) ⟨rfl, ?_⟩)
              refine WA.done (by kernel_rfl) ?_
              refine DN.then_normal ?_
              refine WC.seq ?_
              refine WC.region ?_
              refine WL.y rfl (Yd.assign rfl) ?_
              refine WL.nil ?_
              refine DN.then_normal ?_
              refine WC.ret ?_
              first | refine DN.fit (C := row p (.int .i64 W.n :: .slice zo (W.ls.length + 1) zc :: (ic W.cut ++ uc W.clk)) 72 :: (C2 ++ (D ++ (A ++ B)))) (by repeat (first | exact Sp.here | exact Sp.sn | exact Sp.s0 | exact Fr.here | apply Sp.s2 | apply Sp.sx | apply Fr.fc | apply Fr.al | apply Fr.fa | apply Sp.sc | apply Sp.al | apply Sp.sa)) ?_ | skip
              refine DN.ret1 Try.results20 rfl ?_
              try simp only [Bool.not_eq_true', Bool.not_eq_false'] at hg9
              first
                | (have hth : thereB W k = false := hg9
                   have e : copyB W k = false := by simp [copyB, hth]
                   exact ⟨by rw [e], by rw [copyW, e]; exact hW⟩)
                | (have e : copyB W k = false := by simp only [copyB, Bool.and_eq_false_iff, decide_eq_false_iff_not]; right; omega
                   exact ⟨by rw [e], by rw [copyW, e]; exact hW⟩)
                | (have e : copyB W (j : Int) = true := by simp only [copyB, hth, Bool.true_and, decide_eq_true_eq]; omega
                   refine ⟨by rw [e], ?_⟩
                   have e2 : copyW W (j : Int) = { W with ls := W.ls ++ [W.ls.getD j zeroL] } := by simp only [copyW, e, if_true, hat]
                   rw [e2]
                   exact ⟨_, C2, _, D ++ (A ++ B), rfl, by rw [List.length_append]; exact h2, hL.append (Lts.one' hA hB)⟩)
            · refine WO.h rfl Wt.none rfl (Hd.buildA (e := 34) (sz := 13) (zs := [.int .i64 0, .int .i64 0, .int .i64 0, .int .u32 0, .int .u32 0, .int .u64 0, .int .u64 0, .int .u32 0, .int .i64 0, .bool false, .int .i64 0, .slice none 0 0, .slice none 0 0]) (by kernel_rfl) (by kernel_rfl) (by kernel_rfl) rfl rfl (by rfl) (by kernel_rfl) fun b30 => ⟨_, rfl, ?_⟩)
              refine WA.one (i := 4) (by kernel_rfl) ?_
              refine WO.h rfl Wt.none rfl (Hd.load1 (by kernel_rfl) rfl (by repeat (first | exact List.mem_cons_self | apply List.mem_cons_of_mem | apply List.mem_append_right)) (by rfl) ⟨_, rfl, ?_⟩)
              refine WA.one (i := 14) (by kernel_rfl) ?_
              refine WO.h rfl Wt.none rfl (Hd.appendRow (e := 34) (sz := 13) (bytes := 128) (zs := [.int .i64 0, .int .i64 0, .int .i64 0, .int .u32 0, .int .u32 0, .int .u64 0, .int .u64 0, .int .u32 0, .int .i64 0, .bool false, .int .i64 0, .slice none 0 0, .slice none 0 0]) (by kernel_rfl) (by kernel_rfl) rfl (by omega) rfl rfl (ho) (by repeat (first | exact Sp.here | exact Sp.sn | exact Sp.s0 | exact Fr.here | apply Sp.s2 | apply Sp.sx | apply Fr.fc | apply Fr.al | apply Fr.fa | apply Sp.sc | apply Sp.al | apply Sp.sa)) (by repeat (first | exact List.mem_cons_self | apply List.mem_cons_of_mem | apply List.mem_append_right)) (by rfl) (by repeat (first | exact fun _ h => absurd h List.not_mem_nil | refine List.forall_mem_cons.2 ⟨by first | rfl | assumption, ?_⟩)) (by simp only [maxLen]; omega) (by omega) fun v2 C2 h2 => ⟨_, rfl, ?_⟩)
              obtain ⟨zo, zc, rfl, _⟩ := h2.form
              refine WA.y (i := 15) (NoPanic.then (NoPanic.body)) rfl (by kernel_rfl) (by kernel_rfl) (by kernel_rfl) rfl (Yd.notNil rfl) ?_
              refine WA.y (i := 16) (NoPanic.then (NoPanic.body)) rfl (by kernel_rfl) (by kernel_rfl) (by kernel_rfl) rfl (Yd.fieldAddr (k := 1) (by kernel_rfl) rfl) ?_
              refine WA.one (i := 17) (by kernel_rfl) ?_
              refine WO.s rfl Wt.none (Hd.store1s (by kernel_rfl) rfl rfl (by rfl) (by repeat (first | exact Fr.here | apply Fr.fc | apply Fr.al | apply Fr.fa)) (by rfl) (by first | (simp only [List.set_cons_zero, List.set_cons_succ, Nat.zero_add, Nat.add_zero, Nat.reduceAdd]; rfl) | rfl) ⟨rfl, ?_⟩)
              refine WA.done (by kernel_rfl) ?_
              refine DN.then_normal ?_
              refine WC.seq ?_
              refine WC.region ?_
              refine WL.y rfl (Yd.assign rfl) ?_
              refine WL.nil ?_
              refine DN.then_normal ?_
              refine WC.ret ?_
              first | refine DN.fit (C := row p (.int .i64 W.n :: .slice zo (W.ls.length + 1) zc :: (ic W.cut ++ uc W.clk)) 72 :: (C2 ++ (D ++ (A ++ B)))) (by repeat (first | exact Sp.here | exact Sp.sn | exact Sp.s0 | exact Fr.here | apply Sp.s2 | apply Sp.sx | apply Fr.fc | apply Fr.al | apply Fr.fa | apply Sp.sc | apply Sp.al | apply Sp.sa)) ?_ | skip
              refine DN.ret1 Try.results20 rfl ?_
              try simp only [Bool.not_eq_true', Bool.not_eq_false'] at hg9
              first
                | (have hth : thereB W k = false := hg9
                   have e : copyB W k = false := by simp [copyB, hth]
                   exact ⟨by rw [e], by rw [copyW, e]; exact hW⟩)
                | (have e : copyB W k = false := by simp only [copyB, Bool.and_eq_false_iff, decide_eq_false_iff_not]; right; omega
                   exact ⟨by rw [e], by rw [copyW, e]; exact hW⟩)
                | (have e : copyB W (j : Int) = true := by simp only [copyB, hth, Bool.true_and, decide_eq_true_eq]; omega
                   refine ⟨by rw [e], ?_⟩
                   have e2 : copyW W (j : Int) = { W with ls := W.ls ++ [W.ls.getD j zeroL] } := by simp only [copyW, e, if_true, hat]
                   rw [e2]
                   exact ⟨_, C2, _, D ++ (A ++ B), rfl, by rw [List.length_append]; exact h2, hL.append (Lts.one' hA hB)⟩)

end Go.Proofs.Ytgpegfmonmdhoaa
