/-
  The walks of the dock: how bookings are compared.
-/
import Derived.Test.YtmdbmcicbambjaaDock4
import Derived.Test.YtmdbmcicbambjaaDockSort
set_option linter.unusedVariables false
set_option linter.unusedSimpArgs false
set_option maxHeartbeats 2000000
namespace Go.Proofs.Ytmdbmcicbambjaa
open Go.SL


/-- cmp.isNaN[int] -/
theorem isNaN_int (x : Int) (H : List Ck) : Reads Try.prog 36 [.int .i64 x] H (.bool false) := by
  refine Tells.enter Try.func36 rfl Try.ntmps36 rfl ?_
  intro w0 R
  refine WC.seq ?_
  refine WC.region ?_
  refine WL.y rfl (Yd.assign rfl) ?_
  refine WL.nil ?_
  refine DN.then_normal ?_
  refine WC.seq ?_
  refine WC.region ?_
  refine WL.y rfl (Yd.move rfl) ?_
  refine WL.y rfl (Yd.move rfl) ?_
  refine WL.y rfl (Yd.neq rfl rfl) ?_
  refine WL.y rfl (Yd.assign rfl) ?_
  refine WL.nil ?_
  refine DN.then_normal ?_
  refine WC.ret ?_
  refine DN.fit (C := H) (by repeat (first | exact Sp.here | exact Sp.sn | exact Sp.s0 | exact Fr.here | apply Sp.s2 | apply Sp.sx | apply Fr.fc | apply Fr.al | apply Fr.fa | apply Sp.sc | apply Sp.al | apply Sp.sa)) ?_
  refine DN.ret1 Try.results36 rfl ?_
  exact ⟨by simp, rfl⟩

/-- cmp.isNaN[uint32] -/
theorem isNaN_u32 (x : BitVec 32) (H : List Ck) : Reads Try.prog 37 [.int .u32 x.toNat] H (.bool false) := by
  refine Tells.enter Try.func37 rfl Try.ntmps37 rfl ?_
  intro w0 R
  refine WC.seq ?_
  refine WC.region ?_
  refine WL.y rfl (Yd.assign rfl) ?_
  refine WL.nil ?_
  refine DN.then_normal ?_
  refine WC.seq ?_
  refine WC.region ?_
  refine WL.y rfl (Yd.move rfl) ?_
  refine WL.y rfl (Yd.move rfl) ?_
  refine WL.y rfl (Yd.neq32 _ _ rfl rfl rfl rfl) ?_
  refine WL.y rfl (Yd.assign rfl) ?_
  refine WL.nil ?_
  refine DN.then_normal ?_
  refine WC.ret ?_
  refine DN.fit (C := H) (by repeat (first | exact Sp.here | exact Sp.sn | exact Sp.s0 | exact Fr.here | apply Sp.s2 | apply Sp.sx | apply Fr.fc | apply Fr.al | apply Fr.fa | apply Sp.sc | apply Sp.al | apply Sp.sa)) ?_
  refine DN.ret1 Try.results37 rfl ?_
  exact ⟨by simp, rfl⟩

/-- cmp.Compare[int] -/
theorem compare_int (x y : Int) (H : List Ck) : Reads Try.prog 31 [.int .i64 x, .int .i64 y] H (.int .i64 (cmpI x y)) := by
  refine Tells.enter Try.func31 rfl Try.ntmps31 rfl ?_
  intro w0 R
  refine WC.seq ?_
  refine WC.region ?_
  refine WL.y rfl (Yd.assign rfl) ?_
  refine WL.nil ?_
  refine DN.then_normal ?_
  refine WC.seq ?_
  refine WC.region ?_
  refine WL.y rfl (Yd.move rfl) ?_
  refine WL.r rfl (Ent.func Try.call36 rfl) (isNaN_int x _) ?_
  refine WL.renamed (t := 8) (v := .bool false) rfl (congrArg Value.bool (rfl)) ?_
  refine WL.y rfl (Yd.assign rfl) ?_
  refine WL.nil ?_
  refine DN.then_normal ?_
  refine WC.seq ?_
  refine WC.region ?_
  refine WL.y rfl (Yd.move rfl) ?_
  refine WL.r rfl (Ent.func Try.call36 rfl) (isNaN_int y _) ?_
  refine WL.renamed (t := 10) (v := .bool false) rfl (congrArg Value.bool (rfl)) ?_
  refine WL.y rfl (Yd.assign rfl) ?_
  refine WL.nil ?_
  refine DN.then_normal ?_
  refine WC.seq ?_
  refine WC.seq ?_
  refine WC.region ?_
  refine WL.y rfl (Yd.move rfl) ?_
  refine WL.nil ?_
  refine DN.then_normal ?_
  refine WC.no rfl ?_
  refine WC.skip ?_
  refine DN.then_normal ?_
  refine WC.seq ?_
  refine WC.seq ?_
  refine WC.region ?_
  refine WL.y rfl (Yd.move rfl) ?_
  refine WL.nil ?_
  refine DN.then_normal ?_
  refine WC.no rfl ?_
  refine WC.skip ?_
  refine DN.then_normal ?_
  refine WC.seq ?_
  refine WC.seq ?_
  refine WC.region ?_
  refine WL.y rfl (Yd.move rfl) ?_
  refine WL.y rfl (Yd.move rfl) ?_
  refine WL.y rfl (Yd.lss rfl rfl) ?_
  refine WL.nil ?_
  refine DN.then_normal ?_
  refine WC.ite rfl (fun h16 => ?_) (fun h16 => ?_)
  · refine WC.seq ?_
    refine WC.region ?_
    refine WL.y rfl (Yd.assign rfl) ?_
    refine WL.nil ?_
    refine DN.then_normal ?_
    refine WC.ret ?_
    refine DN.then_ret ?_
    refine DN.ret1 Try.results31 rfl ?_
    exact ⟨by simp [cmpI, *], rfl⟩
  · refine WC.skip ?_
    refine DN.then_normal ?_
    refine WC.seq ?_
    refine WC.seq ?_
    refine WC.region ?_
    refine WL.y rfl (Yd.move rfl) ?_
    refine WL.y rfl (Yd.move rfl) ?_
    refine WL.y rfl (Yd.gtr rfl rfl) ?_
    refine WL.nil ?_
    refine DN.then_normal ?_
    refine WC.ite rfl (fun h19 => ?_) (fun h19 => ?_)
    · refine WC.seq ?_
      refine WC.region ?_
      refine WL.y rfl (Yd.assign rfl) ?_
      refine WL.nil ?_
      refine DN.then_normal ?_
      refine WC.ret ?_
      refine DN.then_ret ?_
      refine DN.ret1 Try.results31 rfl ?_
      exact ⟨by simp [cmpI, *], rfl⟩
    · refine WC.skip ?_
      refine DN.then_normal ?_
      refine WC.seq ?_
      refine WC.region ?_
      refine WL.y rfl (Yd.assign rfl) ?_
      refine WL.nil ?_
      refine DN.then_normal ?_
      refine WC.ret ?_
      refine DN.ret1 Try.results31 rfl ?_
      exact ⟨by simp [cmpI, *], rfl⟩

/-- cmp.Compare[uint32] -/
theorem compare_u32 (x y : BitVec 32) (H : List Ck) : Reads Try.prog 32 [.int .u32 x.toNat, .int .u32 y.toNat] H (.int .i64 (cmpI x.toNat y.toNat)) := by
  refine Tells.enter Try.func32 rfl Try.ntmps32 rfl ?_
  intro w0 R
  refine WC.seq ?_
  refine WC.region ?_
  refine WL.y rfl (Yd.assign rfl) ?_
  refine WL.nil ?_
  refine DN.then_normal ?_
  refine WC.seq ?_
  refine WC.region ?_
  refine WL.y rfl (Yd.move rfl) ?_
  refine WL.r rfl (Ent.func Try.call37 rfl) (isNaN_u32 x _) ?_
  refine WL.renamed (t := 8) (v := .bool false) rfl (congrArg Value.bool (rfl)) ?_
  refine WL.y rfl (Yd.assign rfl) ?_
  refine WL.nil ?_
  refine DN.then_normal ?_
  refine WC.seq ?_
  refine WC.region ?_
  refine WL.y rfl (Yd.move rfl) ?_
  refine WL.r rfl (Ent.func Try.call37 rfl) (isNaN_u32 y _) ?_
  refine WL.renamed (t := 10) (v := .bool false) rfl (congrArg Value.bool (rfl)) ?_
  refine WL.y rfl (Yd.assign rfl) ?_
  refine WL.nil ?_
  refine DN.then_normal ?_
  refine WC.seq ?_
  refine WC.seq ?_
  refine WC.region ?_
  refine WL.y rfl (Yd.move rfl) ?_
  refine WL.nil ?_
  refine DN.then_normal ?_
  refine WC.no rfl ?_
  refine WC.skip ?_
  refine DN.then_normal ?_
  refine WC.seq ?_
  refine WC.seq ?_
  refine WC.region ?_
  refine WL.y rfl (Yd.move rfl) ?_
  refine WL.nil ?_
  refine DN.then_normal ?_
  refine WC.no rfl ?_
  refine WC.skip ?_
  refine DN.then_normal ?_
  refine WC.seq ?_
  refine WC.seq ?_
  refine WC.region ?_
  refine WL.y rfl (Yd.move rfl) ?_
  refine WL.y rfl (Yd.move rfl) ?_
  refine WL.y rfl (Yd.lss rfl rfl) ?_
  refine WL.nil ?_
  refine DN.then_normal ?_
  refine WC.ite rfl (fun h16 => ?_) (fun h16 => ?_)
  · refine WC.seq ?_
    refine WC.region ?_
    refine WL.y rfl (Yd.assign rfl) ?_
    refine WL.nil ?_
    refine DN.then_normal ?_
    refine WC.ret ?_
    refine DN.then_ret ?_
    refine DN.ret1 Try.results32 rfl ?_
    exact ⟨by simp [cmpI, *], rfl⟩
  · refine WC.skip ?_
    refine DN.then_normal ?_
    refine WC.seq ?_
    refine WC.seq ?_
    refine WC.region ?_
    refine WL.y rfl (Yd.move rfl) ?_
    refine WL.y rfl (Yd.move rfl) ?_
    refine WL.y rfl (Yd.gtr rfl rfl) ?_
    refine WL.nil ?_
    refine DN.then_normal ?_
    refine WC.ite rfl (fun h19 => ?_) (fun h19 => ?_)
    · refine WC.seq ?_
      refine WC.region ?_
      refine WL.y rfl (Yd.assign rfl) ?_
      refine WL.nil ?_
      refine DN.then_normal ?_
      refine WC.ret ?_
      refine DN.then_ret ?_
      refine DN.ret1 Try.results32 rfl ?_
      exact ⟨by simp [cmpI, *], rfl⟩
    · refine WC.skip ?_
      refine DN.then_normal ?_
      refine WC.seq ?_
      refine WC.region ?_
      refine WL.y rfl (Yd.assign rfl) ?_
      refine WL.nil ?_
      refine DN.then_normal ?_
      refine WC.ret ?_
      refine DN.ret1 Try.results32 rfl ?_
      exact ⟨by simp [cmpI, *], rfl⟩

/-- cmp.Or[int] -/
theorem or_reads (b : Nat) (x y : Int) (H : List Ck) (hm : row b [.int .i64 x, .int .i64 y] 3 ∈ H) : Reads Try.prog 30 [.slice (some ⟨b, 0, none⟩) 2 2] H (.int .i64 (orI x y)) := by
  refine Tells.enter Try.func30 rfl Try.ntmps30 rfl ?_
  intro w0 R
  have hr : Rs (.slice (some ⟨b, 0, none⟩) 2 2) 2 (ic [x, y]) H := .inr ⟨b, 0, 2, ic [x, y], 3, (0, 0), true, rfl, Nat.le_refl _, hm, rfl⟩
  refine WC.seq ?_
  refine WC.region ?_
  refine WL.y rfl (Yd.assign rfl) ?_
  refine WL.nil ?_
  refine DN.then_normal ?_
  refine WC.seq ?_
  refine WC.region ?_
  refine WL.y rfl (Yd.assign rfl) ?_
  refine WL.nil ?_
  refine DN.then_normal ?_
  refine WC.seq ?_
  refine WC.seq ?_
  refine WC.region ?_
  refine WL.y rfl (Yd.move rfl) ?_
  refine WL.y rfl (Yd.len (e := 3) (by kernel_rfl) rfl) ?_
  refine WL.y rfl (Yd.move rfl) ?_
  refine WL.nil ?_
  refine DN.then_normal ?_
  refine WC.block ?_
  refine WC.loopS (fun z : Nat => z ≤ 2 ∧ (0 < z → x = 0) ∧ (1 < z → y = 0)) (fun z : Nat => [(8, .int .i64 (z : Int))]) (fun z : Nat => H) (fun z : Nat => 2 - z) (0) (show 0 ≤ 2 ∧ (0 < 0 → x = 0) ∧ (1 < 0 → y = 0) from ⟨by omega, by omega, by omega⟩) (Sx.put rfl ((by repeat (first | exact Sx.refl | refine Sx.skip rfl ?_)))) (by repeat (first | exact Sp.here | exact Sp.sn | exact Sp.s0 | exact Fr.here | apply Sp.s2 | apply Sp.sx | apply Fr.fc | apply Fr.al | apply Fr.fa | apply Sp.sc | apply Sp.al | apply Sp.sa)) ?_
  rintro i hI
  replace hI : i ≤ 2 ∧ (0 < i → x = 0) ∧ (1 < i → y = 0) := hI
  obtain ⟨hi, hx, hy⟩ := hI
  change WC _ _ _ _ _ _ ([(8, .int .i64 (i : Int))] ++ _) (H)
  refine WC.seq ?_
  refine WC.region ?_
  refine WL.y rfl (Yd.lss rfl rfl) ?_
  refine WL.nil ?_
  refine DN.then_normal ?_
  refine WC.seq ?_
  refine WC.ite rfl (fun h9 => ?_) (fun h9 => ?_)
  · have hlt : i < (2 : Nat) := by omega
    refine WC.skip ?_
    refine DN.then_normal ?_
    refine WC.seq ?_
    refine WC.block ?_
    refine WC.seq ?_
    refine WC.region ?_
    refine WL.elem (e := 3) (by kernel_rfl) (by kernel_rfl) (by kernel_rfl) rfl rfl (rfl) (hr) (ic_getD (l := [x, y]) hlt) (hlt) rfl rfl ?_
    intro _
    refine WL.y rfl (Yd.assign rfl) ?_
    refine WL.nil ?_
    refine DN.then_normal ?_
    refine WC.seq ?_
    refine WC.region ?_
    refine WL.y rfl (Yd.move rfl) ?_
    refine WL.y rfl (Yd.move rfl) ?_
    refine WL.y rfl (Yd.neq rfl rfl) ?_
    refine WL.nil ?_
    refine DN.then_normal ?_
    refine WC.ite rfl (fun h14 => ?_) (fun h14 => ?_)
    · refine WC.seq ?_
      refine WC.region ?_
      refine WL.y rfl (Yd.move rfl) ?_
      refine WL.y rfl (Yd.assign rfl) ?_
      refine WL.nil ?_
      refine DN.then_normal ?_
      refine WC.ret ?_
      refine DN.block_ret ?_
      refine DN.then_ret ?_
      refine DN.then_ret ?_
      refine DN.block_ret ?_
      refine DN.then_ret ?_
      refine DN.ret1 Try.results30 rfl ?_
      have e : orI x y = [x, y].getD i 0 := by
        have : i = 0 ∨ i = 1 := by omega
        rcases this with rfl | rfl
        · have h : x ≠ 0 := by simpa [List.getD] using h14
          simp [orI, h]
        · simp [orI, hx (by omega)]
      exact ⟨by rw [e], rfl⟩
    · refine WC.skip ?_
      refine DN.block_normal ?_
      refine DN.then_normal ?_
      refine WC.region ?_
      refine WL.y rfl (Yd.add rfl rfl (by omega) (by omega)) ?_
      refine WL.y rfl (Yd.move rfl) ?_
      refine WL.nil ?_
      have h2 : (0 < i + 1 → x = 0) ∧ (1 < i + 1 → y = 0) := by
        have hc : i = 0 ∨ i = 1 := by omega
        rcases hc with rfl | rfl
        · exact ⟨fun _ => by simpa [List.getD] using h14, fun h => by omega⟩
        · exact ⟨fun _ => hx (by omega), fun _ => by simpa [List.getD] using h14⟩
      exact DN.againS (i + 1) (show (i + 1) ≤ 2 ∧ (0 < (i + 1) → x = 0) ∧ (1 < (i + 1) → y = 0) from ⟨by omega, h2.1, h2.2⟩) (show 2 - (i + 1) < 2 - i by omega) (Sx.put rfl ((by repeat (first | exact Sx.refl | refine Sx.skip rfl ?_)))) (by repeat (first | exact Sp.here | exact Sp.sn | exact Sp.s0 | exact Fr.here | apply Sp.s2 | apply Sp.sx | apply Fr.fc | apply Fr.al | apply Fr.fa | apply Sp.sc | apply Sp.al | apply Sp.sa))
  · obtain rfl : i = 2 := by omega
    refine WC.exit ?_
    refine DN.then_exit ?_
    refine DN.then_exit ?_
    refine DN.block_exit ?_
    refine DN.then_normal ?_
    refine WC.seq ?_
    refine WC.region ?_
    refine WL.y rfl (Yd.move rfl) ?_
    refine WL.y rfl (Yd.assign rfl) ?_
    refine WL.nil ?_
    refine DN.then_normal ?_
    refine WC.ret ?_
    refine DN.ret1 Try.results30 rfl ?_
    exact ⟨by simp [orI, hx (by omega), hy (by omega)], rfl⟩

/-- (*drayage/dock.Dock).Bookings$1 -/
theorem closure_tells (x y : Bk) : Tells Try.prog 29 [.agg (encB x).toArray, .agg (encB y).toArray] [] fun r H' => r = .int .i64 (cfB x y) := by
  refine Tells.enter Try.func29 rfl Try.ntmps29 rfl ?_
  intro w0 R
  refine WC.seq ?_
  refine WC.region ?_
  refine WL.h rfl (Hd.boxA rfl fun b2 => ⟨_, rfl, ?_⟩)
  refine WL.h rfl (Hd.boxA rfl fun b3 => ⟨_, rfl, ?_⟩)
  refine WL.y rfl (Yd.assign rfl) ?_
  refine WL.nil ?_
  refine DN.then_normal ?_
  refine WC.seq ?_
  refine WC.draw 13 (by kernel_rfl) rfl ?_
  refine WA.y (i := 0) (NoPanic.then (NoPanic.body)) rfl (by kernel_rfl) (by kernel_rfl) (by kernel_rfl) rfl (Yd.fieldAddr (k := 1) (by kernel_rfl) rfl) ?_
  refine WA.y (i := 2) (NoPanic.then (NoPanic.body)) rfl (by kernel_rfl) (by kernel_rfl) (by kernel_rfl) rfl (Yd.fieldAddr (k := 1) (by kernel_rfl) rfl) ?_
  refine WA.y (i := 5) (NoPanic.then (NoPanic.body)) rfl (by kernel_rfl) (by kernel_rfl) (by kernel_rfl) rfl (Yd.fieldAddr (k := 0) (by kernel_rfl) rfl) ?_
  refine WA.y (i := 7) (NoPanic.then (NoPanic.body)) rfl (by kernel_rfl) (by kernel_rfl) (by kernel_rfl) rfl (Yd.fieldAddr (k := 0) (by kernel_rfl) rfl) ?_
  refine WA.four (i1 := 1) (i2 := 3) (i3 := 6) (i4 := 8) (by kernel_rfl) ?_ ?_ ?_ ?_
  · refine WO.h rfl Wt.none rfl (Hd.load1 (by kernel_rfl) rfl (by repeat (first | exact List.mem_cons_self | apply List.mem_cons_of_mem | apply List.mem_append_right)) (by rfl) ⟨_, rfl, ?_⟩)
    refine WA.three (i := 3) (j := 6) (k := 8) (by kernel_rfl) ?_ ?_ ?_
    · refine WO.h rfl Wt.none rfl (Hd.load1 (by kernel_rfl) rfl (by repeat (first | exact List.mem_cons_self | apply List.mem_cons_of_mem | apply List.mem_append_right)) (by rfl) ⟨_, rfl, ?_⟩)
      refine WA.three (i := 4) (j := 6) (k := 8) (by kernel_rfl) ?_ ?_ ?_
      · refine WO.r rfl Wt.none rfl (Ent.func Try.call31 rfl) (compare_int _ _ _) ?_
        refine WA.two (i := 6) (j := 8) (by kernel_rfl) ?_ ?_
        · refine WO.h rfl Wt.none rfl (Hd.load1 (by kernel_rfl) rfl (by repeat (first | exact List.mem_cons_self | apply List.mem_cons_of_mem | apply List.mem_append_right)) (by rfl) ⟨_, rfl, ?_⟩)
          refine WA.one (i := 8) (by kernel_rfl) ?_
          refine WO.h rfl Wt.none rfl (Hd.load1 (by kernel_rfl) rfl (by repeat (first | exact List.mem_cons_self | apply List.mem_cons_of_mem | apply List.mem_append_right)) (by rfl) ⟨_, rfl, ?_⟩)
          refine WA.one (i := 9) (by kernel_rfl) ?_
          refine WO.r rfl Wt.none rfl (Ent.func Try.call32 rfl) (compare_u32 x.o y.o _) ?_
          refine WA.one (i := 10) (by kernel_rfl) ?_
          refine WO.h rfl Wt.none rfl (Hd.build2 (e := 3) (z := .int .i64 0) (by kernel_rfl) (by kernel_rfl) (by kernel_rfl) rfl rfl (by rfl) (by rfl) fun b15 => ⟨_, rfl, ?_⟩)
          refine WA.one (i := 11) (by kernel_rfl) ?_
          refine WO.r rfl Wt.none rfl (Ent.func Try.call30 rfl) (or_reads b15 _ _ _ List.mem_cons_self) ?_
          refine WA.y (i := 12) (NoPanic.then (NoPanic.body)) rfl (by kernel_rfl) (by kernel_rfl) (by kernel_rfl) rfl (Yd.assign rfl) ?_
          refine WA.done (by kernel_rfl) ?_
          refine DN.then_normal ?_
          refine WC.ret ?_
          refine DN.ret1 Try.results29 rfl ?_
          rfl
        · refine WO.h rfl Wt.none rfl (Hd.load1 (by kernel_rfl) rfl (by repeat (first | exact List.mem_cons_self | apply List.mem_cons_of_mem | apply List.mem_append_right)) (by rfl) ⟨_, rfl, ?_⟩)
          refine WA.one (i := 6) (by kernel_rfl) ?_
          refine WO.h rfl Wt.none rfl (Hd.load1 (by kernel_rfl) rfl (by repeat (first | exact List.mem_cons_self | apply List.mem_cons_of_mem | apply List.mem_append_right)) (by rfl) ⟨_, rfl, ?_⟩)
          refine WA.one (i := 9) (by kernel_rfl) ?_
          refine WO.r rfl Wt.none rfl (Ent.func Try.call32 rfl) (compare_u32 x.o y.o _) ?_
          refine WA.one (i := 10) (by kernel_rfl) ?_
          refine WO.h rfl Wt.none rfl (Hd.build2 (e := 3) (z := .int .i64 0) (by kernel_rfl) (by kernel_rfl) (by kernel_rfl) rfl rfl (by rfl) (by rfl) fun b15 => ⟨_, rfl, ?_⟩)
          refine WA.one (i := 11) (by kernel_rfl) ?_
          refine WO.r rfl Wt.none rfl (Ent.func Try.call30 rfl) (or_reads b15 _ _ _ List.mem_cons_self) ?_
          refine WA.y (i := 12) (NoPanic.then (NoPanic.body)) rfl (by kernel_rfl) (by kernel_rfl) (by kernel_rfl) rfl (Yd.assign rfl) ?_
          refine WA.done (by kernel_rfl) ?_
          refine DN.then_normal ?_
          refine WC.ret ?_
          refine DN.ret1 Try.results29 rfl ?_
          rfl
      · refine WO.h rfl Wt.none rfl (Hd.load1 (by kernel_rfl) rfl (by repeat (first | exact List.mem_cons_self | apply List.mem_cons_of_mem | apply List.mem_append_right)) (by rfl) ⟨_, rfl, ?_⟩)
        refine WA.two (i := 4) (j := 8) (by kernel_rfl) ?_ ?_
        · refine WO.r rfl Wt.none rfl (Ent.func Try.call31 rfl) (compare_int _ _ _) ?_
          refine WA.one (i := 8) (by kernel_rfl) ?_
          refine WO.h rfl Wt.none rfl (Hd.load1 (by kernel_rfl) rfl (by repeat (first | exact List.mem_cons_self | apply List.mem_cons_of_mem | apply List.mem_append_right)) (by rfl) ⟨_, rfl, ?_⟩)
          refine WA.one (i := 9) (by kernel_rfl) ?_
          refine WO.r rfl Wt.none rfl (Ent.func Try.call32 rfl) (compare_u32 x.o y.o _) ?_
          refine WA.one (i := 10) (by kernel_rfl) ?_
          refine WO.h rfl Wt.none rfl (Hd.build2 (e := 3) (z := .int .i64 0) (by kernel_rfl) (by kernel_rfl) (by kernel_rfl) rfl rfl (by rfl) (by rfl) fun b15 => ⟨_, rfl, ?_⟩)
          refine WA.one (i := 11) (by kernel_rfl) ?_
          refine WO.r rfl Wt.none rfl (Ent.func Try.call30 rfl) (or_reads b15 _ _ _ List.mem_cons_self) ?_
          refine WA.y (i := 12) (NoPanic.then (NoPanic.body)) rfl (by kernel_rfl) (by kernel_rfl) (by kernel_rfl) rfl (Yd.assign rfl) ?_
          refine WA.done (by kernel_rfl) ?_
          refine DN.then_normal ?_
          refine WC.ret ?_
          refine DN.ret1 Try.results29 rfl ?_
          rfl
        · refine WO.h rfl Wt.none rfl (Hd.load1 (by kernel_rfl) rfl (by repeat (first | exact List.mem_cons_self | apply List.mem_cons_of_mem | apply List.mem_append_right)) (by rfl) ⟨_, rfl, ?_⟩)
          refine WA.one (i := 4) (by kernel_rfl) ?_
          refine WO.r rfl Wt.none rfl (Ent.func Try.call31 rfl) (compare_int _ _ _) ?_
          refine WA.one (i := 9) (by kernel_rfl) ?_
          refine WO.r rfl Wt.none rfl (Ent.func Try.call32 rfl) (compare_u32 x.o y.o _) ?_
          refine WA.one (i := 10) (by kernel_rfl) ?_
          refine WO.h rfl Wt.none rfl (Hd.build2 (e := 3) (z := .int .i64 0) (by kernel_rfl) (by kernel_rfl) (by kernel_rfl) rfl rfl (by rfl) (by rfl) fun b15 => ⟨_, rfl, ?_⟩)
          refine WA.one (i := 11) (by kernel_rfl) ?_
          refine WO.r rfl Wt.none rfl (Ent.func Try.call30 rfl) (or_reads b15 _ _ _ List.mem_cons_self) ?_
          refine WA.y (i := 12) (NoPanic.then (NoPanic.body)) rfl (by kernel_rfl) (by kernel_rfl) (by kernel_rfl) rfl (Yd.assign rfl) ?_
          refine WA.done (by kernel_rfl) ?_
          refine DN.then_normal ?_
          refine WC.ret ?_
          refine DN.ret1 Try.results29 rfl ?_
          rfl
      · refine WO.h rfl Wt.none rfl (Hd.load1 (by kernel_rfl) rfl (by repeat (first | exact List.mem_cons_self | apply List.mem_cons_of_mem | apply List.mem_append_right)) (by rfl) ⟨_, rfl, ?_⟩)
        refine WA.two (i := 4) (j := 6) (by kernel_rfl) ?_ ?_
        · refine WO.r rfl Wt.none rfl (Ent.func Try.call31 rfl) (compare_int _ _ _) ?_
          refine WA.one (i := 6) (by kernel_rfl) ?_
          refine WO.h rfl Wt.none rfl (Hd.load1 (by kernel_rfl) rfl (by repeat (first | exact List.mem_cons_self | apply List.mem_cons_of_mem | apply List.mem_append_right)) (by rfl) ⟨_, rfl, ?_⟩)
          refine WA.one (i := 9) (by kernel_rfl) ?_
          refine WO.r rfl Wt.none rfl (Ent.func Try.call32 rfl) (compare_u32 x.o y.o _) ?_
          refine WA.one (i := 10) (by kernel_rfl) ?_
          refine WO.h rfl Wt.none rfl (Hd.build2 (e := 3) (z := .int .i64 0) (by kernel_rfl) (by kernel_rfl) (by kernel_rfl) rfl rfl (by rfl) (by rfl) fun b15 => ⟨_, rfl, ?_⟩)
          refine WA.one (i := 11) (by kernel_rfl) ?_
          refine WO.r rfl Wt.none rfl (Ent.func Try.call30 rfl) (or_reads b15 _ _ _ List.mem_cons_self) ?_
          refine WA.y (i := 12) (NoPanic.then (NoPanic.body)) rfl (by kernel_rfl) (by kernel_rfl) (by kernel_rfl) rfl (Yd.assign rfl) ?_
          refine WA.done (by kernel_rfl) ?_
          refine DN.then_normal ?_
          refine WC.ret ?_
          refine DN.ret1 Try.results29 rfl ?_
          rfl
        · refine WO.h rfl Wt.none rfl (Hd.load1 (by kernel_rfl) rfl (by repeat (first | exact List.mem_cons_self | apply List.mem_cons_of_mem | apply List.mem_append_right)) (by rfl) ⟨_, rfl, ?_⟩)
          refine WA.one (i := 4) (by kernel_rfl) ?_
          refine WO.r rfl Wt.none rfl (Ent.func Try.call31 rfl) (compare_int _ _ _) ?_
          refine WA.one (i := 9) (by kernel_rfl) ?_
          refine WO.r rfl Wt.none rfl (Ent.func Try.call32 rfl) (compare_u32 x.o y.o _) ?_
          refine WA.one (i := 10) (by kernel_rfl) ?_
          refine WO.h rfl Wt.none rfl (Hd.build2 (e := 3) (z := .int .i64 0) (by kernel_rfl) (by kernel_rfl) (by kernel_rfl) rfl rfl (by rfl) (by rfl) fun b15 => ⟨_, rfl, ?_⟩)
          refine WA.one (i := 11) (by kernel_rfl) ?_
          refine WO.r rfl Wt.none rfl (Ent.func Try.call30 rfl) (or_reads b15 _ _ _ List.mem_cons_self) ?_
          refine WA.y (i := 12) (NoPanic.then (NoPanic.body)) rfl (by kernel_rfl) (by kernel_rfl) (by kernel_rfl) rfl (Yd.assign rfl) ?_
          refine WA.done (by kernel_rfl) ?_
          refine DN.then_normal ?_
          refine WC.ret ?_
          refine DN.ret1 Try.results29 rfl ?_
          rfl
    · refine WO.h rfl Wt.none rfl (Hd.load1 (by kernel_rfl) rfl (by repeat (first | exact List.mem_cons_self | apply List.mem_cons_of_mem | apply List.mem_append_right)) (by rfl) ⟨_, rfl, ?_⟩)
      refine WA.two (i := 3) (j := 8) (by kernel_rfl) ?_ ?_
      · refine WO.h rfl Wt.none rfl (Hd.load1 (by kernel_rfl) rfl (by repeat (first | exact List.mem_cons_self | apply List.mem_cons_of_mem | apply List.mem_append_right)) (by rfl) ⟨_, rfl, ?_⟩)
        refine WA.two (i := 4) (j := 8) (by kernel_rfl) ?_ ?_
        · refine WO.r rfl Wt.none rfl (Ent.func Try.call31 rfl) (compare_int _ _ _) ?_
          refine WA.one (i := 8) (by kernel_rfl) ?_
          refine WO.h rfl Wt.none rfl (Hd.load1 (by kernel_rfl) rfl (by repeat (first | exact List.mem_cons_self | apply List.mem_cons_of_mem | apply List.mem_append_right)) (by rfl) ⟨_, rfl, ?_⟩)
          refine WA.one (i := 9) (by kernel_rfl) ?_
          refine WO.r rfl Wt.none rfl (Ent.func Try.call32 rfl) (compare_u32 x.o y.o _) ?_
          refine WA.one (i := 10) (by kernel_rfl) ?_
          refine WO.h rfl Wt.none rfl (Hd.build2 (e := 3) (z := .int .i64 0) (by kernel_rfl) (by kernel_rfl) (by kernel_rfl) rfl rfl (by rfl) (by rfl) fun b15 => ⟨_, rfl, ?_⟩)
          refine WA.one (i := 11) (by kernel_rfl) ?_
          refine WO.r rfl Wt.none rfl (Ent.func Try.call30 rfl) (or_reads b15 _ _ _ List.mem_cons_self) ?_
          refine WA.y (i := 12) (NoPanic.then (NoPanic.body)) rfl (by kernel_rfl) (by kernel_rfl) (by kernel_rfl) rfl (Yd.assign rfl) ?_
          refine WA.done (by kernel_rfl) ?_
          refine DN.then_normal ?_
          refine WC.ret ?_
          refine DN.ret1 Try.results29 rfl ?_
          rfl
        · refine WO.h rfl Wt.none rfl (Hd.load1 (by kernel_rfl) rfl (by repeat (first | exact List.mem_cons_self | apply List.mem_cons_of_mem | apply List.mem_append_right)) (by rfl) ⟨_, rfl, ?_⟩)
          refine WA.one (i := 4) (by kernel_rfl) ?_
          refine WO.r rfl Wt.none rfl (Ent.func Try.call31 rfl) (compare_int _ _ _) ?_
          refine WA.one (i := 9) (by kernel_rfl) ?_
          refine WO.r rfl Wt.none rfl (Ent.func Try.call32 rfl) (compare_u32 x.o y.o _) ?_
          refine WA.one (i := 10) (by kernel_rfl) ?_
          refine WO.h rfl Wt.none rfl (Hd.build2 (e := 3) (z := .int .i64 0) (by kernel_rfl) (by kernel_rfl) (by kernel_rfl) rfl rfl (by rfl) (by rfl) fun b15 => ⟨_, rfl, ?_⟩)
          refine WA.one (i := 11) (by kernel_rfl) ?_
          refine WO.r rfl Wt.none rfl (Ent.func Try.call30 rfl) (or_reads b15 _ _ _ List.mem_cons_self) ?_
          refine WA.y (i := 12) (NoPanic.then (NoPanic.body)) rfl (by kernel_rfl) (by kernel_rfl) (by kernel_rfl) rfl (Yd.assign rfl) ?_
          refine WA.done (by kernel_rfl) ?_
          refine DN.then_normal ?_
          refine WC.ret ?_
          refine DN.ret1 Try.results29 rfl ?_
          rfl
      · refine WO.h rfl Wt.none rfl (Hd.load1 (by kernel_rfl) rfl (by repeat (first | exact List.mem_cons_self | apply List.mem_cons_of_mem | apply List.mem_append_right)) (by rfl) ⟨_, rfl, ?_⟩)
        refine WA.one (i := 3) (by kernel_rfl) ?_
        refine WO.h rfl Wt.none rfl (Hd.load1 (by kernel_rfl) rfl (by repeat (first | exact List.mem_cons_self | apply List.mem_cons_of_mem | apply List.mem_append_right)) (by rfl) ⟨_, rfl, ?_⟩)
        refine WA.one (i := 4) (by kernel_rfl) ?_
        refine WO.r rfl Wt.none rfl (Ent.func Try.call31 rfl) (compare_int _ _ _) ?_
        refine WA.one (i := 9) (by kernel_rfl) ?_
        refine WO.r rfl Wt.none rfl (Ent.func Try.call32 rfl) (compare_u32 x.o y.o _) ?_
        refine WA.one (i := 10) (by kernel_rfl) ?_
        refine WO.h rfl Wt.none rfl (Hd.build2 (e := 3) (z := .int .i64 0) (by kernel_rfl) (by kernel_rfl) (by kernel_rfl) rfl rfl (by rfl) (by rfl) fun b15 => ⟨_, rfl, ?_⟩)
        refine WA.one (i := 11) (by kernel_rfl) ?_
        refine WO.r rfl Wt.none rfl (Ent.func Try.call30 rfl) (or_reads b15 _ _ _ List.mem_cons_self) ?_
        refine WA.y (i := 12) (NoPanic.then (NoPanic.body)) rfl (by kernel_rfl) (by kernel_rfl) (by kernel_rfl) rfl (Yd.assign rfl) ?_
        refine WA.done (by kernel_rfl) ?_
        refine DN.then_normal ?_
        refine WC.ret ?_
        refine DN.ret1 Try.results29 rfl ?_
        rfl
    · refine WO.h rfl Wt.none rfl (Hd.load1 (by kernel_rfl) rfl (by repeat (first | exact List.mem_cons_self | apply List.mem_cons_of_mem | apply List.mem_append_right)) (by rfl) ⟨_, rfl, ?_⟩)
      refine WA.two (i := 3) (j := 6) (by kernel_rfl) ?_ ?_
      · refine WO.h rfl Wt.none rfl (Hd.load1 (by kernel_rfl) rfl (by repeat (first | exact List.mem_cons_self | apply List.mem_cons_of_mem | apply List.mem_append_right)) (by rfl) ⟨_, rfl, ?_⟩)
        refine WA.two (i := 4) (j := 6) (by kernel_rfl) ?_ ?_
        · refine WO.r rfl Wt.none rfl (Ent.func Try.call31 rfl) (compare_int _ _ _) ?_
          refine WA.one (i := 6) (by kernel_rfl) ?_
          refine WO.h rfl Wt.none rfl (Hd.load1 (by kernel_rfl) rfl (by repeat (first | exact List.mem_cons_self | apply List.mem_cons_of_mem | apply List.mem_append_right)) (by rfl) ⟨_, rfl, ?_⟩)
          refine WA.one (i := 9) (by kernel_rfl) ?_
          refine WO.r rfl Wt.none rfl (Ent.func Try.call32 rfl) (compare_u32 x.o y.o _) ?_
          refine WA.one (i := 10) (by kernel_rfl) ?_
          refine WO.h rfl Wt.none rfl (Hd.build2 (e := 3) (z := .int .i64 0) (by kernel_rfl) (by kernel_rfl) (by kernel_rfl) rfl rfl (by rfl) (by rfl) fun b15 => ⟨_, rfl, ?_⟩)
          refine WA.one (i := 11) (by kernel_rfl) ?_
          refine WO.r rfl Wt.none rfl (Ent.func Try.call30 rfl) (or_reads b15 _ _ _ List.mem_cons_self) ?_
          refine WA.y (i := 12) (NoPanic.then (NoPanic.body)) rfl (by kernel_rfl) (by kernel_rfl) (by kernel_rfl) rfl (Yd.assign rfl) ?_
          refine WA.done (by kernel_rfl) ?_
          refine DN.then_normal ?_
          refine WC.ret ?_
          refine DN.ret1 Try.results29 rfl ?_
          rfl
        · refine WO.h rfl Wt.none rfl (Hd.load1 (by kernel_rfl) rfl (by repeat (first | exact List.mem_cons_self | apply List.mem_cons_of_mem | apply List.mem_append_right)) (by rfl) ⟨_, rfl, ?_⟩)
          refine WA.one (i := 4) (by kernel_rfl) ?_
          refine WO.r rfl Wt.none rfl (Ent.func Try.call31 rfl) (compare_int _ _ _) ?_
          refine WA.one (i := 9) (by kernel_rfl) ?_
          refine WO.r rfl Wt.none rfl (Ent.func Try.call32 rfl) (compare_u32 x.o y.o _) ?_
          refine WA.one (i := 10) (by kernel_rfl) ?_
          refine WO.h rfl Wt.none rfl (Hd.build2 (e := 3) (z := .int .i64 0) (by kernel_rfl) (by kernel_rfl) (by kernel_rfl) rfl rfl (by rfl) (by rfl) fun b15 => ⟨_, rfl, ?_⟩)
          refine WA.one (i := 11) (by kernel_rfl) ?_
          refine WO.r rfl Wt.none rfl (Ent.func Try.call30 rfl) (or_reads b15 _ _ _ List.mem_cons_self) ?_
          refine WA.y (i := 12) (NoPanic.then (NoPanic.body)) rfl (by kernel_rfl) (by kernel_rfl) (by kernel_rfl) rfl (Yd.assign rfl) ?_
          refine WA.done (by kernel_rfl) ?_
          refine DN.then_normal ?_
          refine WC.ret ?_
          refine DN.ret1 Try.results29 rfl ?_
          rfl
      · refine WO.h rfl Wt.none rfl (Hd.load1 (by kernel_rfl) rfl (by repeat (first | exact List.mem_cons_self | apply List.mem_cons_of_mem | apply List.mem_append_right)) (by rfl) ⟨_, rfl, ?_⟩)
        refine WA.one (i := 3) (by kernel_rfl) ?_
        refine WO.h rfl Wt.none rfl (Hd.load1 (by kernel_rfl) rfl (by repeat (first | exact List.mem_cons_self | apply List.mem_cons_of_mem | apply List.mem_append_right)) (by rfl) ⟨_, rfl, ?_⟩)
        refine WA.one (i := 4) (by kernel_rfl) ?_
        refine WO.r rfl Wt.none rfl (Ent.func Try.call31 rfl) (compare_int _ _ _) ?_
        refine WA.one (i := 9) (by kernel_rfl) ?_
        refine WO.r rfl Wt.none rfl (Ent.func Try.call32 rfl) (compare_u32 x.o y.o _) ?_
        refine WA.one (i := 10) (by kernel_rfl) ?_
        refine WO.h rfl Wt.none rfl (Hd.build2 (e := 3) (z := .int .i64 0) (by kernel_rfl) (by kernel_rfl) (by kernel_rfl) rfl rfl (by rfl) (by rfl) fun b15 => ⟨_, rfl, ?_⟩)
        refine WA.one (i := 11) (by kernel_rfl) ?_
        refine WO.r rfl Wt.none rfl (Ent.func Try.call30 rfl) (or_reads b15 _ _ _ List.mem_cons_self) ?_
        refine WA.y (i := 12) (NoPanic.then (NoPanic.body)) rfl (by kernel_rfl) (by kernel_rfl) (by kernel_rfl) rfl (Yd.assign rfl) ?_
        refine WA.done (by kernel_rfl) ?_
        refine DN.then_normal ?_
        refine WC.ret ?_
        refine DN.ret1 Try.results29 rfl ?_
        rfl
  · refine WO.h rfl Wt.none rfl (Hd.load1 (by kernel_rfl) rfl (by repeat (first | exact List.mem_cons_self | apply List.mem_cons_of_mem | apply List.mem_append_right)) (by rfl) ⟨_, rfl, ?_⟩)
    refine WA.three (i := 1) (j := 6) (k := 8) (by kernel_rfl) ?_ ?_ ?_
    · refine WO.h rfl Wt.none rfl (Hd.load1 (by kernel_rfl) rfl (by repeat (first | exact List.mem_cons_self | apply List.mem_cons_of_mem | apply List.mem_append_right)) (by rfl) ⟨_, rfl, ?_⟩)
      refine WA.three (i := 4) (j := 6) (k := 8) (by kernel_rfl) ?_ ?_ ?_
      · refine WO.r rfl Wt.none rfl (Ent.func Try.call31 rfl) (compare_int _ _ _) ?_
        refine WA.two (i := 6) (j := 8) (by kernel_rfl) ?_ ?_
        · refine WO.h rfl Wt.none rfl (Hd.load1 (by kernel_rfl) rfl (by repeat (first | exact List.mem_cons_self | apply List.mem_cons_of_mem | apply List.mem_append_right)) (by rfl) ⟨_, rfl, ?_⟩)
          refine WA.one (i := 8) (by kernel_rfl) ?_
          refine WO.h rfl Wt.none rfl (Hd.load1 (by kernel_rfl) rfl (by repeat (first | exact List.mem_cons_self | apply List.mem_cons_of_mem | apply List.mem_append_right)) (by rfl) ⟨_, rfl, ?_⟩)
          refine WA.one (i := 9) (by kernel_rfl) ?_
          refine WO.r rfl Wt.none rfl (Ent.func Try.call32 rfl) (compare_u32 x.o y.o _) ?_
          refine WA.one (i := 10) (by kernel_rfl) ?_
          refine WO.h rfl Wt.none rfl (Hd.build2 (e := 3) (z := .int .i64 0) (by kernel_rfl) (by kernel_rfl) (by kernel_rfl) rfl rfl (by rfl) (by rfl) fun b15 => ⟨_, rfl, ?_⟩)
          refine WA.one (i := 11) (by kernel_rfl) ?_
          refine WO.r rfl Wt.none rfl (Ent.func Try.call30 rfl) (or_reads b15 _ _ _ List.mem_cons_self) ?_
          refine WA.y (i := 12) (NoPanic.then (NoPanic.body)) rfl (by kernel_rfl) (by kernel_rfl) (by kernel_rfl) rfl (Yd.assign rfl) ?_
          refine WA.done (by kernel_rfl) ?_
          refine DN.then_normal ?_
          refine WC.ret ?_
          refine DN.ret1 Try.results29 rfl ?_
          rfl
        · refine WO.h rfl Wt.none rfl (Hd.load1 (by kernel_rfl) rfl (by repeat (first | exact List.mem_cons_self | apply List.mem_cons_of_mem | apply List.mem_append_right)) (by rfl) ⟨_, rfl, ?_⟩)
          refine WA.one (i := 6) (by kernel_rfl) ?_
          refine WO.h rfl Wt.none rfl (Hd.load1 (by kernel_rfl) rfl (by repeat (first | exact List.mem_cons_self | apply List.mem_cons_of_mem | apply List.mem_append_right)) (by rfl) ⟨_, rfl, ?_⟩)
          refine WA.one (i := 9) (by kernel_rfl) ?_
          refine WO.r rfl Wt.none rfl (Ent.func Try.call32 rfl) (compare_u32 x.o y.o _) ?_
          refine WA.one (i := 10) (by kernel_rfl) ?_
          refine WO.h rfl Wt.none rfl (Hd.build2 (e := 3) (z := .int .i64 0) (by kernel_rfl) (by kernel_rfl) (by kernel_rfl) rfl rfl (by rfl) (by rfl) fun b15 => ⟨_, rfl, ?_⟩)
          refine WA.one (i := 11) (by kernel_rfl) ?_
          refine WO.r rfl Wt.none rfl (Ent.func Try.call30 rfl) (or_reads b15 _ _ _ List.mem_cons_self) ?_
          refine WA.y (i := 12) (NoPanic.then (NoPanic.body)) rfl (by kernel_rfl) (by kernel_rfl) (by kernel_rfl) rfl (Yd.assign rfl) ?_
          refine WA.done (by kernel_rfl) ?_
          refine DN.then_normal ?_
          refine WC.ret ?_
          refine DN.ret1 Try.results29 rfl ?_
          rfl
      · refine WO.h rfl Wt.none rfl (Hd.load1 (by kernel_rfl) rfl (by repeat (first | exact List.mem_cons_self | apply List.mem_cons_of_mem | apply List.mem_append_right)) (by rfl) ⟨_, rfl, ?_⟩)
        refine WA.two (i := 4) (j := 8) (by kernel_rfl) ?_ ?_
        · refine WO.r rfl Wt.none rfl (Ent.func Try.call31 rfl) (compare_int _ _ _) ?_
          refine WA.one (i := 8) (by kernel_rfl) ?_
          refine WO.h rfl Wt.none rfl (Hd.load1 (by kernel_rfl) rfl (by repeat (first | exact List.mem_cons_self | apply List.mem_cons_of_mem | apply List.mem_append_right)) (by rfl) ⟨_, rfl, ?_⟩)
          refine WA.one (i := 9) (by kernel_rfl) ?_
          refine WO.r rfl Wt.none rfl (Ent.func Try.call32 rfl) (compare_u32 x.o y.o _) ?_
          refine WA.one (i := 10) (by kernel_rfl) ?_
          refine WO.h rfl Wt.none rfl (Hd.build2 (e := 3) (z := .int .i64 0) (by kernel_rfl) (by kernel_rfl) (by kernel_rfl) rfl rfl (by rfl) (by rfl) fun b15 => ⟨_, rfl, ?_⟩)
          refine WA.one (i := 11) (by kernel_rfl) ?_
          refine WO.r rfl Wt.none rfl (Ent.func Try.call30 rfl) (or_reads b15 _ _ _ List.mem_cons_self) ?_
          refine WA.y (i := 12) (NoPanic.then (NoPanic.body)) rfl (by kernel_rfl) (by kernel_rfl) (by kernel_rfl) rfl (Yd.assign rfl) ?_
          refine WA.done (by kernel_rfl) ?_
          refine DN.then_normal ?_
          refine WC.ret ?_
          refine DN.ret1 Try.results29 rfl ?_
          rfl
        · refine WO.h rfl Wt.none rfl (Hd.load1 (by kernel_rfl) rfl (by repeat (first | exact List.mem_cons_self | apply List.mem_cons_of_mem | apply List.mem_append_right)) (by rfl) ⟨_, rfl, ?_⟩)
          refine WA.one (i := 4) (by kernel_rfl) ?_
          refine WO.r rfl Wt.none rfl (Ent.func Try.call31 rfl) (compare_int _ _ _) ?_
          refine WA.one (i := 9) (by kernel_rfl) ?_
          refine WO.r rfl Wt.none rfl (Ent.func Try.call32 rfl) (compare_u32 x.o y.o _) ?_
          refine WA.one (i := 10) (by kernel_rfl) ?_
          refine WO.h rfl Wt.none rfl (Hd.build2 (e := 3) (z := .int .i64 0) (by kernel_rfl) (by kernel_rfl) (by kernel_rfl) rfl rfl (by rfl) (by rfl) fun b15 => ⟨_, rfl, ?_⟩)
          refine WA.one (i := 11) (by kernel_rfl) ?_
          refine WO.r rfl Wt.none rfl (Ent.func Try.call30 rfl) (or_reads b15 _ _ _ List.mem_cons_self) ?_
          refine WA.y (i := 12) (NoPanic.then (NoPanic.body)) rfl (by kernel_rfl) (by kernel_rfl) (by kernel_rfl) rfl (Yd.assign rfl) ?_
          refine WA.done (by kernel_rfl) ?_
          refine DN.then_normal ?_
          refine WC.ret ?_
          refine DN.ret1 Try.results29 rfl ?_
          rfl
      · refine WO.h rfl Wt.none rfl (Hd.load1 (by kernel_rfl) rfl (by repeat (first | exact List.mem_cons_self | apply List.mem_cons_of_mem | apply List.mem_append_right)) (by rfl) ⟨_, rfl, ?_⟩)
        refine WA.two (i := 4) (j := 6) (by kernel_rfl) ?_ ?_
        · refine WO.r rfl Wt.none rfl (Ent.func Try.call31 rfl) (compare_int _ _ _) ?_
          refine WA.one (i := 6) (by kernel_rfl) ?_
          refine WO.h rfl Wt.none rfl (Hd.load1 (by kernel_rfl) rfl (by repeat (first | exact List.mem_cons_self | apply List.mem_cons_of_mem | apply List.mem_append_right)) (by rfl) ⟨_, rfl, ?_⟩)
          refine WA.one (i := 9) (by kernel_rfl) ?_
          refine WO.r rfl Wt.none rfl (Ent.func Try.call32 rfl) (compare_u32 x.o y.o _) ?_
          refine WA.one (i := 10) (by kernel_rfl) ?_
          refine WO.h rfl Wt.none rfl (Hd.build2 (e := 3) (z := .int .i64 0) (by kernel_rfl) (by kernel_rfl) (by kernel_rfl) rfl rfl (by rfl) (by rfl) fun b15 => ⟨_, rfl, ?_⟩)
          refine WA.one (i := 11) (by kernel_rfl) ?_
          refine WO.r rfl Wt.none rfl (Ent.func Try.call30 rfl) (or_reads b15 _ _ _ List.mem_cons_self) ?_
          refine WA.y (i := 12) (NoPanic.then (NoPanic.body)) rfl (by kernel_rfl) (by kernel_rfl) (by kernel_rfl) rfl (Yd.assign rfl) ?_
          refine WA.done (by kernel_rfl) ?_
          refine DN.then_normal ?_
          refine WC.ret ?_
          refine DN.ret1 Try.results29 rfl ?_
          rfl
        · refine WO.h rfl Wt.none rfl (Hd.load1 (by kernel_rfl) rfl (by repeat (first | exact List.mem_cons_self | apply List.mem_cons_of_mem | apply List.mem_append_right)) (by rfl) ⟨_, rfl, ?_⟩)
          refine WA.one (i := 4) (by kernel_rfl) ?_
          refine WO.r rfl Wt.none rfl (Ent.func Try.call31 rfl) (compare_int _ _ _) ?_
          refine WA.one (i := 9) (by kernel_rfl) ?_
          refine WO.r rfl Wt.none rfl (Ent.func Try.call32 rfl) (compare_u32 x.o y.o _) ?_
          refine WA.one (i := 10) (by kernel_rfl) ?_
          refine WO.h rfl Wt.none rfl (Hd.build2 (e := 3) (z := .int .i64 0) (by kernel_rfl) (by kernel_rfl) (by kernel_rfl) rfl rfl (by rfl) (by rfl) fun b15 => ⟨_, rfl, ?_⟩)
          refine WA.one (i := 11) (by kernel_rfl) ?_
          refine WO.r rfl Wt.none rfl (Ent.func Try.call30 rfl) (or_reads b15 _ _ _ List.mem_cons_self) ?_
          refine WA.y (i := 12) (NoPanic.then (NoPanic.body)) rfl (by kernel_rfl) (by kernel_rfl) (by kernel_rfl) rfl (Yd.assign rfl) ?_
          refine WA.done (by kernel_rfl) ?_
          refine DN.then_normal ?_
          refine WC.ret ?_
          refine DN.ret1 Try.results29 rfl ?_
          rfl
    · refine WO.h rfl Wt.none rfl (Hd.load1 (by kernel_rfl) rfl (by repeat (first | exact List.mem_cons_self | apply List.mem_cons_of_mem | apply List.mem_append_right)) (by rfl) ⟨_, rfl, ?_⟩)
      refine WA.two (i := 1) (j := 8) (by kernel_rfl) ?_ ?_
      · refine WO.h rfl Wt.none rfl (Hd.load1 (by kernel_rfl) rfl (by repeat (first | exact List.mem_cons_self | apply List.mem_cons_of_mem | apply List.mem_append_right)) (by rfl) ⟨_, rfl, ?_⟩)
        refine WA.two (i := 4) (j := 8) (by kernel_rfl) ?_ ?_
        · refine WO.r rfl Wt.none rfl (Ent.func Try.call31 rfl) (compare_int _ _ _) ?_
          refine WA.one (i := 8) (by kernel_rfl) ?_
          refine WO.h rfl Wt.none rfl (Hd.load1 (by kernel_rfl) rfl (by repeat (first | exact List.mem_cons_self | apply List.mem_cons_of_mem | apply List.mem_append_right)) (by rfl) ⟨_, rfl, ?_⟩)
          refine WA.one (i := 9) (by kernel_rfl) ?_
          refine WO.r rfl Wt.none rfl (Ent.func Try.call32 rfl) (compare_u32 x.o y.o _) ?_
          refine WA.one (i := 10) (by kernel_rfl) ?_
          refine WO.h rfl Wt.none rfl (Hd.build2 (e := 3) (z := .int .i64 0) (by kernel_rfl) (by kernel_rfl) (by kernel_rfl) rfl rfl (by rfl) (by rfl) fun b15 => ⟨_, rfl, ?_⟩)
          refine WA.one (i := 11) (by kernel_rfl) ?_
          refine WO.r rfl Wt.none rfl (Ent.func Try.call30 rfl) (or_reads b15 _ _ _ List.mem_cons_self) ?_
          refine WA.y (i := 12) (NoPanic.then (NoPanic.body)) rfl (by kernel_rfl) (by kernel_rfl) (by kernel_rfl) rfl (Yd.assign rfl) ?_
          refine WA.done (by kernel_rfl) ?_
          refine DN.then_normal ?_
          refine WC.ret ?_
          refine DN.ret1 Try.results29 rfl ?_
          rfl
        · refine WO.h rfl Wt.none rfl (Hd.load1 (by kernel_rfl) rfl (by repeat (first | exact List.mem_cons_self | apply List.mem_cons_of_mem | apply List.mem_append_right)) (by rfl) ⟨_, rfl, ?_⟩)
          refine WA.one (i := 4) (by kernel_rfl) ?_
          refine WO.r rfl Wt.none rfl (Ent.func Try.call31 rfl) (compare_int _ _ _) ?_
          refine WA.one (i := 9) (by kernel_rfl) ?_
          refine WO.r rfl Wt.none rfl (Ent.func Try.call32 rfl) (compare_u32 x.o y.o _) ?_
          refine WA.one (i := 10) (by kernel_rfl) ?_
          refine WO.h rfl Wt.none rfl (Hd.build2 (e := 3) (z := .int .i64 0) (by kernel_rfl) (by kernel_rfl) (by kernel_rfl) rfl rfl (by rfl) (by rfl) fun b15 => ⟨_, rfl, ?_⟩)
          refine WA.one (i := 11) (by kernel_rfl) ?_
          refine WO.r rfl Wt.none rfl (Ent.func Try.call30 rfl) (or_reads b15 _ _ _ List.mem_cons_self) ?_
          refine WA.y (i := 12) (NoPanic.then (NoPanic.body)) rfl (by kernel_rfl) (by kernel_rfl) (by kernel_rfl) rfl (Yd.assign rfl) ?_
          refine WA.done (by kernel_rfl) ?_
          refine DN.then_normal ?_
          refine WC.ret ?_
          refine DN.ret1 Try.results29 rfl ?_
          rfl
      · refine WO.h rfl Wt.none rfl (Hd.load1 (by kernel_rfl) rfl (by repeat (first | exact List.mem_cons_self | apply List.mem_cons_of_mem | apply List.mem_append_right)) (by rfl) ⟨_, rfl, ?_⟩)
        refine WA.one (i := 1) (by kernel_rfl) ?_
        refine WO.h rfl Wt.none rfl (Hd.load1 (by kernel_rfl) rfl (by repeat (first | exact List.mem_cons_self | apply List.mem_cons_of_mem | apply List.mem_append_right)) (by rfl) ⟨_, rfl, ?_⟩)
        refine WA.one (i := 4) (by kernel_rfl) ?_
        refine WO.r rfl Wt.none rfl (Ent.func Try.call31 rfl) (compare_int _ _ _) ?_
        refine WA.one (i := 9) (by kernel_rfl) ?_
        refine WO.r rfl Wt.none rfl (Ent.func Try.call32 rfl) (compare_u32 x.o y.o _) ?_
        refine WA.one (i := 10) (by kernel_rfl) ?_
        refine WO.h rfl Wt.none rfl (Hd.build2 (e := 3) (z := .int .i64 0) (by kernel_rfl) (by kernel_rfl) (by kernel_rfl) rfl rfl (by rfl) (by rfl) fun b15 => ⟨_, rfl, ?_⟩)
        refine WA.one (i := 11) (by kernel_rfl) ?_
        refine WO.r rfl Wt.none rfl (Ent.func Try.call30 rfl) (or_reads b15 _ _ _ List.mem_cons_self) ?_
        refine WA.y (i := 12) (NoPanic.then (NoPanic.body)) rfl (by kernel_rfl) (by kernel_rfl) (by kernel_rfl) rfl (Yd.assign rfl) ?_
        refine WA.done (by kernel_rfl) ?_
        refine DN.then_normal ?_
        refine WC.ret ?_
        refine DN.ret1 Try.results29 rfl ?_
        rfl
    · refine WO.h rfl Wt.none rfl (Hd.load1 (by kernel_rfl) rfl (by repeat (first | exact List.mem_cons_self | apply List.mem_cons_of_mem | apply List.mem_append_right)) (by rfl) ⟨_, rfl, ?_⟩)
      refine WA.two (i := 1) (j := 6) (by kernel_rfl) ?_ ?_
      · refine WO.h rfl Wt.none rfl (Hd.load1 (by kernel_rfl) rfl (by repeat (first | exact List.mem_cons_self | apply List.mem_cons_of_mem | apply List.mem_append_right)) (by rfl) ⟨_, rfl, ?_⟩)
        refine WA.two (i := 4) (j := 6) (by kernel_rfl) ?_ ?_
        · refine WO.r rfl Wt.none rfl (Ent.func Try.call31 rfl) (compare_int _ _ _) ?_
          refine WA.one (i := 6) (by kernel_rfl) ?_
          refine WO.h rfl Wt.none rfl (Hd.load1 (by kernel_rfl) rfl (by repeat (first | exact List.mem_cons_self | apply List.mem_cons_of_mem | apply List.mem_append_right)) (by rfl) ⟨_, rfl, ?_⟩)
          refine WA.one (i := 9) (by kernel_rfl) ?_
          refine WO.r rfl Wt.none rfl (Ent.func Try.call32 rfl) (compare_u32 x.o y.o _) ?_
          refine WA.one (i := 10) (by kernel_rfl) ?_
          refine WO.h rfl Wt.none rfl (Hd.build2 (e := 3) (z := .int .i64 0) (by kernel_rfl) (by kernel_rfl) (by kernel_rfl) rfl rfl (by rfl) (by rfl) fun b15 => ⟨_, rfl, ?_⟩)
          refine WA.one (i := 11) (by kernel_rfl) ?_
          refine WO.r rfl Wt.none rfl (Ent.func Try.call30 rfl) (or_reads b15 _ _ _ List.mem_cons_self) ?_
          refine WA.y (i := 12) (NoPanic.then (NoPanic.body)) rfl (by kernel_rfl) (by kernel_rfl) (by kernel_rfl) rfl (Yd.assign rfl) ?_
          refine WA.done (by kernel_rfl) ?_
          refine DN.then_normal ?_
          refine WC.ret ?_
          refine DN.ret1 Try.results29 rfl ?_
          rfl
        · refine WO.h rfl Wt.none rfl (Hd.load1 (by kernel_rfl) rfl (by repeat (first | exact List.mem_cons_self | apply List.mem_cons_of_mem | apply List.mem_append_right)) (by rfl) ⟨_, rfl, ?_⟩)
          refine WA.one (i := 4) (by kernel_rfl) ?_
          refine WO.r rfl Wt.none rfl (Ent.func Try.call31 rfl) (compare_int _ _ _) ?_
          refine WA.one (i := 9) (by kernel_rfl) ?_
          refine WO.r rfl Wt.none rfl (Ent.func Try.call32 rfl) (compare_u32 x.o y.o _) ?_
          refine WA.one (i := 10) (by kernel_rfl) ?_
          refine WO.h rfl Wt.none rfl (Hd.build2 (e := 3) (z := .int .i64 0) (by kernel_rfl) (by kernel_rfl) (by kernel_rfl) rfl rfl (by rfl) (by rfl) fun b15 => ⟨_, rfl, ?_⟩)
          refine WA.one (i := 11) (by kernel_rfl) ?_
          refine WO.r rfl Wt.none rfl (Ent.func Try.call30 rfl) (or_reads b15 _ _ _ List.mem_cons_self) ?_
          refine WA.y (i := 12) (NoPanic.then (NoPanic.body)) rfl (by kernel_rfl) (by kernel_rfl) (by kernel_rfl) rfl (Yd.assign rfl) ?_
          refine WA.done (by kernel_rfl) ?_
          refine DN.then_normal ?_
          refine WC.ret ?_
          refine DN.ret1 Try.results29 rfl ?_
          rfl
      · refine WO.h rfl Wt.none rfl (Hd.load1 (by kernel_rfl) rfl (by repeat (first | exact List.mem_cons_self | apply List.mem_cons_of_mem | apply List.mem_append_right)) (by rfl) ⟨_, rfl, ?_⟩)
        refine WA.one (i := 1) (by kernel_rfl) ?_
        refine WO.h rfl Wt.none rfl (Hd.load1 (by kernel_rfl) rfl (by repeat (first | exact List.mem_cons_self | apply List.mem_cons_of_mem | apply List.mem_append_right)) (by rfl) ⟨_, rfl, ?_⟩)
        refine WA.one (i := 4) (by kernel_rfl) ?_
        refine WO.r rfl Wt.none rfl (Ent.func Try.call31 rfl) (compare_int _ _ _) ?_
        refine WA.one (i := 9) (by kernel_rfl) ?_
        refine WO.r rfl Wt.none rfl (Ent.func Try.call32 rfl) (compare_u32 x.o y.o _) ?_
        refine WA.one (i := 10) (by kernel_rfl) ?_
        refine WO.h rfl Wt.none rfl (Hd.build2 (e := 3) (z := .int .i64 0) (by kernel_rfl) (by kernel_rfl) (by kernel_rfl) rfl rfl (by rfl) (by rfl) fun b15 => ⟨_, rfl, ?_⟩)
        refine WA.one (i := 11) (by kernel_rfl) ?_
        refine WO.r rfl Wt.none rfl (Ent.func Try.call30 rfl) (or_reads b15 _ _ _ List.mem_cons_self) ?_
        refine WA.y (i := 12) (NoPanic.then (NoPanic.body)) rfl (by kernel_rfl) (by kernel_rfl) (by kernel_rfl) rfl (Yd.assign rfl) ?_
        refine WA.done (by kernel_rfl) ?_
        refine DN.then_normal ?_
        refine WC.ret ?_
        refine DN.ret1 Try.results29 rfl ?_
        rfl
  · refine WO.h rfl Wt.none rfl (Hd.load1 (by kernel_rfl) rfl (by repeat (first | exact List.mem_cons_self | apply List.mem_cons_of_mem | apply List.mem_append_right)) (by rfl) ⟨_, rfl, ?_⟩)
    refine WA.three (i := 1) (j := 3) (k := 8) (by kernel_rfl) ?_ ?_ ?_
    · refine WO.h rfl Wt.none rfl (Hd.load1 (by kernel_rfl) rfl (by repeat (first | exact List.mem_cons_self | apply List.mem_cons_of_mem | apply List.mem_append_right)) (by rfl) ⟨_, rfl, ?_⟩)
      refine WA.two (i := 3) (j := 8) (by kernel_rfl) ?_ ?_
      · refine WO.h rfl Wt.none rfl (Hd.load1 (by kernel_rfl) rfl (by repeat (first | exact List.mem_cons_self | apply List.mem_cons_of_mem | apply List.mem_append_right)) (by rfl) ⟨_, rfl, ?_⟩)
        refine WA.two (i := 4) (j := 8) (by kernel_rfl) ?_ ?_
        · refine WO.r rfl Wt.none rfl (Ent.func Try.call31 rfl) (compare_int _ _ _) ?_
          refine WA.one (i := 8) (by kernel_rfl) ?_
          refine WO.h rfl Wt.none rfl (Hd.load1 (by kernel_rfl) rfl (by repeat (first | exact List.mem_cons_self | apply List.mem_cons_of_mem | apply List.mem_append_right)) (by rfl) ⟨_, rfl, ?_⟩)
          refine WA.one (i := 9) (by kernel_rfl) ?_
          refine WO.r rfl Wt.none rfl (Ent.func Try.call32 rfl) (compare_u32 x.o y.o _) ?_
          refine WA.one (i := 10) (by kernel_rfl) ?_
          refine WO.h rfl Wt.none rfl (Hd.build2 (e := 3) (z := .int .i64 0) (by kernel_rfl) (by kernel_rfl) (by kernel_rfl) rfl rfl (by rfl) (by rfl) fun b15 => ⟨_, rfl, ?_⟩)
          refine WA.one (i := 11) (by kernel_rfl) ?_
          refine WO.r rfl Wt.none rfl (Ent.func Try.call30 rfl) (or_reads b15 _ _ _ List.mem_cons_self) ?_
          refine WA.y (i := 12) (NoPanic.then (NoPanic.body)) rfl (by kernel_rfl) (by kernel_rfl) (by kernel_rfl) rfl (Yd.assign rfl) ?_
          refine WA.done (by kernel_rfl) ?_
          refine DN.then_normal ?_
          refine WC.ret ?_
          refine DN.ret1 Try.results29 rfl ?_
          rfl
        · refine WO.h rfl Wt.none rfl (Hd.load1 (by kernel_rfl) rfl (by repeat (first | exact List.mem_cons_self | apply List.mem_cons_of_mem | apply List.mem_append_right)) (by rfl) ⟨_, rfl, ?_⟩)
          refine WA.one (i := 4) (by kernel_rfl) ?_
          refine WO.r rfl Wt.none rfl (Ent.func Try.call31 rfl) (compare_int _ _ _) ?_
          refine WA.one (i := 9) (by kernel_rfl) ?_
          refine WO.r rfl Wt.none rfl (Ent.func Try.call32 rfl) (compare_u32 x.o y.o _) ?_
          refine WA.one (i := 10) (by kernel_rfl) ?_
          refine WO.h rfl Wt.none rfl (Hd.build2 (e := 3) (z := .int .i64 0) (by kernel_rfl) (by kernel_rfl) (by kernel_rfl) rfl rfl (by rfl) (by rfl) fun b15 => ⟨_, rfl, ?_⟩)
          refine WA.one (i := 11) (by kernel_rfl) ?_
          refine WO.r rfl Wt.none rfl (Ent.func Try.call30 rfl) (or_reads b15 _ _ _ List.mem_cons_self) ?_
          refine WA.y (i := 12) (NoPanic.then (NoPanic.body)) rfl (by kernel_rfl) (by kernel_rfl) (by kernel_rfl) rfl (Yd.assign rfl) ?_
          refine WA.done (by kernel_rfl) ?_
          refine DN.then_normal ?_
          refine WC.ret ?_
          refine DN.ret1 Try.results29 rfl ?_
          rfl
      · refine WO.h rfl Wt.none rfl (Hd.load1 (by kernel_rfl) rfl (by repeat (first | exact List.mem_cons_self | apply List.mem_cons_of_mem | apply List.mem_append_right)) (by rfl) ⟨_, rfl, ?_⟩)
        refine WA.one (i := 3) (by kernel_rfl) ?_
        refine WO.h rfl Wt.none rfl (Hd.load1 (by kernel_rfl) rfl (by repeat (first | exact List.mem_cons_self | apply List.mem_cons_of_mem | apply List.mem_append_right)) (by rfl) ⟨_, rfl, ?_⟩)
        refine WA.one (i := 4) (by kernel_rfl) ?_
        refine WO.r rfl Wt.none rfl (Ent.func Try.call31 rfl) (compare_int _ _ _) ?_
        refine WA.one (i := 9) (by kernel_rfl) ?_
        refine WO.r rfl Wt.none rfl (Ent.func Try.call32 rfl) (compare_u32 x.o y.o _) ?_
        refine WA.one (i := 10) (by kernel_rfl) ?_
        refine WO.h rfl Wt.none rfl (Hd.build2 (e := 3) (z := .int .i64 0) (by kernel_rfl) (by kernel_rfl) (by kernel_rfl) rfl rfl (by rfl) (by rfl) fun b15 => ⟨_, rfl, ?_⟩)
        refine WA.one (i := 11) (by kernel_rfl) ?_
        refine WO.r rfl Wt.none rfl (Ent.func Try.call30 rfl) (or_reads b15 _ _ _ List.mem_cons_self) ?_
        refine WA.y (i := 12) (NoPanic.then (NoPanic.body)) rfl (by kernel_rfl) (by kernel_rfl) (by kernel_rfl) rfl (Yd.assign rfl) ?_
        refine WA.done (by kernel_rfl) ?_
        refine DN.then_normal ?_
        refine WC.ret ?_
        refine DN.ret1 Try.results29 rfl ?_
        rfl
    · refine WO.h rfl Wt.none rfl (Hd.load1 (by kernel_rfl) rfl (by repeat (first | exact List.mem_cons_self | apply List.mem_cons_of_mem | apply List.mem_append_right)) (by rfl) ⟨_, rfl, ?_⟩)
      refine WA.two (i := 1) (j := 8) (by kernel_rfl) ?_ ?_
      · refine WO.h rfl Wt.none rfl (Hd.load1 (by kernel_rfl) rfl (by repeat (first | exact List.mem_cons_self | apply List.mem_cons_of_mem | apply List.mem_append_right)) (by rfl) ⟨_, rfl, ?_⟩)
        refine WA.two (i := 4) (j := 8) (by kernel_rfl) ?_ ?_
        · refine WO.r rfl Wt.none rfl (Ent.func Try.call31 rfl) (compare_int _ _ _) ?_
          refine WA.one (i := 8) (by kernel_rfl) ?_
          refine WO.h rfl Wt.none rfl (Hd.load1 (by kernel_rfl) rfl (by repeat (first | exact List.mem_cons_self | apply List.mem_cons_of_mem | apply List.mem_append_right)) (by rfl) ⟨_, rfl, ?_⟩)
          refine WA.one (i := 9) (by kernel_rfl) ?_
          refine WO.r rfl Wt.none rfl (Ent.func Try.call32 rfl) (compare_u32 x.o y.o _) ?_
          refine WA.one (i := 10) (by kernel_rfl) ?_
          refine WO.h rfl Wt.none rfl (Hd.build2 (e := 3) (z := .int .i64 0) (by kernel_rfl) (by kernel_rfl) (by kernel_rfl) rfl rfl (by rfl) (by rfl) fun b15 => ⟨_, rfl, ?_⟩)
          refine WA.one (i := 11) (by kernel_rfl) ?_
          refine WO.r rfl Wt.none rfl (Ent.func Try.call30 rfl) (or_reads b15 _ _ _ List.mem_cons_self) ?_
          refine WA.y (i := 12) (NoPanic.then (NoPanic.body)) rfl (by kernel_rfl) (by kernel_rfl) (by kernel_rfl) rfl (Yd.assign rfl) ?_
          refine WA.done (by kernel_rfl) ?_
          refine DN.then_normal ?_
          refine WC.ret ?_
          refine DN.ret1 Try.results29 rfl ?_
          rfl
        · refine WO.h rfl Wt.none rfl (Hd.load1 (by kernel_rfl) rfl (by repeat (first | exact List.mem_cons_self | apply List.mem_cons_of_mem | apply List.mem_append_right)) (by rfl) ⟨_, rfl, ?_⟩)
          refine WA.one (i := 4) (by kernel_rfl) ?_
          refine WO.r rfl Wt.none rfl (Ent.func Try.call31 rfl) (compare_int _ _ _) ?_
          refine WA.one (i := 9) (by kernel_rfl) ?_
          refine WO.r rfl Wt.none rfl (Ent.func Try.call32 rfl) (compare_u32 x.o y.o _) ?_
          refine WA.one (i := 10) (by kernel_rfl) ?_
          refine WO.h rfl Wt.none rfl (Hd.build2 (e := 3) (z := .int .i64 0) (by kernel_rfl) (by kernel_rfl) (by kernel_rfl) rfl rfl (by rfl) (by rfl) fun b15 => ⟨_, rfl, ?_⟩)
          refine WA.one (i := 11) (by kernel_rfl) ?_
          refine WO.r rfl Wt.none rfl (Ent.func Try.call30 rfl) (or_reads b15 _ _ _ List.mem_cons_self) ?_
          refine WA.y (i := 12) (NoPanic.then (NoPanic.body)) rfl (by kernel_rfl) (by kernel_rfl) (by kernel_rfl) rfl (Yd.assign rfl) ?_
          refine WA.done (by kernel_rfl) ?_
          refine DN.then_normal ?_
          refine WC.ret ?_
          refine DN.ret1 Try.results29 rfl ?_
          rfl
      · refine WO.h rfl Wt.none rfl (Hd.load1 (by kernel_rfl) rfl (by repeat (first | exact List.mem_cons_self | apply List.mem_cons_of_mem | apply List.mem_append_right)) (by rfl) ⟨_, rfl, ?_⟩)
        refine WA.one (i := 1) (by kernel_rfl) ?_
        refine WO.h rfl Wt.none rfl (Hd.load1 (by kernel_rfl) rfl (by repeat (first | exact List.mem_cons_self | apply List.mem_cons_of_mem | apply List.mem_append_right)) (by rfl) ⟨_, rfl, ?_⟩)
        refine WA.one (i := 4) (by kernel_rfl) ?_
        refine WO.r rfl Wt.none rfl (Ent.func Try.call31 rfl) (compare_int _ _ _) ?_
        refine WA.one (i := 9) (by kernel_rfl) ?_
        refine WO.r rfl Wt.none rfl (Ent.func Try.call32 rfl) (compare_u32 x.o y.o _) ?_
        refine WA.one (i := 10) (by kernel_rfl) ?_
        refine WO.h rfl Wt.none rfl (Hd.build2 (e := 3) (z := .int .i64 0) (by kernel_rfl) (by kernel_rfl) (by kernel_rfl) rfl rfl (by rfl) (by rfl) fun b15 => ⟨_, rfl, ?_⟩)
        refine WA.one (i := 11) (by kernel_rfl) ?_
        refine WO.r rfl Wt.none rfl (Ent.func Try.call30 rfl) (or_reads b15 _ _ _ List.mem_cons_self) ?_
        refine WA.y (i := 12) (NoPanic.then (NoPanic.body)) rfl (by kernel_rfl) (by kernel_rfl) (by kernel_rfl) rfl (Yd.assign rfl) ?_
        refine WA.done (by kernel_rfl) ?_
        refine DN.then_normal ?_
        refine WC.ret ?_
        refine DN.ret1 Try.results29 rfl ?_
        rfl
    · refine WO.h rfl Wt.none rfl (Hd.load1 (by kernel_rfl) rfl (by repeat (first | exact List.mem_cons_self | apply List.mem_cons_of_mem | apply List.mem_append_right)) (by rfl) ⟨_, rfl, ?_⟩)
      refine WA.two (i := 1) (j := 3) (by kernel_rfl) ?_ ?_
      · refine WO.h rfl Wt.none rfl (Hd.load1 (by kernel_rfl) rfl (by repeat (first | exact List.mem_cons_self | apply List.mem_cons_of_mem | apply List.mem_append_right)) (by rfl) ⟨_, rfl, ?_⟩)
        refine WA.one (i := 3) (by kernel_rfl) ?_
        refine WO.h rfl Wt.none rfl (Hd.load1 (by kernel_rfl) rfl (by repeat (first | exact List.mem_cons_self | apply List.mem_cons_of_mem | apply List.mem_append_right)) (by rfl) ⟨_, rfl, ?_⟩)
        refine WA.one (i := 4) (by kernel_rfl) ?_
        refine WO.r rfl Wt.none rfl (Ent.func Try.call31 rfl) (compare_int _ _ _) ?_
        refine WA.one (i := 9) (by kernel_rfl) ?_
        refine WO.r rfl Wt.none rfl (Ent.func Try.call32 rfl) (compare_u32 x.o y.o _) ?_
        refine WA.one (i := 10) (by kernel_rfl) ?_
        refine WO.h rfl Wt.none rfl (Hd.build2 (e := 3) (z := .int .i64 0) (by kernel_rfl) (by kernel_rfl) (by kernel_rfl) rfl rfl (by rfl) (by rfl) fun b15 => ⟨_, rfl, ?_⟩)
        refine WA.one (i := 11) (by kernel_rfl) ?_
        refine WO.r rfl Wt.none rfl (Ent.func Try.call30 rfl) (or_reads b15 _ _ _ List.mem_cons_self) ?_
        refine WA.y (i := 12) (NoPanic.then (NoPanic.body)) rfl (by kernel_rfl) (by kernel_rfl) (by kernel_rfl) rfl (Yd.assign rfl) ?_
        refine WA.done (by kernel_rfl) ?_
        refine DN.then_normal ?_
        refine WC.ret ?_
        refine DN.ret1 Try.results29 rfl ?_
        rfl
      · refine WO.h rfl Wt.none rfl (Hd.load1 (by kernel_rfl) rfl (by repeat (first | exact List.mem_cons_self | apply List.mem_cons_of_mem | apply List.mem_append_right)) (by rfl) ⟨_, rfl, ?_⟩)
        refine WA.one (i := 1) (by kernel_rfl) ?_
        refine WO.h rfl Wt.none rfl (Hd.load1 (by kernel_rfl) rfl (by repeat (first | exact List.mem_cons_self | apply List.mem_cons_of_mem | apply List.mem_append_right)) (by rfl) ⟨_, rfl, ?_⟩)
        refine WA.one (i := 4) (by kernel_rfl) ?_
        refine WO.r rfl Wt.none rfl (Ent.func Try.call31 rfl) (compare_int _ _ _) ?_
        refine WA.one (i := 9) (by kernel_rfl) ?_
        refine WO.r rfl Wt.none rfl (Ent.func Try.call32 rfl) (compare_u32 x.o y.o _) ?_
        refine WA.one (i := 10) (by kernel_rfl) ?_
        refine WO.h rfl Wt.none rfl (Hd.build2 (e := 3) (z := .int .i64 0) (by kernel_rfl) (by kernel_rfl) (by kernel_rfl) rfl rfl (by rfl) (by rfl) fun b15 => ⟨_, rfl, ?_⟩)
        refine WA.one (i := 11) (by kernel_rfl) ?_
        refine WO.r rfl Wt.none rfl (Ent.func Try.call30 rfl) (or_reads b15 _ _ _ List.mem_cons_self) ?_
        refine WA.y (i := 12) (NoPanic.then (NoPanic.body)) rfl (by kernel_rfl) (by kernel_rfl) (by kernel_rfl) rfl (Yd.assign rfl) ?_
        refine WA.done (by kernel_rfl) ?_
        refine DN.then_normal ?_
        refine WC.ret ?_
        refine DN.ret1 Try.results29 rfl ?_
        rfl
  · refine WO.h rfl Wt.none rfl (Hd.load1 (by kernel_rfl) rfl (by repeat (first | exact List.mem_cons_self | apply List.mem_cons_of_mem | apply List.mem_append_right)) (by rfl) ⟨_, rfl, ?_⟩)
    refine WA.three (i := 1) (j := 3) (k := 6) (by kernel_rfl) ?_ ?_ ?_
    · refine WO.h rfl Wt.none rfl (Hd.load1 (by kernel_rfl) rfl (by repeat (first | exact List.mem_cons_self | apply List.mem_cons_of_mem | apply List.mem_append_right)) (by rfl) ⟨_, rfl, ?_⟩)
      refine WA.two (i := 3) (j := 6) (by kernel_rfl) ?_ ?_
      · refine WO.h rfl Wt.none rfl (Hd.load1 (by kernel_rfl) rfl (by repeat (first | exact List.mem_cons_self | apply List.mem_cons_of_mem | apply List.mem_append_right)) (by rfl) ⟨_, rfl, ?_⟩)
        refine WA.two (i := 4) (j := 6) (by kernel_rfl) ?_ ?_
        · refine WO.r rfl Wt.none rfl (Ent.func Try.call31 rfl) (compare_int _ _ _) ?_
          refine WA.one (i := 6) (by kernel_rfl) ?_
          refine WO.h rfl Wt.none rfl (Hd.load1 (by kernel_rfl) rfl (by repeat (first | exact List.mem_cons_self | apply List.mem_cons_of_mem | apply List.mem_append_right)) (by rfl) ⟨_, rfl, ?_⟩)
          refine WA.one (i := 9) (by kernel_rfl) ?_
          refine WO.r rfl Wt.none rfl (Ent.func Try.call32 rfl) (compare_u32 x.o y.o _) ?_
          refine WA.one (i := 10) (by kernel_rfl) ?_
          refine WO.h rfl Wt.none rfl (Hd.build2 (e := 3) (z := .int .i64 0) (by kernel_rfl) (by kernel_rfl) (by kernel_rfl) rfl rfl (by rfl) (by rfl) fun b15 => ⟨_, rfl, ?_⟩)
          refine WA.one (i := 11) (by kernel_rfl) ?_
          refine WO.r rfl Wt.none rfl (Ent.func Try.call30 rfl) (or_reads b15 _ _ _ List.mem_cons_self) ?_
          refine WA.y (i := 12) (NoPanic.then (NoPanic.body)) rfl (by kernel_rfl) (by kernel_rfl) (by kernel_rfl) rfl (Yd.assign rfl) ?_
          refine WA.done (by kernel_rfl) ?_
          refine DN.then_normal ?_
          refine WC.ret ?_
          refine DN.ret1 Try.results29 rfl ?_
          rfl
        · refine WO.h rfl Wt.none rfl (Hd.load1 (by kernel_rfl) rfl (by repeat (first | exact List.mem_cons_self | apply List.mem_cons_of_mem | apply List.mem_append_right)) (by rfl) ⟨_, rfl, ?_⟩)
          refine WA.one (i := 4) (by kernel_rfl) ?_
          refine WO.r rfl Wt.none rfl (Ent.func Try.call31 rfl) (compare_int _ _ _) ?_
          refine WA.one (i := 9) (by kernel_rfl) ?_
          refine WO.r rfl Wt.none rfl (Ent.func Try.call32 rfl) (compare_u32 x.o y.o _) ?_
          refine WA.one (i := 10) (by kernel_rfl) ?_
          refine WO.h rfl Wt.none rfl (Hd.build2 (e := 3) (z := .int .i64 0) (by kernel_rfl) (by kernel_rfl) (by kernel_rfl) rfl rfl (by rfl) (by rfl) fun b15 => ⟨_, rfl, ?_⟩)
          refine WA.one (i := 11) (by kernel_rfl) ?_
          refine WO.r rfl Wt.none rfl (Ent.func Try.call30 rfl) (or_reads b15 _ _ _ List.mem_cons_self) ?_
          refine WA.y (i := 12) (NoPanic.then (NoPanic.body)) rfl (by kernel_rfl) (by kernel_rfl) (by kernel_rfl) rfl (Yd.assign rfl) ?_
          refine WA.done (by kernel_rfl) ?_
          refine DN.then_normal ?_
          refine WC.ret ?_
          refine DN.ret1 Try.results29 rfl ?_
          rfl
      · refine WO.h rfl Wt.none rfl (Hd.load1 (by kernel_rfl) rfl (by repeat (first | exact List.mem_cons_self | apply List.mem_cons_of_mem | apply List.mem_append_right)) (by rfl) ⟨_, rfl, ?_⟩)
        refine WA.one (i := 3) (by kernel_rfl) ?_
        refine WO.h rfl Wt.none rfl (Hd.load1 (by kernel_rfl) rfl (by repeat (first | exact List.mem_cons_self | apply List.mem_cons_of_mem | apply List.mem_append_right)) (by rfl) ⟨_, rfl, ?_⟩)
        refine WA.one (i := 4) (by kernel_rfl) ?_
        refine WO.r rfl Wt.none rfl (Ent.func Try.call31 rfl) (compare_int _ _ _) ?_
        refine WA.one (i := 9) (by kernel_rfl) ?_
        refine WO.r rfl Wt.none rfl (Ent.func Try.call32 rfl) (compare_u32 x.o y.o _) ?_
        refine WA.one (i := 10) (by kernel_rfl) ?_
        refine WO.h rfl Wt.none rfl (Hd.build2 (e := 3) (z := .int .i64 0) (by kernel_rfl) (by kernel_rfl) (by kernel_rfl) rfl rfl (by rfl) (by rfl) fun b15 => ⟨_, rfl, ?_⟩)
        refine WA.one (i := 11) (by kernel_rfl) ?_
        refine WO.r rfl Wt.none rfl (Ent.func Try.call30 rfl) (or_reads b15 _ _ _ List.mem_cons_self) ?_
        refine WA.y (i := 12) (NoPanic.then (NoPanic.body)) rfl (by kernel_rfl) (by kernel_rfl) (by kernel_rfl) rfl (Yd.assign rfl) ?_
        refine WA.done (by kernel_rfl) ?_
        refine DN.then_normal ?_
        refine WC.ret ?_
        refine DN.ret1 Try.results29 rfl ?_
        rfl
    · refine WO.h rfl Wt.none rfl (Hd.load1 (by kernel_rfl) rfl (by repeat (first | exact List.mem_cons_self | apply List.mem_cons_of_mem | apply List.mem_append_right)) (by rfl) ⟨_, rfl, ?_⟩)
      refine WA.two (i := 1) (j := 6) (by kernel_rfl) ?_ ?_
      · refine WO.h rfl Wt.none rfl (Hd.load1 (by kernel_rfl) rfl (by repeat (first | exact List.mem_cons_self | apply List.mem_cons_of_mem | apply List.mem_append_right)) (by rfl) ⟨_, rfl, ?_⟩)
        refine WA.two (i := 4) (j := 6) (by kernel_rfl) ?_ ?_
        · refine WO.r rfl Wt.none rfl (Ent.func Try.call31 rfl) (compare_int _ _ _) ?_
          refine WA.one (i := 6) (by kernel_rfl) ?_
          refine WO.h rfl Wt.none rfl (Hd.load1 (by kernel_rfl) rfl (by repeat (first | exact List.mem_cons_self | apply List.mem_cons_of_mem | apply List.mem_append_right)) (by rfl) ⟨_, rfl, ?_⟩)
          refine WA.one (i := 9) (by kernel_rfl) ?_
          refine WO.r rfl Wt.none rfl (Ent.func Try.call32 rfl) (compare_u32 x.o y.o _) ?_
          refine WA.one (i := 10) (by kernel_rfl) ?_
          refine WO.h rfl Wt.none rfl (Hd.build2 (e := 3) (z := .int .i64 0) (by kernel_rfl) (by kernel_rfl) (by kernel_rfl) rfl rfl (by rfl) (by rfl) fun b15 => ⟨_, rfl, ?_⟩)
          refine WA.one (i := 11) (by kernel_rfl) ?_
          refine WO.r rfl Wt.none rfl (Ent.func Try.call30 rfl) (or_reads b15 _ _ _ List.mem_cons_self) ?_
          refine WA.y (i := 12) (NoPanic.then (NoPanic.body)) rfl (by kernel_rfl) (by kernel_rfl) (by kernel_rfl) rfl (Yd.assign rfl) ?_
          refine WA.done (by kernel_rfl) ?_
          refine DN.then_normal ?_
          refine WC.ret ?_
          refine DN.ret1 Try.results29 rfl ?_
          rfl
        · refine WO.h rfl Wt.none rfl (Hd.load1 (by kernel_rfl) rfl (by repeat (first | exact List.mem_cons_self | apply List.mem_cons_of_mem | apply List.mem_append_right)) (by rfl) ⟨_, rfl, ?_⟩)
          refine WA.one (i := 4) (by kernel_rfl) ?_
          refine WO.r rfl Wt.none rfl (Ent.func Try.call31 rfl) (compare_int _ _ _) ?_
          refine WA.one (i := 9) (by kernel_rfl) ?_
          refine WO.r rfl Wt.none rfl (Ent.func Try.call32 rfl) (compare_u32 x.o y.o _) ?_
          refine WA.one (i := 10) (by kernel_rfl) ?_
          refine WO.h rfl Wt.none rfl (Hd.build2 (e := 3) (z := .int .i64 0) (by kernel_rfl) (by kernel_rfl) (by kernel_rfl) rfl rfl (by rfl) (by rfl) fun b15 => ⟨_, rfl, ?_⟩)
          refine WA.one (i := 11) (by kernel_rfl) ?_
          refine WO.r rfl Wt.none rfl (Ent.func Try.call30 rfl) (or_reads b15 _ _ _ List.mem_cons_self) ?_
          refine WA.y (i := 12) (NoPanic.then (NoPanic.body)) rfl (by kernel_rfl) (by kernel_rfl) (by kernel_rfl) rfl (Yd.assign rfl) ?_
          refine WA.done (by kernel_rfl) ?_
          refine DN.then_normal ?_
          refine WC.ret ?_
          refine DN.ret1 Try.results29 rfl ?_
          rfl
      · refine WO.h rfl Wt.none rfl (Hd.load1 (by kernel_rfl) rfl (by repeat (first | exact List.mem_cons_self | apply List.mem_cons_of_mem | apply List.mem_append_right)) (by rfl) ⟨_, rfl, ?_⟩)
        refine WA.one (i := 1) (by kernel_rfl) ?_
        refine WO.h rfl Wt.none rfl (Hd.load1 (by kernel_rfl) rfl (by repeat (first | exact List.mem_cons_self | apply List.mem_cons_of_mem | apply List.mem_append_right)) (by rfl) ⟨_, rfl, ?_⟩)
        refine WA.one (i := 4) (by kernel_rfl) ?_
        refine WO.r rfl Wt.none rfl (Ent.func Try.call31 rfl) (compare_int _ _ _) ?_
        refine WA.one (i := 9) (by kernel_rfl) ?_
        refine WO.r rfl Wt.none rfl (Ent.func Try.call32 rfl) (compare_u32 x.o y.o _) ?_
        refine WA.one (i := 10) (by kernel_rfl) ?_
        refine WO.h rfl Wt.none rfl (Hd.build2 (e := 3) (z := .int .i64 0) (by kernel_rfl) (by kernel_rfl) (by kernel_rfl) rfl rfl (by rfl) (by rfl) fun b15 => ⟨_, rfl, ?_⟩)
        refine WA.one (i := 11) (by kernel_rfl) ?_
        refine WO.r rfl Wt.none rfl (Ent.func Try.call30 rfl) (or_reads b15 _ _ _ List.mem_cons_self) ?_
        refine WA.y (i := 12) (NoPanic.then (NoPanic.body)) rfl (by kernel_rfl) (by kernel_rfl) (by kernel_rfl) rfl (Yd.assign rfl) ?_
        refine WA.done (by kernel_rfl) ?_
        refine DN.then_normal ?_
        refine WC.ret ?_
        refine DN.ret1 Try.results29 rfl ?_
        rfl
    · refine WO.h rfl Wt.none rfl (Hd.load1 (by kernel_rfl) rfl (by repeat (first | exact List.mem_cons_self | apply List.mem_cons_of_mem | apply List.mem_append_right)) (by rfl) ⟨_, rfl, ?_⟩)
      refine WA.two (i := 1) (j := 3) (by kernel_rfl) ?_ ?_
      · refine WO.h rfl Wt.none rfl (Hd.load1 (by kernel_rfl) rfl (by repeat (first | exact List.mem_cons_self | apply List.mem_cons_of_mem | apply List.mem_append_right)) (by rfl) ⟨_, rfl, ?_⟩)
        refine WA.one (i := 3) (by kernel_rfl) ?_
        refine WO.h rfl Wt.none rfl (Hd.load1 (by kernel_rfl) rfl (by repeat (first | exact List.mem_cons_self | apply List.mem_cons_of_mem | apply List.mem_append_right)) (by rfl) ⟨_, rfl, ?_⟩)
        refine WA.one (i := 4) (by kernel_rfl) ?_
        refine WO.r rfl Wt.none rfl (Ent.func Try.call31 rfl) (compare_int _ _ _) ?_
        refine WA.one (i := 9) (by kernel_rfl) ?_
        refine WO.r rfl Wt.none rfl (Ent.func Try.call32 rfl) (compare_u32 x.o y.o _) ?_
        refine WA.one (i := 10) (by kernel_rfl) ?_
        refine WO.h rfl Wt.none rfl (Hd.build2 (e := 3) (z := .int .i64 0) (by kernel_rfl) (by kernel_rfl) (by kernel_rfl) rfl rfl (by rfl) (by rfl) fun b15 => ⟨_, rfl, ?_⟩)
        refine WA.one (i := 11) (by kernel_rfl) ?_
        refine WO.r rfl Wt.none rfl (Ent.func Try.call30 rfl) (or_reads b15 _ _ _ List.mem_cons_self) ?_
        refine WA.y (i := 12) (NoPanic.then (NoPanic.body)) rfl (by kernel_rfl) (by kernel_rfl) (by kernel_rfl) rfl (Yd.assign rfl) ?_
        refine WA.done (by kernel_rfl) ?_
        refine DN.then_normal ?_
        refine WC.ret ?_
        refine DN.ret1 Try.results29 rfl ?_
        rfl
      · refine WO.h rfl Wt.none rfl (Hd.load1 (by kernel_rfl) rfl (by repeat (first | exact List.mem_cons_self | apply List.mem_cons_of_mem | apply List.mem_append_right)) (by rfl) ⟨_, rfl, ?_⟩)
        refine WA.one (i := 1) (by kernel_rfl) ?_
        refine WO.h rfl Wt.none rfl (Hd.load1 (by kernel_rfl) rfl (by repeat (first | exact List.mem_cons_self | apply List.mem_cons_of_mem | apply List.mem_append_right)) (by rfl) ⟨_, rfl, ?_⟩)
        refine WA.one (i := 4) (by kernel_rfl) ?_
        refine WO.r rfl Wt.none rfl (Ent.func Try.call31 rfl) (compare_int _ _ _) ?_
        refine WA.one (i := 9) (by kernel_rfl) ?_
        refine WO.r rfl Wt.none rfl (Ent.func Try.call32 rfl) (compare_u32 x.o y.o _) ?_
        refine WA.one (i := 10) (by kernel_rfl) ?_
        refine WO.h rfl Wt.none rfl (Hd.build2 (e := 3) (z := .int .i64 0) (by kernel_rfl) (by kernel_rfl) (by kernel_rfl) rfl rfl (by rfl) (by rfl) fun b15 => ⟨_, rfl, ?_⟩)
        refine WA.one (i := 11) (by kernel_rfl) ?_
        refine WO.r rfl Wt.none rfl (Ent.func Try.call30 rfl) (or_reads b15 _ _ _ List.mem_cons_self) ?_
        refine WA.y (i := 12) (NoPanic.then (NoPanic.body)) rfl (by kernel_rfl) (by kernel_rfl) (by kernel_rfl) rfl (Yd.assign rfl) ?_
        refine WA.done (by kernel_rfl) ?_
        refine DN.then_normal ?_
        refine WC.ret ?_
        refine DN.ret1 Try.results29 rfl ?_
        rfl

end Go.Proofs.Ytmdbmcicbambjaa
