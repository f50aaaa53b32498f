/-
  The walks of the dock: the same bookings, the same numbers.
-/
import Derived.Test.YtmdbmcicbambjaaDock6
import Derived.Test.YtmdbmcicbambjaaSLMore7
set_option linter.unusedVariables false
set_option linter.unusedSimpArgs false
set_option maxHeartbeats 4000000
namespace Go.Proofs.Ytmdbmcicbambjaa
open Go.SL
theorem same_no {α : Type} {xs ys : List α} (h : xs.length ≠ ys.length) : ¬ xs = ys := fun e => h (by rw [e])
theorem same_yes {α : Type} {xs ys : List α} (hl : xs.length = ys.length) (h : ∀ (j : Nat) (h1 : j < xs.length) (h2 : j < ys.length), xs[j] = ys[j]) : xs = ys := List.ext_getElem hl h
theorem same_bk (x y : Bk) : cellsEq [0, 0, 0] (encB x) (encB y) = some (decide (x = y)) := by
  cases x with | mk a b c =>
  cases y with | mk a' b' c' =>
  simp only [cellsEq, cellEq, encB, if_true, Option.bind_some, Option.map_some, Option.some.injEq, Bk.mk.injEq]
  rw [Bool.eq_iff_iff]
  simp only [Bool.and_eq_true, decide_eq_true_eq, Bool.and_true]
  constructor
  · rintro ⟨h1, h2, h3⟩
    exact ⟨BitVec.eq_of_toNat_eq (by omega), by omega, h3⟩
  · rintro ⟨rfl, rfl, rfl⟩
    exact ⟨rfl, rfl, rfl⟩


/-- drayage/drayagelaw11.same -/
theorem same_reads (u v : Value) (xs ys : List Bk) (H : List Ck) (hu : Rs u xs.length (xs.flatMap encB) H) (hv : Rs v ys.length (ys.flatMap encB) H) (hx : xs.length ≤ 100000000) (hy : ys.length ≤ 100000000) : Reads Try.prog 20 [u, v] H (.bool (decide (xs = ys))) := by
  refine Tells.enter Try.func20 rfl Try.ntmps20 rfl ?_
  intro w0 R
  obtain ⟨uo, uc, rfl, _⟩ := hu.form
  obtain ⟨vo, vc, rfl, _⟩ := hv.form
  refine WC.seq ?_
  refine WC.region ?_
  refine WL.y rfl (Yd.assign rfl) ?_
  refine WL.nil ?_
  refine DN.then_normal ?_
  refine WC.seq ?_
  refine WC.seq ?_
  refine WC.region ?_
  refine WL.y rfl (Yd.move rfl) ?_
  refine WL.y rfl (Yd.len (e := 47) (by kernel_rfl) rfl) ?_
  refine WL.y rfl (Yd.move rfl) ?_
  refine WL.y rfl (Yd.len (e := 47) (by kernel_rfl) rfl) ?_
  refine WL.y rfl (Yd.neq rfl rfl) ?_
  refine WL.nil ?_
  refine DN.then_normal ?_
  refine WC.cond rfl (fun h10 => ?_) (fun h10 => ?_)
  · have hln : xs.length ≠ ys.length := by simp only [decide_eq_true_eq] at h10; omega
    refine WC.seq ?_
    refine WC.region ?_
    refine WL.y rfl (Yd.assign rfl) ?_
    refine WL.nil ?_
    refine DN.then_normal ?_
    refine WC.ret ?_
    refine DN.then_ret ?_
    refine DN.fit (C := H) (by repeat (first | exact Sp.here | exact Sp.sn | exact Sp.s0 | exact Fr.here | apply Sp.s2 | apply Sp.sx | apply Fr.fc | apply Fr.al | apply Fr.fa | apply Sp.sc | apply Sp.al | apply Sp.sa)) ?_
    refine DN.ret1 Try.results20 rfl ?_
    first
      | exact ⟨by rw [decide_eq_false (same_no hln)], rfl⟩
      | exact ⟨by rw [decide_eq_true (same_yes hln fun j h1 h2 => hsame j h1 h2 h1)], rfl⟩
      | exact ⟨by rw [decide_eq_false (fun e => hne (by subst e; rfl))], rfl⟩
  · have hln : xs.length = ys.length := by simp only [decide_eq_false_iff_not] at h10; omega
    refine WC.skip ?_
    refine DN.then_normal ?_
    refine WC.seq ?_
    refine WC.seq ?_
    refine WC.region ?_
    refine WL.y rfl (Yd.assign rfl) ?_
    refine WL.nil ?_
    refine DN.then_normal ?_
    refine WC.block ?_
    refine WC.loopS (fun z : Nat => z ≤ xs.length ∧ ∀ (j : Nat) (h1 : j < xs.length) (h2 : j < ys.length), j < z → xs[j] = ys[j]) (fun z : Nat => [(5, .int .i64 (z : Int))]) (fun z : Nat => H) (fun z : Nat => xs.length - z) (0) (show 0 ≤ xs.length ∧ ∀ (j : Nat) (h1 : j < xs.length) (h2 : j < ys.length), j < 0 → xs[j] = ys[j] from ⟨by omega, fun _ _ _ _ => by omega⟩) (Sx.put rfl ((by repeat (first | exact Sx.refl | refine Sx.skip rfl ?_)))) (by repeat (first | exact Sp.here | exact Sp.sn | exact Sp.s0 | exact Fr.here | apply Sp.s2 | apply Sp.sx | apply Fr.fc | apply Fr.al | apply Fr.fa | apply Sp.sc | apply Sp.al | apply Sp.sa)) ?_
    rintro i hI
    replace hI : i ≤ xs.length ∧ ∀ (j : Nat) (h1 : j < xs.length) (h2 : j < ys.length), j < i → xs[j] = ys[j] := hI
    obtain ⟨hi, hsame⟩ := hI
    change WC _ _ _ _ _ _ ([(5, .int .i64 (i : Int))] ++ _) (H)
    refine WC.seq ?_
    refine WC.seq ?_
    refine WC.region ?_
    refine WL.y rfl (Yd.move rfl) ?_
    refine WL.y rfl (Yd.move rfl) ?_
    refine WL.y rfl (Yd.len (e := 47) (by kernel_rfl) rfl) ?_
    refine WL.y rfl (Yd.lss rfl rfl) ?_
    refine WL.nil ?_
    refine DN.then_normal ?_
    refine WC.ite rfl (fun h14 => ?_) (fun h14 => ?_)
    · have hlt : i < xs.length := by omega
      obtain ⟨ub, uf, us, uT, ufr, uex, rfl, _, hum, hus⟩ := hu.lies (by omega)
      obtain ⟨vb, vf, vs, vT, vfr, vex, rfl, _, hvm, hvs⟩ := hv.lies (by omega)
      refine WC.skip ?_
      refine DN.then_normal ?_
      refine WC.seq ?_
      refine WC.block ?_
      refine WC.seq ?_
      refine WC.draw 9 (by kernel_rfl) rfl ?_
      refine WA.y (i := 0) (NoPanic.then (NoPanic.block (NoPanic.then (NoPanic.then (NoPanic.block (NoPanic.then (NoPanic.body))))))) rfl (by kernel_rfl) (by kernel_rfl) (by kernel_rfl) rfl (Yd.move rfl) ?_
      refine WA.y (i := 1) (NoPanic.then (NoPanic.block (NoPanic.then (NoPanic.then (NoPanic.block (NoPanic.then (NoPanic.body))))))) rfl (by kernel_rfl) (by kernel_rfl) (by kernel_rfl) rfl (Yd.move rfl) ?_
      refine WA.y (i := 2) (NoPanic.then (NoPanic.block (NoPanic.then (NoPanic.then (NoPanic.block (NoPanic.then (NoPanic.body))))))) rfl (by kernel_rfl) (by kernel_rfl) (by kernel_rfl) rfl (Yd.indexAddr (e := 47) (s := 3) (by kernel_rfl) (by kernel_rfl) rfl rfl (by omega) (by omega)) ?_
      refine WA.y (i := 4) (NoPanic.then (NoPanic.block (NoPanic.then (NoPanic.then (NoPanic.block (NoPanic.then (NoPanic.body))))))) rfl (by kernel_rfl) (by kernel_rfl) (by kernel_rfl) rfl (Yd.move rfl) ?_
      refine WA.y (i := 5) (NoPanic.then (NoPanic.block (NoPanic.then (NoPanic.then (NoPanic.block (NoPanic.then (NoPanic.body))))))) rfl (by kernel_rfl) (by kernel_rfl) (by kernel_rfl) rfl (Yd.move rfl) ?_
      refine WA.y (i := 6) (NoPanic.then (NoPanic.block (NoPanic.then (NoPanic.then (NoPanic.block (NoPanic.then (NoPanic.body))))))) rfl (by kernel_rfl) (by kernel_rfl) (by kernel_rfl) rfl (Yd.indexAddr (e := 47) (s := 3) (by kernel_rfl) (by kernel_rfl) rfl rfl (by omega) (by omega)) ?_
      refine WA.two (i := 3) (j := 7) (by kernel_rfl) ?_ ?_
      · refine WO.h rfl Wt.none rfl (Hd.loadA (n := 3) (b := ub) (o := uf + (i : Int).toNat * 3) (cs := us) (vs := encB xs[i]) (by kernel_rfl) rfl hum (encB_len _) (rs_cell hus (by rw [flat_len encB 3 encB_len]; omega) (flat_row encB 3 encB_len xs i (by omega))) ⟨_, rfl, ?_⟩)
        refine WA.one (i := 7) (by kernel_rfl) ?_
        refine WO.h rfl Wt.none rfl (Hd.loadA (n := 3) (b := vb) (o := vf + (i : Int).toNat * 3) (cs := vs) (vs := encB ys[i]) (by kernel_rfl) rfl hvm (encB_len _) (rs_cell hvs (by rw [flat_len encB 3 encB_len]; omega) (flat_row encB 3 encB_len ys i (by omega))) ⟨_, rfl, ?_⟩)
        refine WA.y (i := 8) (NoPanic.then (NoPanic.block (NoPanic.then (NoPanic.then (NoPanic.block (NoPanic.then (NoPanic.body))))))) rfl (by kernel_rfl) (by kernel_rfl) (by kernel_rfl) rfl (Yd.neqSt [0, 0, 0] (by kernel_rfl) rfl rfl (same_bk _ _)) ?_
        refine WA.done (by kernel_rfl) ?_
        refine DN.then_normal ?_
        refine WC.cond rfl (fun h25 => ?_) (fun h25 => ?_)
        · have hne : ¬ xs[i] = ys[i] := by simpa using h25
          refine WC.seq ?_
          refine WC.region ?_
          refine WL.y rfl (Yd.assign rfl) ?_
          refine WL.nil ?_
          refine DN.then_normal ?_
          refine WC.ret ?_
          refine DN.block_ret ?_
          refine DN.then_ret ?_
          refine DN.then_ret ?_
          refine DN.block_ret ?_
          refine DN.then_ret ?_
          refine DN.fit (C := H) (by repeat (first | exact Sp.here | exact Sp.sn | exact Sp.s0 | exact Fr.here | apply Sp.s2 | apply Sp.sx | apply Fr.fc | apply Fr.al | apply Fr.fa | apply Sp.sc | apply Sp.al | apply Sp.sa)) ?_
          refine DN.ret1 Try.results20 rfl ?_
          first
            | exact ⟨by rw [decide_eq_false (same_no hln)], rfl⟩
            | exact ⟨by rw [decide_eq_true (same_yes hln fun j h1 h2 => hsame j h1 h2 h1)], rfl⟩
            | exact ⟨by rw [decide_eq_false (fun e => hne (by subst e; rfl))], rfl⟩
        · have heq : xs[i] = ys[i] := by simpa using h25
          refine WC.skip ?_
          refine DN.block_normal ?_
          refine DN.then_normal ?_
          refine WC.region ?_
          refine WL.y rfl (Yd.move rfl) ?_
          refine WL.y rfl (Yd.add rfl rfl (by omega) (by omega)) ?_
          refine WL.y rfl (Yd.assign rfl) ?_
          refine WL.nil ?_
          exact DN.againS (i + 1) (show (i + 1) ≤ xs.length ∧ ∀ (j : Nat) (h1 : j < xs.length) (h2 : j < ys.length), j < (i + 1) → xs[j] = ys[j] from ⟨by omega, fun j h1 h2 hj => by
            rcases Nat.lt_or_ge j i with h | h
            · exact hsame j h1 h2 h
            · obtain rfl : j = i := by omega
              exact heq⟩) (show xs.length - (i + 1) < xs.length - i by omega) (Sx.put rfl ((by repeat (first | exact Sx.refl | refine Sx.skip rfl ?_)))) (by repeat (first | exact Sp.here | exact Sp.sn | exact Sp.s0 | exact Fr.here | apply Sp.s2 | apply Sp.sx | apply Fr.fc | apply Fr.al | apply Fr.fa | apply Sp.sc | apply Sp.al | apply Sp.sa))
      · refine WO.h rfl Wt.none rfl (Hd.loadA (n := 3) (b := vb) (o := vf + (i : Int).toNat * 3) (cs := vs) (vs := encB ys[i]) (by kernel_rfl) rfl hvm (encB_len _) (rs_cell hvs (by rw [flat_len encB 3 encB_len]; omega) (flat_row encB 3 encB_len ys i (by omega))) ⟨_, rfl, ?_⟩)
        refine WA.one (i := 3) (by kernel_rfl) ?_
        refine WO.h rfl Wt.none rfl (Hd.loadA (n := 3) (b := ub) (o := uf + (i : Int).toNat * 3) (cs := us) (vs := encB xs[i]) (by kernel_rfl) rfl hum (encB_len _) (rs_cell hus (by rw [flat_len encB 3 encB_len]; omega) (flat_row encB 3 encB_len xs i (by omega))) ⟨_, rfl, ?_⟩)
        refine WA.y (i := 8) (NoPanic.then (NoPanic.block (NoPanic.then (NoPanic.then (NoPanic.block (NoPanic.then (NoPanic.body))))))) rfl (by kernel_rfl) (by kernel_rfl) (by kernel_rfl) rfl (Yd.neqSt [0, 0, 0] (by kernel_rfl) rfl rfl (same_bk _ _)) ?_
        refine WA.done (by kernel_rfl) ?_
        refine DN.then_normal ?_
        refine WC.cond rfl (fun h25 => ?_) (fun h25 => ?_)
        · have hne : ¬ xs[i] = ys[i] := by simpa using h25
          refine WC.seq ?_
          refine WC.region ?_
          refine WL.y rfl (Yd.assign rfl) ?_
          refine WL.nil ?_
          refine DN.then_normal ?_
          refine WC.ret ?_
          refine DN.block_ret ?_
          refine DN.then_ret ?_
          refine DN.then_ret ?_
          refine DN.block_ret ?_
          refine DN.then_ret ?_
          refine DN.fit (C := H) (by repeat (first | exact Sp.here | exact Sp.sn | exact Sp.s0 | exact Fr.here | apply Sp.s2 | apply Sp.sx | apply Fr.fc | apply Fr.al | apply Fr.fa | apply Sp.sc | apply Sp.al | apply Sp.sa)) ?_
          refine DN.ret1 Try.results20 rfl ?_
          first
            | exact ⟨by rw [decide_eq_false (same_no hln)], rfl⟩
            | exact ⟨by rw [decide_eq_true (same_yes hln fun j h1 h2 => hsame j h1 h2 h1)], rfl⟩
            | exact ⟨by rw [decide_eq_false (fun e => hne (by subst e; rfl))], rfl⟩
        · have heq : xs[i] = ys[i] := by simpa using h25
          refine WC.skip ?_
          refine DN.block_normal ?_
          refine DN.then_normal ?_
          refine WC.region ?_
          refine WL.y rfl (Yd.move rfl) ?_
          refine WL.y rfl (Yd.add rfl rfl (by omega) (by omega)) ?_
          refine WL.y rfl (Yd.assign rfl) ?_
          refine WL.nil ?_
          exact DN.againS (i + 1) (show (i + 1) ≤ xs.length ∧ ∀ (j : Nat) (h1 : j < xs.length) (h2 : j < ys.length), j < (i + 1) → xs[j] = ys[j] from ⟨by omega, fun j h1 h2 hj => by
            rcases Nat.lt_or_ge j i with h | h
            · exact hsame j h1 h2 h
            · obtain rfl : j = i := by omega
              exact heq⟩) (show xs.length - (i + 1) < xs.length - i by omega) (Sx.put rfl ((by repeat (first | exact Sx.refl | refine Sx.skip rfl ?_)))) (by repeat (first | exact Sp.here | exact Sp.sn | exact Sp.s0 | exact Fr.here | apply Sp.s2 | apply Sp.sx | apply Fr.fc | apply Fr.al | apply Fr.fa | apply Sp.sc | apply Sp.al | apply Sp.sa))
    · obtain rfl : i = xs.length := by omega
      refine WC.exit ?_
      refine DN.then_exit ?_
      refine DN.then_exit ?_
      refine DN.block_exit ?_
      refine DN.then_normal ?_
      refine WC.seq ?_
      refine WC.region ?_
      refine WL.y rfl (Yd.assign rfl) ?_
      refine WL.nil ?_
      refine DN.then_normal ?_
      refine WC.ret ?_
      refine DN.fit (C := H) (by repeat (first | exact Sp.here | exact Sp.sn | exact Sp.s0 | exact Fr.here | apply Sp.s2 | apply Sp.sx | apply Fr.fc | apply Fr.al | apply Fr.fa | apply Sp.sc | apply Sp.al | apply Sp.sa)) ?_
      refine DN.ret1 Try.results20 rfl ?_
      first
        | exact ⟨by rw [decide_eq_false (same_no hln)], rfl⟩
        | exact ⟨by rw [decide_eq_true (same_yes hln fun j h1 h2 => hsame j h1 h2 h1)], rfl⟩
        | exact ⟨by rw [decide_eq_false (fun e => hne (by subst e; rfl))], rfl⟩

/-- drayage/drayageref00.SameInts -/
theorem sameInts_reads (u v : Value) (xs ys : List Int) (H : List Ck) (hu : Rs u xs.length (ic xs) H) (hv : Rs v ys.length (ic ys) H) (hx : xs.length ≤ 100000000) (hy : ys.length ≤ 100000000) : Reads Try.prog 23 [u, v] H (.bool (decide (xs = ys))) := by
  refine Tells.enter Try.func23 rfl Try.ntmps23 rfl ?_
  intro w0 R
  obtain ⟨uo, uc, rfl, _⟩ := hu.form
  obtain ⟨vo, vc, rfl, _⟩ := hv.form
  refine WC.seq ?_
  refine WC.region ?_
  refine WL.y rfl (Yd.assign rfl) ?_
  refine WL.nil ?_
  refine DN.then_normal ?_
  refine WC.seq ?_
  refine WC.seq ?_
  refine WC.region ?_
  refine WL.y rfl (Yd.move rfl) ?_
  refine WL.y rfl (Yd.len (e := 3) (by kernel_rfl) rfl) ?_
  refine WL.y rfl (Yd.move rfl) ?_
  refine WL.y rfl (Yd.len (e := 3) (by kernel_rfl) rfl) ?_
  refine WL.y rfl (Yd.neq rfl rfl) ?_
  refine WL.nil ?_
  refine DN.then_normal ?_
  refine WC.cond rfl (fun h10 => ?_) (fun h10 => ?_)
  · have hln : xs.length ≠ ys.length := by simp only [decide_eq_true_eq] at h10; omega
    refine WC.seq ?_
    refine WC.region ?_
    refine WL.y rfl (Yd.assign rfl) ?_
    refine WL.nil ?_
    refine DN.then_normal ?_
    refine WC.ret ?_
    refine DN.then_ret ?_
    refine DN.fit (C := H) (by repeat (first | exact Sp.here | exact Sp.sn | exact Sp.s0 | exact Fr.here | apply Sp.s2 | apply Sp.sx | apply Fr.fc | apply Fr.al | apply Fr.fa | apply Sp.sc | apply Sp.al | apply Sp.sa)) ?_
    refine DN.ret1 Try.results23 rfl ?_
    first
      | exact ⟨by rw [decide_eq_false (same_no hln)], rfl⟩
      | exact ⟨by rw [decide_eq_true (same_yes hln fun j h1 h2 => hsame j h1 h2 h1)], rfl⟩
      | exact ⟨by rw [decide_eq_false (fun e => hne (by subst e; rfl))], rfl⟩
  · have hln : xs.length = ys.length := by simp only [decide_eq_false_iff_not] at h10; omega
    refine WC.skip ?_
    refine DN.then_normal ?_
    refine WC.seq ?_
    refine WC.seq ?_
    refine WC.region ?_
    refine WL.y rfl (Yd.assign rfl) ?_
    refine WL.nil ?_
    refine DN.then_normal ?_
    refine WC.block ?_
    refine WC.loopS (fun z : Nat => z ≤ xs.length ∧ ∀ (j : Nat) (h1 : j < xs.length) (h2 : j < ys.length), j < z → xs[j] = ys[j]) (fun z : Nat => [(5, .int .i64 (z : Int))]) (fun z : Nat => H) (fun z : Nat => xs.length - z) (0) (show 0 ≤ xs.length ∧ ∀ (j : Nat) (h1 : j < xs.length) (h2 : j < ys.length), j < 0 → xs[j] = ys[j] from ⟨by omega, fun _ _ _ _ => by omega⟩) (Sx.put rfl ((by repeat (first | exact Sx.refl | refine Sx.skip rfl ?_)))) (by repeat (first | exact Sp.here | exact Sp.sn | exact Sp.s0 | exact Fr.here | apply Sp.s2 | apply Sp.sx | apply Fr.fc | apply Fr.al | apply Fr.fa | apply Sp.sc | apply Sp.al | apply Sp.sa)) ?_
    rintro i hI
    replace hI : i ≤ xs.length ∧ ∀ (j : Nat) (h1 : j < xs.length) (h2 : j < ys.length), j < i → xs[j] = ys[j] := hI
    obtain ⟨hi, hsame⟩ := hI
    change WC _ _ _ _ _ _ ([(5, .int .i64 (i : Int))] ++ _) (H)
    refine WC.seq ?_
    refine WC.seq ?_
    refine WC.region ?_
    refine WL.y rfl (Yd.move rfl) ?_
    refine WL.y rfl (Yd.move rfl) ?_
    refine WL.y rfl (Yd.len (e := 3) (by kernel_rfl) rfl) ?_
    refine WL.y rfl (Yd.lss rfl rfl) ?_
    refine WL.nil ?_
    refine DN.then_normal ?_
    refine WC.ite rfl (fun h14 => ?_) (fun h14 => ?_)
    · have hlt : i < xs.length := by omega
      obtain ⟨ub, uf, us, uT, ufr, uex, rfl, _, hum, hus⟩ := hu.lies (by omega)
      obtain ⟨vb, vf, vs, vT, vfr, vex, rfl, _, hvm, hvs⟩ := hv.lies (by omega)
      refine WC.skip ?_
      refine DN.then_normal ?_
      refine WC.seq ?_
      refine WC.block ?_
      refine WC.seq ?_
      refine WC.draw 9 (by kernel_rfl) rfl ?_
      refine WA.y (i := 0) (NoPanic.then (NoPanic.block (NoPanic.then (NoPanic.then (NoPanic.block (NoPanic.then (NoPanic.body))))))) rfl (by kernel_rfl) (by kernel_rfl) (by kernel_rfl) rfl (Yd.move rfl) ?_
      refine WA.y (i := 1) (NoPanic.then (NoPanic.block (NoPanic.then (NoPanic.then (NoPanic.block (NoPanic.then (NoPanic.body))))))) rfl (by kernel_rfl) (by kernel_rfl) (by kernel_rfl) rfl (Yd.move rfl) ?_
      refine WA.y (i := 2) (NoPanic.then (NoPanic.block (NoPanic.then (NoPanic.then (NoPanic.block (NoPanic.then (NoPanic.body))))))) rfl (by kernel_rfl) (by kernel_rfl) (by kernel_rfl) rfl (Yd.indexAddr (e := 3) (s := 1) (by kernel_rfl) (by kernel_rfl) rfl rfl (by omega) (by omega)) ?_
      refine WA.y (i := 4) (NoPanic.then (NoPanic.block (NoPanic.then (NoPanic.then (NoPanic.block (NoPanic.then (NoPanic.body))))))) rfl (by kernel_rfl) (by kernel_rfl) (by kernel_rfl) rfl (Yd.move rfl) ?_
      refine WA.y (i := 5) (NoPanic.then (NoPanic.block (NoPanic.then (NoPanic.then (NoPanic.block (NoPanic.then (NoPanic.body))))))) rfl (by kernel_rfl) (by kernel_rfl) (by kernel_rfl) rfl (Yd.move rfl) ?_
      refine WA.y (i := 6) (NoPanic.then (NoPanic.block (NoPanic.then (NoPanic.then (NoPanic.block (NoPanic.then (NoPanic.body))))))) rfl (by kernel_rfl) (by kernel_rfl) (by kernel_rfl) rfl (Yd.indexAddr (e := 3) (s := 1) (by kernel_rfl) (by kernel_rfl) rfl rfl (by omega) (by omega)) ?_
      refine WA.two (i := 3) (j := 7) (by kernel_rfl) ?_ ?_
      · refine WO.h rfl Wt.none rfl (Hd.load1 (v := .int .i64 xs[i]) (b := ub) (o := uf + (i : Int).toNat * 1) (cs := us) (by kernel_rfl) rfl hum (rs_cell1 hus (by simp [ic, show i < xs.length by omega])) ⟨_, rfl, ?_⟩)
        refine WA.one (i := 7) (by kernel_rfl) ?_
        refine WO.h rfl Wt.none rfl (Hd.load1 (v := .int .i64 ys[i]) (b := vb) (o := vf + (i : Int).toNat * 1) (cs := vs) (by kernel_rfl) rfl hvm (rs_cell1 hvs (by simp [ic, show i < ys.length by omega])) ⟨_, rfl, ?_⟩)
        refine WA.y (i := 8) (NoPanic.then (NoPanic.block (NoPanic.then (NoPanic.then (NoPanic.block (NoPanic.then (NoPanic.body))))))) rfl (by kernel_rfl) (by kernel_rfl) (by kernel_rfl) rfl (Yd.neq rfl rfl) ?_
        refine WA.done (by kernel_rfl) ?_
        refine DN.then_normal ?_
        refine WC.cond rfl (fun h25 => ?_) (fun h25 => ?_)
        · have hne : ¬ xs[i] = ys[i] := by simpa using h25
          refine WC.seq ?_
          refine WC.region ?_
          refine WL.y rfl (Yd.assign rfl) ?_
          refine WL.nil ?_
          refine DN.then_normal ?_
          refine WC.ret ?_
          refine DN.block_ret ?_
          refine DN.then_ret ?_
          refine DN.then_ret ?_
          refine DN.block_ret ?_
          refine DN.then_ret ?_
          refine DN.fit (C := H) (by repeat (first | exact Sp.here | exact Sp.sn | exact Sp.s0 | exact Fr.here | apply Sp.s2 | apply Sp.sx | apply Fr.fc | apply Fr.al | apply Fr.fa | apply Sp.sc | apply Sp.al | apply Sp.sa)) ?_
          refine DN.ret1 Try.results23 rfl ?_
          first
            | exact ⟨by rw [decide_eq_false (same_no hln)], rfl⟩
            | exact ⟨by rw [decide_eq_true (same_yes hln fun j h1 h2 => hsame j h1 h2 h1)], rfl⟩
            | exact ⟨by rw [decide_eq_false (fun e => hne (by subst e; rfl))], rfl⟩
        · have heq : xs[i] = ys[i] := by simpa using h25
          refine WC.skip ?_
          refine DN.block_normal ?_
          refine DN.then_normal ?_
          refine WC.region ?_
          refine WL.y rfl (Yd.move rfl) ?_
          refine WL.y rfl (Yd.add rfl rfl (by omega) (by omega)) ?_
          refine WL.y rfl (Yd.assign rfl) ?_
          refine WL.nil ?_
          exact DN.againS (i + 1) (show (i + 1) ≤ xs.length ∧ ∀ (j : Nat) (h1 : j < xs.length) (h2 : j < ys.length), j < (i + 1) → xs[j] = ys[j] from ⟨by omega, fun j h1 h2 hj => by
            rcases Nat.lt_or_ge j i with h | h
            · exact hsame j h1 h2 h
            · obtain rfl : j = i := by omega
              exact heq⟩) (show xs.length - (i + 1) < xs.length - i by omega) (Sx.put rfl ((by repeat (first | exact Sx.refl | refine Sx.skip rfl ?_)))) (by repeat (first | exact Sp.here | exact Sp.sn | exact Sp.s0 | exact Fr.here | apply Sp.s2 | apply Sp.sx | apply Fr.fc | apply Fr.al | apply Fr.fa | apply Sp.sc | apply Sp.al | apply Sp.sa))
      · refine WO.h rfl Wt.none rfl (Hd.load1 (v := .int .i64 ys[i]) (b := vb) (o := vf + (i : Int).toNat * 1) (cs := vs) (by kernel_rfl) rfl hvm (rs_cell1 hvs (by simp [ic, show i < ys.length by omega])) ⟨_, rfl, ?_⟩)
        refine WA.one (i := 3) (by kernel_rfl) ?_
        refine WO.h rfl Wt.none rfl (Hd.load1 (v := .int .i64 xs[i]) (b := ub) (o := uf + (i : Int).toNat * 1) (cs := us) (by kernel_rfl) rfl hum (rs_cell1 hus (by simp [ic, show i < xs.length by omega])) ⟨_, rfl, ?_⟩)
        refine WA.y (i := 8) (NoPanic.then (NoPanic.block (NoPanic.then (NoPanic.then (NoPanic.block (NoPanic.then (NoPanic.body))))))) rfl (by kernel_rfl) (by kernel_rfl) (by kernel_rfl) rfl (Yd.neq rfl rfl) ?_
        refine WA.done (by kernel_rfl) ?_
        refine DN.then_normal ?_
        refine WC.cond rfl (fun h25 => ?_) (fun h25 => ?_)
        · have hne : ¬ xs[i] = ys[i] := by simpa using h25
          refine WC.seq ?_
          refine WC.region ?_
          refine WL.y rfl (Yd.assign rfl) ?_
          refine WL.nil ?_
          refine DN.then_normal ?_
          refine WC.ret ?_
          refine DN.block_ret ?_
          refine DN.then_ret ?_
          refine DN.then_ret ?_
          refine DN.block_ret ?_
          refine DN.then_ret ?_
          refine DN.fit (C := H) (by repeat (first | exact Sp.here | exact Sp.sn | exact Sp.s0 | exact Fr.here | apply Sp.s2 | apply Sp.sx | apply Fr.fc | apply Fr.al | apply Fr.fa | apply Sp.sc | apply Sp.al | apply Sp.sa)) ?_
          refine DN.ret1 Try.results23 rfl ?_
          first
            | exact ⟨by rw [decide_eq_false (same_no hln)], rfl⟩
            | exact ⟨by rw [decide_eq_true (same_yes hln fun j h1 h2 => hsame j h1 h2 h1)], rfl⟩
            | exact ⟨by rw [decide_eq_false (fun e => hne (by subst e; rfl))], rfl⟩
        · have heq : xs[i] = ys[i] := by simpa using h25
          refine WC.skip ?_
          refine DN.block_normal ?_
          refine DN.then_normal ?_
          refine WC.region ?_
          refine WL.y rfl (Yd.move rfl) ?_
          refine WL.y rfl (Yd.add rfl rfl (by omega) (by omega)) ?_
          refine WL.y rfl (Yd.assign rfl) ?_
          refine WL.nil ?_
          exact DN.againS (i + 1) (show (i + 1) ≤ xs.length ∧ ∀ (j : Nat) (h1 : j < xs.length) (h2 : j < ys.length), j < (i + 1) → xs[j] = ys[j] from ⟨by omega, fun j h1 h2 hj => by
            rcases Nat.lt_or_ge j i with h | h
            · exact hsame j h1 h2 h
            · obtain rfl : j = i := by omega
              exact heq⟩) (show xs.length - (i + 1) < xs.length - i by omega) (Sx.put rfl ((by repeat (first | exact Sx.refl | refine Sx.skip rfl ?_)))) (by repeat (first | exact Sp.here | exact Sp.sn | exact Sp.s0 | exact Fr.here | apply Sp.s2 | apply Sp.sx | apply Fr.fc | apply Fr.al | apply Fr.fa | apply Sp.sc | apply Sp.al | apply Sp.sa))
    · obtain rfl : i = xs.length := by omega
      refine WC.exit ?_
      refine DN.then_exit ?_
      refine DN.then_exit ?_
      refine DN.block_exit ?_
      refine DN.then_normal ?_
      refine WC.seq ?_
      refine WC.region ?_
      refine WL.y rfl (Yd.assign rfl) ?_
      refine WL.nil ?_
      refine DN.then_normal ?_
      refine WC.ret ?_
      refine DN.fit (C := H) (by repeat (first | exact Sp.here | exact Sp.sn | exact Sp.s0 | exact Fr.here | apply Sp.s2 | apply Sp.sx | apply Fr.fc | apply Fr.al | apply Fr.fa | apply Sp.sc | apply Sp.al | apply Sp.sa)) ?_
      refine DN.ret1 Try.results23 rfl ?_
      first
        | exact ⟨by rw [decide_eq_false (same_no hln)], rfl⟩
        | exact ⟨by rw [decide_eq_true (same_yes hln fun j h1 h2 => hsame j h1 h2 h1)], rfl⟩
        | exact ⟨by rw [decide_eq_false (fun e => hne (by subst e; rfl))], rfl⟩

end Go.Proofs.Ytmdbmcicbambjaa
