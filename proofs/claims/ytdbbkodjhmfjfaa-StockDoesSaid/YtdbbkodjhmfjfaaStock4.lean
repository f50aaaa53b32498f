/-
  The walks of the stock's laws' helpers: long, act, sameGoods, sameHolds.
-/
import Derived.Test.YtdbbkodjhmfjfaaStock3
import Derived.Test.YtdbbkodjhmfjfaaStockAct
set_option linter.unusedVariables false
set_option linter.unusedSimpArgs false
set_option maxHeartbeats 4000000
namespace Go.Proofs.Ytdbbkodjhmfjfaa
open Go.SL
theorem same_no {α : Type} {xs ys : List α} (h : xs.length ≠ ys.length) : ¬ xs = ys := fun e => h (by rw [e])
theorem same_yes {α : Type} {xs ys : List α} (hl : xs.length = ys.length) (h : ∀ (j : Nat) (h1 : j < xs.length) (h2 : j < ys.length), xs[j] = ys[j]) : xs = ys := List.ext_getElem hl h


/-- drayage/drayagelaw09.sameGoods -/
theorem sameGoods_reads (u v : Value) (xs ys : List Gd) (H : List Ck) (hu : Rs u xs.length (xs.flatMap cellsG) H) (hv : Rs v ys.length (ys.flatMap cellsG) H) (hx : xs.length ≤ 100000000) (hy : ys.length ≤ 100000000) : Reads Try.prog 19 [u, v] H (.bool (decide (xs.map g2 = ys.map g2))) := by
  refine Tells.enter Try.func19 rfl Try.ntmps19 rfl ?_
  intro w0 R
  obtain ⟨uo, uc, rfl, _⟩ := hu.form
  obtain ⟨vo, vc, rfl, _⟩ := hv.form
  refine WC.seq ?_
  refine WC.region ?_
  refine WL.y rfl (Yd.assign rfl) ?_
  refine WL.nil ?_
  refine DN.then_normal ?_
  refine WC.seq ?_
  refine WC.seq ?_
  refine WC.region ?_
  refine WL.y rfl (Yd.move rfl) ?_
  refine WL.y rfl (Yd.len (e := 32) (by kernel_rfl) rfl) ?_
  refine WL.y rfl (Yd.move rfl) ?_
  refine WL.y rfl (Yd.len (e := 32) (by kernel_rfl) rfl) ?_
  refine WL.y rfl (Yd.neq rfl rfl) ?_
  refine WL.nil ?_
  refine DN.then_normal ?_
  refine WC.cond rfl (fun h10 => ?_) (fun h10 => ?_)
  · have hln : xs.length ≠ ys.length := by simp only [decide_eq_true_eq] at h10; omega
    refine WC.seq ?_
    refine WC.region ?_
    refine WL.y rfl (Yd.assign rfl) ?_
    refine WL.nil ?_
    refine DN.then_normal ?_
    refine WC.ret ?_
    refine DN.then_ret ?_
    refine DN.fit (C := H) (by repeat (first | exact Sp.here | exact Sp.sn | exact Sp.s0 | exact Fr.here | apply Sp.s2 | apply Sp.sx | apply Fr.fc | apply Fr.al | apply Fr.fa | apply Sp.sc | apply Sp.al | apply Sp.sa)) ?_
    refine DN.ret1 Try.results19 rfl ?_
    first
      | exact ⟨by rw [decide_eq_false (same_no (xs := xs.map g2) (ys := ys.map g2) (by simpa using hln))], rfl⟩
      | exact ⟨by rw [decide_eq_true (same_yes (xs := xs.map g2) (ys := ys.map g2) (by simpa using hln) fun j h1 h2 => by simpa using hsame j (by simpa using h1) (by simpa using h2) (by simpa using h1))], rfl⟩
      | exact ⟨by rw [decide_eq_false (fun e => hne (by have e2 := congrArg (fun l => l[i]?) e; simpa [hlt, show i < ys.length by omega] using e2))], rfl⟩
  · have hln : xs.length = ys.length := by simp only [decide_eq_false_iff_not] at h10; omega
    refine WC.skip ?_
    refine DN.then_normal ?_
    refine WC.seq ?_
    refine WC.seq ?_
    refine WC.region ?_
    refine WL.y rfl (Yd.assign rfl) ?_
    refine WL.nil ?_
    refine DN.then_normal ?_
    refine WC.block ?_
    refine WC.loopS (fun z : Nat => z ≤ xs.length ∧ ∀ (j : Nat) (h1 : j < xs.length) (h2 : j < ys.length), j < z → g2 xs[j] = g2 ys[j]) (fun z : Nat => [(5, .int .i64 (z : Int))]) (fun z : Nat => H) (fun z : Nat => xs.length - z) (0) (show 0 ≤ xs.length ∧ ∀ (j : Nat) (h1 : j < xs.length) (h2 : j < ys.length), j < 0 → g2 xs[j] = g2 ys[j] from ⟨by omega, fun _ _ _ _ => by omega⟩) (Sx.put rfl ((by repeat (first | exact Sx.refl | refine Sx.skip rfl ?_)))) (by repeat (first | exact Sp.here | exact Sp.sn | exact Sp.s0 | exact Fr.here | apply Sp.s2 | apply Sp.sx | apply Fr.fc | apply Fr.al | apply Fr.fa | apply Sp.sc | apply Sp.al | apply Sp.sa)) ?_
    rintro i hI
    replace hI : i ≤ xs.length ∧ ∀ (j : Nat) (h1 : j < xs.length) (h2 : j < ys.length), j < i → g2 xs[j] = g2 ys[j] := hI
    obtain ⟨hi, hsame⟩ := hI
    change WC _ _ _ _ _ _ ([(5, .int .i64 (i : Int))] ++ _) (H)
    refine WC.seq ?_
    refine WC.seq ?_
    refine WC.region ?_
    refine WL.y rfl (Yd.move rfl) ?_
    refine WL.y rfl (Yd.move rfl) ?_
    refine WL.y rfl (Yd.len (e := 32) (by kernel_rfl) rfl) ?_
    refine WL.y rfl (Yd.lss rfl rfl) ?_
    refine WL.nil ?_
    refine DN.then_normal ?_
    refine WC.ite rfl (fun h14 => ?_) (fun h14 => ?_)
    · have hlt : i < xs.length := by omega
      obtain ⟨ub, uf, us, uT, ufr, uex, rfl, _, hum, hus⟩ := hu.lies (by omega)
      obtain ⟨vb, vf, vs, vT, vfr, vex, rfl, _, hvm, hvs⟩ := hv.lies (by omega)
      refine WC.skip ?_
      refine DN.then_normal ?_
      refine WC.seq ?_
      refine WC.block ?_
      refine WC.seq ?_
      refine WC.draw 9 (by kernel_rfl) rfl ?_
      refine WA.y (i := 0) (NoPanic.then (NoPanic.block (NoPanic.then (NoPanic.then (NoPanic.block (NoPanic.then (NoPanic.body))))))) rfl (by kernel_rfl) (by kernel_rfl) (by kernel_rfl) rfl (Yd.move rfl) ?_
      refine WA.y (i := 1) (NoPanic.then (NoPanic.block (NoPanic.then (NoPanic.then (NoPanic.block (NoPanic.then (NoPanic.body))))))) rfl (by kernel_rfl) (by kernel_rfl) (by kernel_rfl) rfl (Yd.move rfl) ?_
      refine WA.y (i := 2) (NoPanic.then (NoPanic.block (NoPanic.then (NoPanic.then (NoPanic.block (NoPanic.then (NoPanic.body))))))) rfl (by kernel_rfl) (by kernel_rfl) (by kernel_rfl) rfl (Yd.indexAddr (e := 32) (s := 2) (by kernel_rfl) (by kernel_rfl) rfl rfl (by omega) (by omega)) ?_
      refine WA.y (i := 4) (NoPanic.then (NoPanic.block (NoPanic.then (NoPanic.then (NoPanic.block (NoPanic.then (NoPanic.body))))))) rfl (by kernel_rfl) (by kernel_rfl) (by kernel_rfl) rfl (Yd.move rfl) ?_
      refine WA.y (i := 5) (NoPanic.then (NoPanic.block (NoPanic.then (NoPanic.then (NoPanic.block (NoPanic.then (NoPanic.body))))))) rfl (by kernel_rfl) (by kernel_rfl) (by kernel_rfl) rfl (Yd.move rfl) ?_
      refine WA.y (i := 6) (NoPanic.then (NoPanic.block (NoPanic.then (NoPanic.then (NoPanic.block (NoPanic.then (NoPanic.body))))))) rfl (by kernel_rfl) (by kernel_rfl) (by kernel_rfl) rfl (Yd.indexAddr (e := 32) (s := 2) (by kernel_rfl) (by kernel_rfl) rfl rfl (by omega) (by omega)) ?_
      refine WA.two (i := 3) (j := 7) (by kernel_rfl) ?_ ?_
      · refine WO.h rfl Wt.none rfl (Hd.loadA (n := 2) (b := ub) (o := uf + (i : Int).toNat * 2) (cs := us) (vs := cellsG xs[i]) (by kernel_rfl) rfl hum (cellsG_len _) (rs_cell hus (by rw [flat_len cellsG 2 cellsG_len]; omega) (flat_row cellsG 2 cellsG_len xs i (by omega))) ⟨_, rfl, ?_⟩)
        refine WA.one (i := 7) (by kernel_rfl) ?_
        refine WO.h rfl Wt.none rfl (Hd.loadA (n := 2) (b := vb) (o := vf + (i : Int).toNat * 2) (cs := vs) (vs := cellsG ys[i]) (by kernel_rfl) rfl hvm (cellsG_len _) (rs_cell hvs (by rw [flat_len cellsG 2 cellsG_len]; omega) (flat_row cellsG 2 cellsG_len ys i (by omega))) ⟨_, rfl, ?_⟩)
        refine WA.y (i := 8) (NoPanic.then (NoPanic.block (NoPanic.then (NoPanic.then (NoPanic.block (NoPanic.then (NoPanic.body))))))) rfl (by kernel_rfl) (by kernel_rfl) (by kernel_rfl) rfl (Yd.neqSt [1, 0] (by kernel_rfl) rfl rfl (same_gd _ _)) ?_
        refine WA.done (by kernel_rfl) ?_
        refine DN.then_normal ?_
        refine WC.cond rfl (fun h25 => ?_) (fun h25 => ?_)
        · have hne : ¬ g2 xs[i] = g2 ys[i] := by simpa using h25
          refine WC.seq ?_
          refine WC.region ?_
          refine WL.y rfl (Yd.assign rfl) ?_
          refine WL.nil ?_
          refine DN.then_normal ?_
          refine WC.ret ?_
          refine DN.block_ret ?_
          refine DN.then_ret ?_
          refine DN.then_ret ?_
          refine DN.block_ret ?_
          refine DN.then_ret ?_
          refine DN.fit (C := H) (by repeat (first | exact Sp.here | exact Sp.sn | exact Sp.s0 | exact Fr.here | apply Sp.s2 | apply Sp.sx | apply Fr.fc | apply Fr.al | apply Fr.fa | apply Sp.sc | apply Sp.al | apply Sp.sa)) ?_
          refine DN.ret1 Try.results19 rfl ?_
          first
            | exact ⟨by rw [decide_eq_false (same_no (xs := xs.map g2) (ys := ys.map g2) (by simpa using hln))], rfl⟩
            | exact ⟨by rw [decide_eq_true (same_yes (xs := xs.map g2) (ys := ys.map g2) (by simpa using hln) fun j h1 h2 => by simpa using hsame j (by simpa using h1) (by simpa using h2) (by simpa using h1))], rfl⟩
            | exact ⟨by rw [decide_eq_false (fun e => hne (by have e2 := congrArg (fun l => l[i]?) e; simpa [hlt, show i < ys.length by omega] using e2))], rfl⟩
        · have heq : g2 xs[i] = g2 ys[i] := by simpa using h25
          refine WC.skip ?_
          refine DN.block_normal ?_
          refine DN.then_normal ?_
          refine WC.region ?_
          refine WL.y rfl (Yd.move rfl) ?_
          refine WL.y rfl (Yd.add rfl rfl (by omega) (by omega)) ?_
          refine WL.y rfl (Yd.assign rfl) ?_
          refine WL.nil ?_
          exact DN.againS (i + 1) (show (i + 1) ≤ xs.length ∧ ∀ (j : Nat) (h1 : j < xs.length) (h2 : j < ys.length), j < (i + 1) → g2 xs[j] = g2 ys[j] from ⟨by omega, fun j h1 h2 hj => by
            rcases Nat.lt_or_ge j i with h | h
            · exact hsame j h1 h2 h
            · obtain rfl : j = i := by omega
              exact heq⟩) (show xs.length - (i + 1) < xs.length - i by omega) (Sx.put rfl ((by repeat (first | exact Sx.refl | refine Sx.skip rfl ?_)))) (by repeat (first | exact Sp.here | exact Sp.sn | exact Sp.s0 | exact Fr.here | apply Sp.s2 | apply Sp.sx | apply Fr.fc | apply Fr.al | apply Fr.fa | apply Sp.sc | apply Sp.al | apply Sp.sa))
      · refine WO.h rfl Wt.none rfl (Hd.loadA (n := 2) (b := vb) (o := vf + (i : Int).toNat * 2) (cs := vs) (vs := cellsG ys[i]) (by kernel_rfl) rfl hvm (cellsG_len _) (rs_cell hvs (by rw [flat_len cellsG 2 cellsG_len]; omega) (flat_row cellsG 2 cellsG_len ys i (by omega))) ⟨_, rfl, ?_⟩)
        refine WA.one (i := 3) (by kernel_rfl) ?_
        refine WO.h rfl Wt.none rfl (Hd.loadA (n := 2) (b := ub) (o := uf + (i : Int).toNat * 2) (cs := us) (vs := cellsG xs[i]) (by kernel_rfl) rfl hum (cellsG_len _) (rs_cell hus (by rw [flat_len cellsG 2 cellsG_len]; omega) (flat_row cellsG 2 cellsG_len xs i (by omega))) ⟨_, rfl, ?_⟩)
        refine WA.y (i := 8) (NoPanic.then (NoPanic.block (NoPanic.then (NoPanic.then (NoPanic.block (NoPanic.then (NoPanic.body))))))) rfl (by kernel_rfl) (by kernel_rfl) (by kernel_rfl) rfl (Yd.neqSt [1, 0] (by kernel_rfl) rfl rfl (same_gd _ _)) ?_
        refine WA.done (by kernel_rfl) ?_
        refine DN.then_normal ?_
        refine WC.cond rfl (fun h25 => ?_) (fun h25 => ?_)
        · have hne : ¬ g2 xs[i] = g2 ys[i] := by simpa using h25
          refine WC.seq ?_
          refine WC.region ?_
          refine WL.y rfl (Yd.assign rfl) ?_
          refine WL.nil ?_
          refine DN.then_normal ?_
          refine WC.ret ?_
          refine DN.block_ret ?_
          refine DN.then_ret ?_
          refine DN.then_ret ?_
          refine DN.block_ret ?_
          refine DN.then_ret ?_
          refine DN.fit (C := H) (by repeat (first | exact Sp.here | exact Sp.sn | exact Sp.s0 | exact Fr.here | apply Sp.s2 | apply Sp.sx | apply Fr.fc | apply Fr.al | apply Fr.fa | apply Sp.sc | apply Sp.al | apply Sp.sa)) ?_
          refine DN.ret1 Try.results19 rfl ?_
          first
            | exact ⟨by rw [decide_eq_false (same_no (xs := xs.map g2) (ys := ys.map g2) (by simpa using hln))], rfl⟩
            | exact ⟨by rw [decide_eq_true (same_yes (xs := xs.map g2) (ys := ys.map g2) (by simpa using hln) fun j h1 h2 => by simpa using hsame j (by simpa using h1) (by simpa using h2) (by simpa using h1))], rfl⟩
            | exact ⟨by rw [decide_eq_false (fun e => hne (by have e2 := congrArg (fun l => l[i]?) e; simpa [hlt, show i < ys.length by omega] using e2))], rfl⟩
        · have heq : g2 xs[i] = g2 ys[i] := by simpa using h25
          refine WC.skip ?_
          refine DN.block_normal ?_
          refine DN.then_normal ?_
          refine WC.region ?_
          refine WL.y rfl (Yd.move rfl) ?_
          refine WL.y rfl (Yd.add rfl rfl (by omega) (by omega)) ?_
          refine WL.y rfl (Yd.assign rfl) ?_
          refine WL.nil ?_
          exact DN.againS (i + 1) (show (i + 1) ≤ xs.length ∧ ∀ (j : Nat) (h1 : j < xs.length) (h2 : j < ys.length), j < (i + 1) → g2 xs[j] = g2 ys[j] from ⟨by omega, fun j h1 h2 hj => by
            rcases Nat.lt_or_ge j i with h | h
            · exact hsame j h1 h2 h
            · obtain rfl : j = i := by omega
              exact heq⟩) (show xs.length - (i + 1) < xs.length - i by omega) (Sx.put rfl ((by repeat (first | exact Sx.refl | refine Sx.skip rfl ?_)))) (by repeat (first | exact Sp.here | exact Sp.sn | exact Sp.s0 | exact Fr.here | apply Sp.s2 | apply Sp.sx | apply Fr.fc | apply Fr.al | apply Fr.fa | apply Sp.sc | apply Sp.al | apply Sp.sa))
    · obtain rfl : i = xs.length := by omega
      refine WC.exit ?_
      refine DN.then_exit ?_
      refine DN.then_exit ?_
      refine DN.block_exit ?_
      refine DN.then_normal ?_
      refine WC.seq ?_
      refine WC.region ?_
      refine WL.y rfl (Yd.assign rfl) ?_
      refine WL.nil ?_
      refine DN.then_normal ?_
      refine WC.ret ?_
      refine DN.fit (C := H) (by repeat (first | exact Sp.here | exact Sp.sn | exact Sp.s0 | exact Fr.here | apply Sp.s2 | apply Sp.sx | apply Fr.fc | apply Fr.al | apply Fr.fa | apply Sp.sc | apply Sp.al | apply Sp.sa)) ?_
      refine DN.ret1 Try.results19 rfl ?_
      first
        | exact ⟨by rw [decide_eq_false (same_no (xs := xs.map g2) (ys := ys.map g2) (by simpa using hln))], rfl⟩
        | exact ⟨by rw [decide_eq_true (same_yes (xs := xs.map g2) (ys := ys.map g2) (by simpa using hln) fun j h1 h2 => by simpa using hsame j (by simpa using h1) (by simpa using h2) (by simpa using h1))], rfl⟩
        | exact ⟨by rw [decide_eq_false (fun e => hne (by have e2 := congrArg (fun l => l[i]?) e; simpa [hlt, show i < ys.length by omega] using e2))], rfl⟩

/-- drayage/drayagelaw09.sameHolds -/
theorem sameHolds_reads (u v : Value) (xs ys : List Ho) (H : List Ck) (hu : Rs u xs.length (xs.flatMap cellsH) H) (hv : Rs v ys.length (ys.flatMap cellsH) H) (hx : xs.length ≤ 100000000) (hy : ys.length ≤ 100000000) : Reads Try.prog 21 [u, v] H (.bool (decide (xs = ys))) := by
  refine Tells.enter Try.func21 rfl Try.ntmps21 rfl ?_
  intro w0 R
  obtain ⟨uo, uc, rfl, _⟩ := hu.form
  obtain ⟨vo, vc, rfl, _⟩ := hv.form
  refine WC.seq ?_
  refine WC.region ?_
  refine WL.y rfl (Yd.assign rfl) ?_
  refine WL.nil ?_
  refine DN.then_normal ?_
  refine WC.seq ?_
  refine WC.seq ?_
  refine WC.region ?_
  refine WL.y rfl (Yd.move rfl) ?_
  refine WL.y rfl (Yd.len (e := 50) (by kernel_rfl) rfl) ?_
  refine WL.y rfl (Yd.move rfl) ?_
  refine WL.y rfl (Yd.len (e := 50) (by kernel_rfl) rfl) ?_
  refine WL.y rfl (Yd.neq rfl rfl) ?_
  refine WL.nil ?_
  refine DN.then_normal ?_
  refine WC.cond rfl (fun h10 => ?_) (fun h10 => ?_)
  · have hln : xs.length ≠ ys.length := by simp only [decide_eq_true_eq] at h10; omega
    refine WC.seq ?_
    refine WC.region ?_
    refine WL.y rfl (Yd.assign rfl) ?_
    refine WL.nil ?_
    refine DN.then_normal ?_
    refine WC.ret ?_
    refine DN.then_ret ?_
    refine DN.fit (C := H) (by repeat (first | exact Sp.here | exact Sp.sn | exact Sp.s0 | exact Fr.here | apply Sp.s2 | apply Sp.sx | apply Fr.fc | apply Fr.al | apply Fr.fa | apply Sp.sc | apply Sp.al | apply Sp.sa)) ?_
    refine DN.ret1 Try.results21 rfl ?_
    first
      | exact ⟨by rw [decide_eq_false (same_no (xs := xs) (ys := ys) (by simpa using hln))], rfl⟩
      | exact ⟨by rw [decide_eq_true (same_yes (xs := xs) (ys := ys) (by simpa using hln) fun j h1 h2 => by simpa using hsame j (by simpa using h1) (by simpa using h2) (by simpa using h1))], rfl⟩
      | exact ⟨by rw [decide_eq_false (fun e => hne (by have e2 := congrArg (fun l => l[i]?) e; simpa [hlt, show i < ys.length by omega] using e2))], rfl⟩
  · have hln : xs.length = ys.length := by simp only [decide_eq_false_iff_not] at h10; omega
    refine WC.skip ?_
    refine DN.then_normal ?_
    refine WC.seq ?_
    refine WC.seq ?_
    refine WC.region ?_
    refine WL.y rfl (Yd.assign rfl) ?_
    refine WL.nil ?_
    refine DN.then_normal ?_
    refine WC.block ?_
    refine WC.loopS (fun z : Nat => z ≤ xs.length ∧ ∀ (j : Nat) (h1 : j < xs.length) (h2 : j < ys.length), j < z → xs[j] = ys[j]) (fun z : Nat => [(5, .int .i64 (z : Int))]) (fun z : Nat => H) (fun z : Nat => xs.length - z) (0) (show 0 ≤ xs.length ∧ ∀ (j : Nat) (h1 : j < xs.length) (h2 : j < ys.length), j < 0 → xs[j] = ys[j] from ⟨by omega, fun _ _ _ _ => by omega⟩) (Sx.put rfl ((by repeat (first | exact Sx.refl | refine Sx.skip rfl ?_)))) (by repeat (first | exact Sp.here | exact Sp.sn | exact Sp.s0 | exact Fr.here | apply Sp.s2 | apply Sp.sx | apply Fr.fc | apply Fr.al | apply Fr.fa | apply Sp.sc | apply Sp.al | apply Sp.sa)) ?_
    rintro i hI
    replace hI : i ≤ xs.length ∧ ∀ (j : Nat) (h1 : j < xs.length) (h2 : j < ys.length), j < i → xs[j] = ys[j] := hI
    obtain ⟨hi, hsame⟩ := hI
    change WC _ _ _ _ _ _ ([(5, .int .i64 (i : Int))] ++ _) (H)
    refine WC.seq ?_
    refine WC.seq ?_
    refine WC.region ?_
    refine WL.y rfl (Yd.move rfl) ?_
    refine WL.y rfl (Yd.move rfl) ?_
    refine WL.y rfl (Yd.len (e := 50) (by kernel_rfl) rfl) ?_
    refine WL.y rfl (Yd.lss rfl rfl) ?_
    refine WL.nil ?_
    refine DN.then_normal ?_
    refine WC.ite rfl (fun h14 => ?_) (fun h14 => ?_)
    · have hlt : i < xs.length := by omega
      obtain ⟨ub, uf, us, uT, ufr, uex, rfl, _, hum, hus⟩ := hu.lies (by omega)
      obtain ⟨vb, vf, vs, vT, vfr, vex, rfl, _, hvm, hvs⟩ := hv.lies (by omega)
      refine WC.skip ?_
      refine DN.then_normal ?_
      refine WC.seq ?_
      refine WC.block ?_
      refine WC.seq ?_
      refine WC.draw 9 (by kernel_rfl) rfl ?_
      refine WA.y (i := 0) (NoPanic.then (NoPanic.block (NoPanic.then (NoPanic.then (NoPanic.block (NoPanic.then (NoPanic.body))))))) rfl (by kernel_rfl) (by kernel_rfl) (by kernel_rfl) rfl (Yd.move rfl) ?_
      refine WA.y (i := 1) (NoPanic.then (NoPanic.block (NoPanic.then (NoPanic.then (NoPanic.block (NoPanic.then (NoPanic.body))))))) rfl (by kernel_rfl) (by kernel_rfl) (by kernel_rfl) rfl (Yd.move rfl) ?_
      refine WA.y (i := 2) (NoPanic.then (NoPanic.block (NoPanic.then (NoPanic.then (NoPanic.block (NoPanic.then (NoPanic.body))))))) rfl (by kernel_rfl) (by kernel_rfl) (by kernel_rfl) rfl (Yd.indexAddr (e := 50) (s := 3) (by kernel_rfl) (by kernel_rfl) rfl rfl (by omega) (by omega)) ?_
      refine WA.y (i := 4) (NoPanic.then (NoPanic.block (NoPanic.then (NoPanic.then (NoPanic.block (NoPanic.then (NoPanic.body))))))) rfl (by kernel_rfl) (by kernel_rfl) (by kernel_rfl) rfl (Yd.move rfl) ?_
      refine WA.y (i := 5) (NoPanic.then (NoPanic.block (NoPanic.then (NoPanic.then (NoPanic.block (NoPanic.then (NoPanic.body))))))) rfl (by kernel_rfl) (by kernel_rfl) (by kernel_rfl) rfl (Yd.move rfl) ?_
      refine WA.y (i := 6) (NoPanic.then (NoPanic.block (NoPanic.then (NoPanic.then (NoPanic.block (NoPanic.then (NoPanic.body))))))) rfl (by kernel_rfl) (by kernel_rfl) (by kernel_rfl) rfl (Yd.indexAddr (e := 50) (s := 3) (by kernel_rfl) (by kernel_rfl) rfl rfl (by omega) (by omega)) ?_
      refine WA.two (i := 3) (j := 7) (by kernel_rfl) ?_ ?_
      · refine WO.h rfl Wt.none rfl (Hd.loadA (n := 3) (b := ub) (o := uf + (i : Int).toNat * 3) (cs := us) (vs := cellsH xs[i]) (by kernel_rfl) rfl hum (cellsH_len _) (rs_cell hus (by rw [flat_len cellsH 3 cellsH_len]; omega) (flat_row cellsH 3 cellsH_len xs i (by omega))) ⟨_, rfl, ?_⟩)
        refine WA.one (i := 7) (by kernel_rfl) ?_
        refine WO.h rfl Wt.none rfl (Hd.loadA (n := 3) (b := vb) (o := vf + (i : Int).toNat * 3) (cs := vs) (vs := cellsH ys[i]) (by kernel_rfl) rfl hvm (cellsH_len _) (rs_cell hvs (by rw [flat_len cellsH 3 cellsH_len]; omega) (flat_row cellsH 3 cellsH_len ys i (by omega))) ⟨_, rfl, ?_⟩)
        refine WA.y (i := 8) (NoPanic.then (NoPanic.block (NoPanic.then (NoPanic.then (NoPanic.block (NoPanic.then (NoPanic.body))))))) rfl (by kernel_rfl) (by kernel_rfl) (by kernel_rfl) rfl (Yd.neqSt [0, 1, 0] (by kernel_rfl) rfl rfl (same_ho _ _)) ?_
        refine WA.done (by kernel_rfl) ?_
        refine DN.then_normal ?_
        refine WC.cond rfl (fun h25 => ?_) (fun h25 => ?_)
        · have hne : ¬ xs[i] = ys[i] := by simpa using h25
          refine WC.seq ?_
          refine WC.region ?_
          refine WL.y rfl (Yd.assign rfl) ?_
          refine WL.nil ?_
          refine DN.then_normal ?_
          refine WC.ret ?_
          refine DN.block_ret ?_
          refine DN.then_ret ?_
          refine DN.then_ret ?_
          refine DN.block_ret ?_
          refine DN.then_ret ?_
          refine DN.fit (C := H) (by repeat (first | exact Sp.here | exact Sp.sn | exact Sp.s0 | exact Fr.here | apply Sp.s2 | apply Sp.sx | apply Fr.fc | apply Fr.al | apply Fr.fa | apply Sp.sc | apply Sp.al | apply Sp.sa)) ?_
          refine DN.ret1 Try.results21 rfl ?_
          first
            | exact ⟨by rw [decide_eq_false (same_no (xs := xs) (ys := ys) (by simpa using hln))], rfl⟩
            | exact ⟨by rw [decide_eq_true (same_yes (xs := xs) (ys := ys) (by simpa using hln) fun j h1 h2 => by simpa using hsame j (by simpa using h1) (by simpa using h2) (by simpa using h1))], rfl⟩
            | exact ⟨by rw [decide_eq_false (fun e => hne (by have e2 := congrArg (fun l => l[i]?) e; simpa [hlt, show i < ys.length by omega] using e2))], rfl⟩
        · have heq : xs[i] = ys[i] := by simpa using h25
          refine WC.skip ?_
          refine DN.block_normal ?_
          refine DN.then_normal ?_
          refine WC.region ?_
          refine WL.y rfl (Yd.move rfl) ?_
          refine WL.y rfl (Yd.add rfl rfl (by omega) (by omega)) ?_
          refine WL.y rfl (Yd.assign rfl) ?_
          refine WL.nil ?_
          exact DN.againS (i + 1) (show (i + 1) ≤ xs.length ∧ ∀ (j : Nat) (h1 : j < xs.length) (h2 : j < ys.length), j < (i + 1) → xs[j] = ys[j] from ⟨by omega, fun j h1 h2 hj => by
            rcases Nat.lt_or_ge j i with h | h
            · exact hsame j h1 h2 h
            · obtain rfl : j = i := by omega
              exact heq⟩) (show xs.length - (i + 1) < xs.length - i by omega) (Sx.put rfl ((by repeat (first | exact Sx.refl | refine Sx.skip rfl ?_)))) (by repeat (first | exact Sp.here | exact Sp.sn | exact Sp.s0 | exact Fr.here | apply Sp.s2 | apply Sp.sx | apply Fr.fc | apply Fr.al | apply Fr.fa | apply Sp.sc | apply Sp.al | apply Sp.sa))
      · refine WO.h rfl Wt.none rfl (Hd.loadA (n := 3) (b := vb) (o := vf + (i : Int).toNat * 3) (cs := vs) (vs := cellsH ys[i]) (by kernel_rfl) rfl hvm (cellsH_len _) (rs_cell hvs (by rw [flat_len cellsH 3 cellsH_len]; omega) (flat_row cellsH 3 cellsH_len ys i (by omega))) ⟨_, rfl, ?_⟩)
        refine WA.one (i := 3) (by kernel_rfl) ?_
        refine WO.h rfl Wt.none rfl (Hd.loadA (n := 3) (b := ub) (o := uf + (i : Int).toNat * 3) (cs := us) (vs := cellsH xs[i]) (by kernel_rfl) rfl hum (cellsH_len _) (rs_cell hus (by rw [flat_len cellsH 3 cellsH_len]; omega) (flat_row cellsH 3 cellsH_len xs i (by omega))) ⟨_, rfl, ?_⟩)
        refine WA.y (i := 8) (NoPanic.then (NoPanic.block (NoPanic.then (NoPanic.then (NoPanic.block (NoPanic.then (NoPanic.body))))))) rfl (by kernel_rfl) (by kernel_rfl) (by kernel_rfl) rfl (Yd.neqSt [0, 1, 0] (by kernel_rfl) rfl rfl (same_ho _ _)) ?_
        refine WA.done (by kernel_rfl) ?_
        refine DN.then_normal ?_
        refine WC.cond rfl (fun h25 => ?_) (fun h25 => ?_)
        · have hne : ¬ xs[i] = ys[i] := by simpa using h25
          refine WC.seq ?_
          refine WC.region ?_
          refine WL.y rfl (Yd.assign rfl) ?_
          refine WL.nil ?_
          refine DN.then_normal ?_
          refine WC.ret ?_
          refine DN.block_ret ?_
          refine DN.then_ret ?_
          refine DN.then_ret ?_
          refine DN.block_ret ?_
          refine DN.then_ret ?_
          refine DN.fit (C := H) (by repeat (first | exact Sp.here | exact Sp.sn | exact Sp.s0 | exact Fr.here | apply Sp.s2 | apply Sp.sx | apply Fr.fc | apply Fr.al | apply Fr.fa | apply Sp.sc | apply Sp.al | apply Sp.sa)) ?_
          refine DN.ret1 Try.results21 rfl ?_
          first
            | exact ⟨by rw [decide_eq_false (same_no (xs := xs) (ys := ys) (by simpa using hln))], rfl⟩
            | exact ⟨by rw [decide_eq_true (same_yes (xs := xs) (ys := ys) (by simpa using hln) fun j h1 h2 => by simpa using hsame j (by simpa using h1) (by simpa using h2) (by simpa using h1))], rfl⟩
            | exact ⟨by rw [decide_eq_false (fun e => hne (by have e2 := congrArg (fun l => l[i]?) e; simpa [hlt, show i < ys.length by omega] using e2))], rfl⟩
        · have heq : xs[i] = ys[i] := by simpa using h25
          refine WC.skip ?_
          refine DN.block_normal ?_
          refine DN.then_normal ?_
          refine WC.region ?_
          refine WL.y rfl (Yd.move rfl) ?_
          refine WL.y rfl (Yd.add rfl rfl (by omega) (by omega)) ?_
          refine WL.y rfl (Yd.assign rfl) ?_
          refine WL.nil ?_
          exact DN.againS (i + 1) (show (i + 1) ≤ xs.length ∧ ∀ (j : Nat) (h1 : j < xs.length) (h2 : j < ys.length), j < (i + 1) → xs[j] = ys[j] from ⟨by omega, fun j h1 h2 hj => by
            rcases Nat.lt_or_ge j i with h | h
            · exact hsame j h1 h2 h
            · obtain rfl : j = i := by omega
              exact heq⟩) (show xs.length - (i + 1) < xs.length - i by omega) (Sx.put rfl ((by repeat (first | exact Sx.refl | refine Sx.skip rfl ?_)))) (by repeat (first | exact Sp.here | exact Sp.sn | exact Sp.s0 | exact Fr.here | apply Sp.s2 | apply Sp.sx | apply Fr.fc | apply Fr.al | apply Fr.fa | apply Sp.sc | apply Sp.al | apply Sp.sa))
    · obtain rfl : i = xs.length := by omega
      refine WC.exit ?_
      refine DN.then_exit ?_
      refine DN.then_exit ?_
      refine DN.block_exit ?_
      refine DN.then_normal ?_
      refine WC.seq ?_
      refine WC.region ?_
      refine WL.y rfl (Yd.assign rfl) ?_
      refine WL.nil ?_
      refine DN.then_normal ?_
      refine WC.ret ?_
      refine DN.fit (C := H) (by repeat (first | exact Sp.here | exact Sp.sn | exact Sp.s0 | exact Fr.here | apply Sp.s2 | apply Sp.sx | apply Fr.fc | apply Fr.al | apply Fr.fa | apply Sp.sc | apply Sp.al | apply Sp.sa)) ?_
      refine DN.ret1 Try.results21 rfl ?_
      first
        | exact ⟨by rw [decide_eq_false (same_no (xs := xs) (ys := ys) (by simpa using hln))], rfl⟩
        | exact ⟨by rw [decide_eq_true (same_yes (xs := xs) (ys := ys) (by simpa using hln) fun j h1 h2 => by simpa using hsame j (by simpa using h1) (by simpa using h2) (by simpa using h1))], rfl⟩
        | exact ⟨by rw [decide_eq_false (fun e => hne (by have e2 := congrArg (fun l => l[i]?) e; simpa [hlt, show i < ys.length by omega] using e2))], rfl⟩

/-- drayage/drayagelaw09.act -/
theorem act_tells (p : Nat) (first K : List Gd) (L : List Ho) (C : List Ck) (h : StAt 57 p K L C) (inv : SInv first K L) (x : Ac9) : Tells Try.prog 15 [.pointer (some ⟨p, 0, none⟩), .agg (cellsA x).toArray] C fun r H' => r = .int .i64 (actV K L x) ∧ StAt 57 p (actKs K L x) (actLs K L x) H' := by
  refine Tells.enter Try.func15 rfl Try.ntmps15 rfl ?_
  intro w0 R
  refine WC.seq ?_
  refine WC.region ?_
  refine WL.h rfl (Hd.boxA rfl fun b3 => ⟨_, rfl, ?_⟩)
  refine WL.y rfl (Yd.assign rfl) ?_
  refine WL.nil ?_
  refine DN.then_normal ?_
  refine WC.seq ?_
  refine WC.seq ?_
  refine WC.region ?_
  refine WL.y rfl (Yd.fieldAddr (k := 0) (by kernel_rfl) rfl) ?_
  refine WL.h rfl (Hd.load1 (by kernel_rfl) rfl (by repeat (first | exact List.mem_cons_self | apply List.mem_cons_of_mem | apply List.mem_append_right)) (by rfl) ⟨_, rfl, ?_⟩)
  refine WL.nil ?_
  refine DN.then_normal ?_
  refine WC.block ?_
  refine WC.seq ?_
  refine WC.seq ?_
  refine WC.region ?_
  refine WL.y rfl (Yd.eql rfl rfl) ?_
  refine WL.y rfl (Yd.assign rfl) ?_
  refine WL.nil ?_
  refine DN.then_normal ?_
  refine WC.ite rfl (fun h7 => ?_) (fun h7 => ?_)
  · refine WC.skip ?_
    refine DN.then_normal ?_
    refine WC.ite rfl (fun h7 => ?_) (fun h7 => ?_)
    · refine WC.seq ?_
      refine WC.region ?_
      refine WL.y rfl (Yd.move rfl) ?_
      refine WL.y rfl (Yd.fieldAddr (k := 1) (by kernel_rfl) rfl) ?_
      refine WL.h rfl (Hd.load1 (by kernel_rfl) rfl (by repeat (first | exact List.mem_cons_self | apply List.mem_cons_of_mem | apply List.mem_append_right)) (by rfl) ⟨_, rfl, ?_⟩)
      refine WL.y rfl (Yd.fieldAddr (k := 2) (by kernel_rfl) rfl) ?_
      refine WL.h rfl (Hd.load1 (by kernel_rfl) rfl (by repeat (first | exact List.mem_cons_self | apply List.mem_cons_of_mem | apply List.mem_append_right)) (by rfl) ⟨_, rfl, ?_⟩)
      refine WL.y rfl (Yd.fieldAddr (k := 3) (by kernel_rfl) rfl) ?_
      refine WL.h rfl (Hd.load1 (by kernel_rfl) rfl (by repeat (first | exact List.mem_cons_self | apply List.mem_cons_of_mem | apply List.mem_append_right)) (by rfl) ⟨_, rfl, ?_⟩)
      refine WL.c rfl (Ent.func Try.call13 rfl) (hold_tells p first K L C h inv x.o x.name x.n) (Sp.p (by repeat (first | exact Sp.here | exact Sp.sn | exact Sp.s0 | exact Fr.here | apply Sp.s2 | apply Sp.sx | apply Fr.fc | apply Fr.al | apply Fr.fa | apply Sp.sc | apply Sp.al | apply Sp.sa))) ?_
      rintro q C2 ⟨rfl, h2⟩
      refine WL.y rfl (Yd.assign rfl) ?_
      refine WL.nil ?_
      refine DN.then_normal ?_
      refine WC.ret ?_
      refine DN.block_ret ?_
      refine DN.then_ret ?_
      refine DN.fit (C := C2) (by repeat (first | exact Sp.here | exact Sp.sn | exact Sp.s0 | exact Fr.here | apply Sp.s2 | apply Sp.sx | apply Fr.fc | apply Fr.al | apply Fr.fa | apply Sp.sc | apply Sp.al | apply Sp.sa)) ?_
      refine DN.ret1 Try.results15 rfl ?_
      first
        | (have e : isHold x = true := by unfold isHold; rw [Bool.or_eq_true, decide_eq_true_eq, decide_eq_true_eq]; omega
           unfold actV actKs actLs
           rw [e]
           exact ⟨by first | rfl | trivial, h2⟩)
        | (have e : isHold x = false := by unfold isHold; rw [Bool.or_eq_false_iff, decide_eq_false_iff_not, decide_eq_false_iff_not]; omega
           have e2 : x.k = 2 := by omega
           unfold actV actKs actLs
           rw [e]
           simp only [Bool.false_eq_true, if_false, if_pos e2]
           exact ⟨by first | rfl | trivial, h2⟩)
        | (have e : isHold x = false := by unfold isHold; rw [Bool.or_eq_false_iff, decide_eq_false_iff_not, decide_eq_false_iff_not]; omega
           have e2 : ¬ x.k = 2 := by omega
           unfold actV actKs actLs
           rw [e]
           simp only [Bool.false_eq_true, if_false, if_neg e2]
           exact ⟨by first | rfl | trivial, h2⟩)
    · refine WC.seq ?_
      refine WC.region ?_
      refine WL.y rfl (Yd.eql rfl rfl) ?_
      refine WL.y rfl (Yd.assign rfl) ?_
      refine WL.nil ?_
      refine DN.then_normal ?_
      refine WC.ite rfl (fun h18 => ?_) (fun h18 => ?_)
      · refine WC.seq ?_
        refine WC.region ?_
        refine WL.y rfl (Yd.move rfl) ?_
        refine WL.y rfl (Yd.fieldAddr (k := 1) (by kernel_rfl) rfl) ?_
        refine WL.h rfl (Hd.load1 (by kernel_rfl) rfl (by repeat (first | exact List.mem_cons_self | apply List.mem_cons_of_mem | apply List.mem_append_right)) (by rfl) ⟨_, rfl, ?_⟩)
        refine WL.c rfl (Ent.func Try.call25 rfl) (free_tells p first K L C h inv x.o) (Sp.p (by repeat (first | exact Sp.here | exact Sp.sn | exact Sp.s0 | exact Fr.here | apply Sp.s2 | apply Sp.sx | apply Fr.fc | apply Fr.al | apply Fr.fa | apply Sp.sc | apply Sp.al | apply Sp.sa))) ?_
        rintro q C2 ⟨rfl, h2⟩
        refine WL.y rfl (Yd.assign rfl) ?_
        refine WL.nil ?_
        refine DN.then_normal ?_
        refine WC.ret ?_
        refine DN.block_ret ?_
        refine DN.then_ret ?_
        refine DN.fit (C := C2) (by repeat (first | exact Sp.here | exact Sp.sn | exact Sp.s0 | exact Fr.here | apply Sp.s2 | apply Sp.sx | apply Fr.fc | apply Fr.al | apply Fr.fa | apply Sp.sc | apply Sp.al | apply Sp.sa)) ?_
        refine DN.ret1 Try.results15 rfl ?_
        first
          | (have e : isHold x = true := by unfold isHold; rw [Bool.or_eq_true, decide_eq_true_eq, decide_eq_true_eq]; omega
             unfold actV actKs actLs
             rw [e]
             exact ⟨by first | rfl | trivial, h2⟩)
          | (have e : isHold x = false := by unfold isHold; rw [Bool.or_eq_false_iff, decide_eq_false_iff_not, decide_eq_false_iff_not]; omega
             have e2 : x.k = 2 := by omega
             unfold actV actKs actLs
             rw [e]
             simp only [Bool.false_eq_true, if_false, if_pos e2]
             exact ⟨by first | rfl | trivial, h2⟩)
          | (have e : isHold x = false := by unfold isHold; rw [Bool.or_eq_false_iff, decide_eq_false_iff_not, decide_eq_false_iff_not]; omega
             have e2 : ¬ x.k = 2 := by omega
             unfold actV actKs actLs
             rw [e]
             simp only [Bool.false_eq_true, if_false, if_neg e2]
             exact ⟨by first | rfl | trivial, h2⟩)
      · refine WC.skip ?_
        refine DN.block_normal ?_
        refine DN.then_normal ?_
        refine WC.seq ?_
        refine WC.region ?_
        refine WL.y rfl (Yd.move rfl) ?_
        refine WL.y rfl (Yd.fieldAddr (k := 1) (by kernel_rfl) rfl) ?_
        refine WL.h rfl (Hd.load1 (by kernel_rfl) rfl (by repeat (first | exact List.mem_cons_self | apply List.mem_cons_of_mem | apply List.mem_append_right)) (by rfl) ⟨_, rfl, ?_⟩)
        refine WL.c rfl (Ent.func Try.call26 rfl) (ship_tells p first K L C h inv x.o) (Sp.p (by repeat (first | exact Sp.here | exact Sp.sn | exact Sp.s0 | exact Fr.here | apply Sp.s2 | apply Sp.sx | apply Fr.fc | apply Fr.al | apply Fr.fa | apply Sp.sc | apply Sp.al | apply Sp.sa))) ?_
        rintro q C2 ⟨rfl, h2⟩
        refine WL.y rfl (Yd.assign rfl) ?_
        refine WL.nil ?_
        refine DN.then_normal ?_
        refine WC.ret ?_
        refine DN.fit (C := C2) (by repeat (first | exact Sp.here | exact Sp.sn | exact Sp.s0 | exact Fr.here | apply Sp.s2 | apply Sp.sx | apply Fr.fc | apply Fr.al | apply Fr.fa | apply Sp.sc | apply Sp.al | apply Sp.sa)) ?_
        refine DN.ret1 Try.results15 rfl ?_
        first
          | (have e : isHold x = true := by unfold isHold; rw [Bool.or_eq_true, decide_eq_true_eq, decide_eq_true_eq]; omega
             unfold actV actKs actLs
             rw [e]
             exact ⟨by first | rfl | trivial, h2⟩)
          | (have e : isHold x = false := by unfold isHold; rw [Bool.or_eq_false_iff, decide_eq_false_iff_not, decide_eq_false_iff_not]; omega
             have e2 : x.k = 2 := by omega
             unfold actV actKs actLs
             rw [e]
             simp only [Bool.false_eq_true, if_false, if_pos e2]
             exact ⟨by first | rfl | trivial, h2⟩)
          | (have e : isHold x = false := by unfold isHold; rw [Bool.or_eq_false_iff, decide_eq_false_iff_not, decide_eq_false_iff_not]; omega
             have e2 : ¬ x.k = 2 := by omega
             unfold actV actKs actLs
             rw [e]
             simp only [Bool.false_eq_true, if_false, if_neg e2]
             exact ⟨by first | rfl | trivial, h2⟩)
  · refine WC.region ?_
    refine WL.y rfl (Yd.eql rfl rfl) ?_
    refine WL.y rfl (Yd.assign rfl) ?_
    refine WL.nil ?_
    refine DN.then_normal ?_
    refine WC.ite rfl (fun h7 => ?_) (fun h7 => ?_)
    · refine WC.seq ?_
      refine WC.region ?_
      refine WL.y rfl (Yd.move rfl) ?_
      refine WL.y rfl (Yd.fieldAddr (k := 1) (by kernel_rfl) rfl) ?_
      refine WL.h rfl (Hd.load1 (by kernel_rfl) rfl (by repeat (first | exact List.mem_cons_self | apply List.mem_cons_of_mem | apply List.mem_append_right)) (by rfl) ⟨_, rfl, ?_⟩)
      refine WL.y rfl (Yd.fieldAddr (k := 2) (by kernel_rfl) rfl) ?_
      refine WL.h rfl (Hd.load1 (by kernel_rfl) rfl (by repeat (first | exact List.mem_cons_self | apply List.mem_cons_of_mem | apply List.mem_append_right)) (by rfl) ⟨_, rfl, ?_⟩)
      refine WL.y rfl (Yd.fieldAddr (k := 3) (by kernel_rfl) rfl) ?_
      refine WL.h rfl (Hd.load1 (by kernel_rfl) rfl (by repeat (first | exact List.mem_cons_self | apply List.mem_cons_of_mem | apply List.mem_append_right)) (by rfl) ⟨_, rfl, ?_⟩)
      refine WL.c rfl (Ent.func Try.call13 rfl) (hold_tells p first K L C h inv x.o x.name x.n) (Sp.p (by repeat (first | exact Sp.here | exact Sp.sn | exact Sp.s0 | exact Fr.here | apply Sp.s2 | apply Sp.sx | apply Fr.fc | apply Fr.al | apply Fr.fa | apply Sp.sc | apply Sp.al | apply Sp.sa))) ?_
      rintro q C2 ⟨rfl, h2⟩
      refine WL.y rfl (Yd.assign rfl) ?_
      refine WL.nil ?_
      refine DN.then_normal ?_
      refine WC.ret ?_
      refine DN.block_ret ?_
      refine DN.then_ret ?_
      refine DN.fit (C := C2) (by repeat (first | exact Sp.here | exact Sp.sn | exact Sp.s0 | exact Fr.here | apply Sp.s2 | apply Sp.sx | apply Fr.fc | apply Fr.al | apply Fr.fa | apply Sp.sc | apply Sp.al | apply Sp.sa)) ?_
      refine DN.ret1 Try.results15 rfl ?_
      first
        | (have e : isHold x = true := by unfold isHold; rw [Bool.or_eq_true, decide_eq_true_eq, decide_eq_true_eq]; omega
           unfold actV actKs actLs
           rw [e]
           exact ⟨by first | rfl | trivial, h2⟩)
        | (have e : isHold x = false := by unfold isHold; rw [Bool.or_eq_false_iff, decide_eq_false_iff_not, decide_eq_false_iff_not]; omega
           have e2 : x.k = 2 := by omega
           unfold actV actKs actLs
           rw [e]
           simp only [Bool.false_eq_true, if_false, if_pos e2]
           exact ⟨by first | rfl | trivial, h2⟩)
        | (have e : isHold x = false := by unfold isHold; rw [Bool.or_eq_false_iff, decide_eq_false_iff_not, decide_eq_false_iff_not]; omega
           have e2 : ¬ x.k = 2 := by omega
           unfold actV actKs actLs
           rw [e]
           simp only [Bool.false_eq_true, if_false, if_neg e2]
           exact ⟨by first | rfl | trivial, h2⟩)
    · refine WC.seq ?_
      refine WC.region ?_
      refine WL.y rfl (Yd.eql rfl rfl) ?_
      refine WL.y rfl (Yd.assign rfl) ?_
      refine WL.nil ?_
      refine DN.then_normal ?_
      refine WC.ite rfl (fun h18 => ?_) (fun h18 => ?_)
      · refine WC.seq ?_
        refine WC.region ?_
        refine WL.y rfl (Yd.move rfl) ?_
        refine WL.y rfl (Yd.fieldAddr (k := 1) (by kernel_rfl) rfl) ?_
        refine WL.h rfl (Hd.load1 (by kernel_rfl) rfl (by repeat (first | exact List.mem_cons_self | apply List.mem_cons_of_mem | apply List.mem_append_right)) (by rfl) ⟨_, rfl, ?_⟩)
        refine WL.c rfl (Ent.func Try.call25 rfl) (free_tells p first K L C h inv x.o) (Sp.p (by repeat (first | exact Sp.here | exact Sp.sn | exact Sp.s0 | exact Fr.here | apply Sp.s2 | apply Sp.sx | apply Fr.fc | apply Fr.al | apply Fr.fa | apply Sp.sc | apply Sp.al | apply Sp.sa))) ?_
        rintro q C2 ⟨rfl, h2⟩
        refine WL.y rfl (Yd.assign rfl) ?_
        refine WL.nil ?_
        refine DN.then_normal ?_
        refine WC.ret ?_
        refine DN.block_ret ?_
        refine DN.then_ret ?_
        refine DN.fit (C := C2) (by repeat (first | exact Sp.here | exact Sp.sn | exact Sp.s0 | exact Fr.here | apply Sp.s2 | apply Sp.sx | apply Fr.fc | apply Fr.al | apply Fr.fa | apply Sp.sc | apply Sp.al | apply Sp.sa)) ?_
        refine DN.ret1 Try.results15 rfl ?_
        first
          | (have e : isHold x = true := by unfold isHold; rw [Bool.or_eq_true, decide_eq_true_eq, decide_eq_true_eq]; omega
             unfold actV actKs actLs
             rw [e]
             exact ⟨by first | rfl | trivial, h2⟩)
          | (have e : isHold x = false := by unfold isHold; rw [Bool.or_eq_false_iff, decide_eq_false_iff_not, decide_eq_false_iff_not]; omega
             have e2 : x.k = 2 := by omega
             unfold actV actKs actLs
             rw [e]
             simp only [Bool.false_eq_true, if_false, if_pos e2]
             exact ⟨by first | rfl | trivial, h2⟩)
          | (have e : isHold x = false := by unfold isHold; rw [Bool.or_eq_false_iff, decide_eq_false_iff_not, decide_eq_false_iff_not]; omega
             have e2 : ¬ x.k = 2 := by omega
             unfold actV actKs actLs
             rw [e]
             simp only [Bool.false_eq_true, if_false, if_neg e2]
             exact ⟨by first | rfl | trivial, h2⟩)
      · refine WC.skip ?_
        refine DN.block_normal ?_
        refine DN.then_normal ?_
        refine WC.seq ?_
        refine WC.region ?_
        refine WL.y rfl (Yd.move rfl) ?_
        refine WL.y rfl (Yd.fieldAddr (k := 1) (by kernel_rfl) rfl) ?_
        refine WL.h rfl (Hd.load1 (by kernel_rfl) rfl (by repeat (first | exact List.mem_cons_self | apply List.mem_cons_of_mem | apply List.mem_append_right)) (by rfl) ⟨_, rfl, ?_⟩)
        refine WL.c rfl (Ent.func Try.call26 rfl) (ship_tells p first K L C h inv x.o) (Sp.p (by repeat (first | exact Sp.here | exact Sp.sn | exact Sp.s0 | exact Fr.here | apply Sp.s2 | apply Sp.sx | apply Fr.fc | apply Fr.al | apply Fr.fa | apply Sp.sc | apply Sp.al | apply Sp.sa))) ?_
        rintro q C2 ⟨rfl, h2⟩
        refine WL.y rfl (Yd.assign rfl) ?_
        refine WL.nil ?_
        refine DN.then_normal ?_
        refine WC.ret ?_
        refine DN.fit (C := C2) (by repeat (first | exact Sp.here | exact Sp.sn | exact Sp.s0 | exact Fr.here | apply Sp.s2 | apply Sp.sx | apply Fr.fc | apply Fr.al | apply Fr.fa | apply Sp.sc | apply Sp.al | apply Sp.sa)) ?_
        refine DN.ret1 Try.results15 rfl ?_
        first
          | (have e : isHold x = true := by unfold isHold; rw [Bool.or_eq_true, decide_eq_true_eq, decide_eq_true_eq]; omega
             unfold actV actKs actLs
             rw [e]
             exact ⟨by first | rfl | trivial, h2⟩)
          | (have e : isHold x = false := by unfold isHold; rw [Bool.or_eq_false_iff, decide_eq_false_iff_not, decide_eq_false_iff_not]; omega
             have e2 : x.k = 2 := by omega
             unfold actV actKs actLs
             rw [e]
             simp only [Bool.false_eq_true, if_false, if_pos e2]
             exact ⟨by first | rfl | trivial, h2⟩)
          | (have e : isHold x = false := by unfold isHold; rw [Bool.or_eq_false_iff, decide_eq_false_iff_not, decide_eq_false_iff_not]; omega
             have e2 : ¬ x.k = 2 := by omega
             unfold actV actKs actLs
             rw [e]
             simp only [Bool.false_eq_true, if_false, if_neg e2]
             exact ⟨by first | rfl | trivial, h2⟩)

/-- drayage/drayagelaw09.long -/
theorem long_reads (u v : Value) (gs : List Gd) (acts : List Ac9) (H : List Ck) (hu : Rs u gs.length (gs.flatMap cellsG) H) (hv : Rs v acts.length (acts.flatMap cellsA) H) (hx : gs.length ≤ 9223372036854775807) (hy : acts.length ≤ 9223372036854775807) : Reads Try.prog 9 [u, v] H (.bool (longB gs acts)) := by
  refine Tells.enter Try.func9 rfl Try.ntmps9 rfl ?_
  intro w0 R
  obtain ⟨uo, uc, rfl, _⟩ := hu.form
  obtain ⟨vo, vc, rfl, _⟩ := hv.form
  refine WC.seq ?_
  refine WC.region ?_
  refine WL.y rfl (Yd.assign rfl) ?_
  refine WL.nil ?_
  refine DN.then_normal ?_
  refine WC.seq ?_
  refine WC.seq ?_
  refine WC.region ?_
  refine WL.y rfl (Yd.move rfl) ?_
  refine WL.y rfl (Yd.len (e := 32) (by kernel_rfl) rfl) ?_
  refine WL.y rfl (Yd.gtr rfl rfl) ?_
  refine WL.nil ?_
  refine DN.then_normal ?_
  refine WC.ite rfl (fun h9 => ?_) (fun h9 => ?_)
  · refine WC.seq ?_
    refine WC.region ?_
    refine WL.y rfl (Yd.assign rfl) ?_
    refine WL.nil ?_
    refine DN.then_normal ?_
    refine WC.ret ?_
    refine DN.then_ret ?_
    refine DN.ret1 Try.results9 rfl ?_
    first
      | exact ⟨by rw [long_yes (.inl (by omega))], rfl⟩
      | exact ⟨by rw [long_yes (.inr (.inl ⟨gs[i], List.getElem_mem hlt, by omega⟩))], rfl⟩
      | exact ⟨by rw [long_yes (.inr (.inr ⟨i, hlt2, by omega, by omega⟩))], rfl⟩
      | exact ⟨by rw [long_no (by omega) hall fun j h hj => hno2 j h (by omega)], rfl⟩
  · refine WC.skip ?_
    refine DN.then_normal ?_
    refine WC.seq ?_
    refine WC.seq ?_
    refine WC.region ?_
    refine WL.y rfl (Yd.assign rfl) ?_
    refine WL.nil ?_
    refine DN.then_normal ?_
    refine WC.block ?_
    refine WC.loopS (fun z : Nat => z ≤ gs.length ∧ ∀ (j : Nat) (h : j < gs.length), j < z → gs[j].name.size ≤ 1000) (fun z : Nat => [(5, .int .i64 (z : Int))]) (fun z : Nat => H) (fun z : Nat => gs.length - z) (0) (show 0 ≤ gs.length ∧ ∀ (j : Nat) (h : j < gs.length), j < 0 → gs[j].name.size ≤ 1000 from ⟨Nat.zero_le _, fun j h hj => by omega⟩) (Sx.put rfl ((by repeat (first | exact Sx.refl | refine Sx.skip rfl ?_)))) (by repeat (first | exact Sp.here | exact Sp.sn | exact Sp.s0 | exact Fr.here | apply Sp.s2 | apply Sp.sx | apply Fr.fc | apply Fr.al | apply Fr.fa | apply Sp.sc | apply Sp.al | apply Sp.sa)) ?_
    rintro i hI
    replace hI : i ≤ gs.length ∧ ∀ (j : Nat) (h : j < gs.length), j < i → gs[j].name.size ≤ 1000 := hI
    obtain ⟨hi, hno⟩ := hI
    change WC _ _ _ _ _ _ ([(5, .int .i64 (i : Int))] ++ _) (H)
    refine WC.seq ?_
    refine WC.seq ?_
    refine WC.region ?_
    refine WL.y rfl (Yd.move rfl) ?_
    refine WL.y rfl (Yd.move rfl) ?_
    refine WL.y rfl (Yd.len (e := 32) (by kernel_rfl) rfl) ?_
    refine WL.y rfl (Yd.lss rfl rfl) ?_
    refine WL.nil ?_
    refine DN.then_normal ?_
    refine WC.ite rfl (fun h13 => ?_) (fun h13 => ?_)
    · have hlt : i < gs.length := by omega
      obtain ⟨ub, uf, us, uT, ufr, uex, rfl, _, hum, hus⟩ := hu.lies (by omega)
      refine WC.skip ?_
      refine DN.then_normal ?_
      refine WC.seq ?_
      refine WC.block ?_
      refine WC.seq ?_
      refine WC.region ?_
      refine WL.y rfl (Yd.move rfl) ?_
      refine WL.y rfl (Yd.move rfl) ?_
      refine WL.y rfl (Yd.indexAddr (e := 32) (s := 2) (by kernel_rfl) (by kernel_rfl) rfl rfl (by omega) (by omega)) ?_
      refine WL.y rfl (Yd.fieldAddr (k := 0) (by kernel_rfl) rfl) ?_
      refine WL.h rfl (Hd.load1 (v := .string gs[i].name) (b := ub) (o := uf + (i : Int).toNat * 2 + 0) (cs := us) (by kernel_rfl) rfl hum (cell_at2 cellsG_len hus (by omega) (by omega)) ⟨_, rfl, ?_⟩)
      refine WL.y rfl (Yd.lenS Try.underlying9 rfl) ?_
      refine WL.y rfl (Yd.gtr rfl rfl) ?_
      refine WL.nil ?_
      refine DN.then_normal ?_
      refine WC.ite rfl (fun h22 => ?_) (fun h22 => ?_)
      · refine WC.seq ?_
        refine WC.region ?_
        refine WL.y rfl (Yd.assign rfl) ?_
        refine WL.nil ?_
        refine DN.then_normal ?_
        refine WC.ret ?_
        refine DN.block_ret ?_
        refine DN.then_ret ?_
        refine DN.then_ret ?_
        refine DN.block_ret ?_
        refine DN.then_ret ?_
        refine DN.ret1 Try.results9 rfl ?_
        first
          | exact ⟨by rw [long_yes (.inl (by omega))], rfl⟩
          | exact ⟨by rw [long_yes (.inr (.inl ⟨gs[i], List.getElem_mem hlt, by omega⟩))], rfl⟩
          | exact ⟨by rw [long_yes (.inr (.inr ⟨i, hlt2, by omega, by omega⟩))], rfl⟩
          | exact ⟨by rw [long_no (by omega) hall fun j h hj => hno2 j h (by omega)], rfl⟩
      · refine WC.skip ?_
        refine DN.block_normal ?_
        refine DN.then_normal ?_
        refine WC.region ?_
        refine WL.y rfl (Yd.move rfl) ?_
        refine WL.y rfl (Yd.add rfl rfl (by omega) (by omega)) ?_
        refine WL.y rfl (Yd.assign rfl) ?_
        refine WL.nil ?_
        exact DN.againS (i + 1) (show (i + 1) ≤ gs.length ∧ ∀ (j : Nat) (h : j < gs.length), j < (i + 1) → gs[j].name.size ≤ 1000 from ⟨by omega, fun j h hj => by
          rcases Nat.lt_or_ge j i with h5 | h5
          · exact hno j h h5
          · obtain rfl : j = i := by omega
            omega⟩) (show gs.length - (i + 1) < gs.length - i by omega) (Sx.put rfl ((by repeat (first | exact Sx.refl | refine Sx.skip rfl ?_)))) (by repeat (first | exact Sp.here | exact Sp.sn | exact Sp.s0 | exact Fr.here | apply Sp.s2 | apply Sp.sx | apply Fr.fc | apply Fr.al | apply Fr.fa | apply Sp.sc | apply Sp.al | apply Sp.sa))
    · obtain rfl : i = gs.length := by omega
      have hall : ∀ (j : Nat) (h : j < gs.length), gs[j].name.size ≤ 1000 := fun j h => hno j h h
      refine WC.exit ?_
      refine DN.then_exit ?_
      refine DN.then_exit ?_
      refine DN.block_exit ?_
      refine DN.then_normal ?_
      refine WC.seq ?_
      refine WC.seq ?_
      refine WC.region ?_
      refine WL.y rfl (Yd.assign rfl) ?_
      refine WL.nil ?_
      refine DN.then_normal ?_
      refine WC.block ?_
      refine WC.loopS (fun z : Nat => z ≤ acts.length ∧ ∀ (j : Nat) (h : j < acts.length), j < z → acts[j].name.size ≤ 1000) (fun z : Nat => [(6, .int .i64 (z : Int))]) (fun z : Nat => H) (fun z : Nat => acts.length - z) (0) (show 0 ≤ acts.length ∧ ∀ (j : Nat) (h : j < acts.length), j < 0 → acts[j].name.size ≤ 1000 from ⟨Nat.zero_le _, fun j h hj => by omega⟩) (Sx.put rfl ((by repeat (first | exact Sx.refl | refine Sx.skip rfl ?_)))) (by repeat (first | exact Sp.here | exact Sp.sn | exact Sp.s0 | exact Fr.here | apply Sp.s2 | apply Sp.sx | apply Fr.fc | apply Fr.al | apply Fr.fa | apply Sp.sc | apply Sp.al | apply Sp.sa)) ?_
      rintro i hI
      replace hI : i ≤ acts.length ∧ ∀ (j : Nat) (h : j < acts.length), j < i → acts[j].name.size ≤ 1000 := hI
      obtain ⟨hi2, hno2⟩ := hI
      change WC _ _ _ _ _ _ ([(6, .int .i64 (i : Int))] ++ _) (H)
      refine WC.seq ?_
      refine WC.seq ?_
      refine WC.region ?_
      refine WL.y rfl (Yd.move rfl) ?_
      refine WL.y rfl (Yd.move rfl) ?_
      refine WL.y rfl (Yd.len (e := 41) (by kernel_rfl) rfl) ?_
      refine WL.y rfl (Yd.lss rfl rfl) ?_
      refine WL.y rfl (Yd.move rfl) ?_
      refine WL.partP (t := 27) rfl (fun hg27 => ?_) (fun hg27 => ?_)
      · refine WL.gy (dj := 27) rfl rfl rfl (Yd.move rfl) ?_
        refine WL.gy (dj := 27) rfl rfl rfl (Yd.lss rfl rfl) ?_
        refine WL.y rfl (Yd.pickT rfl rfl) ?_
        refine WL.nil ?_
        refine DN.then_normal ?_
        refine WC.ite rfl (fun h30 => ?_) (fun h30 => ?_)
        · have hlt2 : i < acts.length := by omega
          obtain ⟨vb, vf, vs, vT, vfr, vex, rfl, _, hvm, hvs⟩ := hv.lies (by omega)
          refine WC.skip ?_
          refine DN.then_normal ?_
          refine WC.seq ?_
          refine WC.block ?_
          refine WC.seq ?_
          refine WC.region ?_
          refine WL.y rfl (Yd.move rfl) ?_
          refine WL.y rfl (Yd.move rfl) ?_
          refine WL.y rfl (Yd.indexAddr (e := 41) (s := 4) (by kernel_rfl) (by kernel_rfl) rfl rfl (by omega) (by omega)) ?_
          refine WL.y rfl (Yd.fieldAddr (k := 2) (by kernel_rfl) rfl) ?_
          refine WL.h rfl (Hd.load1 (v := .string acts[i].name) (b := vb) (o := vf + (i : Int).toNat * 4 + 2) (cs := vs) (by kernel_rfl) rfl hvm (cell_at2 cellsA_len hvs (by omega) (by omega)) ⟨_, rfl, ?_⟩)
          refine WL.y rfl (Yd.lenS Try.underlying9 rfl) ?_
          refine WL.y rfl (Yd.gtr rfl rfl) ?_
          refine WL.nil ?_
          refine DN.then_normal ?_
          refine WC.ite rfl (fun h39 => ?_) (fun h39 => ?_)
          · refine WC.seq ?_
            refine WC.region ?_
            refine WL.y rfl (Yd.assign rfl) ?_
            refine WL.nil ?_
            refine DN.then_normal ?_
            refine WC.ret ?_
            refine DN.block_ret ?_
            refine DN.then_ret ?_
            refine DN.then_ret ?_
            refine DN.block_ret ?_
            refine DN.then_ret ?_
            refine DN.ret1 Try.results9 rfl ?_
            first
              | exact ⟨by rw [long_yes (.inl (by omega))], rfl⟩
              | exact ⟨by rw [long_yes (.inr (.inl ⟨gs[i], List.getElem_mem hlt, by omega⟩))], rfl⟩
              | exact ⟨by rw [long_yes (.inr (.inr ⟨i, hlt2, by omega, by omega⟩))], rfl⟩
              | exact ⟨by rw [long_no (by omega) hall fun j h hj => hno2 j h (by omega)], rfl⟩
          · refine WC.skip ?_
            refine DN.block_normal ?_
            refine DN.then_normal ?_
            refine WC.region ?_
            refine WL.y rfl (Yd.move rfl) ?_
            refine WL.y rfl (Yd.add rfl rfl (by omega) (by omega)) ?_
            refine WL.y rfl (Yd.assign rfl) ?_
            refine WL.nil ?_
            exact DN.againS (i + 1) (show (i + 1) ≤ acts.length ∧ ∀ (j : Nat) (h : j < acts.length), j < (i + 1) → acts[j].name.size ≤ 1000 from ⟨by omega, fun j h hj => by
              rcases Nat.lt_or_ge j i with h5 | h5
              · exact hno2 j h h5
              · obtain rfl : j = i := by omega
                omega⟩) (show acts.length - (i + 1) < acts.length - i by omega) (Sx.put rfl ((by repeat (first | exact Sx.refl | refine Sx.skip rfl ?_)))) (by repeat (first | exact Sp.here | exact Sp.sn | exact Sp.s0 | exact Fr.here | apply Sp.s2 | apply Sp.sx | apply Fr.fc | apply Fr.al | apply Fr.fa | apply Sp.sc | apply Sp.al | apply Sp.sa))
        · refine WC.exit ?_
          refine DN.then_exit ?_
          refine DN.then_exit ?_
          refine DN.block_exit ?_
          refine DN.then_normal ?_
          refine WC.seq ?_
          refine WC.region ?_
          refine WL.y rfl (Yd.assign rfl) ?_
          refine WL.nil ?_
          refine DN.then_normal ?_
          refine WC.ret ?_
          refine DN.ret1 Try.results9 rfl ?_
          first
            | exact ⟨by rw [long_yes (.inl (by omega))], rfl⟩
            | exact ⟨by rw [long_yes (.inr (.inl ⟨gs[i], List.getElem_mem hlt, by omega⟩))], rfl⟩
            | exact ⟨by rw [long_yes (.inr (.inr ⟨i, hlt2, by omega, by omega⟩))], rfl⟩
            | exact ⟨by rw [long_no (by omega) hall fun j h hj => hno2 j h (by omega)], rfl⟩
      · refine WL.gn (dj := 27) rfl rfl rfl rfl ?_
        refine WL.gn (dj := 27) rfl rfl rfl rfl ?_
        refine WL.y rfl (Yd.pickF rfl rfl) ?_
        refine WL.nil ?_
        refine DN.then_normal ?_
        refine WC.no rfl ?_
        refine WC.exit ?_
        refine DN.then_exit ?_
        refine DN.then_exit ?_
        refine DN.block_exit ?_
        refine DN.then_normal ?_
        refine WC.seq ?_
        refine WC.region ?_
        refine WL.y rfl (Yd.assign rfl) ?_
        refine WL.nil ?_
        refine DN.then_normal ?_
        refine WC.ret ?_
        refine DN.ret1 Try.results9 rfl ?_
        first
          | exact ⟨by rw [long_yes (.inl (by omega))], rfl⟩
          | exact ⟨by rw [long_yes (.inr (.inl ⟨gs[i], List.getElem_mem hlt, by omega⟩))], rfl⟩
          | exact ⟨by rw [long_yes (.inr (.inr ⟨i, hlt2, by omega, by omega⟩))], rfl⟩
          | exact ⟨by rw [long_no (by omega) hall fun j h hj => hno2 j h (by omega)], rfl⟩

end Go.Proofs.Ytdbbkodjhmfjfaa
