/-
  Lemmas and walks that WiresPlays stands on (part 3); no condition.
-/
import Derived.Orders
import Derived.Tactics
import Derived.Scope
import Derived.Below
import Derived.WalkKit
import Derived.KernelRfl
import Derived.Laws.RangeString
import Derived.Laws.StructEq
import Derived.Lib.AppendZerosOnto
import Derived.Laws.CopyRow
import Derived.Lib.Overlaps
import Derived.Laws.IdiomStrings
import Derived.Deep.Quiet
import Derived.ProofKit
import Derived.OpenShut
import Derived.ShutString
import Derived.ChangeOld
import Derived.Lib.Bytealg
import Derived.Shelf.SlSortCmp.NoneTotal
import Derived.Test.YtgpegfmonmdhoaaRows
import Derived.Test.YtgpegfmonmdhoaaWiresPlaysB2

set_option linter.unusedVariables false
set_option linter.unusedSimpArgs false
set_option maxHeartbeats 4000000
namespace Go.Proofs.Ytgpegfmonmdhoaa
open Go.SL
theorem bsn (H : List Ck) : Bs (.slice none 0 0) [] H := .inl ⟨_, _, rfl, rfl, rfl⟩
theorem ltc_one9 {L : Lt} {vk vd : Value} (e1 : vk.oneCell' = true) (e2 : vd.oneCell' = true) : ∀ u ∈ ltc L vk vd, u.oneCell' = true := by
  intro u hu
  simp only [ltc, ntc, List.mem_cons, List.not_mem_nil, or_false] at hu
  rcases hu with rfl | rfl | rfl | rfl | rfl | rfl | rfl | rfl | rfl | rfl | rfl | rfl | rfl <;> first | rfl | exact e1 | exact e2
theorem rwnew_tells (n : Int) (H : List Ck) : Tells Try.prog 21 [.int .i64 n] [] fun r C => if 1 ≤ n ∧ n ≤ 6 then ∃ q, r = .tuple #[.pointer (some ⟨q, 0, none⟩), .int .i64 0] ∧ RwAt 59 34 89 3 q (newW n) [] [] H C else r = .tuple #[.pointer none, .int .i64 2] ∧ C = [] := by
 refine Tells.enter Try.func21 rfl Try.ntmps21 rfl ?_
 intro w0 R
 refine sr_ ?_
 refine a_ rfl rfl ?_
 refine a_ rfl rfl ?_
 refine nt_ ?_
 refine WC.seq ?_
 refine sr_ ?_
 refine m_ rfl rfl ?_
 refine WL.y rfl (Yd.lss rfl rfl) ?_
 refine m_ rfl rfl ?_
 refine WL.partP (t := 6) rfl (fun hg6 => ?_) (fun hg6 => ?_)
 ·refine gn_ 6 rfl rfl rfl rfl ?_
  refine gn_ 6 rfl rfl rfl rfl ?_
  refine WL.y rfl (Yd.pickT rfl rfl) ?_
  refine nt_ ?_
  refine WC.yes rfl ?_
  refine sr_ ?_
  refine a_ rfl rfl ?_
  refine a_ rfl rfl ?_
  refine nt_ ?_
  refine WC.ret ?_
  refine DN.then_ret ?_
  first | refine DN.fit (C := [row q [.int .i64 n, .slice none 0 0, .slice none 0 0, .slice none 0 0] 59]) sp_ ?_ | refine DN.fit (C := []) sp_ ?_
  refine DN.ret2 Try.results21 rfl rfl ?_
  first | (rw [if_neg (by omega)]; exact ⟨rfl, rfl⟩) | (rw [if_pos (by omega)]; exact ⟨q, rfl, _, _, _, [], [], [], [], rfl, Own.nil _ _, .nil _, Own.nil _ _, Own.nil _ _⟩)
 ·refine gy_ 6 rfl rfl rfl (Yd.move rfl) ?_
  refine gy_ 6 rfl rfl rfl (Yd.gtr rfl rfl) ?_
  refine WL.y rfl (Yd.pickF rfl rfl) ?_
  refine nt_ ?_
  refine WC.ite rfl (fun h9 => ?_) (fun h9 => ?_)
  ·refine sr_ ?_
   refine a_ rfl rfl ?_
   refine a_ rfl rfl ?_
   refine nt_ ?_
   refine WC.ret ?_
   refine DN.then_ret ?_
   first | refine DN.fit (C := [row q [.int .i64 n, .slice none 0 0, .slice none 0 0, .slice none 0 0] 59]) sp_ ?_ | refine DN.fit (C := []) sp_ ?_
   refine DN.ret2 Try.results21 rfl rfl ?_
   first | (rw [if_neg (by omega)]; exact ⟨rfl, rfl⟩) | (rw [if_pos (by omega)]; exact ⟨q, rfl, _, _, _, [], [], [], [], rfl, Own.nil _ _, .nil _, Own.nil _ _, Own.nil _ _⟩)
  ·refine WC.skip ?_
   refine ts_ ?_
   refine WC.region ?_
   refine m_ rfl rfl ?_
   refine WL.y rfl (Yd.build (pl := [(0, 1), (1, 1), (2, 1), (3, 1)]) (zs := [.int .i64 0, .slice none 0 0, .slice none 0 0, .slice none 0 0]) (parts := [(0, .tmp 10)]) (vs := [(0, .int .i64 n)]) (cells := [.int .i64 n, .slice none 0 0, .slice none 0 0, .slice none 0 0]) kr_ kr_ rfl rfl) ?_
   refine WL.h rfl (Hd.box rfl fun q => ⟨_, rfl, ?_⟩)
   refine a_ rfl rfl ?_
   refine a_ rfl rfl ?_
   refine nt_ ?_
   refine WC.ret ?_
   first | refine DN.fit (C := [row q [.int .i64 n, .slice none 0 0, .slice none 0 0, .slice none 0 0] 59]) sp_ ?_ | refine DN.fit (C := []) sp_ ?_
   refine DN.ret2 Try.results21 rfl rfl ?_
   first | (rw [if_neg (by omega)]; exact ⟨rfl, rfl⟩) | (rw [if_pos (by omega)]; exact ⟨q, rfl, _, _, _, [], [], [], [], rfl, Own.nil _ _, .nil _, Own.nil _ _, Own.nil _ _⟩)
theorem ris_reads (q : Nat) (W : Wn) (cu : List (Int × Int)) (ti : List Int) (H C : List Ck) (h : RwAt 59 34 89 3 q W cu ti H C) (inv : WInv W) (k : Int) : Reads Try.prog 51 [.pointer (some ⟨q, 0, none⟩), .int .i64 k] C (.bool (isNode W k)) := by
 refine Tells.enter Try.func51 rfl Try.ntmps51 rfl ?_
 intro w0 R
 obtain ⟨vL, vC, vT, cs, CL, CC, CT, rfl, hL, hV, hC, hT⟩ := h
 obtain ⟨lo, lc, rfl, hlc⟩ := hL.form
 obtain ⟨co, cc, rfl, hcc⟩ := hC.form
 obtain ⟨to, tc, rfl, htc⟩ := hT.form
 have hcl := hL.len
 have hn := inv.n
 refine sr_ ?_
 refine a_ rfl rfl ?_
 refine ntsr_ ?_
 refine m_ rfl rfl ?_
 refine WL.y rfl (Yd.geq rfl rfl) ?_
 refine m_ rfl rfl ?_
 refine WL.partP (t := 7) rfl (fun hg7 => ?_) (fun hg7 => ?_)
 ·refine gy_ 7 rfl rfl rfl (Yd.move rfl) ?_
  refine gy_ 7 rfl rfl rfl (Yd.move rfl) ?_
  refine gy_ 7 rfl rfl rfl (Yd.notNil rfl) ?_
  refine gy_ 7 rfl rfl rfl (Yd.fieldAddr (k := 0) kr_ rfl) ?_
  refine WL.gh (dj := 7) rfl rfl rfl (Hd.load1 kr_ rfl mem_ (by rfl) ⟨_, rfl, ?_⟩)
  refine gy_ 7 rfl rfl rfl (Yd.sub rfl rfl (by omega) (by omega)) ?_
  refine gy_ 7 rfl rfl rfl (Yd.leq rfl rfl) ?_
  refine WL.y rfl (Yd.pickT rfl rfl) ?_
  refine a_ rfl rfl ?_
  refine nt_ ?_
  refine WC.ret ?_
  refine DN.ret1 Try.results51 rfl ?_
  exact ⟨by congr 1; rw [Bool.eq_iff_iff, isNode_iff]; first | (simp only [decide_eq_true_eq]; omega) | (simp; omega), rfl⟩
 ·iterate 7 refine gn_ 7 rfl rfl rfl rfl ?_
  refine WL.y rfl (Yd.pickF rfl rfl) ?_
  refine a_ rfl rfl ?_
  refine nt_ ?_
  refine WC.ret ?_
  refine DN.ret1 Try.results51 rfl ?_
  exact ⟨by congr 1; rw [Bool.eq_iff_iff, isNode_iff]; first | (simp only [decide_eq_true_eq]; omega) | (simp; omega), rfl⟩
theorem rclosed_reads (q : Nat) (W : Wn) (cu : List (Int × Int)) (ti : List Int) (H C : List Ck) (h : RwAt 59 34 89 3 q W cu ti H C) (hcu : cu.length ≤ 100000) (f t : Int) : Reads Try.prog 52 [.pointer (some ⟨q, 0, none⟩), .int .i64 f, .int .i64 t] C (.bool (decide ((f, t) ∈ cu))) := by
 refine Tells.enter Try.func52 rfl Try.ntmps52 rfl ?_
 intro w0 R
 obtain ⟨vL, vC, vT, cs, CL, CC, CT, rfl, hL, hV, hC, hT⟩ := h
 obtain ⟨lo, lc, rfl, hlc⟩ := hL.form
 obtain ⟨co, cc, rfl, hcc⟩ := hC.form
 obtain ⟨to, tc, rfl, htc⟩ := hT.form
 have hcl := hL.len
 refine sr_ ?_
 refine a_ rfl rfl ?_
 refine nt_ ?_
 refine WC.seq ?_
 refine sr_ ?_
 refine a_ rfl rfl ?_
 refine nt_ ?_
 refine WC.block ?_
 refine WC.loopS (fun z : Nat => z ≤ cu.length ∧ ∀ (j : Nat) (h : j < cu.length), j < z → ¬ (cu[j].1 = f ∧ cu[j].2 = t)) (fun z : Nat => [(7, .int .i64 (z : Int))]) (fun z : Nat => row q [.int .i64 W.n, .slice lo W.ls.length lc, .slice co cu.length cc, .slice to ti.length tc] 59 :: (CL ++ (CC ++ CT))) (fun z : Nat => cu.length - z) (0) (show 0 ≤ cu.length ∧ ∀ (j : Nat) (h : j < cu.length), j < 0 → ¬ (cu[j].1 = f ∧ cu[j].2 = t) from ⟨Nat.zero_le _, fun j h hj => absurd hj (Nat.not_lt_zero _)⟩) (Sx.put rfl (sx_)) sp_ ?_
 rintro i hI
 replace hI : i ≤ cu.length ∧ ∀ (j : Nat) (h : j < cu.length), j < i → ¬ (cu[j].1 = f ∧ cu[j].2 = t) := hI
 obtain ⟨hi, hno⟩ := hI
 change WC _ _ _ _ _ _ ([(7, .int .i64 (i : Int))] ++ _) (row q [.int .i64 W.n, .slice lo W.ls.length lc, .slice co cu.length cc, .slice to ti.length tc] 59 :: (CL ++ (CC ++ CT)))
 refine WC.seq ?_
 refine sr_ ?_
 refine m_ rfl rfl ?_
 refine m_ rfl rfl ?_
 refine n_ rfl rfl ?_
 refine f_ 2 kr_ rfl rfl ?_
 refine d_ kr_ rfl mem_ (by rfl) rfl ?_
 refine WL.y rfl (Yd.len (e := 89) kr_ rfl) ?_
 refine WL.y rfl (Yd.lss rfl rfl) ?_
 refine nt_ ?_
 refine WC.ite rfl (fun h14 => ?_) (fun h14 => ?_)
 ·have hlt : i < cu.length := by omega
  obtain ⟨wb, wf, ws, wT, wfr, wex, rfl, _, hwm, hws⟩ := hC.rs.lies (by omega)
  refine WC.skip ?_
  refine ts_ ?_
  refine WC.block ?_
  refine sr_ ?_
  refine m_ rfl rfl ?_
  refine n_ rfl rfl ?_
  refine f_ 2 kr_ rfl rfl ?_
  refine d_ kr_ rfl mem_ (by rfl) rfl ?_
  refine m_ rfl rfl ?_
  refine WL.y rfl (Yd.indexAddr (e := 89) (s := 2) kr_ kr_ rfl rfl (by omega) (by omega)) ?_
  refine f_ 0 kr_ rfl rfl ?_
  refine WL.h rfl (Hd.load1 (v := .int .i64 cu[i].1) (b := wb) (o := wf + (i : Int).toNat * 2 + 0) (cs := ws) kr_ rfl (Gr.get gr_ hwm) (cell_at2 (L := cu) wayc_len hws (by omega) (by omega)) ⟨_, rfl, ?_⟩)
  refine m_ rfl rfl ?_
  refine WL.y rfl (Yd.eql rfl rfl) ?_
  refine m_ rfl rfl ?_
  refine WL.partP (t := 27) rfl (fun hg27 => ?_) (fun hg27 => ?_)
  ·refine gy_ 27 rfl rfl rfl (Yd.move rfl) ?_
   refine gy_ 27 rfl rfl rfl (Yd.notNil rfl) ?_
   refine gy_ 27 rfl rfl rfl (Yd.fieldAddr (k := 2) kr_ rfl) ?_
   refine WL.gh (dj := 27) rfl rfl rfl (Hd.load1 kr_ rfl mem_ (by rfl) ⟨_, rfl, ?_⟩)
   refine gy_ 27 rfl rfl rfl (Yd.move rfl) ?_
   refine gy_ 27 rfl rfl rfl (Yd.indexAddr (e := 89) (s := 2) kr_ kr_ rfl rfl (by omega) (by omega)) ?_
   refine gy_ 27 rfl rfl rfl (Yd.fieldAddr (k := 1) kr_ rfl) ?_
   refine WL.gh (dj := 27) rfl rfl rfl (Hd.load1 (v := .int .i64 cu[i].2) (b := wb) (o := wf + (i : Int).toNat * 2 + 1) (cs := ws) kr_ rfl (Gr.get gr_ hwm) (cell_at2 (L := cu) wayc_len hws (by omega) (by omega)) ⟨_, rfl, ?_⟩)
   refine gy_ 27 rfl rfl rfl (Yd.move rfl) ?_
   refine gy_ 27 rfl rfl rfl (Yd.eql rfl rfl) ?_
   refine WL.y rfl (Yd.pickT rfl rfl) ?_
   refine nt_ ?_
   refine WC.ite rfl (fun h38 => ?_) (fun h38 => ?_)
   ·refine sr_ ?_
    refine a_ rfl rfl ?_
    refine nt_ ?_
    refine WC.ret ?_
    refine DN.block_ret ?_
    refine DN.then_ret ?_
    refine DN.then_ret ?_
    refine DN.block_ret ?_
    refine DN.then_ret ?_
    refine DN.ret1 Try.results52 rfl ?_
    first | exact ⟨by rw [decide_eq_true (List.mem_iff_getElem.2 ⟨i, hlt, Prod.ext hg27 h38⟩)], rfl⟩ | exact ⟨by rw [decide_eq_false]; intro hm; obtain ⟨j, hj, e⟩ := List.mem_iff_getElem.1 hm; exact hno j hj (by omega) (by rw [e]; exact ⟨rfl, rfl⟩), rfl⟩
   ·refine WC.skip ?_
    refine DN.block_normal ?_
    refine DN.then_normal ?_
    refine WC.region ?_
    refine m_ rfl rfl ?_
    refine WL.y rfl (Yd.add rfl rfl (by omega) (by omega)) ?_
    refine a_ rfl rfl ?_
    refine WL.nil ?_
    exact DN.againS (i + 1) (show (i + 1) ≤ cu.length ∧ ∀ (j : Nat) (h : j < cu.length), j < (i + 1) → ¬ (cu[j].1 = f ∧ cu[j].2 = t) from ⟨by omega, fun j h hj => by by_cases e : j = i; (subst e; omega); exact hno j h (by omega)⟩) (show cu.length - (i + 1) < cu.length - i by omega) (Sx.put rfl (sx_)) sp_
  ·iterate 10 refine gn_ 27 rfl rfl rfl rfl ?_
   refine WL.y rfl (Yd.pickF rfl rfl) ?_
   refine nt_ ?_
   refine WC.no rfl ?_
   refine WC.skip ?_
   refine DN.block_normal ?_
   refine DN.then_normal ?_
   refine WC.region ?_
   refine m_ rfl rfl ?_
   refine WL.y rfl (Yd.add rfl rfl (by omega) (by omega)) ?_
   refine a_ rfl rfl ?_
   refine WL.nil ?_
   exact DN.againS (i + 1) (show (i + 1) ≤ cu.length ∧ ∀ (j : Nat) (h : j < cu.length), j < (i + 1) → ¬ (cu[j].1 = f ∧ cu[j].2 = t) from ⟨by omega, fun j h hj => by by_cases e : j = i; (subst e; omega); exact hno j h (by omega)⟩) (show cu.length - (i + 1) < cu.length - i by omega) (Sx.put rfl (sx_)) sp_
 ·refine WC.exit ?_
  refine DN.then_exit ?_
  refine DN.then_exit ?_
  refine DN.block_exit ?_
  refine ts_ ?_
  refine WC.region ?_
  refine a_ rfl rfl ?_
  refine nt_ ?_
  refine WC.ret ?_
  refine DN.ret1 Try.results52 rfl ?_
  first | exact ⟨by rw [decide_eq_true (List.mem_iff_getElem.2 ⟨i, hlt, Prod.ext hg27 h38⟩)], rfl⟩ | exact ⟨by rw [decide_eq_false]; intro hm; obtain ⟨j, hj, e⟩ := List.mem_iff_getElem.1 hm; exact hno j hj (by omega) (by rw [e]; exact ⟨rfl, rfl⟩), rfl⟩
theorem rlook_tells (q : Nat) (W : Wn) (cu : List (Int × Int)) (ti : List Int) (H C : List Ck) (h : RwAt 59 34 89 3 q W cu ti H C) (hl : W.ls.length ≤ 1000) (k : Int) : Tells Try.prog 24 [.pointer (some ⟨q, 0, none⟩), .int .i64 k] C fun r C' => ∃ vk vd, r = .tuple #[.agg (ltc (lookL W k) vk vd).toArray, .bool (thereB W k)] ∧ Bs vk (lookL W k).n.key H ∧ Bs vd (lookL W k).n.data H ∧ (lookL W k).n.key.length ≤ maxLen ∧ (lookL W k).n.data.length ≤ maxLen ∧ C' = C := by
 refine Tells.enter Try.func24 rfl Try.ntmps24 rfl ?_
 intro w0 R
 obtain ⟨vL, vC, vT, cs, CL, CC, CT, rfl, hL, hV, hC, hT⟩ := h
 obtain ⟨lo, lc, rfl, hlc⟩ := hL.form
 obtain ⟨co, cc, rfl, hcc⟩ := hC.form
 obtain ⟨to, tc, rfl, htc⟩ := hT.form
 have hcl := hL.len
 refine sr_ ?_
 refine WL.h rfl (Hd.alloc (zs := [.int .i64 0, .int .i64 0, .int .i64 0, .int .u32 0, .int .u32 0, .int .u64 0, .int .u64 0, .int .u32 0, .int .i64 0, .bool false, .int .i64 0, .slice none 0 0, .slice none 0 0]) kr_ fun b4 => ⟨_, rfl, ?_⟩)
 refine a_ rfl rfl ?_
 refine nt_ ?_
 refine WC.seq ?_
 refine sr_ ?_
 refine m_ rfl rfl ?_
 refine WL.y rfl (Yd.lss rfl rfl) ?_
 refine m_ rfl rfl ?_
 refine WL.partP (t := 8) rfl (fun hg8 => ?_) (fun hg8 => ?_)
 ·iterate 7 refine gn_ 8 rfl rfl rfl rfl ?_
  refine WL.y rfl (Yd.pickT rfl rfl) ?_
  refine nt_ ?_
  refine WC.yes rfl ?_
  refine sr_ ?_
  refine WL.y rfl (Yd.buildL (pl := [(0, 1), (1, 1), (2, 11)]) (zs := [.int .i64 0, .int .i64 0, .int .i64 0, .int .u32 0, .int .u32 0, .int .u64 0, .int .u64 0, .int .u32 0, .int .i64 0, .bool false, .int .i64 0, .slice none 0 0, .slice none 0 0]) (parts := []) (vs := []) (cells := [.int .i64 0, .int .i64 0, .int .i64 0, .int .u32 0, .int .u32 0, .int .u64 0, .int .u64 0, .int .u32 0, .int .i64 0, .bool false, .int .i64 0, .slice none 0 0, .slice none 0 0]) kr_ kr_ rfl rfl) ?_
  refine WL.s (Hd.storeAll (n := 13) (vs := ltc zeroL (.slice none 0 0) (.slice none 0 0)) kr_ rfl rfl (by rfl) (ltc_one9 rfl rfl) fr_ (by rfl) ⟨rfl, ?_⟩)
  refine a_ rfl rfl ?_
  refine nt_ ?_
  refine WC.ret ?_
  refine DN.then_ret ?_
  refine DN.retCT (s := 13) (row q [.int .i64 W.n, .slice lo W.ls.length lc, .slice co cu.length cc, .slice to ti.length tc] 59 :: (CL ++ (CC ++ CT))) Try.results24 kr_ rfl rfl mem_ (by rfl) sp_ ?_
  first
  | (have e1 : thereB W (j : Int) = true := by unfold thereB; simp; omega
     have e2 : lookL W (j : Int) = W.ls[j] := by unfold lookL atW; rw [e1, if_pos rfl]; simp [hj]
     rw [e1, e2]; exact ⟨_, _, rfl, hk, hd, hkl, hdl, rfl⟩)
  | (have e1 : thereB W k = false := by unfold thereB; simp; omega
     have e2 : lookL W k = zeroL := by unfold lookL; rw [e1]; rfl
     rw [e1, e2]; exact ⟨_, _, rfl, bsn _, bsn _, by decide, by decide, rfl⟩)
 ·refine gy_ 8 rfl rfl rfl (Yd.move rfl) ?_
  refine gy_ 8 rfl rfl rfl (Yd.move rfl) ?_
  refine gy_ 8 rfl rfl rfl (Yd.notNil rfl) ?_
  refine gy_ 8 rfl rfl rfl (Yd.fieldAddr (k := 1) kr_ rfl) ?_
  refine WL.gh (dj := 8) rfl rfl rfl (Hd.load1 kr_ rfl mem_ (by rfl) ⟨_, rfl, ?_⟩)
  refine gy_ 8 rfl rfl rfl (Yd.len (e := 34) kr_ rfl) ?_
  refine gy_ 8 rfl rfl rfl (Yd.geq rfl rfl) ?_
  refine WL.y rfl (Yd.pickF rfl rfl) ?_
  refine nt_ ?_
  refine WC.ite rfl (fun h16 => ?_) (fun h16 => ?_)
  ·refine sr_ ?_
   refine WL.y rfl (Yd.buildL (pl := [(0, 1), (1, 1), (2, 11)]) (zs := [.int .i64 0, .int .i64 0, .int .i64 0, .int .u32 0, .int .u32 0, .int .u64 0, .int .u64 0, .int .u32 0, .int .i64 0, .bool false, .int .i64 0, .slice none 0 0, .slice none 0 0]) (parts := []) (vs := []) (cells := [.int .i64 0, .int .i64 0, .int .i64 0, .int .u32 0, .int .u32 0, .int .u64 0, .int .u64 0, .int .u32 0, .int .i64 0, .bool false, .int .i64 0, .slice none 0 0, .slice none 0 0]) kr_ kr_ rfl rfl) ?_
   refine WL.s (Hd.storeAll (n := 13) (vs := ltc zeroL (.slice none 0 0) (.slice none 0 0)) kr_ rfl rfl (by rfl) (ltc_one9 rfl rfl) fr_ (by rfl) ⟨rfl, ?_⟩)
   refine a_ rfl rfl ?_
   refine nt_ ?_
   refine WC.ret ?_
   refine DN.then_ret ?_
   refine DN.retCT (s := 13) (row q [.int .i64 W.n, .slice lo W.ls.length lc, .slice co cu.length cc, .slice to ti.length tc] 59 :: (CL ++ (CC ++ CT))) Try.results24 kr_ rfl rfl mem_ (by rfl) sp_ ?_
   first
   | (have e1 : thereB W (j : Int) = true := by unfold thereB; simp; omega
      have e2 : lookL W (j : Int) = W.ls[j] := by unfold lookL atW; rw [e1, if_pos rfl]; simp [hj]
      rw [e1, e2]; exact ⟨_, _, rfl, hk, hd, hkl, hdl, rfl⟩)
   | (have e1 : thereB W k = false := by unfold thereB; simp; omega
      have e2 : lookL W k = zeroL := by unfold lookL; rw [e1]; rfl
      rw [e1, e2]; exact ⟨_, _, rfl, bsn _, bsn _, by decide, by decide, rfl⟩)
  ·obtain ⟨j, rfl⟩ : ∃ j : Nat, k = (j : Int) := ⟨k.toNat, by omega⟩
   have hj : j < W.ls.length := by omega
   obtain ⟨vk, vd, hcell, hk, hd, hkl, hdl⟩ := hV j hj
   obtain ⟨ko, kc, rfl, _⟩ := hk.form
   obtain ⟨eo, ec, rfl, _⟩ := hd.form
   refine WC.skip ?_
   refine ts_ ?_
   refine WC.region ?_
   refine m_ rfl rfl ?_
   refine n_ rfl rfl ?_
   refine f_ 1 kr_ rfl rfl ?_
   refine d_ kr_ rfl mem_ (by rfl) rfl ?_
   refine m_ rfl rfl ?_
   refine WL.elemA (e := 34) (s := 13) kr_ kr_ kr_ rfl rfl (rfl) (hL.rs.mono gr_) (hcell) (by rfl) (by omega) (hj) rfl rfl ?_
   intro p23
   refine WL.s (Hd.storeAll (n := 13) (vs := ltc W.ls[j] (.slice ko W.ls[j].n.key.length kc) (.slice eo W.ls[j].n.data.length ec)) kr_ rfl rfl (by rfl) (ltc_one9 rfl rfl) fr_ (by rfl) ⟨rfl, ?_⟩)
   refine a_ rfl rfl ?_
   refine nt_ ?_
   refine WC.ret ?_
   refine DN.retCT (s := 13) (row q [.int .i64 W.n, .slice lo W.ls.length lc, .slice co cu.length cc, .slice to ti.length tc] 59 :: (CL ++ (CC ++ CT))) Try.results24 kr_ rfl rfl mem_ (by rfl) sp_ ?_
   first
   | (have e1 : thereB W (j : Int) = true := by unfold thereB; simp; omega
      have e2 : lookL W (j : Int) = W.ls[j] := by unfold lookL atW; rw [e1, if_pos rfl]; simp [hj]
      rw [e1, e2]; exact ⟨_, _, rfl, hk, hd, hkl, hdl, rfl⟩)
   | (have e1 : thereB W k = false := by unfold thereB; simp; omega
      have e2 : lookL W k = zeroL := by unfold lookL; rw [e1]; rfl
      rw [e1, e2]; exact ⟨_, _, rfl, bsn _, bsn _, by decide, by decide, rfl⟩)
theorem rlose_tells (q : Nat) (W : Wn) (cu : List (Int × Int)) (ti : List Int) (H C : List Ck) (h : RwAt 59 34 89 3 q W cu ti H C) (hl : W.ls.length ≤ 1000) (k : Int) : Tells Try.prog 39 [.pointer (some ⟨q, 0, none⟩), .int .i64 k] C fun r C' => r = .bool (thereB W k) ∧ RwAt 59 34 89 3 q (outW W k) cu ti H C' := by
 refine Tells.enter Try.func39 rfl Try.ntmps39 rfl ?_
 intro w0 R
 have hAt := h
 obtain ⟨vL, vC, vT, cs, CL, CC, CT, rfl, hL, hV, hC, hT⟩ := h
 obtain ⟨lo, lc, rfl, hlc⟩ := hL.form
 obtain ⟨co, cc, rfl, hcc⟩ := hC.form
 obtain ⟨to, tc, rfl, htc⟩ := hT.form
 have hcl := hL.len
 refine sr_ ?_
 refine a_ rfl rfl ?_
 refine ntsr_ ?_
 refine m_ rfl rfl ?_
 refine m_ rfl rfl ?_
 refine WL.c rfl (Ent.func Try.call24 rfl) (rlook_tells q W cu ti H _ hAt hl k) (Sp.p sp_) ?_
 rintro x H9 ⟨vk9, vd9, rfl, hk9, hd9, _, _, hH9⟩
 rw [hH9]
 clear hH9 H9
 obtain ⟨o1, c1, rfl, _⟩ := hk9.form
 obtain ⟨o2, c2, rfl, _⟩ := hd9.form
 refine m_ rfl rfl ?_
 refine x_ rfl rfl rfl ?_
 refine x_ rfl rfl rfl ?_
 refine WL.h rfl (Hd.alloc (zs := [.int .i64 0, .int .i64 0, .int .i64 0, .int .u32 0, .int .u32 0, .int .u64 0, .int .u64 0, .int .u32 0, .int .i64 0, .bool false, .int .i64 0, .slice none 0 0, .slice none 0 0]) kr_ fun b5 => ⟨_, rfl, ?_⟩)
 refine WL.s (Hd.storeAll (n := 13) (vs := ltc (lookL W k) (.slice o1 (lookL W k).n.key.length c1) (.slice o2 (lookL W k).n.data.length c2)) kr_ rfl rfl (by rfl) (ltc_one9 rfl rfl) fr_ (by rfl) ⟨rfl, ?_⟩)
 refine a_ rfl rfl ?_
 refine ntsr_ ?_
 refine a_ rfl rfl ?_
 refine nt_ ?_
 refine WC.seq ?_
 refine sr_ ?_
 refine a_ rfl rfl ?_
 refine nt_ ?_
 refine WC.block ?_
 refine WC.loopS (fun z : Nat × Value × List Value × List Ck => z.1 ≤ W.ls.length ∧ Own z.2.1 ((W.ls.take z.1).eraseIdx (goneAt W k)).length z.2.2.1 34 13 z.2.2.2 ∧ LtV z.2.2.1 ((W.ls.take z.1).eraseIdx (goneAt W k)) H) (fun z : Nat × Value × List Value × List Ck => [(7, z.2.1), (8, .int .i64 (z.1 : Int))]) (fun z : Nat × Value × List Value × List Ck => z.2.2.2 ++ (row q [.int .i64 W.n, .slice lo W.ls.length lc, .slice co cu.length cc, .slice to ti.length tc] 59 :: (CL ++ (CC ++ CT)))) (fun z : Nat × Value × List Value × List Ck => W.ls.length - z.1) (⟨0, .slice none 0 0, [], []⟩) (show 0 ≤ W.ls.length ∧ Own (.slice none 0 0) ((W.ls.take 0).eraseIdx (goneAt W k)).length [] 34 13 [] ∧ LtV [] ((W.ls.take 0).eraseIdx (goneAt W k)) H from ⟨Nat.zero_le _, by simpa using Own.nil 34 13, by simpa using LtV.nil H⟩) (Sx.put rfl (Sx.put rfl (sx_))) sp_ ?_
 rintro ⟨i, v, ds, D⟩ hI
 replace hI : i ≤ W.ls.length ∧ Own v ((W.ls.take i).eraseIdx (goneAt W k)).length ds 34 13 D ∧ LtV ds ((W.ls.take i).eraseIdx (goneAt W k)) H := hI
 obtain ⟨hi, hO, hOV⟩ := hI
 change WC _ _ _ _ _ _ ([(7, v), (8, .int .i64 (i : Int))] ++ _) (D ++ (row q [.int .i64 W.n, .slice lo W.ls.length lc, .slice co cu.length cc, .slice to ti.length tc] 59 :: (CL ++ (CC ++ CT))))
 obtain ⟨oo, oc, rfl, _⟩ := hO.form
 have hol := hO.len
 refine WC.seq ?_
 refine sr_ ?_
 refine m_ rfl rfl ?_
 refine m_ rfl rfl ?_
 refine n_ rfl rfl ?_
 refine f_ 1 kr_ rfl rfl ?_
 refine d_ kr_ rfl mem_ (by rfl) rfl ?_
 refine WL.y rfl (Yd.len (e := 34) kr_ rfl) ?_
 refine WL.y rfl (Yd.lss rfl rfl) ?_
 refine nt_ ?_
 refine WC.ite rfl (fun h21 => ?_) (fun h21 => ?_)
 ·have hlt : i < W.ls.length := by omega
  have hee : ((W.ls.take i).eraseIdx (goneAt W k)).length ≤ 1000 := by have := (List.eraseIdx_sublist (W.ls.take i) (goneAt W k)).length_le; rw [List.length_take] at this; omega
  obtain ⟨vk, vd, hcell, hk, hd, hkl, hdl⟩ := hV i hlt
  obtain ⟨ko, kc, rfl, _⟩ := hk.form
  obtain ⟨eo, ec, rfl, _⟩ := hd.form
  refine WC.skip ?_
  refine ts_ ?_
  refine WC.block ?_
  refine sr_ ?_
  refine m_ rfl rfl ?_
  refine m_ rfl rfl ?_
  refine WL.y rfl (Yd.neq rfl rfl) ?_
  refine nt_ ?_
  refine WC.ite rfl (fun h26 => ?_) (fun h26 => ?_)
  ·refine WC.region ?_
   refine m_ rfl rfl ?_
   refine m_ rfl rfl ?_
   refine n_ rfl rfl ?_
   refine f_ 1 kr_ rfl rfl ?_
   refine d_ kr_ rfl mem_ (by rfl) rfl ?_
   refine m_ rfl rfl ?_
   refine WL.elemA (e := 34) (s := 13) kr_ kr_ kr_ rfl rfl (rfl) (hL.rs.mono gr_) (hcell) (by rfl) (by omega) (hlt) rfl rfl ?_
   intro p33
   refine WL.h rfl (Hd.buildA (e := 34) (sz := 13) (zs := [.int .i64 0, .int .i64 0, .int .i64 0, .int .u32 0, .int .u32 0, .int .u64 0, .int .u64 0, .int .u32 0, .int .i64 0, .bool false, .int .i64 0, .slice none 0 0, .slice none 0 0]) kr_ kr_ kr_ rfl rfl (by rfl) kr_ fun b35 => ⟨_, rfl, ?_⟩)
   refine WL.h rfl (Hd.appendRow (e := 34) (sz := 13) (bytes := 128) (zs := [.int .i64 0, .int .i64 0, .int .i64 0, .int .u32 0, .int .u32 0, .int .u64 0, .int .u64 0, .int .u32 0, .int .i64 0, .bool false, .int .i64 0, .slice none 0 0, .slice none 0 0]) kr_ kr_ rfl (by omega) rfl rfl (hO) sp_ mem_ (by rfl) (ltc_one9 rfl rfl) (by simp only [maxLen]; omega) (by omega) fun v2 C2 h2 => ⟨_, rfl, ?_⟩)
   refine a_ rfl rfl ?_
   refine WL.nil ?_
   refine DN.block_normal ?_
   refine DN.then_normal ?_
   refine WC.region ?_
   refine m_ rfl rfl ?_
   refine WL.y rfl (Yd.add rfl rfl (by omega) (by omega)) ?_
   refine a_ rfl rfl ?_
   refine WL.nil ?_
   exact DN.againS (⟨i + 1, v2, ds ++ ltc W.ls[i] (.slice ko W.ls[i].n.key.length kc) (.slice eo W.ls[i].n.data.length ec), C2⟩) (show (i + 1) ≤ W.ls.length ∧ Own v2 ((W.ls.take (i + 1)).eraseIdx (goneAt W k)).length (ds ++ ltc W.ls[i] (.slice ko W.ls[i].n.key.length kc) (.slice eo W.ls[i].n.data.length ec)) 34 13 C2 ∧ LtV (ds ++ ltc W.ls[i] (.slice ko W.ls[i].n.key.length kc) (.slice eo W.ls[i].n.data.length ec)) ((W.ls.take (i + 1)).eraseIdx (goneAt W k)) H from ⟨by omega, by rw [erase_skip W.ls i _ hlt ((gone_ne hlt).1 h26), List.length_append]; exact h2, by rw [erase_skip W.ls i _ hlt ((gone_ne hlt).1 h26)]; exact hOV.snoc hol ⟨_, _, rfl, hk, hd, hkl, hdl⟩⟩) (show W.ls.length - (i + 1) < W.ls.length - i by omega) (Sx.put rfl (Sx.put rfl (sx_))) sp_
  ·have he9 : (W.ls.take (i + 1)).eraseIdx (goneAt W k) = (W.ls.take i).eraseIdx (goneAt W k) := by
     have hi9 : i = goneAt W k := Classical.byContradiction fun e => h26 ((gone_ne hlt).2 e)
     rw [← hi9]; exact erase_here W.ls i hlt
   refine WC.skip ?_
   refine DN.block_normal ?_
   refine DN.then_normal ?_
   refine WC.region ?_
   refine m_ rfl rfl ?_
   refine WL.y rfl (Yd.add rfl rfl (by omega) (by omega)) ?_
   refine a_ rfl rfl ?_
   refine WL.nil ?_
   exact DN.againS (⟨i + 1, .slice oo ((W.ls.take i).eraseIdx (goneAt W k)).length oc, ds, D⟩) (show (i + 1) ≤ W.ls.length ∧ Own (.slice oo ((W.ls.take i).eraseIdx (goneAt W k)).length oc) ((W.ls.take (i + 1)).eraseIdx (goneAt W k)).length ds 34 13 D ∧ LtV ds ((W.ls.take (i + 1)).eraseIdx (goneAt W k)) H from ⟨by omega, by rw [show (W.ls.take (i + 1)).eraseIdx (goneAt W k) = (W.ls.take i).eraseIdx (goneAt W k) from he9]; exact hO, by rw [show (W.ls.take (i + 1)).eraseIdx (goneAt W k) = (W.ls.take i).eraseIdx (goneAt W k) from he9]; exact hOV⟩) (show W.ls.length - (i + 1) < W.ls.length - i by omega) (Sx.put rfl (Sx.put rfl (sx_))) sp_
 ·obtain rfl : i = W.ls.length := by omega
  rw [List.take_length] at hO hOV
  refine WC.exit ?_
  refine DN.then_exit ?_
  refine DN.then_exit ?_
  refine DN.block_exit ?_
  refine ts_ ?_
  refine WC.region ?_
  refine m_ rfl rfl ?_
  refine m_ rfl rfl ?_
  refine n_ rfl rfl ?_
  refine f_ 1 kr_ rfl rfl ?_
  refine WL.s (Hd.store1s kr_ rfl rfl (by rfl) fr_ (by rfl) (by first | (simp only [List.set_cons_zero, List.set_cons_succ, Nat.zero_add, Nat.add_zero, Nat.reduceAdd]; rfl) | rfl) ⟨rfl, ?_⟩)
  refine ntsr_ ?_
  refine m_ rfl rfl ?_
  refine a_ rfl rfl ?_
  refine nt_ ?_
  refine WC.ret ?_
  refine DN.fit (C := row q [.int .i64 W.n, .slice oo ((W.ls.take W.ls.length).eraseIdx (goneAt W k)).length oc, .slice co cu.length cc, .slice to ti.length tc] 59 :: (D ++ (CC ++ CT))) sp_ ?_
  refine DN.ret1 Try.results39 rfl ?_
  rw [out_gone, List.take_length]
  exact ⟨rfl, _, _, _, ds, D, CC, CT, rfl, hO, hOV, hC, hT⟩
end Go.Proofs.Ytgpegfmonmdhoaa

set_option linter.unusedVariables false
set_option linter.unusedSimpArgs false
set_option maxHeartbeats 4000000
namespace Go.Proofs.Ytgpegfmonmdhoaa
open Go.SL
theorem rwsend_tells (q : Nat) (W : Wn) (cu : List (Int × Int)) (ti : List Int) (H C : List Ck) (h : RwAt 59 34 89 3 q W cu ti H C) (inv : WInv W) (rel : WRel W cu ti) (hcu : cu.length ≤ 100000) (L : Lt) (vk vd : Value) (hk : Bs vk L.n.key H) (hd : Bs vd L.n.data H) (hkl : L.n.key.length ≤ maxLen) (hdl : L.n.data.length ≤ maxLen) : Tells Try.prog 36 [.pointer (some ⟨q, 0, none⟩), .agg (ltc L vk vd).toArray] C fun r C' => r = .int .i64 (sendE W L) ∧ RwAt 59 34 89 3 q (sendW W L) cu ti H C' := by
 refine Tells.enter Try.func36 rfl Try.ntmps36 rfl ?_
 intro w0 R
 have hAt := h
 obtain ⟨vL, vC, vT, cs, CL, CC, CT, rfl, hL, hV, hC, hT⟩ := h
 obtain ⟨lo, lc, rfl, hlc⟩ := hL.form
 obtain ⟨co, cc, rfl, hcc⟩ := hC.form
 obtain ⟨to, tc, rfl, htc⟩ := hT.form
 have hcl := hL.len
 obtain ⟨ko, kc, rfl, _⟩ := hk.form
 obtain ⟨eo, ec, rfl, _⟩ := hd.form
 have hfew := inv.few
 refine sr_ ?_
 refine WL.h rfl (Hd.boxA rfl fun b3 => ⟨_, rfl, ?_⟩)
 refine a_ rfl rfl ?_
 refine ntsr_ ?_
 refine f_ 2 kr_ rfl rfl ?_
 refine WL.h rfl (Hd.loadA (n := 11) (vs := [_, _, _, _, _, _, _, _, _, _, _]) kr_ rfl mem_ (by rfl) (by rfl) ⟨_, rfl, ?_⟩)
 refine WL.rf rfl (Ent.func Try.call50 rfl) (rcheck_reads L.n (.slice ko _ kc) (.slice eo _ ec) ⟨_, _, rfl⟩ ⟨_, _, rfl⟩ []) sp_ ?_
 refine a_ rfl rfl ?_
 refine ntsr_ ?_
 refine m_ rfl rfl ?_
 refine f_ 0 kr_ rfl rfl ?_
 refine d_ kr_ rfl mem_ (by rfl) rfl ?_
 refine WL.rf rfl (Ent.func Try.call51 rfl) (ris_reads q W cu ti H _ hAt inv L.f) sp_ ?_
 refine a_ rfl rfl ?_
 refine ntsr_ ?_
 refine m_ rfl rfl ?_
 refine f_ 1 kr_ rfl rfl ?_
 refine d_ kr_ rfl mem_ (by rfl) rfl ?_
 refine WL.rf rfl (Ent.func Try.call51 rfl) (ris_reads q W cu ti H _ hAt inv L.t) sp_ ?_
 refine a_ rfl rfl ?_
 refine nt_ ?_
 refine WC.seq ?_
 refine sr_ ?_
 refine m_ rfl rfl ?_
 refine WL.y rfl (Yd.notB rfl) ?_
 refine m_ rfl rfl ?_
 refine WL.part (t := 21) rfl (fun hg21 => ?_) (fun hg21 => ?_)
 ·refine gn_ 21 rfl rfl rfl rfl ?_
  refine gn_ 21 rfl rfl rfl rfl ?_
  refine WL.y rfl (Yd.pickT rfl rfl) ?_
  refine m_ rfl rfl ?_
  refine gn_ 25 rfl rfl rfl rfl ?_
  refine gn_ 25 rfl rfl rfl rfl ?_
  refine WL.y rfl (Yd.pickT rfl rfl) ?_
  refine nt_ ?_
  refine WC.yes rfl ?_
  refine sr_ ?_
  refine a_ rfl rfl ?_
  refine nt_ ?_
  refine WC.ret ?_
  refine DN.then_ret ?_
  first | refine DN.fit (C := row q [.int .i64 W.n, .slice lo2 (W.ls.length + 1) lc2, .slice co cu.length cc, .slice to ti.length tc] 59 :: (C2 ++ (CC ++ CT))) sp_ ?_ | refine DN.fit (C := row q [.int .i64 W.n, .slice lo W.ls.length lc, .slice co cu.length cc, .slice to ti.length tc] 59 :: (CL ++ (CC ++ CT))) sp_ ?_
  refine DN.ret1 Try.results36 rfl ?_
  first
  | (have e : sendE W L = 2 := by
       unfold sendE
       rw [if_pos]
       first
       | exact .inl (by simpa using hg21)
       | exact .inr (.inl (by simpa using hg25))
       | exact .inr (.inr h28)
     rw [e, show sendW W L = W by unfold sendW; rw [if_neg (fun x => by rw [e] at x; exact absurd x.1 (by decide))]]
     exact ⟨rfl, hAt⟩)
  | (have hf : isNode W L.f = true := by simpa using hg21
     have ht : isNode W L.t = true := by simpa using hg25
     have hb : noteBad L.n = false := h28
     first
     | (have e : sendE W L = 5 := by
          unfold sendE
          rw [if_neg (by rintro (x | x | x); (rw [hf] at x; cases x); (rw [ht] at x; cases x); (rw [hb] at x; cases x)), if_pos (by omega)]
        rw [e, show sendW W L = W by unfold sendW; rw [if_neg (fun x => by rw [e] at x; exact absurd x.1 (by decide))]]
        exact ⟨rfl, hAt⟩)
     | (have e : sendE W L = 0 := sendE_ok hf ht hb (by omega)
        rw [rel.closed hf ht] at h41
        first
        | (have ho : openB W L = true := by simpa using h41
           rw [e, show sendW W L = { W with ls := W.ls ++ [L] } by unfold sendW; rw [if_pos ⟨e, ho⟩]]
           exact ⟨rfl, _, _, _, _, C2, CC, CT, rfl, by rw [List.length_append]; exact h2, hV.snoc hcl ⟨_, _, rfl, hk, hd, hkl, hdl⟩, hC, hT⟩)
        | (have ho : openB W L = false := by simpa using h41
           rw [e, show sendW W L = W by unfold sendW; rw [if_neg (fun x => by rw [ho] at x; cases x.2)]]
           exact ⟨rfl, hAt⟩)))
 ·refine gy_ 21 rfl rfl rfl (Yd.move rfl) ?_
  refine gy_ 21 rfl rfl rfl (Yd.notB rfl) ?_
  refine WL.y rfl (Yd.pickF rfl rfl) ?_
  refine m_ rfl rfl ?_
  refine WL.part (t := 25) rfl (fun hg25 => ?_) (fun hg25 => ?_)
  ·refine gn_ 25 rfl rfl rfl rfl ?_
   refine gn_ 25 rfl rfl rfl rfl ?_
   refine WL.y rfl (Yd.pickT rfl rfl) ?_
   refine nt_ ?_
   refine WC.yes rfl ?_
   refine sr_ ?_
   refine a_ rfl rfl ?_
   refine nt_ ?_
   refine WC.ret ?_
   refine DN.then_ret ?_
   first | refine DN.fit (C := row q [.int .i64 W.n, .slice lo2 (W.ls.length + 1) lc2, .slice co cu.length cc, .slice to ti.length tc] 59 :: (C2 ++ (CC ++ CT))) sp_ ?_ | refine DN.fit (C := row q [.int .i64 W.n, .slice lo W.ls.length lc, .slice co cu.length cc, .slice to ti.length tc] 59 :: (CL ++ (CC ++ CT))) sp_ ?_
   refine DN.ret1 Try.results36 rfl ?_
   first
   | (have e : sendE W L = 2 := by
        unfold sendE
        rw [if_pos]
        first
        | exact .inl (by simpa using hg21)
        | exact .inr (.inl (by simpa using hg25))
        | exact .inr (.inr h28)
      rw [e, show sendW W L = W by unfold sendW; rw [if_neg (fun x => by rw [e] at x; exact absurd x.1 (by decide))]]
      exact ⟨rfl, hAt⟩)
   | (have hf : isNode W L.f = true := by simpa using hg21
      have ht : isNode W L.t = true := by simpa using hg25
      have hb : noteBad L.n = false := h28
      first
      | (have e : sendE W L = 5 := by
           unfold sendE
           rw [if_neg (by rintro (x | x | x); (rw [hf] at x; cases x); (rw [ht] at x; cases x); (rw [hb] at x; cases x)), if_pos (by omega)]
         rw [e, show sendW W L = W by unfold sendW; rw [if_neg (fun x => by rw [e] at x; exact absurd x.1 (by decide))]]
         exact ⟨rfl, hAt⟩)
      | (have e : sendE W L = 0 := sendE_ok hf ht hb (by omega)
         rw [rel.closed hf ht] at h41
         first
         | (have ho : openB W L = true := by simpa using h41
            rw [e, show sendW W L = { W with ls := W.ls ++ [L] } by unfold sendW; rw [if_pos ⟨e, ho⟩]]
            exact ⟨rfl, _, _, _, _, C2, CC, CT, rfl, by rw [List.length_append]; exact h2, hV.snoc hcl ⟨_, _, rfl, hk, hd, hkl, hdl⟩, hC, hT⟩)
         | (have ho : openB W L = false := by simpa using h41
            rw [e, show sendW W L = W by unfold sendW; rw [if_neg (fun x => by rw [ho] at x; cases x.2)]]
            exact ⟨rfl, hAt⟩)))
  ·refine gy_ 25 rfl rfl rfl (Yd.move rfl) ?_
   refine gy_ 25 rfl rfl rfl (Yd.neq rfl rfl) ?_
   refine WL.renamed (t := 27) (v := .bool (noteBad L.n)) rfl (congrArg Value.bool (by cases noteBad L.n <;> rfl)) ?_
   refine WL.y rfl (Yd.pickF rfl rfl) ?_
   refine nt_ ?_
   refine WC.cond rfl (fun h28 => ?_) (fun h28 => ?_)
   ·refine sr_ ?_
    refine a_ rfl rfl ?_
    refine nt_ ?_
    refine WC.ret ?_
    refine DN.then_ret ?_
    first | refine DN.fit (C := row q [.int .i64 W.n, .slice lo2 (W.ls.length + 1) lc2, .slice co cu.length cc, .slice to ti.length tc] 59 :: (C2 ++ (CC ++ CT))) sp_ ?_ | refine DN.fit (C := row q [.int .i64 W.n, .slice lo W.ls.length lc, .slice co cu.length cc, .slice to ti.length tc] 59 :: (CL ++ (CC ++ CT))) sp_ ?_
    refine DN.ret1 Try.results36 rfl ?_
    first
    | (have e : sendE W L = 2 := by
         unfold sendE
         rw [if_pos]
         first
         | exact .inl (by simpa using hg21)
         | exact .inr (.inl (by simpa using hg25))
         | exact .inr (.inr h28)
       rw [e, show sendW W L = W by unfold sendW; rw [if_neg (fun x => by rw [e] at x; exact absurd x.1 (by decide))]]
       exact ⟨rfl, hAt⟩)
    | (have hf : isNode W L.f = true := by simpa using hg21
       have ht : isNode W L.t = true := by simpa using hg25
       have hb : noteBad L.n = false := h28
       first
       | (have e : sendE W L = 5 := by
            unfold sendE
            rw [if_neg (by rintro (x | x | x); (rw [hf] at x; cases x); (rw [ht] at x; cases x); (rw [hb] at x; cases x)), if_pos (by omega)]
          rw [e, show sendW W L = W by unfold sendW; rw [if_neg (fun x => by rw [e] at x; exact absurd x.1 (by decide))]]
          exact ⟨rfl, hAt⟩)
       | (have e : sendE W L = 0 := sendE_ok hf ht hb (by omega)
          rw [rel.closed hf ht] at h41
          first
          | (have ho : openB W L = true := by simpa using h41
             rw [e, show sendW W L = { W with ls := W.ls ++ [L] } by unfold sendW; rw [if_pos ⟨e, ho⟩]]
             exact ⟨rfl, _, _, _, _, C2, CC, CT, rfl, by rw [List.length_append]; exact h2, hV.snoc hcl ⟨_, _, rfl, hk, hd, hkl, hdl⟩, hC, hT⟩)
          | (have ho : openB W L = false := by simpa using h41
             rw [e, show sendW W L = W by unfold sendW; rw [if_neg (fun x => by rw [ho] at x; cases x.2)]]
             exact ⟨rfl, hAt⟩)))
   ·refine WC.skip ?_
    refine ts_ ?_
    refine sr_ ?_
    refine m_ rfl rfl ?_
    refine n_ rfl rfl ?_
    refine f_ 1 kr_ rfl rfl ?_
    refine d_ kr_ rfl mem_ (by rfl) rfl ?_
    refine WL.y rfl (Yd.len (e := 34) kr_ rfl) ?_
    refine WL.y rfl (Yd.geq rfl rfl) ?_
    refine nt_ ?_
    refine WC.ite rfl (fun h34 => ?_) (fun h34 => ?_)
    ·refine sr_ ?_
     refine a_ rfl rfl ?_
     refine nt_ ?_
     refine WC.ret ?_
     refine DN.then_ret ?_
     first | refine DN.fit (C := row q [.int .i64 W.n, .slice lo2 (W.ls.length + 1) lc2, .slice co cu.length cc, .slice to ti.length tc] 59 :: (C2 ++ (CC ++ CT))) sp_ ?_ | refine DN.fit (C := row q [.int .i64 W.n, .slice lo W.ls.length lc, .slice co cu.length cc, .slice to ti.length tc] 59 :: (CL ++ (CC ++ CT))) sp_ ?_
     refine DN.ret1 Try.results36 rfl ?_
     first
     | (have e : sendE W L = 2 := by
          unfold sendE
          rw [if_pos]
          first
          | exact .inl (by simpa using hg21)
          | exact .inr (.inl (by simpa using hg25))
          | exact .inr (.inr h28)
        rw [e, show sendW W L = W by unfold sendW; rw [if_neg (fun x => by rw [e] at x; exact absurd x.1 (by decide))]]
        exact ⟨rfl, hAt⟩)
     | (have hf : isNode W L.f = true := by simpa using hg21
        have ht : isNode W L.t = true := by simpa using hg25
        have hb : noteBad L.n = false := h28
        first
        | (have e : sendE W L = 5 := by
             unfold sendE
             rw [if_neg (by rintro (x | x | x); (rw [hf] at x; cases x); (rw [ht] at x; cases x); (rw [hb] at x; cases x)), if_pos (by omega)]
           rw [e, show sendW W L = W by unfold sendW; rw [if_neg (fun x => by rw [e] at x; exact absurd x.1 (by decide))]]
           exact ⟨rfl, hAt⟩)
        | (have e : sendE W L = 0 := sendE_ok hf ht hb (by omega)
           rw [rel.closed hf ht] at h41
           first
           | (have ho : openB W L = true := by simpa using h41
              rw [e, show sendW W L = { W with ls := W.ls ++ [L] } by unfold sendW; rw [if_pos ⟨e, ho⟩]]
              exact ⟨rfl, _, _, _, _, C2, CC, CT, rfl, by rw [List.length_append]; exact h2, hV.snoc hcl ⟨_, _, rfl, hk, hd, hkl, hdl⟩, hC, hT⟩)
           | (have ho : openB W L = false := by simpa using h41
              rw [e, show sendW W L = W by unfold sendW; rw [if_neg (fun x => by rw [ho] at x; cases x.2)]]
              exact ⟨rfl, hAt⟩)))
    ·refine WC.skip ?_
     refine ts_ ?_
     refine sr_ ?_
     refine m_ rfl rfl ?_
     refine f_ 0 kr_ rfl rfl ?_
     refine d_ kr_ rfl mem_ (by rfl) rfl ?_
     refine f_ 1 kr_ rfl rfl ?_
     refine d_ kr_ rfl mem_ (by rfl) rfl ?_
     refine WL.rf rfl (Ent.func Try.call52 rfl) (rclosed_reads q W cu ti H _ hAt hcu L.f L.t) sp_ ?_
     refine WL.y rfl (Yd.notB rfl) ?_
     refine nt_ ?_
     refine WC.cond rfl (fun h41 => ?_) (fun h41 => ?_)
     ·refine WC.draw 11 kr_ rfl ?_
      refine WA.float (N := 11) rfl ?_
      refine WAF.add (i := 0) (d := 42) rfl (QF.mk [] [] rfl rfl kr_ rfl (QAt.y Wt.none (Yd.move rfl))) ?_
      refine WAF.add (i := 1) (d := 43) rfl (QF.mk [] [] rfl rfl kr_ rfl (QAt.y Wt.none (Yd.move rfl))) ?_
      refine WAF.add (i := 2) (d := 44) rfl (QF.mk [1] [(43, _)] rfl rfl kr_ rfl (QAt.y Wt.none (Yd.notNil rfl))) ?_
      refine WAF.add (i := 3) (d := 45) rfl (QF.mk [2] [(44, _)] rfl rfl kr_ rfl (QAt.y Wt.none (Yd.fieldAddr (k := 1) kr_ rfl))) ?_
      refine WAF.add (i := 4) (d := 46) rfl (QF.mk [3] [(45, _)] rfl rfl kr_ rfl (QAt.rd Wt.none (Rd.load1 kr_ rfl mem_ (by rfl)))) ?_
      refine WAF.add (i := 5) (d := 47) rfl (QF.mk [] [] rfl rfl kr_ rfl (QAt.rd Wt.none (Rd.loadAll (n := 13) kr_ rfl mem_ (by rfl)))) ?_
      refine WAF.step (pd := [(5, 47), (4, 46), (3, 45), (2, 44), (1, 43), (0, 42)]) [(6, [5])] rfl kr_ kr_ (all_c rfl (all_c rfl (all_c rfl (all_c rfl (all_c rfl (all_c rfl (all_n))))))) (all_c (QF.mk [] [] rfl rfl kr_ rfl (QAt.rd Wt.none (Rd.loadAll (n := 13) kr_ rfl mem_ (by rfl)))) (all_c (QF.mk [3] [(45, _)] rfl rfl kr_ rfl (QAt.rd Wt.none (Rd.load1 kr_ rfl mem_ (by rfl)))) (all_c (QF.mk [2] [(44, _)] rfl rfl kr_ rfl (QAt.y Wt.none (Yd.fieldAddr (k := 1) kr_ rfl))) (all_c (QF.mk [1] [(43, _)] rfl rfl kr_ rfl (QAt.y Wt.none (Yd.notNil rfl))) (all_c (QF.mk [] [] rfl rfl kr_ rfl (QAt.y Wt.none (Yd.move rfl))) (all_c (QF.mk [] [] rfl rfl kr_ rfl (QAt.y Wt.none (Yd.move rfl))) (all_n))))))) (all_c ?_ (all_n))
      ·change SO _ _ _ _ _ _ 6 ([(47, _)] ++ _) _ _
       refine SO.h rfl Wt.none rfl (Hd.buildA (e := 34) (sz := 13) (zs := [.int .i64 0, .int .i64 0, .int .i64 0, .int .u32 0, .int .u32 0, .int .u64 0, .int .u64 0, .int .u32 0, .int .i64 0, .bool false, .int .i64 0, .slice none 0 0, .slice none 0 0]) kr_ kr_ kr_ rfl rfl (by rfl) kr_ fun b48 => ⟨_, rfl, ?_⟩)
       change WAF _ _ _ _ _ _ [(4, 46, _), (3, 45, _), (2, 44, _), (1, 43, _), (0, 42, _)] _ [6, 5] ((48, _) :: ([(47, _)] ++ _)) _
       refine WAF.step (pd := [(4, 46), (3, 45), (2, 44), (1, 43), (0, 42)]) [(7, [4])] rfl kr_ kr_ (all_c rfl (all_c rfl (all_c rfl (all_c rfl (all_c rfl (all_n)))))) (all_c (QF.mk [3] [(45, _)] rfl rfl kr_ rfl (QAt.rd Wt.none (Rd.load1 kr_ rfl mem_ (by rfl)))) (all_c (QF.mk [2] [(44, _)] rfl rfl kr_ rfl (QAt.y Wt.none (Yd.fieldAddr (k := 1) kr_ rfl))) (all_c (QF.mk [1] [(43, _)] rfl rfl kr_ rfl (QAt.y Wt.none (Yd.notNil rfl))) (all_c (QF.mk [] [] rfl rfl kr_ rfl (QAt.y Wt.none (Yd.move rfl))) (all_c (QF.mk [] [] rfl rfl kr_ rfl (QAt.y Wt.none (Yd.move rfl))) (all_n)))))) (all_c ?_ (all_n))
       ·change SO _ _ _ _ _ _ 7 ([(46, _)] ++ _) _ _
        refine SO.h rfl Wt.none rfl (Hd.appendRow (e := 34) (sz := 13) (bytes := 128) (zs := [.int .i64 0, .int .i64 0, .int .i64 0, .int .u32 0, .int .u32 0, .int .u64 0, .int .u64 0, .int .u32 0, .int .i64 0, .bool false, .int .i64 0, .slice none 0 0, .slice none 0 0]) kr_ kr_ rfl (by omega) rfl rfl (hL) sp_ mem_ (by rfl) (ltc_one9 rfl rfl) (by simp only [maxLen]; omega) (by omega) fun v2 C2 h2 => ⟨_, rfl, ?_⟩)
        change WAF _ _ _ _ _ _ [(3, 45, _), (2, 44, _), (1, 43, _), (0, 42, _)] _ [7, 4, 6, 5] ((49, _) :: ([(46, _)] ++ _)) _
        obtain ⟨lo2, lc2, rfl, _⟩ := h2.form
        refine WAF.add (i := 8) (d := 50) rfl (QF.mk [3, 2, 1, 0] [(45, _), (44, _), (43, _), (42, _)] rfl rfl kr_ rfl (QAt.y Wt.none (Yd.notNil rfl))) ?_
        refine WAF.add (i := 9) (d := 51) rfl (QF.mk [8, 3, 2, 1, 0] [(50, _), (45, _), (44, _), (43, _), (42, _)] rfl rfl kr_ rfl (QAt.y Wt.none (Yd.fieldAddr (k := 1) kr_ rfl))) ?_
        refine WAF.step (pd := [(9, 51), (8, 50), (3, 45), (2, 44), (1, 43), (0, 42)]) [(10, [9, 3, 2, 1, 0])] rfl kr_ kr_ (all_c rfl (all_c rfl (all_c rfl (all_c rfl (all_c rfl (all_c rfl (all_n))))))) (all_c (QF.mk [8, 3, 2, 1, 0] [(50, _), (45, _), (44, _), (43, _), (42, _)] rfl rfl kr_ rfl (QAt.y Wt.none (Yd.fieldAddr (k := 1) kr_ rfl))) (all_c (QF.mk [3, 2, 1, 0] [(45, _), (44, _), (43, _), (42, _)] rfl rfl kr_ rfl (QAt.y Wt.none (Yd.notNil rfl))) (all_c (QF.mk [2] [(44, _)] rfl rfl kr_ rfl (QAt.y Wt.none (Yd.fieldAddr (k := 1) kr_ rfl))) (all_c (QF.mk [1] [(43, _)] rfl rfl kr_ rfl (QAt.y Wt.none (Yd.notNil rfl))) (all_c (QF.mk [] [] rfl rfl kr_ rfl (QAt.y Wt.none (Yd.move rfl))) (all_c (QF.mk [] [] rfl rfl kr_ rfl (QAt.y Wt.none (Yd.move rfl))) (all_n))))))) (all_c ?_ (all_n))
        ·change SO _ _ _ _ _ _ 10 ([(51, _), (45, _), (44, _), (43, _), (42, _)] ++ _) _ _
         refine SO.s rfl Wt.none (Hd.store1s kr_ rfl rfl (by rfl) fr_ (by rfl) (by first | (simp only [List.set_cons_zero, List.set_cons_succ, Nat.zero_add, Nat.add_zero, Nat.reduceAdd]; rfl) | rfl) ⟨rfl, ?_⟩)
         change WAF _ _ _ _ _ _ [(8, 50, _)] _ [10, 9, 3, 2, 1, 0, 7, 4, 6, 5] (([(51, _), (45, _), (44, _), (43, _), (42, _)] ++ _)) _
         refine WAF.done (pd := [(8, 50)]) rfl kr_ kr_ (all_c rfl (all_n)) (all_c (QF.mk [] [] rfl rfl kr_ rfl (QAt.y Wt.none (Yd.notNil rfl))) (all_n)) ?_
         change DN _ _ _ _ _ _ ([(50, _)] ++ _) _
         refine ts_ ?_
         refine WC.region ?_
         refine a_ rfl rfl ?_
         refine nt_ ?_
         refine WC.ret ?_
         first | refine DN.fit (C := row q [.int .i64 W.n, .slice lo2 (W.ls.length + 1) lc2, .slice co cu.length cc, .slice to ti.length tc] 59 :: (C2 ++ (CC ++ CT))) sp_ ?_ | refine DN.fit (C := row q [.int .i64 W.n, .slice lo W.ls.length lc, .slice co cu.length cc, .slice to ti.length tc] 59 :: (CL ++ (CC ++ CT))) sp_ ?_
         refine DN.ret1 Try.results36 rfl ?_
         first
         | (have e : sendE W L = 2 := by
              unfold sendE
              rw [if_pos]
              first
              | exact .inl (by simpa using hg21)
              | exact .inr (.inl (by simpa using hg25))
              | exact .inr (.inr h28)
            rw [e, show sendW W L = W by unfold sendW; rw [if_neg (fun x => by rw [e] at x; exact absurd x.1 (by decide))]]
            exact ⟨rfl, hAt⟩)
         | (have hf : isNode W L.f = true := by simpa using hg21
            have ht : isNode W L.t = true := by simpa using hg25
            have hb : noteBad L.n = false := h28
            first
            | (have e : sendE W L = 5 := by
                 unfold sendE
                 rw [if_neg (by rintro (x | x | x); (rw [hf] at x; cases x); (rw [ht] at x; cases x); (rw [hb] at x; cases x)), if_pos (by omega)]
               rw [e, show sendW W L = W by unfold sendW; rw [if_neg (fun x => by rw [e] at x; exact absurd x.1 (by decide))]]
               exact ⟨rfl, hAt⟩)
            | (have e : sendE W L = 0 := sendE_ok hf ht hb (by omega)
               rw [rel.closed hf ht] at h41
               first
               | (have ho : openB W L = true := by simpa using h41
                  rw [e, show sendW W L = { W with ls := W.ls ++ [L] } by unfold sendW; rw [if_pos ⟨e, ho⟩]]
                  exact ⟨rfl, _, _, _, _, C2, CC, CT, rfl, by rw [List.length_append]; exact h2, hV.snoc hcl ⟨_, _, rfl, hk, hd, hkl, hdl⟩, hC, hT⟩)
               | (have ho : openB W L = false := by simpa using h41
                  rw [e, show sendW W L = W by unfold sendW; rw [if_neg (fun x => by rw [ho] at x; cases x.2)]]
                  exact ⟨rfl, hAt⟩)))
     ·refine WC.skip ?_
      refine ts_ ?_
      refine WC.region ?_
      refine a_ rfl rfl ?_
      refine nt_ ?_
      refine WC.ret ?_
      first | refine DN.fit (C := row q [.int .i64 W.n, .slice lo2 (W.ls.length + 1) lc2, .slice co cu.length cc, .slice to ti.length tc] 59 :: (C2 ++ (CC ++ CT))) sp_ ?_ | refine DN.fit (C := row q [.int .i64 W.n, .slice lo W.ls.length lc, .slice co cu.length cc, .slice to ti.length tc] 59 :: (CL ++ (CC ++ CT))) sp_ ?_
      refine DN.ret1 Try.results36 rfl ?_
      first
      | (have e : sendE W L = 2 := by
           unfold sendE
           rw [if_pos]
           first
           | exact .inl (by simpa using hg21)
           | exact .inr (.inl (by simpa using hg25))
           | exact .inr (.inr h28)
         rw [e, show sendW W L = W by unfold sendW; rw [if_neg (fun x => by rw [e] at x; exact absurd x.1 (by decide))]]
         exact ⟨rfl, hAt⟩)
      | (have hf : isNode W L.f = true := by simpa using hg21
         have ht : isNode W L.t = true := by simpa using hg25
         have hb : noteBad L.n = false := h28
         first
         | (have e : sendE W L = 5 := by
              unfold sendE
              rw [if_neg (by rintro (x | x | x); (rw [hf] at x; cases x); (rw [ht] at x; cases x); (rw [hb] at x; cases x)), if_pos (by omega)]
            rw [e, show sendW W L = W by unfold sendW; rw [if_neg (fun x => by rw [e] at x; exact absurd x.1 (by decide))]]
            exact ⟨rfl, hAt⟩)
         | (have e : sendE W L = 0 := sendE_ok hf ht hb (by omega)
            rw [rel.closed hf ht] at h41
            first
            | (have ho : openB W L = true := by simpa using h41
               rw [e, show sendW W L = { W with ls := W.ls ++ [L] } by unfold sendW; rw [if_pos ⟨e, ho⟩]]
               exact ⟨rfl, _, _, _, _, C2, CC, CT, rfl, by rw [List.length_append]; exact h2, hV.snoc hcl ⟨_, _, rfl, hk, hd, hkl, hdl⟩, hC, hT⟩)
            | (have ho : openB W L = false := by simpa using h41
               rw [e, show sendW W L = W by unfold sendW; rw [if_neg (fun x => by rw [ho] at x; cases x.2)]]
               exact ⟨rfl, hAt⟩)))
theorem rwpick_tells (q : Nat) (W : Wn) (cu : List (Int × Int)) (ti : List Int) (H C : List Ck) (h : RwAt 59 34 89 3 q W cu ti H C) (inv : WInv W) (rel : WRel W cu ti) (hcu : cu.length ≤ 100000) (k : Int) : Tells Try.prog 38 [.pointer (some ⟨q, 0, none⟩), .int .i64 k] C fun r C' => ∃ vk vd, r = .tuple #[.agg (ltc (pickL W k) vk vd).toArray, .bool (pickB W k)] ∧ Bs vk (pickL W k).n.key H ∧ Bs vd (pickL W k).n.data H ∧ RwAt 59 34 89 3 q (outW W k) cu ti H C' := by
 refine Tells.enter Try.func38 rfl Try.ntmps38 rfl ?_
 intro w0 R
 have hAt := h
 obtain ⟨vL, vC, vT, cs, CL, CC, CT, rfl, hL, hV, hC, hT⟩ := h
 obtain ⟨lo, lc, rfl, hlc⟩ := hL.form
 obtain ⟨co, cc, rfl, hcc⟩ := hC.form
 obtain ⟨to, tc, rfl, htc⟩ := hT.form
 have hcl := hL.len
 have hfew := inv.few
 refine sr_ ?_
 refine WL.h rfl (Hd.alloc (zs := [.int .i64 0, .int .i64 0, .int .i64 0, .int .u32 0, .int .u32 0, .int .u64 0, .int .u64 0, .int .u32 0, .int .i64 0, .bool false, .int .i64 0, .slice none 0 0, .slice none 0 0]) kr_ fun b4 => ⟨_, rfl, ?_⟩)
 refine a_ rfl rfl ?_
 refine ntsr_ ?_
 refine m_ rfl rfl ?_
 refine m_ rfl rfl ?_
 refine WL.c rfl (Ent.func Try.call24 rfl) (rlook_tells q W cu ti H _ hAt (by omega) k) (Sp.p sp_) ?_
 rintro x H9 ⟨vk9, vd9, rfl, hk9, hd9, hkl9, hdl9, hH9⟩
 rw [hH9]
 clear hH9 H9
 obtain ⟨o1, c1, rfl, _⟩ := hk9.form
 obtain ⟨o2, c2, rfl, _⟩ := hd9.form
 refine m_ rfl rfl ?_
 refine x_ rfl rfl rfl ?_
 refine x_ rfl rfl rfl ?_
 refine WL.h rfl (Hd.alloc (zs := [.int .i64 0, .int .i64 0, .int .i64 0, .int .u32 0, .int .u32 0, .int .u64 0, .int .u64 0, .int .u32 0, .int .i64 0, .bool false, .int .i64 0, .slice none 0 0, .slice none 0 0]) kr_ fun b6 => ⟨_, rfl, ?_⟩)
 refine WL.s (Hd.storeAll (n := 13) (vs := ltc (lookL W k) (.slice o1 (lookL W k).n.key.length c1) (.slice o2 (lookL W k).n.data.length c2)) kr_ rfl rfl (by rfl) (ltc_one9 rfl rfl) fr_ (by rfl) ⟨rfl, ?_⟩)
 refine a_ rfl rfl ?_
 refine ntsr_ ?_
 refine m_ rfl rfl ?_
 refine m_ rfl rfl ?_
 refine WL.c rfl (Ent.func Try.call39 rfl) (rlose_tells q W cu ti H _ hAt (by omega) k) (Sp.p sp_) ?_
 rintro x C9 ⟨rfl, h9⟩
 refine nt_ ?_
 refine WC.seq ?_
 refine sr_ ?_
 refine m_ rfl rfl ?_
 refine WL.y rfl (Yd.notB rfl) ?_
 refine m_ rfl rfl ?_
 refine WL.part (t := 19) rfl (fun hg19 => ?_) (fun hg19 => ?_)
 ·iterate 6 refine gn_ 19 rfl rfl rfl rfl ?_
  refine WL.y rfl (Yd.pickT rfl rfl) ?_
  refine nt_ ?_
  refine WC.yes rfl ?_
  refine sr_ ?_
  refine WL.y rfl (Yd.buildL (pl := [(0, 1), (1, 1), (2, 11)]) (zs := [.int .i64 0, .int .i64 0, .int .i64 0, .int .u32 0, .int .u32 0, .int .u64 0, .int .u64 0, .int .u32 0, .int .i64 0, .bool false, .int .i64 0, .slice none 0 0, .slice none 0 0]) (parts := []) (vs := []) (cells := [.int .i64 0, .int .i64 0, .int .i64 0, .int .u32 0, .int .u32 0, .int .u64 0, .int .u64 0, .int .u32 0, .int .i64 0, .bool false, .int .i64 0, .slice none 0 0, .slice none 0 0]) kr_ kr_ rfl rfl) ?_
  refine WL.s (Hd.storeAll (n := 13) (vs := ltc zeroL (.slice none 0 0) (.slice none 0 0)) kr_ rfl rfl (by rfl) (ltc_one9 rfl rfl) fr_ (by rfl) ⟨rfl, ?_⟩)
  refine a_ rfl rfl ?_
  refine nt_ ?_
  refine WC.ret ?_
  refine DN.then_ret ?_
  refine DN.retCT (s := 13) (C9) Try.results38 kr_ rfl rfl mem_ (by rfl) sp_ ?_
  first
  | (have hth : thereB W k = false := by simpa using hg19
     have e1 : pickB W k = false := by unfold pickB; rw [hth]; rfl
     have e2 : pickL W k = zeroL := by unfold pickL; rw [e1]; rfl
     rw [e1, e2]
     exact ⟨_, _, rfl, bsn _, bsn _, h9⟩)
  | (have hth : thereB W k = true := by simpa using hg19
     have e2 : lookL W k = atW W k := by unfold lookL; rw [if_pos hth]
     have hw := inv.way _ (atW_mem hth)
     rw [e2, rel.closed (isNode_iff.2 ⟨hw.1, hw.2.1⟩) (isNode_iff.2 ⟨hw.2.2.1, hw.2.2.2⟩)] at h26
     first
     | (have ho : openB W (atW W k) = false := by simpa using h26
        have e1 : pickB W k = false := by unfold pickB; rw [ho, Bool.and_false]
        have e3 : pickL W k = zeroL := by unfold pickL; rw [e1]; rfl
        rw [e1, e3]
        exact ⟨_, _, rfl, bsn _, bsn _, h9⟩)
     | (have ho : openB W (atW W k) = true := by simpa using h26
        have e1 : pickB W k = true := by unfold pickB; rw [ho, hth]; rfl
        have e3 : pickL W k = lookL W k := by unfold pickL; rw [e1, e2]; rfl
        rw [e1, e3]
        exact ⟨_, _, rfl, hk9, hd9, h9⟩))
 ·refine gy_ 19 rfl rfl rfl (Yd.move rfl) ?_
  refine gy_ 19 rfl rfl rfl (Yd.fieldAddr (k := 0) kr_ rfl) ?_
  refine WL.gh (dj := 19) rfl rfl rfl (Hd.load1 kr_ rfl mem_ (by rfl) ⟨_, rfl, ?_⟩)
  refine gy_ 19 rfl rfl rfl (Yd.fieldAddr (k := 1) kr_ rfl) ?_
  refine WL.gh (dj := 19) rfl rfl rfl (Hd.load1 kr_ rfl mem_ (by rfl) ⟨_, rfl, ?_⟩)
  refine WL.grf (dj := 19) rfl rfl rfl (Ent.func Try.call52 rfl) (rclosed_reads q (outW W k) cu ti H _ h9 hcu (lookL W k).f (lookL W k).t) sp_ ?_
  refine WL.y rfl (Yd.pickF rfl rfl) ?_
  refine nt_ ?_
  refine WC.cond rfl (fun h26 => ?_) (fun h26 => ?_)
  ·refine sr_ ?_
   refine WL.y rfl (Yd.buildL (pl := [(0, 1), (1, 1), (2, 11)]) (zs := [.int .i64 0, .int .i64 0, .int .i64 0, .int .u32 0, .int .u32 0, .int .u64 0, .int .u64 0, .int .u32 0, .int .i64 0, .bool false, .int .i64 0, .slice none 0 0, .slice none 0 0]) (parts := []) (vs := []) (cells := [.int .i64 0, .int .i64 0, .int .i64 0, .int .u32 0, .int .u32 0, .int .u64 0, .int .u64 0, .int .u32 0, .int .i64 0, .bool false, .int .i64 0, .slice none 0 0, .slice none 0 0]) kr_ kr_ rfl rfl) ?_
   refine WL.s (Hd.storeAll (n := 13) (vs := ltc zeroL (.slice none 0 0) (.slice none 0 0)) kr_ rfl rfl (by rfl) (ltc_one9 rfl rfl) fr_ (by rfl) ⟨rfl, ?_⟩)
   refine a_ rfl rfl ?_
   refine nt_ ?_
   refine WC.ret ?_
   refine DN.then_ret ?_
   refine DN.retCT (s := 13) (C9) Try.results38 kr_ rfl rfl mem_ (by rfl) sp_ ?_
   first
   | (have hth : thereB W k = false := by simpa using hg19
      have e1 : pickB W k = false := by unfold pickB; rw [hth]; rfl
      have e2 : pickL W k = zeroL := by unfold pickL; rw [e1]; rfl
      rw [e1, e2]
      exact ⟨_, _, rfl, bsn _, bsn _, h9⟩)
   | (have hth : thereB W k = true := by simpa using hg19
      have e2 : lookL W k = atW W k := by unfold lookL; rw [if_pos hth]
      have hw := inv.way _ (atW_mem hth)
      rw [e2, rel.closed (isNode_iff.2 ⟨hw.1, hw.2.1⟩) (isNode_iff.2 ⟨hw.2.2.1, hw.2.2.2⟩)] at h26
      first
      | (have ho : openB W (atW W k) = false := by simpa using h26
         have e1 : pickB W k = false := by unfold pickB; rw [ho, Bool.and_false]
         have e3 : pickL W k = zeroL := by unfold pickL; rw [e1]; rfl
         rw [e1, e3]
         exact ⟨_, _, rfl, bsn _, bsn _, h9⟩)
      | (have ho : openB W (atW W k) = true := by simpa using h26
         have e1 : pickB W k = true := by unfold pickB; rw [ho, hth]; rfl
         have e3 : pickL W k = lookL W k := by unfold pickL; rw [e1, e2]; rfl
         rw [e1, e3]
         exact ⟨_, _, rfl, hk9, hd9, h9⟩))
  ·refine WC.skip ?_
   refine ts_ ?_
   refine WC.region ?_
   refine WL.h rfl (Hd.loadAll (n := 13) kr_ rfl mem_ (by rfl) ⟨_, rfl, ?_⟩)
   refine WL.s (Hd.storeAll (n := 13) (vs := ltc (lookL W k) (.slice o1 (lookL W k).n.key.length c1) (.slice o2 (lookL W k).n.data.length c2)) kr_ rfl rfl (by rfl) (ltc_one9 rfl rfl) fr_ (by rfl) ⟨rfl, ?_⟩)
   refine a_ rfl rfl ?_
   refine nt_ ?_
   refine WC.ret ?_
   refine DN.retCT (s := 13) (C9) Try.results38 kr_ rfl rfl mem_ (by rfl) sp_ ?_
   first
   | (have hth : thereB W k = false := by simpa using hg19
      have e1 : pickB W k = false := by unfold pickB; rw [hth]; rfl
      have e2 : pickL W k = zeroL := by unfold pickL; rw [e1]; rfl
      rw [e1, e2]
      exact ⟨_, _, rfl, bsn _, bsn _, h9⟩)
   | (have hth : thereB W k = true := by simpa using hg19
      have e2 : lookL W k = atW W k := by unfold lookL; rw [if_pos hth]
      have hw := inv.way _ (atW_mem hth)
      rw [e2, rel.closed (isNode_iff.2 ⟨hw.1, hw.2.1⟩) (isNode_iff.2 ⟨hw.2.2.1, hw.2.2.2⟩)] at h26
      first
      | (have ho : openB W (atW W k) = false := by simpa using h26
         have e1 : pickB W k = false := by unfold pickB; rw [ho, Bool.and_false]
         have e3 : pickL W k = zeroL := by unfold pickL; rw [e1]; rfl
         rw [e1, e3]
         exact ⟨_, _, rfl, bsn _, bsn _, h9⟩)
      | (have ho : openB W (atW W k) = true := by simpa using h26
         have e1 : pickB W k = true := by unfold pickB; rw [ho, hth]; rfl
         have e3 : pickL W k = lookL W k := by unfold pickL; rw [e1, e2]; rfl
         rw [e1, e3]
         exact ⟨_, _, rfl, hk9, hd9, h9⟩))
theorem rwcopy_tells (q : Nat) (W : Wn) (cu : List (Int × Int)) (ti : List Int) (H C : List Ck) (h : RwAt 59 34 89 3 q W cu ti H C) (inv : WInv W) (k : Int) : Tells Try.prog 40 [.pointer (some ⟨q, 0, none⟩), .int .i64 k] C fun r C' => r = .bool (copyB W k) ∧ RwAt 59 34 89 3 q (copyW W k) cu ti H C' := by
 refine Tells.enter Try.func40 rfl Try.ntmps40 rfl ?_
 intro w0 R
 have hAt := h
 obtain ⟨vL, vC, vT, cs, CL, CC, CT, rfl, hL, hV, hC, hT⟩ := h
 obtain ⟨lo, lc, rfl, hlc⟩ := hL.form
 obtain ⟨co, cc, rfl, hcc⟩ := hC.form
 obtain ⟨to, tc, rfl, htc⟩ := hT.form
 have hcl := hL.len
 have hfew := inv.few
 refine sr_ ?_
 refine a_ rfl rfl ?_
 refine ntsr_ ?_
 refine m_ rfl rfl ?_
 refine m_ rfl rfl ?_
 refine WL.c rfl (Ent.func Try.call24 rfl) (rlook_tells q W cu ti H _ hAt (by omega) k) (Sp.p sp_) ?_
 rintro x H9 ⟨vk9, vd9, rfl, hk9, hd9, hkl9, hdl9, hH9⟩
 rw [hH9]
 clear hH9 H9
 obtain ⟨o1, c1, rfl, _⟩ := hk9.form
 obtain ⟨o2, c2, rfl, _⟩ := hd9.form
 refine m_ rfl rfl ?_
 refine x_ rfl rfl rfl ?_
 refine x_ rfl rfl rfl ?_
 refine WL.h rfl (Hd.alloc (zs := [.int .i64 0, .int .i64 0, .int .i64 0, .int .u32 0, .int .u32 0, .int .u64 0, .int .u64 0, .int .u32 0, .int .i64 0, .bool false, .int .i64 0, .slice none 0 0, .slice none 0 0]) kr_ fun b5 => ⟨_, rfl, ?_⟩)
 refine WL.s (Hd.storeAll (n := 13) (vs := ltc (lookL W k) (.slice o1 (lookL W k).n.key.length c1) (.slice o2 (lookL W k).n.data.length c2)) kr_ rfl rfl (by rfl) (ltc_one9 rfl rfl) fr_ (by rfl) ⟨rfl, ?_⟩)
 refine a_ rfl rfl ?_
 refine nt_ ?_
 refine WC.seq ?_
 refine sr_ ?_
 refine m_ rfl rfl ?_
 refine WL.y rfl (Yd.notB rfl) ?_
 refine m_ rfl rfl ?_
 refine WL.part (t := 15) rfl (fun hg15 => ?_) (fun hg15 => ?_)
 ·iterate 6 refine gn_ 15 rfl rfl rfl rfl ?_
  refine WL.y rfl (Yd.pickT rfl rfl) ?_
  refine nt_ ?_
  refine WC.yes rfl ?_
  refine sr_ ?_
  refine a_ rfl rfl ?_
  refine nt_ ?_
  refine WC.ret ?_
  refine DN.then_ret ?_
  first | refine DN.fit (C := row q [.int .i64 W.n, .slice lo2 (W.ls.length + 1) lc2, .slice co cu.length cc, .slice to ti.length tc] 59 :: (C2 ++ (CC ++ CT))) sp_ ?_ | refine DN.fit (C := row q [.int .i64 W.n, .slice lo W.ls.length lc, .slice co cu.length cc, .slice to ti.length tc] 59 :: (CL ++ (CC ++ CT))) sp_ ?_
  refine DN.ret1 Try.results40 rfl ?_
  first
  | (have hb : copyB W k = false := by unfold copyB; first | (rw [show thereB W k = false by simpa using hg15]; rfl) | (rw [decide_eq_false (by omega), Bool.and_false])
     rw [hb, show copyW W k = W by unfold copyW; rw [hb]; rfl]
     exact ⟨rfl, hAt⟩)
  | (have hth : thereB W k = true := by simpa using hg15
     have hb : copyB W k = true := by unfold copyB; rw [hth, decide_eq_true (by omega)]; rfl
     have e2 : lookL W k = atW W k := by unfold lookL; rw [if_pos hth]
     rw [e2] at hk9 hd9 hkl9 hdl9 h2
     rw [hb, show copyW W k = { W with ls := W.ls ++ [atW W k] } by unfold copyW; rw [hb]; rfl]
     exact ⟨rfl, _, _, _, _, C2, CC, CT, rfl, by rw [List.length_append]; exact h2, hV.snoc hcl ⟨_, _, rfl, hk9, hd9, hkl9, hdl9⟩, hC, hT⟩)
 ·refine gy_ 15 rfl rfl rfl (Yd.move rfl) ?_
  refine gy_ 15 rfl rfl rfl (Yd.notNil rfl) ?_
  refine gy_ 15 rfl rfl rfl (Yd.fieldAddr (k := 1) kr_ rfl) ?_
  refine WL.gh (dj := 15) rfl rfl rfl (Hd.load1 kr_ rfl mem_ (by rfl) ⟨_, rfl, ?_⟩)
  refine gy_ 15 rfl rfl rfl (Yd.len (e := 34) kr_ rfl) ?_
  refine gy_ 15 rfl rfl rfl (Yd.geq rfl rfl) ?_
  refine WL.y rfl (Yd.pickF rfl rfl) ?_
  refine nt_ ?_
  refine WC.ite rfl (fun h22 => ?_) (fun h22 => ?_)
  ·refine sr_ ?_
   refine a_ rfl rfl ?_
   refine nt_ ?_
   refine WC.ret ?_
   refine DN.then_ret ?_
   first | refine DN.fit (C := row q [.int .i64 W.n, .slice lo2 (W.ls.length + 1) lc2, .slice co cu.length cc, .slice to ti.length tc] 59 :: (C2 ++ (CC ++ CT))) sp_ ?_ | refine DN.fit (C := row q [.int .i64 W.n, .slice lo W.ls.length lc, .slice co cu.length cc, .slice to ti.length tc] 59 :: (CL ++ (CC ++ CT))) sp_ ?_
   refine DN.ret1 Try.results40 rfl ?_
   first
   | (have hb : copyB W k = false := by unfold copyB; first | (rw [show thereB W k = false by simpa using hg15]; rfl) | (rw [decide_eq_false (by omega), Bool.and_false])
      rw [hb, show copyW W k = W by unfold copyW; rw [hb]; rfl]
      exact ⟨rfl, hAt⟩)
   | (have hth : thereB W k = true := by simpa using hg15
      have hb : copyB W k = true := by unfold copyB; rw [hth, decide_eq_true (by omega)]; rfl
      have e2 : lookL W k = atW W k := by unfold lookL; rw [if_pos hth]
      rw [e2] at hk9 hd9 hkl9 hdl9 h2
      rw [hb, show copyW W k = { W with ls := W.ls ++ [atW W k] } by unfold copyW; rw [hb]; rfl]
      exact ⟨rfl, _, _, _, _, C2, CC, CT, rfl, by rw [List.length_append]; exact h2, hV.snoc hcl ⟨_, _, rfl, hk9, hd9, hkl9, hdl9⟩, hC, hT⟩)
  ·refine WC.skip ?_
   refine ts_ ?_
   refine WC.draw 11 kr_ rfl ?_
   refine WA.float (N := 11) rfl ?_
   refine WAF.add (i := 0) (d := 23) rfl (QF.mk [] [] rfl rfl kr_ rfl (QAt.y Wt.none (Yd.move rfl))) ?_
   refine WAF.add (i := 1) (d := 24) rfl (QF.mk [] [] rfl rfl kr_ rfl (QAt.y Wt.none (Yd.move rfl))) ?_
   refine WAF.add (i := 2) (d := 25) rfl (QF.mk [1] [(24, _)] rfl rfl kr_ rfl (QAt.y Wt.none (Yd.notNil rfl))) ?_
   refine WAF.add (i := 3) (d := 26) rfl (QF.mk [2] [(25, _)] rfl rfl kr_ rfl (QAt.y Wt.none (Yd.fieldAddr (k := 1) kr_ rfl))) ?_
   refine WAF.add (i := 4) (d := 27) rfl (QF.mk [3] [(26, _)] rfl rfl kr_ rfl (QAt.rd Wt.none (Rd.load1 kr_ rfl mem_ (by rfl)))) ?_
   refine WAF.add (i := 5) (d := 28) rfl (QF.mk [] [] rfl rfl kr_ rfl (QAt.rd Wt.none (Rd.loadAll (n := 13) kr_ rfl mem_ (by rfl)))) ?_
   refine WAF.step (pd := [(5, 28), (4, 27), (3, 26), (2, 25), (1, 24), (0, 23)]) [(6, [5])] rfl kr_ kr_ (all_c rfl (all_c rfl (all_c rfl (all_c rfl (all_c rfl (all_c rfl (all_n))))))) (all_c (QF.mk [] [] rfl rfl kr_ rfl (QAt.rd Wt.none (Rd.loadAll (n := 13) kr_ rfl mem_ (by rfl)))) (all_c (QF.mk [3] [(26, _)] rfl rfl kr_ rfl (QAt.rd Wt.none (Rd.load1 kr_ rfl mem_ (by rfl)))) (all_c (QF.mk [2] [(25, _)] rfl rfl kr_ rfl (QAt.y Wt.none (Yd.fieldAddr (k := 1) kr_ rfl))) (all_c (QF.mk [1] [(24, _)] rfl rfl kr_ rfl (QAt.y Wt.none (Yd.notNil rfl))) (all_c (QF.mk [] [] rfl rfl kr_ rfl (QAt.y Wt.none (Yd.move rfl))) (all_c (QF.mk [] [] rfl rfl kr_ rfl (QAt.y Wt.none (Yd.move rfl))) (all_n))))))) (all_c ?_ (all_n))
   ·change SO _ _ _ _ _ _ 6 ([(28, _)] ++ _) _ _
    refine SO.h rfl Wt.none rfl (Hd.buildA (e := 34) (sz := 13) (zs := [.int .i64 0, .int .i64 0, .int .i64 0, .int .u32 0, .int .u32 0, .int .u64 0, .int .u64 0, .int .u32 0, .int .i64 0, .bool false, .int .i64 0, .slice none 0 0, .slice none 0 0]) kr_ kr_ kr_ rfl rfl (by rfl) kr_ fun b29 => ⟨_, rfl, ?_⟩)
    change WAF _ _ _ _ _ _ [(4, 27, _), (3, 26, _), (2, 25, _), (1, 24, _), (0, 23, _)] _ [6, 5] ((29, _) :: ([(28, _)] ++ _)) _
    refine WAF.step (pd := [(4, 27), (3, 26), (2, 25), (1, 24), (0, 23)]) [(7, [4])] rfl kr_ kr_ (all_c rfl (all_c rfl (all_c rfl (all_c rfl (all_c rfl (all_n)))))) (all_c (QF.mk [3] [(26, _)] rfl rfl kr_ rfl (QAt.rd Wt.none (Rd.load1 kr_ rfl mem_ (by rfl)))) (all_c (QF.mk [2] [(25, _)] rfl rfl kr_ rfl (QAt.y Wt.none (Yd.fieldAddr (k := 1) kr_ rfl))) (all_c (QF.mk [1] [(24, _)] rfl rfl kr_ rfl (QAt.y Wt.none (Yd.notNil rfl))) (all_c (QF.mk [] [] rfl rfl kr_ rfl (QAt.y Wt.none (Yd.move rfl))) (all_c (QF.mk [] [] rfl rfl kr_ rfl (QAt.y Wt.none (Yd.move rfl))) (all_n)))))) (all_c ?_ (all_n))
    ·change SO _ _ _ _ _ _ 7 ([(27, _)] ++ _) _ _
     refine SO.h rfl Wt.none rfl (Hd.appendRow (e := 34) (sz := 13) (bytes := 128) (zs := [.int .i64 0, .int .i64 0, .int .i64 0, .int .u32 0, .int .u32 0, .int .u64 0, .int .u64 0, .int .u32 0, .int .i64 0, .bool false, .int .i64 0, .slice none 0 0, .slice none 0 0]) kr_ kr_ rfl (by omega) rfl rfl (hL) sp_ mem_ (by rfl) (ltc_one9 rfl rfl) (by simp only [maxLen]; omega) (by omega) fun v2 C2 h2 => ⟨_, rfl, ?_⟩)
     change WAF _ _ _ _ _ _ [(3, 26, _), (2, 25, _), (1, 24, _), (0, 23, _)] _ [7, 4, 6, 5] ((30, _) :: ([(27, _)] ++ _)) _
     obtain ⟨lo2, lc2, rfl, _⟩ := h2.form
     refine WAF.add (i := 8) (d := 31) rfl (QF.mk [3, 2, 1, 0] [(26, _), (25, _), (24, _), (23, _)] rfl rfl kr_ rfl (QAt.y Wt.none (Yd.notNil rfl))) ?_
     refine WAF.add (i := 9) (d := 32) rfl (QF.mk [8, 3, 2, 1, 0] [(31, _), (26, _), (25, _), (24, _), (23, _)] rfl rfl kr_ rfl (QAt.y Wt.none (Yd.fieldAddr (k := 1) kr_ rfl))) ?_
     refine WAF.step (pd := [(9, 32), (8, 31), (3, 26), (2, 25), (1, 24), (0, 23)]) [(10, [9, 3, 2, 1, 0])] rfl kr_ kr_ (all_c rfl (all_c rfl (all_c rfl (all_c rfl (all_c rfl (all_c rfl (all_n))))))) (all_c (QF.mk [8, 3, 2, 1, 0] [(31, _), (26, _), (25, _), (24, _), (23, _)] rfl rfl kr_ rfl (QAt.y Wt.none (Yd.fieldAddr (k := 1) kr_ rfl))) (all_c (QF.mk [3, 2, 1, 0] [(26, _), (25, _), (24, _), (23, _)] rfl rfl kr_ rfl (QAt.y Wt.none (Yd.notNil rfl))) (all_c (QF.mk [2] [(25, _)] rfl rfl kr_ rfl (QAt.y Wt.none (Yd.fieldAddr (k := 1) kr_ rfl))) (all_c (QF.mk [1] [(24, _)] rfl rfl kr_ rfl (QAt.y Wt.none (Yd.notNil rfl))) (all_c (QF.mk [] [] rfl rfl kr_ rfl (QAt.y Wt.none (Yd.move rfl))) (all_c (QF.mk [] [] rfl rfl kr_ rfl (QAt.y Wt.none (Yd.move rfl))) (all_n))))))) (all_c ?_ (all_n))
     ·change SO _ _ _ _ _ _ 10 ([(32, _), (26, _), (25, _), (24, _), (23, _)] ++ _) _ _
      refine SO.s rfl Wt.none (Hd.store1s kr_ rfl rfl (by rfl) fr_ (by rfl) (by first | (simp only [List.set_cons_zero, List.set_cons_succ, Nat.zero_add, Nat.add_zero, Nat.reduceAdd]; rfl) | rfl) ⟨rfl, ?_⟩)
      change WAF _ _ _ _ _ _ [(8, 31, _)] _ [10, 9, 3, 2, 1, 0, 7, 4, 6, 5] (([(32, _), (26, _), (25, _), (24, _), (23, _)] ++ _)) _
      refine WAF.done (pd := [(8, 31)]) rfl kr_ kr_ (all_c rfl (all_n)) (all_c (QF.mk [] [] rfl rfl kr_ rfl (QAt.y Wt.none (Yd.notNil rfl))) (all_n)) ?_
      change DN _ _ _ _ _ _ ([(31, _)] ++ _) _
      refine ts_ ?_
      refine WC.region ?_
      refine a_ rfl rfl ?_
      refine nt_ ?_
      refine WC.ret ?_
      first | refine DN.fit (C := row q [.int .i64 W.n, .slice lo2 (W.ls.length + 1) lc2, .slice co cu.length cc, .slice to ti.length tc] 59 :: (C2 ++ (CC ++ CT))) sp_ ?_ | refine DN.fit (C := row q [.int .i64 W.n, .slice lo W.ls.length lc, .slice co cu.length cc, .slice to ti.length tc] 59 :: (CL ++ (CC ++ CT))) sp_ ?_
      refine DN.ret1 Try.results40 rfl ?_
      first
      | (have hb : copyB W k = false := by unfold copyB; first | (rw [show thereB W k = false by simpa using hg15]; rfl) | (rw [decide_eq_false (by omega), Bool.and_false])
         rw [hb, show copyW W k = W by unfold copyW; rw [hb]; rfl]
         exact ⟨rfl, hAt⟩)
      | (have hth : thereB W k = true := by simpa using hg15
         have hb : copyB W k = true := by unfold copyB; rw [hth, decide_eq_true (by omega)]; rfl
         have e2 : lookL W k = atW W k := by unfold lookL; rw [if_pos hth]
         rw [e2] at hk9 hd9 hkl9 hdl9 h2
         rw [hb, show copyW W k = { W with ls := W.ls ++ [atW W k] } by unfold copyW; rw [hb]; rfl]
         exact ⟨rfl, _, _, _, _, C2, CC, CT, rfl, by rw [List.length_append]; exact h2, hV.snoc hcl ⟨_, _, rfl, hk9, hd9, hkl9, hdl9⟩, hC, hT⟩)
theorem rwlate_tells (q : Nat) (W : Wn) (cu : List (Int × Int)) (ti : List Int) (H C : List Ck) (h : RwAt 59 34 89 3 q W cu ti H C) (inv : WInv W) (k : Int) : Tells Try.prog 41 [.pointer (some ⟨q, 0, none⟩), .int .i64 k] C fun r C' => r = .bool (thereB W k) ∧ RwAt 59 34 89 3 q (lateW W k) cu ti H C' := by
 refine Tells.enter Try.func41 rfl Try.ntmps41 rfl ?_
 intro w0 R
 have hAt := h
 obtain ⟨vL, vC, vT, cs, CL, CC, CT, rfl, hL, hV, hC, hT⟩ := h
 obtain ⟨lo, lc, rfl, hlc⟩ := hL.form
 obtain ⟨co, cc, rfl, hcc⟩ := hC.form
 obtain ⟨to, tc, rfl, htc⟩ := hT.form
 have hcl := hL.len
 have hfew := inv.few
 refine sr_ ?_
 refine a_ rfl rfl ?_
 refine ntsr_ ?_
 refine m_ rfl rfl ?_
 refine m_ rfl rfl ?_
 refine WL.c rfl (Ent.func Try.call24 rfl) (rlook_tells q W cu ti H _ hAt (by omega) k) (Sp.p sp_) ?_
 rintro x H9 ⟨vk9, vd9, rfl, hk9, hd9, hkl9, hdl9, hH9⟩
 rw [hH9]
 clear hH9 H9
 obtain ⟨o1, c1, rfl, _⟩ := hk9.form
 obtain ⟨o2, c2, rfl, _⟩ := hd9.form
 refine m_ rfl rfl ?_
 refine x_ rfl rfl rfl ?_
 refine x_ rfl rfl rfl ?_
 refine WL.h rfl (Hd.alloc (zs := [.int .i64 0, .int .i64 0, .int .i64 0, .int .u32 0, .int .u32 0, .int .u64 0, .int .u64 0, .int .u32 0, .int .i64 0, .bool false, .int .i64 0, .slice none 0 0, .slice none 0 0]) kr_ fun b5 => ⟨_, rfl, ?_⟩)
 refine WL.s (Hd.storeAll (n := 13) (vs := ltc (lookL W k) (.slice o1 (lookL W k).n.key.length c1) (.slice o2 (lookL W k).n.data.length c2)) kr_ rfl rfl (by rfl) (ltc_one9 rfl rfl) fr_ (by rfl) ⟨rfl, ?_⟩)
 refine a_ rfl rfl ?_
 refine nt_ ?_
 refine WC.seq ?_
 refine sr_ ?_
 refine m_ rfl rfl ?_
 refine nt_ ?_
 refine WC.cond rfl (fun h13 => ?_) (fun h13 => ?_)
 ·refine sr_ ?_
  refine m_ rfl rfl ?_
  refine m_ rfl rfl ?_
  refine WL.c rfl (Ent.func Try.call39 rfl) (rlose_tells q W cu ti H _ hAt (by omega) k) (Sp.p sp_) ?_
  rintro x C9 ⟨rfl, h9⟩
  have hth : thereB W k = true := h13
  rw [show outW W k = { W with ls := W.ls.eraseIdx k.toNat } by unfold outW; rw [if_pos hth]] at h9
  have hee := (List.eraseIdx_sublist W.ls k.toNat).length_le
  obtain ⟨vL, vC, vT, cs9, CL9, CC9, CT9, rfl, hL9, hV9, hC9, hT9⟩ := h9
  obtain ⟨lo9, lc9, rfl, _⟩ := hL9.form
  obtain ⟨co9, cc9, rfl, _⟩ := hC9.form
  obtain ⟨to9, tc9, rfl, _⟩ := hT9.form
  have hcl9 := hL9.len
  dsimp only at hL9 hV9 hcl9 hee
  refine nt_ ?_
  refine WC.draw 11 kr_ rfl ?_
  refine WA.float (N := 11) rfl ?_
  refine WAF.add (i := 0) (d := 17) rfl (QF.mk [] [] rfl rfl kr_ rfl (QAt.y Wt.none (Yd.move rfl))) ?_
  refine WAF.add (i := 1) (d := 18) rfl (QF.mk [] [] rfl rfl kr_ rfl (QAt.y Wt.none (Yd.move rfl))) ?_
  refine WAF.add (i := 2) (d := 19) rfl (QF.mk [1] [(18, _)] rfl rfl kr_ rfl (QAt.y Wt.none (Yd.notNil rfl))) ?_
  refine WAF.add (i := 3) (d := 20) rfl (QF.mk [2] [(19, _)] rfl rfl kr_ rfl (QAt.y Wt.none (Yd.fieldAddr (k := 1) kr_ rfl))) ?_
  refine WAF.add (i := 4) (d := 21) rfl (QF.mk [3] [(20, _)] rfl rfl kr_ rfl (QAt.rd Wt.none (Rd.load1 kr_ rfl mem_ (by rfl)))) ?_
  refine WAF.add (i := 5) (d := 22) rfl (QF.mk [] [] rfl rfl kr_ rfl (QAt.rd Wt.none (Rd.loadAll (n := 13) kr_ rfl mem_ (by rfl)))) ?_
  refine WAF.step (pd := [(5, 22), (4, 21), (3, 20), (2, 19), (1, 18), (0, 17)]) [(6, [5])] rfl kr_ kr_ (all_c rfl (all_c rfl (all_c rfl (all_c rfl (all_c rfl (all_c rfl (all_n))))))) (all_c (QF.mk [] [] rfl rfl kr_ rfl (QAt.rd Wt.none (Rd.loadAll (n := 13) kr_ rfl mem_ (by rfl)))) (all_c (QF.mk [3] [(20, _)] rfl rfl kr_ rfl (QAt.rd Wt.none (Rd.load1 kr_ rfl mem_ (by rfl)))) (all_c (QF.mk [2] [(19, _)] rfl rfl kr_ rfl (QAt.y Wt.none (Yd.fieldAddr (k := 1) kr_ rfl))) (all_c (QF.mk [1] [(18, _)] rfl rfl kr_ rfl (QAt.y Wt.none (Yd.notNil rfl))) (all_c (QF.mk [] [] rfl rfl kr_ rfl (QAt.y Wt.none (Yd.move rfl))) (all_c (QF.mk [] [] rfl rfl kr_ rfl (QAt.y Wt.none (Yd.move rfl))) (all_n))))))) (all_c ?_ (all_n))
  ·change SO _ _ _ _ _ _ 6 ([(22, _)] ++ _) _ _
   refine SO.h rfl Wt.none rfl (Hd.buildA (e := 34) (sz := 13) (zs := [.int .i64 0, .int .i64 0, .int .i64 0, .int .u32 0, .int .u32 0, .int .u64 0, .int .u64 0, .int .u32 0, .int .i64 0, .bool false, .int .i64 0, .slice none 0 0, .slice none 0 0]) kr_ kr_ kr_ rfl rfl (by rfl) kr_ fun b23 => ⟨_, rfl, ?_⟩)
   change WAF _ _ _ _ _ _ [(4, 21, _), (3, 20, _), (2, 19, _), (1, 18, _), (0, 17, _)] _ [6, 5] ((23, _) :: ([(22, _)] ++ _)) _
   refine WAF.step (pd := [(4, 21), (3, 20), (2, 19), (1, 18), (0, 17)]) [(7, [4])] rfl kr_ kr_ (all_c rfl (all_c rfl (all_c rfl (all_c rfl (all_c rfl (all_n)))))) (all_c (QF.mk [3] [(20, _)] rfl rfl kr_ rfl (QAt.rd Wt.none (Rd.load1 kr_ rfl mem_ (by rfl)))) (all_c (QF.mk [2] [(19, _)] rfl rfl kr_ rfl (QAt.y Wt.none (Yd.fieldAddr (k := 1) kr_ rfl))) (all_c (QF.mk [1] [(18, _)] rfl rfl kr_ rfl (QAt.y Wt.none (Yd.notNil rfl))) (all_c (QF.mk [] [] rfl rfl kr_ rfl (QAt.y Wt.none (Yd.move rfl))) (all_c (QF.mk [] [] rfl rfl kr_ rfl (QAt.y Wt.none (Yd.move rfl))) (all_n)))))) (all_c ?_ (all_n))
   ·change SO _ _ _ _ _ _ 7 ([(21, _)] ++ _) _ _
    refine SO.h rfl Wt.none rfl (Hd.appendRow (e := 34) (sz := 13) (bytes := 128) (zs := [.int .i64 0, .int .i64 0, .int .i64 0, .int .u32 0, .int .u32 0, .int .u64 0, .int .u64 0, .int .u32 0, .int .i64 0, .bool false, .int .i64 0, .slice none 0 0, .slice none 0 0]) kr_ kr_ rfl (by omega) rfl rfl (hL9) sp_ mem_ (by rfl) (ltc_one9 rfl rfl) (by simp only [maxLen]; omega) (by omega) fun v2 C2 h2 => ⟨_, rfl, ?_⟩)
    change WAF _ _ _ _ _ _ [(3, 20, _), (2, 19, _), (1, 18, _), (0, 17, _)] _ [7, 4, 6, 5] ((24, _) :: ([(21, _)] ++ _)) _
    obtain ⟨lo2, lc2, rfl, _⟩ := h2.form
    refine WAF.add (i := 8) (d := 25) rfl (QF.mk [3, 2, 1, 0] [(20, _), (19, _), (18, _), (17, _)] rfl rfl kr_ rfl (QAt.y Wt.none (Yd.notNil rfl))) ?_
    refine WAF.add (i := 9) (d := 26) rfl (QF.mk [8, 3, 2, 1, 0] [(25, _), (20, _), (19, _), (18, _), (17, _)] rfl rfl kr_ rfl (QAt.y Wt.none (Yd.fieldAddr (k := 1) kr_ rfl))) ?_
    refine WAF.step (pd := [(9, 26), (8, 25), (3, 20), (2, 19), (1, 18), (0, 17)]) [(10, [9, 3, 2, 1, 0])] rfl kr_ kr_ (all_c rfl (all_c rfl (all_c rfl (all_c rfl (all_c rfl (all_c rfl (all_n))))))) (all_c (QF.mk [8, 3, 2, 1, 0] [(25, _), (20, _), (19, _), (18, _), (17, _)] rfl rfl kr_ rfl (QAt.y Wt.none (Yd.fieldAddr (k := 1) kr_ rfl))) (all_c (QF.mk [3, 2, 1, 0] [(20, _), (19, _), (18, _), (17, _)] rfl rfl kr_ rfl (QAt.y Wt.none (Yd.notNil rfl))) (all_c (QF.mk [2] [(19, _)] rfl rfl kr_ rfl (QAt.y Wt.none (Yd.fieldAddr (k := 1) kr_ rfl))) (all_c (QF.mk [1] [(18, _)] rfl rfl kr_ rfl (QAt.y Wt.none (Yd.notNil rfl))) (all_c (QF.mk [] [] rfl rfl kr_ rfl (QAt.y Wt.none (Yd.move rfl))) (all_c (QF.mk [] [] rfl rfl kr_ rfl (QAt.y Wt.none (Yd.move rfl))) (all_n))))))) (all_c ?_ (all_n))
    ·change SO _ _ _ _ _ _ 10 ([(26, _), (20, _), (19, _), (18, _), (17, _)] ++ _) _ _
     refine SO.s rfl Wt.none (Hd.store1s kr_ rfl rfl (by rfl) fr_ (by rfl) (by first | (simp only [List.set_cons_zero, List.set_cons_succ, Nat.zero_add, Nat.add_zero, Nat.reduceAdd]; rfl) | rfl) ⟨rfl, ?_⟩)
     change WAF _ _ _ _ _ _ [(8, 25, _)] _ [10, 9, 3, 2, 1, 0, 7, 4, 6, 5] (([(26, _), (20, _), (19, _), (18, _), (17, _)] ++ _)) _
     refine WAF.done (pd := [(8, 25)]) rfl kr_ kr_ (all_c rfl (all_n)) (all_c (QF.mk [] [] rfl rfl kr_ rfl (QAt.y Wt.none (Yd.notNil rfl))) (all_n)) ?_
     change DN _ _ _ _ _ _ ([(25, _)] ++ _) _
     refine ts_ ?_
     refine WC.region ?_
     refine m_ rfl rfl ?_
     refine a_ rfl rfl ?_
     refine nt_ ?_
     refine WC.ret ?_
     first | refine DN.fit (C := row q [.int .i64 W.n, .slice lo2 ((W.ls.eraseIdx k.toNat).length + 1) lc2, .slice co9 cu.length cc9, .slice to9 ti.length tc9] 59 :: (C2 ++ (CC9 ++ CT9))) sp_ ?_ | refine DN.fit (C := row q [.int .i64 W.n, .slice lo W.ls.length lc, .slice co cu.length cc, .slice to ti.length tc] 59 :: (CL ++ (CC ++ CT))) sp_ ?_
     refine DN.ret1 Try.results41 rfl ?_
     first
     | (have hth9 : thereB W k = false := h13
        rw [show lateW W k = W by unfold lateW; rw [hth9]; rfl]
        exact ⟨rfl, hAt⟩)
     | (have e2 : lookL W k = atW W k := by unfold lookL; rw [if_pos hth]
        rw [e2] at hk9 hd9 hkl9 hdl9 h2
        rw [show lateW W k = { W with ls := W.ls.eraseIdx k.toNat ++ [atW W k] } by unfold lateW; rw [if_pos hth]]
        exact ⟨rfl, _, _, _, _, C2, CC9, CT9, rfl, by rw [List.length_append]; exact h2, hV9.snoc hcl9 ⟨_, _, rfl, hk9, hd9, hkl9, hdl9⟩, hC9, hT9⟩)
 ·refine WC.skip ?_
  refine ts_ ?_
  refine WC.region ?_
  refine m_ rfl rfl ?_
  refine a_ rfl rfl ?_
  refine nt_ ?_
  refine WC.ret ?_
  first | refine DN.fit (C := row q [.int .i64 W.n, .slice lo2 ((W.ls.eraseIdx k.toNat).length + 1) lc2, .slice co9 cu.length cc9, .slice to9 ti.length tc9] 59 :: (C2 ++ (CC9 ++ CT9))) sp_ ?_ | refine DN.fit (C := row q [.int .i64 W.n, .slice lo W.ls.length lc, .slice co cu.length cc, .slice to ti.length tc] 59 :: (CL ++ (CC ++ CT))) sp_ ?_
  refine DN.ret1 Try.results41 rfl ?_
  first
  | (have hth9 : thereB W k = false := h13
     rw [show lateW W k = W by unfold lateW; rw [hth9]; rfl]
     exact ⟨rfl, hAt⟩)
  | (have e2 : lookL W k = atW W k := by unfold lookL; rw [if_pos hth]
     rw [e2] at hk9 hd9 hkl9 hdl9 h2
     rw [show lateW W k = { W with ls := W.ls.eraseIdx k.toNat ++ [atW W k] } by unfold lateW; rw [if_pos hth]]
     exact ⟨rfl, _, _, _, _, C2, CC9, CT9, rfl, by rw [List.length_append]; exact h2, hV9.snoc hcl9 ⟨_, _, rfl, hk9, hd9, hkl9, hdl9⟩, hC9, hT9⟩)
theorem tick_count {ti : List Int} {i : Nat} {k : Int} (hlt : i < ti.length) : (ti.take (i + 1)).count k = (ti.take i).count k + (if ti[i] = k then 1 else 0) := by
  rw [List.take_succ_eq_append_getElem hlt, List.count_append, List.count_singleton]
  congr 1
  by_cases h : ti[i] = k
  · simp [h]
  · simp [h]
theorem rwclock_reads (q : Nat) (W : Wn) (cu : List (Int × Int)) (ti : List Int) (H C : List Ck) (h : RwAt 59 34 89 3 q W cu ti H C) (inv : WInv W) (rel : WRel W cu ti) (hcu : cu.length ≤ 100000) (hti : ti.length ≤ 100000) (k : Int) : Reads Try.prog 44 [.pointer (some ⟨q, 0, none⟩), .int .i64 k] C (.int .u64 (clockV W k).toNat) := by
 refine Tells.enter Try.func44 rfl Try.ntmps44 rfl ?_
 intro w0 R
 obtain ⟨vL, vC, vT, cs, CL, CC, CT, rfl, hL, hV, hC, hT⟩ := h
 obtain ⟨lo, lc, rfl, hlc⟩ := hL.form
 obtain ⟨co, cc, rfl, hcc⟩ := hC.form
 obtain ⟨to, tc, rfl, htc⟩ := hT.form
 have hcl := hL.len
 refine sr_ ?_
 refine WL.y rfl (Yd.assign (v := .int .u64 ((0#64).toNat : Int)) rfl) ?_
 refine ntsr_ ?_
 refine WL.y rfl (Yd.assign (v := .int .u64 ((0#64).toNat : Int)) rfl) ?_
 refine nt_ ?_
 refine WC.seq ?_
 refine sr_ ?_
 refine a_ rfl rfl ?_
 refine nt_ ?_
 refine WC.block ?_
 refine WC.loopS (fun z : Nat => z ≤ ti.length) (fun z : Nat => [(5, .int .u64 (BitVec.ofNat 64 ((ti.take z).count k)).toNat), (6, .int .i64 (z : Int))]) (fun z : Nat => row q [.int .i64 W.n, .slice lo W.ls.length lc, .slice co cu.length cc, .slice to ti.length tc] 59 :: (CL ++ (CC ++ CT))) (fun z : Nat => ti.length - z) (0) (show 0 ≤ ti.length from Nat.zero_le _) (Sx.put rfl (Sx.put rfl (sx_))) sp_ ?_
 rintro i hI
 replace hI : i ≤ ti.length := hI
 obtain hi := hI
 change WC _ _ _ _ _ _ ([(5, .int .u64 (BitVec.ofNat 64 ((ti.take i).count k)).toNat), (6, .int .i64 (i : Int))] ++ _) (row q [.int .i64 W.n, .slice lo W.ls.length lc, .slice co cu.length cc, .slice to ti.length tc] 59 :: (CL ++ (CC ++ CT)))
 refine WC.seq ?_
 refine sr_ ?_
 refine m_ rfl rfl ?_
 refine m_ rfl rfl ?_
 refine n_ rfl rfl ?_
 refine f_ 3 kr_ rfl rfl ?_
 refine d_ kr_ rfl mem_ (by rfl) rfl ?_
 refine WL.y rfl (Yd.len (e := 3) kr_ rfl) ?_
 refine WL.y rfl (Yd.lss rfl rfl) ?_
 refine nt_ ?_
 refine WC.ite rfl (fun h13 => ?_) (fun h13 => ?_)
 ·have hlt : i < ti.length := by omega
  obtain ⟨tb, tf, ts, tT, tfr, tex, rfl, _, htm, hts⟩ := hT.rs.lies (by omega)
  have hcn := tick_count (k := k) hlt
  refine WC.skip ?_
  refine ts_ ?_
  refine WC.block ?_
  refine sr_ ?_
  refine m_ rfl rfl ?_
  refine n_ rfl rfl ?_
  refine f_ 3 kr_ rfl rfl ?_
  refine d_ kr_ rfl mem_ (by rfl) rfl ?_
  refine m_ rfl rfl ?_
  refine WL.y rfl (Yd.indexAddr (e := 3) (s := 1) kr_ kr_ rfl rfl (by omega) (by omega)) ?_
  refine WL.h rfl (Hd.load1 (v := .int .i64 ti[i]) (b := tb) (o := tf + (i : Int).toNat * 1) (cs := ts) kr_ rfl (Gr.get gr_ htm) (rs_cell1 hts (by simp [ic, hlt])) ⟨_, rfl, ?_⟩)
  refine m_ rfl rfl ?_
  refine WL.y rfl (Yd.eql rfl rfl) ?_
  refine nt_ ?_
  refine WC.ite rfl (fun h24 => ?_) (fun h24 => ?_)
  ·refine WC.region ?_
   refine m_ rfl rfl ?_
   refine WL.y rfl (Yd.add64 _ (1#64) rfl rfl rfl rfl) ?_
   refine WL.renamed (t := 26) (v := .int .u64 (BitVec.ofNat 64 ((ti.take (i + 1)).count k)).toNat) rfl (congrArg (fun z : BitVec 64 => Value.int .u64 (z.toNat : Int)) (by rw [hcn, if_pos h24]; apply BitVec.eq_of_toNat_eq; simp)) ?_
   refine a_ rfl rfl ?_
   refine WL.nil ?_
   refine DN.block_normal ?_
   refine DN.then_normal ?_
   refine WC.region ?_
   refine m_ rfl rfl ?_
   refine WL.y rfl (Yd.add rfl rfl (by omega) (by omega)) ?_
   refine a_ rfl rfl ?_
   refine WL.nil ?_
   exact DN.againS (i + 1) (show (i + 1) ≤ ti.length from by omega) (show ti.length - (i + 1) < ti.length - i by omega) (Sx.put rfl (Sx.put rfl (sx_))) sp_
  ·refine WC.skip ?_
   refine DN.block_normal ?_
   refine DN.then_normal ?_
   refine WC.region ?_
   refine m_ rfl rfl ?_
   refine WL.y rfl (Yd.add rfl rfl (by omega) (by omega)) ?_
   refine a_ rfl rfl ?_
   refine WL.nil ?_
   rw [show (ti.take i).count k = (ti.take (i + 1)).count k by rw [hcn, if_neg h24]; rfl]
   exact DN.againS (i + 1) (show (i + 1) ≤ ti.length from by omega) (show ti.length - (i + 1) < ti.length - i by omega) (Sx.put rfl (Sx.put rfl (sx_))) sp_
 ·obtain rfl : i = ti.length := by omega
  refine WC.exit ?_
  refine DN.then_exit ?_
  refine DN.then_exit ?_
  refine DN.block_exit ?_
  refine ts_ ?_
  refine WC.region ?_
  refine m_ rfl rfl ?_
  refine a_ rfl rfl ?_
  refine nt_ ?_
  refine WC.ret ?_
  refine DN.ret1 Try.results44 rfl ?_
  rw [rel.clock, List.take_length]
  exact ⟨rfl, rfl⟩
theorem rwtick_tells (q : Nat) (W : Wn) (cu : List (Int × Int)) (ti : List Int) (H C : List Ck) (h : RwAt 59 34 89 3 q W cu ti H C) (inv : WInv W) (rel : WRel W cu ti) (hcu : cu.length ≤ 100000) (hti : ti.length ≤ 90000) (k : Int) : Tells Try.prog 43 [.pointer (some ⟨q, 0, none⟩), .int .i64 k] C fun r C' => r = .tuple #[.int .u64 (tickV W k).toNat, .int .i64 (tickE W k)] ∧ RwAt 59 34 89 3 q (tickW W k) cu (ticksC W ti k) H C' := by
 refine Tells.enter Try.func43 rfl Try.ntmps43 rfl ?_
 intro w0 R
 have hAt := h
 obtain ⟨vL, vC, vT, cs, CL, CC, CT, rfl, hL, hV, hC, hT⟩ := h
 obtain ⟨lo, lc, rfl, hlc⟩ := hL.form
 obtain ⟨co, cc, rfl, hcc⟩ := hC.form
 obtain ⟨to, tc, rfl, htc⟩ := hT.form
 have hcl := hL.len
 refine sr_ ?_
 refine WL.y rfl (Yd.assign (v := .int .u64 ((0#64).toNat : Int)) rfl) ?_
 refine a_ rfl rfl ?_
 refine ntsr_ ?_
 refine m_ rfl rfl ?_
 refine m_ rfl rfl ?_
 refine WL.rf rfl (Ent.func Try.call51 rfl) (ris_reads q W cu ti H _ hAt inv k) sp_ ?_
 refine a_ rfl rfl ?_
 refine nt_ ?_
 refine WC.seq ?_
 refine sr_ ?_
 refine m_ rfl rfl ?_
 refine WL.y rfl (Yd.notB rfl) ?_
 refine nt_ ?_
 refine WC.cond rfl (fun h11 => ?_) (fun h11 => ?_)
 ·refine sr_ ?_
  refine WL.y rfl (Yd.assign (v := .int .u64 ((0#64).toNat : Int)) rfl) ?_
  refine a_ rfl rfl ?_
  refine nt_ ?_
  refine WC.ret ?_
  refine DN.then_ret ?_
  first | refine DN.fit (C := row q [.int .i64 W.n, .slice lo W.ls.length lc, .slice co cu.length cc, .slice to2 (ti.length + 1) tc2] 59 :: (CL ++ (CC ++ C2))) sp_ ?_ | refine DN.fit (C := row q [.int .i64 W.n, .slice lo W.ls.length lc, .slice co cu.length cc, .slice to ti.length tc] 59 :: (CL ++ (CC ++ CT))) sp_ ?_
  refine DN.ret2 Try.results43 rfl rfl ?_
  first
  | (have hno : isNode W k = false := by simpa using h11
     rw [show tickV W k = 0#64 by unfold tickV; rw [if_pos hno], show tickE W k = 2 by unfold tickE; rw [if_pos hno], show tickW W k = W by unfold tickW; rw [if_pos hno], show ticksC W ti k = ti by unfold ticksC; rw [if_pos hno]]
     exact ⟨rfl, hAt⟩)
  | (have e8 : clockV (tickW W k) k = tickV W k := by
       have hi := isNode_iff.1 hnd
       have hn := inv.n
       have hc := inv.clk
       rw [show tickW W k = { W with clk := W.clk.set k.toNat (W.clk.getD k.toNat 0#64 + 1#64) } by unfold tickW; rw [if_neg hnn]]
       unfold tickV
       rw [if_neg hnn]
       show (if isNode W k = false then 0#64 else (W.clk.set k.toNat (W.clk.getD k.toNat 0#64 + 1#64)).getD k.toNat 0#64) = _
       rw [if_neg hnn]
       simp only [List.getD_eq_getElem?_getD, List.getElem?_set]
       rw [if_pos trivial, if_pos (by omega)]
       rfl
     rw [e8, show tickE W k = 0 by unfold tickE; rw [if_neg hnn]]
     exact ⟨rfl, h9⟩)
 ·refine WC.skip ?_
  refine ts_ ?_
  refine WC.region ?_
  refine m_ rfl rfl ?_
  refine m_ rfl rfl ?_
  refine n_ rfl rfl ?_
  refine f_ 3 kr_ rfl rfl ?_
  refine d_ kr_ rfl mem_ (by rfl) rfl ?_
  refine m_ rfl rfl ?_
  refine WL.h rfl (Hd.build1 (e := 3) (z := .int .i64 0) kr_ kr_ kr_ rfl (by rfl) fun b18 => ⟨_, rfl, ?_⟩)
  refine WL.h rfl (Hd.appendRow (e := 3) (sz := 1) (bytes := 8) (zs := [.int .i64 0]) kr_ kr_ rfl (by omega) rfl rfl (hT) sp_ mem_ (by rfl) one_ (by simp only [maxLen]; omega) (by omega) fun v2 C2 h2 => ⟨_, rfl, ?_⟩)
  obtain ⟨to2, tc2, rfl, _⟩ := h2.form
  refine n_ rfl rfl ?_
  refine f_ 3 kr_ rfl rfl ?_
  refine WL.s (Hd.store1s kr_ rfl rfl (by rfl) fr_ (by rfl) (by first | (simp only [List.set_cons_zero, List.set_cons_succ, Nat.zero_add, Nat.add_zero, Nat.reduceAdd]; rfl) | rfl) ⟨rfl, ?_⟩)
  refine ntsr_ ?_
  have hnd : isNode W k = true := by simpa using h11
  have hnn : ¬ isNode W k = false := by rw [hnd]; decide
  have e3 : ticksC W ti k = ti ++ [k] := by unfold ticksC; rw [if_neg hnn]
  have h9 : RwAt 59 34 89 3 q (tickW W k) cu (ticksC W ti k) H (row q [.int .i64 W.n, .slice lo W.ls.length lc, .slice co cu.length cc, .slice to2 (ti.length + 1) tc2] 59 :: (CL ++ (CC ++ C2))) := by
    rw [e3, show tickW W k = { W with clk := W.clk.set k.toNat (W.clk.getD k.toNat 0#64 + 1#64) } by unfold tickW; rw [if_neg hnn]]
    refine ⟨_, _, _, cs, CL, CC, C2, rfl, hL, hV, hC, ?_⟩
    rw [List.length_append]
    have e9 : ic (ti ++ [k]) = ic ti ++ [.int .i64 k] := by simp [ic]
    rw [e9]; exact h2
  refine m_ rfl rfl ?_
  refine m_ rfl rfl ?_
  refine WL.rf rfl (Ent.func Try.call44 rfl) (rwclock_reads q (tickW W k) cu (ticksC W ti k) H _ h9 (inv.tick k) (rel.tick inv k) hcu (by rw [e3, List.length_append]; show ti.length + 1 ≤ 100000; omega) k) sp_ ?_
  refine a_ rfl rfl ?_
  refine a_ rfl rfl ?_
  refine nt_ ?_
  refine WC.ret ?_
  first | refine DN.fit (C := row q [.int .i64 W.n, .slice lo W.ls.length lc, .slice co cu.length cc, .slice to2 (ti.length + 1) tc2] 59 :: (CL ++ (CC ++ C2))) sp_ ?_ | refine DN.fit (C := row q [.int .i64 W.n, .slice lo W.ls.length lc, .slice co cu.length cc, .slice to ti.length tc] 59 :: (CL ++ (CC ++ CT))) sp_ ?_
  refine DN.ret2 Try.results43 rfl rfl ?_
  first
  | (have hno : isNode W k = false := by simpa using h11
     rw [show tickV W k = 0#64 by unfold tickV; rw [if_pos hno], show tickE W k = 2 by unfold tickE; rw [if_pos hno], show tickW W k = W by unfold tickW; rw [if_pos hno], show ticksC W ti k = ti by unfold ticksC; rw [if_pos hno]]
     exact ⟨rfl, hAt⟩)
  | (have e8 : clockV (tickW W k) k = tickV W k := by
       have hi := isNode_iff.1 hnd
       have hn := inv.n
       have hc := inv.clk
       rw [show tickW W k = { W with clk := W.clk.set k.toNat (W.clk.getD k.toNat 0#64 + 1#64) } by unfold tickW; rw [if_neg hnn]]
       unfold tickV
       rw [if_neg hnn]
       show (if isNode W k = false then 0#64 else (W.clk.set k.toNat (W.clk.getD k.toNat 0#64 + 1#64)).getD k.toNat 0#64) = _
       rw [if_neg hnn]
       simp only [List.getD_eq_getElem?_getD, List.getElem?_set]
       rw [if_pos trivial, if_pos (by omega)]
       rfl
     rw [e8, show tickE W k = 0 by unfold tickE; rw [if_neg hnn]]
     exact ⟨rfl, h9⟩)
end Go.Proofs.Ytgpegfmonmdhoaa

set_option linter.unusedVariables false
set_option linter.unusedSimpArgs false
set_option maxHeartbeats 4000000
set_option maxRecDepth 100000
namespace Go.Proofs.Ytgpegfmonmdhoaa
open Go.SL
def kW1 : Wn := sendW (newW 3) (ackL 0 1 1#64)
def kW2 : Wn := sendW kW1 (ackL 0 2 2#64)
def kW3 : Wn := lateW kW2 0
def kW4 : Wn := cutW kW3 0 1 true
def kW5 : Wn := outW kW4 1
def kW6 : Wn := outW kW5 0
def kW7 : Wn := tickW kW6 2
theorem kI0 : WInv (newW 3) := newW_inv (by decide)
theorem kI1 : WInv kW1 := kI0.send _
theorem kI2 : WInv kW2 := kI1.send _
theorem kI3 : WInv kW3 := kI2.late _
theorem kI4 : WInv kW4 := kI3.cut' _ _ _
theorem kI5 : WInv kW5 := kI4.out _
theorem kI6 : WInv kW6 := kI5.out _
theorem kI7 : WInv kW7 := kI6.tick _
theorem bsNil (H : List Ck) : Bs (.slice none 0 0) [] H := .inl ⟨_, _, rfl, rfl, rfl⟩
theorem known18 (H : List Ck) : Reads Try.prog 15 [] H (.bool true) := by
 refine Tells.enter Try.func15 rfl Try.ntmps15 rfl ?_
 intro w0 R
 refine sr_ ?_
 refine a_ rfl rfl ?_
 refine ntsr_ ?_
 refine WL.c rfl (Ent.func Try.call9 rfl) (new_tells 3) (Sp.p sp_) ?_
 rintro q C0 hq
 rw [if_pos (by decide)] at hq
 obtain ⟨p, rfl, h0⟩ := hq
 refine m_ rfl rfl ?_
 refine x_ rfl rfl rfl ?_
 refine x_ rfl rfl rfl ?_
 refine a_ rfl rfl ?_
 refine a_ rfl rfl ?_
 refine nt_ ?_
 refine WC.seq ?_
 refine sr_ ?_
 refine m_ rfl rfl ?_
 refine WL.y rfl (Yd.neq rfl rfl) ?_
 refine WL.renamed (t := 17) (v := .bool false) rfl (congrArg Value.bool (by decide)) ?_
 refine m_ rfl rfl ?_
 refine gy_ 18 rfl rfl rfl (Yd.move rfl) ?_
 refine gy_ 18 rfl rfl rfl (Yd.eqlNil Try.underlying22 rfl rfl) ?_
 refine WL.renamed (t := 20) (v := .bool false) rfl (congrArg Value.bool (rfl)) ?_
 refine WL.y rfl (Yd.pickF rfl rfl) ?_
 refine nt_ ?_
 refine WC.no rfl ?_
 refine WC.skip ?_
 refine ts_ ?_
 refine WC.region ?_
 refine m_ rfl rfl ?_
 refine WL.r rfl (Ent.func Try.call11 rfl) (letter_reads 0 1 1#64 _) ?_
 refine WL.c rfl (Ent.func Try.call10 rfl) (send_tells p (newW 3) C0 [] h0 kI0 (ackL 0 1 1#64) _ _ (bsNil _) (bsNil _) (Nat.zero_le _) (Nat.zero_le _)) (Sp.p sp_) ?_
 rintro q Hq ⟨C1, rfl, h1, rfl⟩
 replace h1 : WAt 72 34 5 p kW1 C1 := h1
 refine a_ rfl rfl ?_
 refine ntsr_ ?_
 refine m_ rfl rfl ?_
 refine WL.r rfl (Ent.func Try.call11 rfl) (letter_reads 0 2 2#64 _) ?_
 refine WL.c rfl (Ent.func Try.call10 rfl) (send_tells p kW1 C1 [] h1 kI1 (ackL 0 2 2#64) _ _ (bsNil _) (bsNil _) (Nat.zero_le _) (Nat.zero_le _)) (Sp.p sp_) ?_
 rintro q Hq ⟨C2, rfl, h2, rfl⟩
 replace h2 : WAt 72 34 5 p kW2 C2 := h2
 refine a_ rfl rfl ?_
 refine ntsr_ ?_
 refine m_ rfl rfl ?_
 refine WL.c rfl (Ent.func Try.call12 rfl) (late_tells p kW2 C2 h2 kI2 0) (Sp.p sp_) ?_
 rintro q C3 ⟨rfl, h3⟩
 replace h3 : WAt 72 34 5 p kW3 C3 := h3
 refine a_ rfl rfl ?_
 refine ntsr_ ?_
 refine m_ rfl rfl ?_
 refine WL.c rfl (Ent.func Try.call16 rfl) (cut_tells p kW3 C3 h3 kI3 0 1 true) (Sp.p sp_) ?_
 rintro q C4 ⟨rfl, h4⟩
 replace h4 : WAt 72 34 5 p kW4 C4 := h4
 refine ntsr_ ?_
 refine m_ rfl rfl ?_
 refine WL.c rfl (Ent.func Try.call13 rfl) (pick_tells p kW4 C4 h4 kI4 1) (Sp.p sp_) ?_
 rintro q Hq ⟨vk5, vd5, A5, B5, C5, rfl, hA5, hB5, h5, rfl⟩
 replace h5 : WAt 72 34 5 p kW5 C5 := h5
 have o1 := hA5.one_cell
 have o2 := hB5.one_cell
 refine m_ rfl rfl ?_
 refine x_ rfl rfl rfl ?_
 refine x_ rfl rfl rfl ?_
 refine WL.h rfl (Hd.alloc (zs := [.int .i64 0, .int .i64 0, .int .i64 0, .int .u32 0, .int .u32 0, .int .u64 0, .int .u64 0, .int .u32 0, .int .i64 0, .bool false, .int .i64 0, .slice none 0 0, .slice none 0 0]) kr_ fun b6 => ⟨_, rfl, ?_⟩)
 refine WL.s (Hd.storeAll (n := 13) kr_ rfl rfl (by rfl) one_ fr_ (by rfl) ⟨rfl, ?_⟩)
 refine a_ rfl rfl ?_
 refine ntsr_ ?_
 refine m_ rfl rfl ?_
 refine WL.c rfl (Ent.func Try.call13 rfl) (pick_tells p kW5 C5 h5 kI5 0) (Sp.p sp_) ?_
 rintro q Hq ⟨vk6, vd6, A6, B6, C6, rfl, hA6, hB6, h6, rfl⟩
 replace h6 : WAt 72 34 5 p kW6 C6 := h6
 have o3 := hA6.one_cell
 have o4 := hB6.one_cell
 refine m_ rfl rfl ?_
 refine x_ rfl rfl rfl ?_
 refine x_ rfl rfl rfl ?_
 refine WL.h rfl (Hd.alloc (zs := [.int .i64 0, .int .i64 0, .int .i64 0, .int .u32 0, .int .u32 0, .int .u64 0, .int .u64 0, .int .u32 0, .int .i64 0, .bool false, .int .i64 0, .slice none 0 0, .slice none 0 0]) kr_ fun b8 => ⟨_, rfl, ?_⟩)
 refine WL.s (Hd.storeAll (n := 13) kr_ rfl rfl (by rfl) one_ fr_ (by rfl) ⟨rfl, ?_⟩)
 refine a_ rfl rfl ?_
 refine ntsr_ ?_
 refine m_ rfl rfl ?_
 refine WL.c rfl (Ent.func Try.call27 rfl) (tick_tells p kW6 C6 h6 kI6 2) (Sp.p sp_) ?_
 rintro q C7 ⟨rfl, h7⟩
 replace h7 : WAt 72 34 5 p kW7 C7 := h7
 refine m_ rfl rfl ?_
 refine x_ rfl rfl rfl ?_
 refine x_ rfl rfl rfl ?_
 refine a_ rfl rfl ?_
 refine a_ rfl rfl ?_
 refine ntsr_ ?_
 refine m_ rfl rfl ?_
 refine WL.y rfl (Yd.eql rfl rfl) ?_
 refine WL.renamed (t := 48) (v := .bool true) rfl (congrArg Value.bool kr_) ?_
 refine m_ rfl rfl ?_
 refine gy_ 49 rfl rfl rfl (Yd.move rfl) ?_
 refine gy_ 49 rfl rfl rfl (Yd.eql rfl rfl) ?_
 refine WL.renamed (t := 51) (v := .bool true) rfl (congrArg Value.bool kr_) ?_
 refine WL.y rfl (Yd.pickT rfl rfl) ?_
 refine m_ rfl rfl ?_
 refine gy_ 53 rfl rfl rfl (Yd.move rfl) ?_
 refine WL.renamed (t := 54) (v := .bool true) rfl (congrArg Value.bool kr_) ?_
 refine WL.y rfl (Yd.pickT rfl rfl) ?_
 refine m_ rfl rfl ?_
 refine gy_ 56 rfl rfl rfl (Yd.move rfl) ?_
 refine gy_ 56 rfl rfl rfl (Yd.notB rfl) ?_
 refine WL.renamed (t := 58) (v := .bool true) rfl (congrArg Value.bool kr_) ?_
 refine WL.y rfl (Yd.pickT rfl rfl) ?_
 refine m_ rfl rfl ?_
 refine gy_ 60 rfl rfl rfl (Yd.move rfl) ?_
 refine WL.renamed (t := 61) (v := .bool true) rfl (congrArg Value.bool kr_) ?_
 refine WL.y rfl (Yd.pickT rfl rfl) ?_
 refine m_ rfl rfl ?_
 refine gy_ 63 rfl rfl rfl (Yd.fieldAddr (k := 1) kr_ rfl) ?_
 refine WL.gh (dj := 63) rfl rfl rfl (Hd.load1 kr_ rfl mem_ (by rfl) ⟨_, rfl, ?_⟩)
 refine gy_ 63 rfl rfl rfl (Yd.eql rfl rfl) ?_
 refine WL.renamed (t := 66) (v := .bool true) rfl (congrArg Value.bool kr_) ?_
 refine WL.y rfl (Yd.pickT rfl rfl) ?_
 refine m_ rfl rfl ?_
 refine gy_ 68 rfl rfl rfl (Yd.fieldAddr (k := 2) kr_ rfl) ?_
 refine gy_ 68 rfl rfl rfl (Yd.fieldAddr (k := 3) kr_ rfl) ?_
 refine WL.gh (dj := 68) rfl rfl rfl (Hd.load1 kr_ rfl mem_ (by rfl) ⟨_, rfl, ?_⟩)
 refine gy_ 68 rfl rfl rfl (Yd.eql64 _ (2#64) rfl rfl rfl rfl) ?_
 refine WL.renamed (t := 72) (v := .bool true) rfl (congrArg Value.bool kr_) ?_
 refine WL.y rfl (Yd.pickT rfl rfl) ?_
 refine m_ rfl rfl ?_
 refine gy_ 74 rfl rfl rfl (Yd.move rfl) ?_
 refine WL.grf (dj := 74) rfl rfl rfl (Ent.func Try.call14 rfl) (len_reads p kW7 C7 h7) sp_ ?_
 refine gy_ 74 rfl rfl rfl (Yd.eql rfl rfl) ?_
 refine WL.renamed (t := 77) (v := .bool true) rfl (congrArg Value.bool kr_) ?_
 refine WL.y rfl (Yd.pickT rfl rfl) ?_
 refine m_ rfl rfl ?_
 refine gy_ 79 rfl rfl rfl (Yd.move rfl) ?_
 refine gy_ 79 rfl rfl rfl (Yd.eql64 _ (1#64) rfl rfl rfl rfl) ?_
 refine WL.renamed (t := 81) (v := .bool true) rfl (congrArg Value.bool kr_) ?_
 refine WL.y rfl (Yd.pickT rfl rfl) ?_
 refine m_ rfl rfl ?_
 refine gy_ 83 rfl rfl rfl (Yd.move rfl) ?_
 refine gy_ 83 rfl rfl rfl (Yd.eql rfl rfl) ?_
 refine WL.renamed (t := 85) (v := .bool true) rfl (congrArg Value.bool kr_) ?_
 refine WL.y rfl (Yd.pickT rfl rfl) ?_
 refine m_ rfl rfl ?_
 refine gy_ 87 rfl rfl rfl (Yd.move rfl) ?_
 refine WL.grf (dj := 87) rfl rfl rfl (Ent.func Try.call28 rfl) (clock_reads p kW7 C7 h7 kI7 2) sp_ ?_
 refine gy_ 87 rfl rfl rfl (Yd.eql64 _ (1#64) rfl rfl rfl rfl) ?_
 refine WL.renamed (t := 90) (v := .bool true) rfl (congrArg Value.bool kr_) ?_
 refine WL.y rfl (Yd.pickT rfl rfl) ?_
 refine a_ rfl rfl ?_
 refine nt_ ?_
 refine WC.ret ?_
 refine DN.fit (C := H) sp_ ?_
 refine DN.ret1 Try.results15 rfl ?_
 exact ⟨rfl, rfl⟩
end Go.Proofs.Ytgpegfmonmdhoaa

set_option linter.unusedVariables false
set_option linter.unusedSimpArgs false
set_option maxHeartbeats 4000000
set_option maxRecDepth 100000
namespace Go.Proofs.Ytgpegfmonmdhoaa
open Go.SL
def AwsAt (xs : List Value) (aq : List Aw) (H : List Ck) : Prop := ∀ i (h : i < aq.length), AwE ((xs.drop (i * 17)).take 17) aq[i] H
theorem same05_reads (a b : Nt) (vk vd uk ud : Value) (H : List Ck) (h1 : Bs vk a.key H) (h2 : Bs vd a.data H) (h3 : Bs uk b.key H) (h4 : Bs ud b.data H) : Reads Try.prog 45 [.agg (ntc a vk vd).toArray, .agg (ntc b uk ud).toArray] H (.bool (sameN a b)) := by
 refine Tells.enter Try.func45 rfl Try.ntmps45 rfl ?_
 intro w0 R
 obtain ⟨o1, c1, rfl, _⟩ := h1.form
 obtain ⟨o2, c2, rfl, _⟩ := h2.form
 obtain ⟨o3, c3, rfl, _⟩ := h3.form
 obtain ⟨o4, c4, rfl, _⟩ := h4.form
 refine sr_ ?_
 refine WL.h rfl (Hd.boxA rfl fun b2 => ⟨_, rfl, ?_⟩)
 refine WL.h rfl (Hd.boxA rfl fun b3 => ⟨_, rfl, ?_⟩)
 refine a_ rfl rfl ?_
 refine ntsr_ ?_
 refine f_ 0 kr_ rfl rfl ?_
 refine d_ kr_ rfl mem_ (by rfl) rfl ?_
 refine f_ 0 kr_ rfl rfl ?_
 refine d_ kr_ rfl mem_ (by rfl) rfl ?_
 refine WL.y rfl (Yd.eql rfl rfl) ?_
 refine m_ rfl rfl ?_
 refine WL.partP (t := 10) rfl (fun hg10 => ?_) (fun hg10 => ?_)
 ·refine gy_ 10 rfl rfl rfl (Yd.fieldAddr (k := 1) kr_ rfl) ?_
  refine WL.gh (dj := 10) rfl rfl rfl (Hd.load1 kr_ rfl mem_ (by rfl) ⟨_, rfl, ?_⟩)
  refine gy_ 10 rfl rfl rfl (Yd.fieldAddr (k := 1) kr_ rfl) ?_
  refine WL.gh (dj := 10) rfl rfl rfl (Hd.load1 kr_ rfl mem_ (by rfl) ⟨_, rfl, ?_⟩)
  refine gy_ 10 rfl rfl rfl (Yd.eql32 _ _ rfl rfl rfl rfl) ?_
  refine WL.y rfl (Yd.pickT rfl rfl) ?_
  refine m_ rfl rfl ?_
  refine WL.partP (t := 17) rfl (fun hg17 => ?_) (fun hg17 => ?_)
  ·refine gy_ 17 rfl rfl rfl (Yd.fieldAddr (k := 2) kr_ rfl) ?_
   refine WL.gh (dj := 17) rfl rfl rfl (Hd.load1 kr_ rfl mem_ (by rfl) ⟨_, rfl, ?_⟩)
   refine gy_ 17 rfl rfl rfl (Yd.fieldAddr (k := 2) kr_ rfl) ?_
   refine WL.gh (dj := 17) rfl rfl rfl (Hd.load1 kr_ rfl mem_ (by rfl) ⟨_, rfl, ?_⟩)
   refine gy_ 17 rfl rfl rfl (Yd.eql32 _ _ rfl rfl rfl rfl) ?_
   refine WL.y rfl (Yd.pickT rfl rfl) ?_
   refine m_ rfl rfl ?_
   refine WL.partP (t := 24) rfl (fun hg24 => ?_) (fun hg24 => ?_)
   ·refine gy_ 24 rfl rfl rfl (Yd.fieldAddr (k := 3) kr_ rfl) ?_
    refine WL.gh (dj := 24) rfl rfl rfl (Hd.load1 kr_ rfl mem_ (by rfl) ⟨_, rfl, ?_⟩)
    refine gy_ 24 rfl rfl rfl (Yd.fieldAddr (k := 3) kr_ rfl) ?_
    refine WL.gh (dj := 24) rfl rfl rfl (Hd.load1 kr_ rfl mem_ (by rfl) ⟨_, rfl, ?_⟩)
    refine gy_ 24 rfl rfl rfl (Yd.eql64 _ _ rfl rfl rfl rfl) ?_
    refine WL.y rfl (Yd.pickT rfl rfl) ?_
    refine m_ rfl rfl ?_
    refine WL.partP (t := 31) rfl (fun hg31 => ?_) (fun hg31 => ?_)
    ·refine gy_ 31 rfl rfl rfl (Yd.fieldAddr (k := 4) kr_ rfl) ?_
     refine WL.gh (dj := 31) rfl rfl rfl (Hd.load1 kr_ rfl mem_ (by rfl) ⟨_, rfl, ?_⟩)
     refine gy_ 31 rfl rfl rfl (Yd.fieldAddr (k := 4) kr_ rfl) ?_
     refine WL.gh (dj := 31) rfl rfl rfl (Hd.load1 kr_ rfl mem_ (by rfl) ⟨_, rfl, ?_⟩)
     refine gy_ 31 rfl rfl rfl (Yd.eql64 _ _ rfl rfl rfl rfl) ?_
     refine WL.y rfl (Yd.pickT rfl rfl) ?_
     refine m_ rfl rfl ?_
     refine WL.partP (t := 38) rfl (fun hg38 => ?_) (fun hg38 => ?_)
     ·refine gy_ 38 rfl rfl rfl (Yd.fieldAddr (k := 5) kr_ rfl) ?_
      refine WL.gh (dj := 38) rfl rfl rfl (Hd.load1 kr_ rfl mem_ (by rfl) ⟨_, rfl, ?_⟩)
      refine gy_ 38 rfl rfl rfl (Yd.fieldAddr (k := 5) kr_ rfl) ?_
      refine WL.gh (dj := 38) rfl rfl rfl (Hd.load1 kr_ rfl mem_ (by rfl) ⟨_, rfl, ?_⟩)
      refine gy_ 38 rfl rfl rfl (Yd.eql32 _ _ rfl rfl rfl rfl) ?_
      refine WL.y rfl (Yd.pickT rfl rfl) ?_
      refine m_ rfl rfl ?_
      refine WL.partP (t := 45) rfl (fun hg45 => ?_) (fun hg45 => ?_)
      ·refine gy_ 45 rfl rfl rfl (Yd.fieldAddr (k := 6) kr_ rfl) ?_
       refine WL.gh (dj := 45) rfl rfl rfl (Hd.load1 kr_ rfl mem_ (by rfl) ⟨_, rfl, ?_⟩)
       refine gy_ 45 rfl rfl rfl (Yd.fieldAddr (k := 6) kr_ rfl) ?_
       refine WL.gh (dj := 45) rfl rfl rfl (Hd.load1 kr_ rfl mem_ (by rfl) ⟨_, rfl, ?_⟩)
       refine gy_ 45 rfl rfl rfl (Yd.eql rfl rfl) ?_
       refine WL.y rfl (Yd.pickT rfl rfl) ?_
       refine m_ rfl rfl ?_
       refine WL.partP (t := 52) rfl (fun hg52 => ?_) (fun hg52 => ?_)
       ·refine gy_ 52 rfl rfl rfl (Yd.fieldAddr (k := 7) kr_ rfl) ?_
        refine WL.gh (dj := 52) rfl rfl rfl (Hd.load1 kr_ rfl mem_ (by rfl) ⟨_, rfl, ?_⟩)
        refine gy_ 52 rfl rfl rfl (Yd.fieldAddr (k := 7) kr_ rfl) ?_
        refine WL.gh (dj := 52) rfl rfl rfl (Hd.load1 kr_ rfl mem_ (by rfl) ⟨_, rfl, ?_⟩)
        refine gy_ 52 rfl rfl rfl (Yd.eqlB Try.underlying4 rfl rfl) ?_
        refine WL.y rfl (Yd.pickT rfl rfl) ?_
        refine m_ rfl rfl ?_
        refine WL.part (t := 59) rfl (fun hg59 => ?_) (fun hg59 => ?_)
        ·refine gy_ 59 rfl rfl rfl (Yd.fieldAddr (k := 8) kr_ rfl) ?_
         refine WL.gh (dj := 59) rfl rfl rfl (Hd.load1 kr_ rfl mem_ (by rfl) ⟨_, rfl, ?_⟩)
         refine gy_ 59 rfl rfl rfl (Yd.fieldAddr (k := 8) kr_ rfl) ?_
         refine WL.gh (dj := 59) rfl rfl rfl (Hd.load1 kr_ rfl mem_ (by rfl) ⟨_, rfl, ?_⟩)
         refine gy_ 59 rfl rfl rfl (Yd.eql rfl rfl) ?_
         refine WL.y rfl (Yd.pickT rfl rfl) ?_
         refine m_ rfl rfl ?_
         refine WL.partP (t := 66) rfl (fun hg66 => ?_) (fun hg66 => ?_)
         ·refine gy_ 66 rfl rfl rfl (Yd.fieldAddr (k := 9) kr_ rfl) ?_
          refine WL.gh (dj := 66) rfl rfl rfl (Hd.load1 kr_ rfl mem_ (by rfl) ⟨_, rfl, ?_⟩)
          refine WL.gh (dj := 66) rfl rfl rfl (Hd.toStr (e := 5) (bs := a.key) kr_ kr_ Try.underlying9 rfl (h1.mono gr_) ⟨_, rfl, ?_⟩)
          refine gy_ 66 rfl rfl rfl (Yd.fieldAddr (k := 9) kr_ rfl) ?_
          refine WL.gh (dj := 66) rfl rfl rfl (Hd.load1 kr_ rfl mem_ (by rfl) ⟨_, rfl, ?_⟩)
          refine WL.gh (dj := 66) rfl rfl rfl (Hd.toStr (e := 5) (bs := b.key) kr_ kr_ Try.underlying9 rfl (h3.mono gr_) ⟨_, rfl, ?_⟩)
          refine gy_ 66 rfl rfl rfl (Yd.eqlS rfl rfl) ?_
          refine WL.y rfl (Yd.pickT rfl rfl) ?_
          refine m_ rfl rfl ?_
          refine WL.partP (t := 75) rfl (fun hg75 => ?_) (fun hg75 => ?_)
          ·refine gy_ 75 rfl rfl rfl (Yd.fieldAddr (k := 10) kr_ rfl) ?_
           refine WL.gh (dj := 75) rfl rfl rfl (Hd.load1 kr_ rfl mem_ (by rfl) ⟨_, rfl, ?_⟩)
           refine WL.gh (dj := 75) rfl rfl rfl (Hd.toStr (e := 5) (bs := a.data) kr_ kr_ Try.underlying9 rfl (h2.mono gr_) ⟨_, rfl, ?_⟩)
           refine gy_ 75 rfl rfl rfl (Yd.fieldAddr (k := 10) kr_ rfl) ?_
           refine WL.gh (dj := 75) rfl rfl rfl (Hd.load1 kr_ rfl mem_ (by rfl) ⟨_, rfl, ?_⟩)
           refine WL.gh (dj := 75) rfl rfl rfl (Hd.toStr (e := 5) (bs := b.data) kr_ kr_ Try.underlying9 rfl (h4.mono gr_) ⟨_, rfl, ?_⟩)
           refine gy_ 75 rfl rfl rfl (Yd.eqlS rfl rfl) ?_
           refine WL.y rfl (Yd.pickT rfl rfl) ?_
           refine a_ rfl rfl ?_
           refine nt_ ?_
           refine WC.ret ?_
           refine DN.fit (C := H) sp_ ?_
           refine DN.ret1 Try.results45 rfl ?_
           exact ⟨by congr 1; symm; simp only [sameN, *, decide_true, decide_false, Bool.true_and, Bool.false_and], rfl⟩
          ·iterate 7 refine gn_ 75 rfl rfl rfl rfl ?_
           refine WL.y rfl (Yd.pickF rfl rfl) ?_
           refine a_ rfl rfl ?_
           refine nt_ ?_
           refine WC.ret ?_
           refine DN.fit (C := H) sp_ ?_
           refine DN.ret1 Try.results45 rfl ?_
           exact ⟨by congr 1; symm; simp only [sameN, *, decide_true, decide_false, Bool.true_and, Bool.false_and], rfl⟩
         ·iterate 7 refine gn_ 66 rfl rfl rfl rfl ?_
          refine WL.y rfl (Yd.pickF rfl rfl) ?_
          refine m_ rfl rfl ?_
          iterate 7 refine gn_ 75 rfl rfl rfl rfl ?_
          refine WL.y rfl (Yd.pickF rfl rfl) ?_
          refine a_ rfl rfl ?_
          refine nt_ ?_
          refine WC.ret ?_
          refine DN.fit (C := H) sp_ ?_
          refine DN.ret1 Try.results45 rfl ?_
          exact ⟨by congr 1; symm; simp only [sameN, *, decide_true, decide_false, Bool.true_and, Bool.false_and], rfl⟩
        ·iterate 5 refine gn_ 59 rfl rfl rfl rfl ?_
         refine WL.y rfl (Yd.pickF rfl rfl) ?_
         refine m_ rfl rfl ?_
         iterate 7 refine gn_ 66 rfl rfl rfl rfl ?_
         refine WL.y rfl (Yd.pickF rfl rfl) ?_
         refine m_ rfl rfl ?_
         iterate 7 refine gn_ 75 rfl rfl rfl rfl ?_
         refine WL.y rfl (Yd.pickF rfl rfl) ?_
         refine a_ rfl rfl ?_
         refine nt_ ?_
         refine WC.ret ?_
         refine DN.fit (C := H) sp_ ?_
         refine DN.ret1 Try.results45 rfl ?_
         exact ⟨by congr 1; symm; simp only [sameN, *, decide_true, decide_false, Bool.true_and, Bool.false_and], rfl⟩
       ·iterate 5 refine gn_ 52 rfl rfl rfl rfl ?_
        refine WL.y rfl (Yd.pickF rfl rfl) ?_
        refine m_ rfl rfl ?_
        iterate 5 refine gn_ 59 rfl rfl rfl rfl ?_
        refine WL.y rfl (Yd.pickF rfl rfl) ?_
        refine m_ rfl rfl ?_
        iterate 7 refine gn_ 66 rfl rfl rfl rfl ?_
        refine WL.y rfl (Yd.pickF rfl rfl) ?_
        refine m_ rfl rfl ?_
        iterate 7 refine gn_ 75 rfl rfl rfl rfl ?_
        refine WL.y rfl (Yd.pickF rfl rfl) ?_
        refine a_ rfl rfl ?_
        refine nt_ ?_
        refine WC.ret ?_
        refine DN.fit (C := H) sp_ ?_
        refine DN.ret1 Try.results45 rfl ?_
        exact ⟨by congr 1; symm; simp only [sameN, *, decide_true, decide_false, Bool.true_and, Bool.false_and], rfl⟩
      ·iterate 5 refine gn_ 45 rfl rfl rfl rfl ?_
       refine WL.y rfl (Yd.pickF rfl rfl) ?_
       refine m_ rfl rfl ?_
       iterate 5 refine gn_ 52 rfl rfl rfl rfl ?_
       refine WL.y rfl (Yd.pickF rfl rfl) ?_
       refine m_ rfl rfl ?_
       iterate 5 refine gn_ 59 rfl rfl rfl rfl ?_
       refine WL.y rfl (Yd.pickF rfl rfl) ?_
       refine m_ rfl rfl ?_
       iterate 7 refine gn_ 66 rfl rfl rfl rfl ?_
       refine WL.y rfl (Yd.pickF rfl rfl) ?_
       refine m_ rfl rfl ?_
       iterate 7 refine gn_ 75 rfl rfl rfl rfl ?_
       refine WL.y rfl (Yd.pickF rfl rfl) ?_
       refine a_ rfl rfl ?_
       refine nt_ ?_
       refine WC.ret ?_
       refine DN.fit (C := H) sp_ ?_
       refine DN.ret1 Try.results45 rfl ?_
       exact ⟨by congr 1; symm; simp only [sameN, *, decide_true, decide_false, Bool.true_and, Bool.false_and], rfl⟩
     ·iterate 5 refine gn_ 38 rfl rfl rfl rfl ?_
      refine WL.y rfl (Yd.pickF rfl rfl) ?_
      refine m_ rfl rfl ?_
      iterate 5 refine gn_ 45 rfl rfl rfl rfl ?_
      refine WL.y rfl (Yd.pickF rfl rfl) ?_
      refine m_ rfl rfl ?_
      iterate 5 refine gn_ 52 rfl rfl rfl rfl ?_
      refine WL.y rfl (Yd.pickF rfl rfl) ?_
      refine m_ rfl rfl ?_
      iterate 5 refine gn_ 59 rfl rfl rfl rfl ?_
      refine WL.y rfl (Yd.pickF rfl rfl) ?_
      refine m_ rfl rfl ?_
      iterate 7 refine gn_ 66 rfl rfl rfl rfl ?_
      refine WL.y rfl (Yd.pickF rfl rfl) ?_
      refine m_ rfl rfl ?_
      iterate 7 refine gn_ 75 rfl rfl rfl rfl ?_
      refine WL.y rfl (Yd.pickF rfl rfl) ?_
      refine a_ rfl rfl ?_
      refine nt_ ?_
      refine WC.ret ?_
      refine DN.fit (C := H) sp_ ?_
      refine DN.ret1 Try.results45 rfl ?_
      exact ⟨by congr 1; symm; simp only [sameN, *, decide_true, decide_false, Bool.true_and, Bool.false_and], rfl⟩
    ·iterate 5 refine gn_ 31 rfl rfl rfl rfl ?_
     refine WL.y rfl (Yd.pickF rfl rfl) ?_
     refine m_ rfl rfl ?_
     iterate 5 refine gn_ 38 rfl rfl rfl rfl ?_
     refine WL.y rfl (Yd.pickF rfl rfl) ?_
     refine m_ rfl rfl ?_
     iterate 5 refine gn_ 45 rfl rfl rfl rfl ?_
     refine WL.y rfl (Yd.pickF rfl rfl) ?_
     refine m_ rfl rfl ?_
     iterate 5 refine gn_ 52 rfl rfl rfl rfl ?_
     refine WL.y rfl (Yd.pickF rfl rfl) ?_
     refine m_ rfl rfl ?_
     iterate 5 refine gn_ 59 rfl rfl rfl rfl ?_
     refine WL.y rfl (Yd.pickF rfl rfl) ?_
     refine m_ rfl rfl ?_
     iterate 7 refine gn_ 66 rfl rfl rfl rfl ?_
     refine WL.y rfl (Yd.pickF rfl rfl) ?_
     refine m_ rfl rfl ?_
     iterate 7 refine gn_ 75 rfl rfl rfl rfl ?_
     refine WL.y rfl (Yd.pickF rfl rfl) ?_
     refine a_ rfl rfl ?_
     refine nt_ ?_
     refine WC.ret ?_
     refine DN.fit (C := H) sp_ ?_
     refine DN.ret1 Try.results45 rfl ?_
     exact ⟨by congr 1; symm; simp only [sameN, *, decide_true, decide_false, Bool.true_and, Bool.false_and], rfl⟩
   ·iterate 5 refine gn_ 24 rfl rfl rfl rfl ?_
    refine WL.y rfl (Yd.pickF rfl rfl) ?_
    refine m_ rfl rfl ?_
    iterate 5 refine gn_ 31 rfl rfl rfl rfl ?_
    refine WL.y rfl (Yd.pickF rfl rfl) ?_
    refine m_ rfl rfl ?_
    iterate 5 refine gn_ 38 rfl rfl rfl rfl ?_
    refine WL.y rfl (Yd.pickF rfl rfl) ?_
    refine m_ rfl rfl ?_
    iterate 5 refine gn_ 45 rfl rfl rfl rfl ?_
    refine WL.y rfl (Yd.pickF rfl rfl) ?_
    refine m_ rfl rfl ?_
    iterate 5 refine gn_ 52 rfl rfl rfl rfl ?_
    refine WL.y rfl (Yd.pickF rfl rfl) ?_
    refine m_ rfl rfl ?_
    iterate 5 refine gn_ 59 rfl rfl rfl rfl ?_
    refine WL.y rfl (Yd.pickF rfl rfl) ?_
    refine m_ rfl rfl ?_
    iterate 7 refine gn_ 66 rfl rfl rfl rfl ?_
    refine WL.y rfl (Yd.pickF rfl rfl) ?_
    refine m_ rfl rfl ?_
    iterate 7 refine gn_ 75 rfl rfl rfl rfl ?_
    refine WL.y rfl (Yd.pickF rfl rfl) ?_
    refine a_ rfl rfl ?_
    refine nt_ ?_
    refine WC.ret ?_
    refine DN.fit (C := H) sp_ ?_
    refine DN.ret1 Try.results45 rfl ?_
    exact ⟨by congr 1; symm; simp only [sameN, *, decide_true, decide_false, Bool.true_and, Bool.false_and], rfl⟩
  ·iterate 5 refine gn_ 17 rfl rfl rfl rfl ?_
   refine WL.y rfl (Yd.pickF rfl rfl) ?_
   refine m_ rfl rfl ?_
   iterate 5 refine gn_ 24 rfl rfl rfl rfl ?_
   refine WL.y rfl (Yd.pickF rfl rfl) ?_
   refine m_ rfl rfl ?_
   iterate 5 refine gn_ 31 rfl rfl rfl rfl ?_
   refine WL.y rfl (Yd.pickF rfl rfl) ?_
   refine m_ rfl rfl ?_
   iterate 5 refine gn_ 38 rfl rfl rfl rfl ?_
   refine WL.y rfl (Yd.pickF rfl rfl) ?_
   refine m_ rfl rfl ?_
   iterate 5 refine gn_ 45 rfl rfl rfl rfl ?_
   refine WL.y rfl (Yd.pickF rfl rfl) ?_
   refine m_ rfl rfl ?_
   iterate 5 refine gn_ 52 rfl rfl rfl rfl ?_
   refine WL.y rfl (Yd.pickF rfl rfl) ?_
   refine m_ rfl rfl ?_
   iterate 5 refine gn_ 59 rfl rfl rfl rfl ?_
   refine WL.y rfl (Yd.pickF rfl rfl) ?_
   refine m_ rfl rfl ?_
   iterate 7 refine gn_ 66 rfl rfl rfl rfl ?_
   refine WL.y rfl (Yd.pickF rfl rfl) ?_
   refine m_ rfl rfl ?_
   iterate 7 refine gn_ 75 rfl rfl rfl rfl ?_
   refine WL.y rfl (Yd.pickF rfl rfl) ?_
   refine a_ rfl rfl ?_
   refine nt_ ?_
   refine WC.ret ?_
   refine DN.fit (C := H) sp_ ?_
   refine DN.ret1 Try.results45 rfl ?_
   exact ⟨by congr 1; symm; simp only [sameN, *, decide_true, decide_false, Bool.true_and, Bool.false_and], rfl⟩
 ·iterate 5 refine gn_ 10 rfl rfl rfl rfl ?_
  refine WL.y rfl (Yd.pickF rfl rfl) ?_
  refine m_ rfl rfl ?_
  iterate 5 refine gn_ 17 rfl rfl rfl rfl ?_
  refine WL.y rfl (Yd.pickF rfl rfl) ?_
  refine m_ rfl rfl ?_
  iterate 5 refine gn_ 24 rfl rfl rfl rfl ?_
  refine WL.y rfl (Yd.pickF rfl rfl) ?_
  refine m_ rfl rfl ?_
  iterate 5 refine gn_ 31 rfl rfl rfl rfl ?_
  refine WL.y rfl (Yd.pickF rfl rfl) ?_
  refine m_ rfl rfl ?_
  iterate 5 refine gn_ 38 rfl rfl rfl rfl ?_
  refine WL.y rfl (Yd.pickF rfl rfl) ?_
  refine m_ rfl rfl ?_
  iterate 5 refine gn_ 45 rfl rfl rfl rfl ?_
  refine WL.y rfl (Yd.pickF rfl rfl) ?_
  refine m_ rfl rfl ?_
  iterate 5 refine gn_ 52 rfl rfl rfl rfl ?_
  refine WL.y rfl (Yd.pickF rfl rfl) ?_
  refine m_ rfl rfl ?_
  iterate 5 refine gn_ 59 rfl rfl rfl rfl ?_
  refine WL.y rfl (Yd.pickF rfl rfl) ?_
  refine m_ rfl rfl ?_
  iterate 7 refine gn_ 66 rfl rfl rfl rfl ?_
  refine WL.y rfl (Yd.pickF rfl rfl) ?_
  refine m_ rfl rfl ?_
  iterate 7 refine gn_ 75 rfl rfl rfl rfl ?_
  refine WL.y rfl (Yd.pickF rfl rfl) ?_
  refine a_ rfl rfl ?_
  refine nt_ ?_
  refine WC.ret ?_
  refine DN.fit (C := H) sp_ ?_
  refine DN.ret1 Try.results45 rfl ?_
  exact ⟨by congr 1; symm; simp only [sameN, *, decide_true, decide_false, Bool.true_and, Bool.false_and], rfl⟩
theorem same18_reads (a b : Lt) (vk vd uk ud : Value) (H : List Ck) (h1 : Bs vk a.n.key H) (h2 : Bs vd a.n.data H) (h3 : Bs uk b.n.key H) (h4 : Bs ud b.n.data H) : Reads Try.prog 25 [.agg (ltc a vk vd).toArray, .agg (ltc b uk ud).toArray] H (.bool (sameL a b)) := by
 refine Tells.enter Try.func25 rfl Try.ntmps25 rfl ?_
 intro w0 R
 obtain ⟨o1, c1, rfl, _⟩ := h1.form
 obtain ⟨o2, c2, rfl, _⟩ := h2.form
 obtain ⟨o3, c3, rfl, _⟩ := h3.form
 obtain ⟨o4, c4, rfl, _⟩ := h4.form
 refine sr_ ?_
 refine WL.h rfl (Hd.boxA rfl fun b2 => ⟨_, rfl, ?_⟩)
 refine WL.h rfl (Hd.boxA rfl fun b3 => ⟨_, rfl, ?_⟩)
 refine a_ rfl rfl ?_
 refine ntsr_ ?_
 refine f_ 0 kr_ rfl rfl ?_
 refine d_ kr_ rfl mem_ (by rfl) rfl ?_
 refine f_ 0 kr_ rfl rfl ?_
 refine d_ kr_ rfl mem_ (by rfl) rfl ?_
 refine WL.y rfl (Yd.eql rfl rfl) ?_
 refine m_ rfl rfl ?_
 refine WL.partP (t := 10) rfl (fun hg10 => ?_) (fun hg10 => ?_)
 ·refine gy_ 10 rfl rfl rfl (Yd.fieldAddr (k := 1) kr_ rfl) ?_
  refine WL.gh (dj := 10) rfl rfl rfl (Hd.load1 kr_ rfl mem_ (by rfl) ⟨_, rfl, ?_⟩)
  refine gy_ 10 rfl rfl rfl (Yd.fieldAddr (k := 1) kr_ rfl) ?_
  refine WL.gh (dj := 10) rfl rfl rfl (Hd.load1 kr_ rfl mem_ (by rfl) ⟨_, rfl, ?_⟩)
  refine gy_ 10 rfl rfl rfl (Yd.eql rfl rfl) ?_
  refine WL.y rfl (Yd.pickT rfl rfl) ?_
  refine m_ rfl rfl ?_
  refine WL.partP (t := 17) rfl (fun hg17 => ?_) (fun hg17 => ?_)
  ·refine gy_ 17 rfl rfl rfl (Yd.fieldAddr (k := 2) kr_ rfl) ?_
   refine WL.gh (dj := 17) rfl rfl rfl (Hd.loadA (n := 11) (vs := [_, _, _, _, _, _, _, _, _, _, _]) kr_ rfl mem_ (by rfl) (by rfl) ⟨_, rfl, ?_⟩)
   refine gy_ 17 rfl rfl rfl (Yd.fieldAddr (k := 2) kr_ rfl) ?_
   refine WL.gh (dj := 17) rfl rfl rfl (Hd.loadA (n := 11) (vs := [_, _, _, _, _, _, _, _, _, _, _]) kr_ rfl mem_ (by rfl) (by rfl) ⟨_, rfl, ?_⟩)
   refine WL.gr (dj := 17) rfl rfl rfl (Ent.func Try.call45 rfl) (same05_reads a.n b.n _ _ _ _ _ (h1.mono gr_) (h2.mono gr_) (h3.mono gr_) (h4.mono gr_)) ?_
   refine WL.y rfl (Yd.pickT rfl rfl) ?_
   refine a_ rfl rfl ?_
   refine nt_ ?_
   refine WC.ret ?_
   refine DN.fit (C := H) sp_ ?_
   refine DN.ret1 Try.results25 rfl ?_
   exact ⟨by congr 1; symm; simp only [sameL, *, decide_true, decide_false, Bool.true_and, Bool.false_and], rfl⟩
  ·iterate 5 refine gn_ 17 rfl rfl rfl rfl ?_
   refine WL.y rfl (Yd.pickF rfl rfl) ?_
   refine a_ rfl rfl ?_
   refine nt_ ?_
   refine WC.ret ?_
   refine DN.fit (C := H) sp_ ?_
   refine DN.ret1 Try.results25 rfl ?_
   exact ⟨by congr 1; symm; simp only [sameL, *, decide_true, decide_false, Bool.true_and, Bool.false_and], rfl⟩
 ·iterate 5 refine gn_ 10 rfl rfl rfl rfl ?_
  refine WL.y rfl (Yd.pickF rfl rfl) ?_
  refine m_ rfl rfl ?_
  iterate 5 refine gn_ 17 rfl rfl rfl rfl ?_
  refine WL.y rfl (Yd.pickF rfl rfl) ?_
  refine a_ rfl rfl ?_
  refine nt_ ?_
  refine WC.ret ?_
  refine DN.fit (C := H) sp_ ?_
  refine DN.ret1 Try.results25 rfl ?_
  exact ⟨by congr 1; symm; simp only [sameL, *, decide_true, decide_false, Bool.true_and, Bool.false_and], rfl⟩
theorem long_reads (v : Value) (xs : List Value) (aq : List Aw) (H : List Ck) (hv : Rs v aq.length xs H) (hx : xs.length = aq.length * 17) (hl : aq.length ≤ 9223372036854775807) (hA : AwsAt xs aq H) : Tells Try.prog 17 [v] H fun r H' => H' = H ∧ ∃ b, r = .bool b ∧ (b = false → ∀ j (h : j < aq.length), j < 400 → aq[j].L.n.key.length ≤ 500 ∧ aq[j].L.n.data.length ≤ 500) := by
 refine Tells.enter Try.func17 rfl Try.ntmps17 rfl ?_
 intro w0 R
 obtain ⟨vo, vc, rfl, _⟩ := hv.form
 refine sr_ ?_
 refine a_ rfl rfl ?_
 refine nt_ ?_
 refine WC.seq ?_
 refine sr_ ?_
 refine a_ rfl rfl ?_
 refine nt_ ?_
 refine WC.block ?_
 refine WC.loopS (fun z : Nat => z ≤ aq.length ∧ ∀ j (h : j < aq.length), j < z → aq[j].L.n.key.length ≤ 500 ∧ aq[j].L.n.data.length ≤ 500) (fun z : Nat => [(3, .int .i64 (z : Int))]) (fun z : Nat => H) (fun z : Nat => aq.length - z) (0) (show 0 ≤ aq.length ∧ ∀ j (h : j < aq.length), j < 0 → aq[j].L.n.key.length ≤ 500 ∧ aq[j].L.n.data.length ≤ 500 from ⟨Nat.zero_le _, fun j h hj => by omega⟩) (Sx.put rfl (sx_)) sp_ ?_
 rintro i hI
 replace hI : i ≤ aq.length ∧ ∀ j (h : j < aq.length), j < i → aq[j].L.n.key.length ≤ 500 ∧ aq[j].L.n.data.length ≤ 500 := hI
 obtain ⟨hi, hno⟩ := hI
 change WC _ _ _ _ _ _ ([(3, .int .i64 (i : Int))] ++ _) (H)
 refine WC.seq ?_
 refine sr_ ?_
 refine m_ rfl rfl ?_
 refine m_ rfl rfl ?_
 refine WL.y rfl (Yd.len (e := 50) kr_ rfl) ?_
 refine WL.y rfl (Yd.lss rfl rfl) ?_
 refine m_ rfl rfl ?_
 refine WL.partP (t := 8) rfl (fun hg8 => ?_) (fun hg8 => ?_)
 ·refine gy_ 8 rfl rfl rfl (Yd.move rfl) ?_
  refine gy_ 8 rfl rfl rfl (Yd.lss rfl rfl) ?_
  refine WL.y rfl (Yd.pickT rfl rfl) ?_
  refine nt_ ?_
  refine WC.ite rfl (fun h11 => ?_) (fun h11 => ?_)
  ·have hlt : i < aq.length := by omega
   obtain ⟨vk, vd, hcell, hk, hd, _, _⟩ := hA i hlt
   obtain ⟨ko, kc, rfl, _⟩ := hk.form
   obtain ⟨eo, ec, rfl, _⟩ := hd.form
   obtain ⟨b0, o0, rfl, c0, T0, fr0, ex0, hm0, hc0⟩ : ∃ b o, vo = some ⟨b, o, none⟩ ∧ ∃ (c0 : List Value) (T0 : TypeId) (fr0 : Nat × Nat) (ex0 : Bool), (⟨b, .cells c0.toArray T0 fr0, ex0⟩ : Ck) ∈ H ∧ ∀ (k : Nat) u, (awc aq[i] (.slice ko aq[i].L.n.key.length kc) (.slice eo aq[i].L.n.data.length ec))[k]? = some u → c0[o + i * 17 + k]? = some u := by
     obtain ⟨b, o, cs, T, fr, ex, h1, h2, h3⟩ := hv.at (by intro e; rw [e] at hx; simp at hx; omega)
     refine ⟨b, o, h1, cs.toList, T, fr, ex, by simpa using h2, fun k u hu => ?_⟩
     rw [← hcell, List.getElem?_take] at hu
     split at hu
     · rw [List.getElem?_drop] at hu
       have := h3 _ _ hu
       simpa [Nat.add_assoc] using this
     · cases hu
   refine WC.skip ?_
   refine ts_ ?_
   refine WC.block ?_
   refine sr_ ?_
   refine m_ rfl rfl ?_
   refine m_ rfl rfl ?_
   refine WL.y rfl (Yd.indexAddr (e := 50) (s := 17) kr_ kr_ rfl rfl (by omega) (by omega)) ?_
   refine f_ 1 kr_ rfl rfl ?_
   refine f_ 2 kr_ rfl rfl ?_
   refine f_ 9 kr_ rfl rfl ?_
   refine WL.h rfl (Hd.load1 (v := .slice ko aq[i].L.n.key.length kc) kr_ rfl hm0 (by rw [show o0 + (i : Int).toNat * 17 + 1 + 2 + 9 = o0 + i * 17 + 12 by omega]; exact hc0 12 _ rfl) ⟨_, rfl, ?_⟩)
   refine WL.y rfl (Yd.len (e := 5) kr_ rfl) ?_
   refine WL.y rfl (Yd.gtr rfl rfl) ?_
   refine m_ rfl rfl ?_
   refine WL.partP (t := 23) rfl (fun hg23 => ?_) (fun hg23 => ?_)
   ·iterate 9 refine gn_ 23 rfl rfl rfl rfl ?_
    refine WL.y rfl (Yd.pickT rfl rfl) ?_
    refine nt_ ?_
    refine WC.yes rfl ?_
    refine sr_ ?_
    refine a_ rfl rfl ?_
    refine nt_ ?_
    refine WC.ret ?_
    refine DN.block_ret ?_
    refine DN.then_ret ?_
    refine DN.then_ret ?_
    refine DN.block_ret ?_
    refine DN.then_ret ?_
    refine DN.ret1 Try.results17 rfl ?_
    first | exact ⟨rfl, true, rfl, fun e => by cases e⟩ | exact ⟨rfl, false, rfl, fun _ j h hj => hno j h (by omega)⟩
   ·refine gy_ 23 rfl rfl rfl (Yd.move rfl) ?_
    refine gy_ 23 rfl rfl rfl (Yd.move rfl) ?_
    refine gy_ 23 rfl rfl rfl (Yd.indexAddr (e := 50) (s := 17) kr_ kr_ rfl rfl (by omega) (by omega)) ?_
    refine gy_ 23 rfl rfl rfl (Yd.fieldAddr (k := 1) kr_ rfl) ?_
    refine gy_ 23 rfl rfl rfl (Yd.fieldAddr (k := 2) kr_ rfl) ?_
    refine gy_ 23 rfl rfl rfl (Yd.fieldAddr (k := 10) kr_ rfl) ?_
    refine WL.gh (dj := 23) rfl rfl rfl (Hd.load1 (v := .slice eo aq[i].L.n.data.length ec) kr_ rfl hm0 (by rw [show o0 + (i : Int).toNat * 17 + 1 + 2 + 10 = o0 + i * 17 + 13 by omega]; exact hc0 13 _ rfl) ⟨_, rfl, ?_⟩)
    refine gy_ 23 rfl rfl rfl (Yd.len (e := 5) kr_ rfl) ?_
    refine gy_ 23 rfl rfl rfl (Yd.gtr rfl rfl) ?_
    refine WL.y rfl (Yd.pickF rfl rfl) ?_
    refine nt_ ?_
    refine WC.ite rfl (fun h33 => ?_) (fun h33 => ?_)
    ·refine sr_ ?_
     refine a_ rfl rfl ?_
     refine nt_ ?_
     refine WC.ret ?_
     refine DN.block_ret ?_
     refine DN.then_ret ?_
     refine DN.then_ret ?_
     refine DN.block_ret ?_
     refine DN.then_ret ?_
     refine DN.ret1 Try.results17 rfl ?_
     first | exact ⟨rfl, true, rfl, fun e => by cases e⟩ | exact ⟨rfl, false, rfl, fun _ j h hj => hno j h (by omega)⟩
    ·refine WC.skip ?_
     refine DN.block_normal ?_
     refine DN.then_normal ?_
     refine WC.region ?_
     refine m_ rfl rfl ?_
     refine WL.y rfl (Yd.add rfl rfl (by omega) (by omega)) ?_
     refine a_ rfl rfl ?_
     refine WL.nil ?_
     exact DN.againS (i + 1) (show (i + 1) ≤ aq.length ∧ ∀ j (h : j < aq.length), j < (i + 1) → aq[j].L.n.key.length ≤ 500 ∧ aq[j].L.n.data.length ≤ 500 from ⟨by omega, fun j h hj => by by_cases e : j = i; (subst e; exact ⟨by omega, by omega⟩); exact hno j h (by omega)⟩) (show aq.length - (i + 1) < aq.length - i by omega) (Sx.put rfl (sx_)) sp_
  ·refine WC.exit ?_
   refine DN.then_exit ?_
   refine DN.then_exit ?_
   refine DN.block_exit ?_
   refine ts_ ?_
   refine WC.region ?_
   refine a_ rfl rfl ?_
   refine nt_ ?_
   refine WC.ret ?_
   refine DN.ret1 Try.results17 rfl ?_
   first | exact ⟨rfl, true, rfl, fun e => by cases e⟩ | exact ⟨rfl, false, rfl, fun _ j h hj => hno j h (by omega)⟩
 ·refine gn_ 8 rfl rfl rfl rfl ?_
  refine gn_ 8 rfl rfl rfl rfl ?_
  refine WL.y rfl (Yd.pickF rfl rfl) ?_
  refine nt_ ?_
  refine WC.no rfl ?_
  refine WC.exit ?_
  refine DN.then_exit ?_
  refine DN.then_exit ?_
  refine DN.block_exit ?_
  refine ts_ ?_
  refine WC.region ?_
  refine a_ rfl rfl ?_
  refine nt_ ?_
  refine WC.ret ?_
  refine DN.ret1 Try.results17 rfl ?_
  first | exact ⟨rfl, true, rfl, fun e => by cases e⟩ | exact ⟨rfl, false, rfl, fun _ j h hj => hno j h (by omega)⟩
end Go.Proofs.Ytgpegfmonmdhoaa

set_option linter.unusedVariables false
set_option linter.unusedSimpArgs false
namespace Go.Proofs.Ytgpegfmonmdhoaa
open Go.SL
abbrev B8 := BitVec 8
theorem copy_spec (v : Value) (bs : List B8) (H : List Ck) (hv : Bs v bs H) (hl : bs.length ≤ 1000000) : Tells Try.prog 49 [v] H fun r H' => ∃ C, Ob 5 r bs C ∧ H' = C ++ H := by
 refine Tells.enter Try.func49 rfl Try.ntmps49 rfl ?_
 intro w0 R
 refine sr_ ?_
 refine a_ rfl rfl ?_
 refine ntsr_ ?_
 refine a_ rfl rfl ?_
 refine ntsr_ ?_
 refine m_ rfl rfl ?_
 refine m_ rfl rfl ?_
 refine WL.h rfl (Hd.appendB (e := 5) (zs := [.int .u8 0]) (C := []) (D := H) kr_ kr_ rfl rfl rfl (Ob.nil _) hv (by simp; omega) (List.Perm.refl _) fun r C hC _ => ⟨_, rfl, ?_⟩)
 refine a_ rfl rfl ?_
 refine nt_ ?_
 refine WC.ret ?_
 refine DN.ret1 Try.results49 rfl ?_
 exact ⟨C, by simpa using hC, rfl⟩
theorem lent_spec (v : Value) (bs : List B8) (H : List Ck) (hv : Bs v bs H) (hl : bs.length ≤ 1000000) : Tells Try.prog 35 [v] H fun r H' => ∃ ao cap C, r = .slice ao bs.length cap ∧ Ob 5 (.slice ao (bs.length + 2) cap) (bs ++ [91#8, 92#8]) C ∧ H' = C ++ H := by
 refine Tells.enter Try.func35 rfl Try.ntmps35 rfl ?_
 intro w0 R
 obtain ⟨vo, vc, rfl, hvc⟩ := Bs.form hv
 refine sr_ ?_
 refine a_ rfl rfl ?_
 refine ntsr_ ?_
 refine m_ rfl rfl ?_
 refine WL.ca rfl (Ent.func Try.call49 rfl) (copy_spec _ bs H hv hl) ?_
 rintro x H1 ⟨C, hC, rfl⟩
 refine a_ rfl rfl ?_
 refine ntsr_ ?_
 refine m_ rfl rfl ?_
 refine WL.h rfl (Hd.buildBytes (e := 5) [91#8, 92#8] kr_ kr_ kr_ rfl rfl kr_ fun b => ⟨_, rfl, ?_⟩)
 refine WL.h rfl (Hd.appendB (e := 5) (zs := [.int .u8 0]) (C := C) (D := row b (bc [91#8, 92#8]) 5 :: H) kr_ kr_ rfl rfl rfl hC (Bs.block (bs := [91#8, 92#8]) rfl (by decide) (List.mem_append_right _ List.mem_cons_self)) (by simp; omega) List.perm_middle.symm fun r C2 hC2 _ => ⟨_, rfl, ?_⟩)
 refine a_ rfl rfl ?_
 refine ntsr_ ?_
 obtain ⟨ro, rc, rfl, hrc⟩ := Ob.form hC2
 rw [List.length_append] at hrc
 simp only [List.length_append] at hC2 ⊢
 refine m_ rfl rfl ?_
 refine m_ rfl rfl ?_
 refine WL.y rfl (Yd.len (e := 5) kr_ rfl) ?_
 refine WL.y rfl (Yd.sliceTo (e := 5) (s := 1) (j := bs.length) kr_ kr_ rfl rfl rfl (by omega)) ?_
 refine a_ rfl rfl ?_
 refine nt_ ?_
 refine WC.ret ?_
 refine DN.forget (C2 ++ H) (List.Sublist.append (List.Sublist.refl _) (List.sublist_cons_self _ _)) ?_
 refine DN.ret1 Try.results35 rfl ?_
 exact ⟨_, _, C2, rfl, hC2, rfl⟩
theorem whole_reads (ao : Option Addr) (cap : Nat) (v : Value) (bs : List B8) (H : List Ck) (hx : Bs (.slice ao (bs.length + 2) cap) (bs ++ [91#8, 92#8]) H) (hv : Bs v bs H) (hl : bs.length ≤ 1000000) : Reads Try.prog 37 [.slice ao bs.length cap, v] H (.bool true) := by
 refine Tells.enter Try.func37 rfl Try.ntmps37 rfl ?_
 intro w0 R
 obtain ⟨vo, vc, rfl, hvc⟩ := Bs.form hv
 have hcap : bs.length + 2 ≤ cap := by
   obtain ⟨_, _, h1, h2⟩ := Bs.form hx
   simp at h1 h2; omega
 refine sr_ ?_
 refine a_ rfl rfl ?_
 refine nt_ ?_
 refine WC.seq ?_
 refine sr_ ?_
 refine m_ rfl rfl ?_
 refine WL.y rfl (Yd.len (e := 5) kr_ rfl) ?_
 refine m_ rfl rfl ?_
 refine WL.y rfl (Yd.len (e := 5) kr_ rfl) ?_
 refine WL.y rfl (Yd.neq rfl rfl) ?_
 refine WL.renamed (t := 10) (v := .bool false) rfl (congrArg Value.bool (by simp)) ?_
 refine nt_ ?_
 refine WC.no rfl ?_
 refine WC.skip ?_
 refine ts_ ?_
 refine WC.region ?_
 refine m_ rfl rfl ?_
 refine m_ rfl rfl ?_
 refine WL.y rfl (Yd.len (e := 5) kr_ rfl) ?_
 refine WL.y rfl (Yd.add rfl rfl (by omega) (by omega)) ?_
 refine WL.y rfl (Yd.sliceTo (e := 5) (s := 1) (j := bs.length + 2) kr_ kr_ rfl rfl (by omega) hcap) ?_
 refine a_ rfl rfl ?_
 refine ntsr_ ?_
 refine m_ rfl rfl ?_
 refine m_ rfl rfl ?_
 refine WL.y rfl (Yd.len (e := 5) kr_ rfl) ?_
 refine WL.elem (e := 5) kr_ kr_ kr_ rfl rfl (rfl) (hx) (show (bc (bs ++ [91#8, 92#8]))[bs.length]? = some (.int .u8 (91#8).toNat) by simp [bc]) (by omega) rfl rfl ?_
 intro _
 refine WL.y rfl (Yd.eql8 _ (91#8) rfl rfl rfl rfl) ?_
 refine WL.renamed (t := 21) (v := .bool true) rfl (congrArg Value.bool (decide_eq_true rfl)) ?_
 refine m_ rfl rfl ?_
 refine gy_ 22 rfl rfl rfl (Yd.move rfl) ?_
 refine gy_ 22 rfl rfl rfl (Yd.move rfl) ?_
 refine gy_ 22 rfl rfl rfl (Yd.len (e := 5) kr_ rfl) ?_
 refine gy_ 22 rfl rfl rfl (Yd.add rfl rfl (by omega) (by omega)) ?_
 refine WL.elemN (e := 5) (dj := 22) kr_ kr_ kr_ rfl rfl (by omega) (hx) (show (bc (bs ++ [91#8, 92#8]))[bs.length + 1]? = some (.int .u8 (92#8).toNat) by simp [bc]) (by omega) rfl rfl rfl rfl rfl ?_
 intro _
 refine gy_ 22 rfl rfl rfl (Yd.eql8 _ (92#8) rfl rfl rfl rfl) ?_
 refine WL.renamed (t := 29) (v := .bool true) rfl (congrArg Value.bool (decide_eq_true rfl)) ?_
 refine WL.y rfl (Yd.pickT rfl rfl) ?_
 refine m_ rfl rfl ?_
 refine gy_ 31 rfl rfl rfl (Yd.move rfl) ?_
 refine WL.gh (dj := 31) rfl rfl rfl (Hd.toStr (e := 5) (bs := bs) kr_ kr_ Try.underlying9 rfl (by have := Bs.upto (j := bs.length) hx (by omega); simpa using this) ⟨_, rfl, ?_⟩)
 refine gy_ 31 rfl rfl rfl (Yd.move rfl) ?_
 refine WL.gh (dj := 31) rfl rfl rfl (Hd.toStr (e := 5) (bs := bs) kr_ kr_ Try.underlying9 rfl hv ⟨_, rfl, ?_⟩)
 refine gy_ 31 rfl rfl rfl (Yd.eqlS rfl rfl) ?_
 refine WL.renamed (t := 36) (v := .bool true) rfl (congrArg Value.bool (decide_eq_true rfl)) ?_
 refine WL.y rfl (Yd.pickT rfl rfl) ?_
 refine a_ rfl rfl ?_
 refine nt_ ?_
 refine WC.ret ?_
 refine DN.ret1 Try.results37 rfl ?_
 exact ⟨rfl, rfl⟩
end Go.Proofs.Ytgpegfmonmdhoaa

set_option linter.unusedVariables false
set_option linter.unusedSimpArgs false
set_option maxHeartbeats 4000000
namespace Go.Proofs.Ytgpegfmonmdhoaa
open Go.SL
theorem lent_of {T : TypeId} {ao : Option Addr} {cap : Nat} {bs : List (BitVec 8)} {C : List Ck} (h : Ob T (.slice ao (bs.length + 2) cap) (bs ++ [91#8, 92#8]) C) (hl : bs.length ≤ 9223372036854775807) : Bs (.slice ao bs.length cap) bs C := by
  have := Bs.upto (j := bs.length) h.bs (by omega)
  simpa using this
theorem spoil_tells (xo : Option Addr) (xc n k : Nat) (l : List (BitVec 8)) (C : List Ck) (hC : Ob 5 (.slice xo (n + k) xc) l C) (hn : l.length = n + k) (hl : n ≤ 1000000) : Tells Try.prog 26 [.slice xo n xc] C fun r H' => H' = [] := by
 refine Tells.enter Try.func26 rfl Try.ntmps26 rfl ?_
 intro w0 R
 have hex : n = 0 ∨ ∃ b extra, xo = some ⟨b, 0, none⟩ ∧ C = [row b (bc l ++ extra) 5] := by
   rcases hC with ⟨he, h0, _⟩ | ⟨b, cap, extra, he, _, _, _, _, hCC⟩
   · left; omega
   · simp only [Value.slice.injEq] at he
     obtain ⟨rfl, _, _⟩ := he
     exact .inr ⟨b, extra, rfl, hCC⟩
 refine sr_ ?_
 refine a_ rfl rfl ?_
 refine nt_ ?_
 refine WC.block ?_
 refine WC.loop (fun z : Nat × List (BitVec 8) × List Ck => z.1 ≤ n ∧ z.2.1.length = n + k ∧ (n = 0 ∨ ∃ b extra, xo = some ⟨b, 0, none⟩ ∧ z.2.2 = [row b (bc z.2.1 ++ extra) 5])) (fun z => [(0, .slice xo n xc), (2, .int .i64 z.1)]) (fun z => z.2.2) (fun z => n - z.1) (0, l, C) ⟨Nat.zero_le _, hn, hex⟩ ⟨rfl, rfl, trivial⟩ (List.Perm.refl _) ?_
 rintro ⟨i, ys, E⟩ ⟨hi, hys, he⟩
 simp only at hi hys he
 refine WC.seq ?_
 refine sr_ ?_
 refine m_ rfl rfl ?_
 refine m_ rfl rfl ?_
 refine WL.y rfl (Yd.len (e := 5) kr_ rfl) ?_
 refine WL.y rfl (Yd.lss rfl rfl) ?_
 refine nt_ ?_
 refine WC.ite rfl (fun h6 => ?_) (fun h6 => ?_)
 ·have hlt : i < n := by omega
  obtain ⟨b, extra, rfl, rfl⟩ := he.resolve_left (by omega)
  refine WC.skip ?_
  refine ts_ ?_
  refine WC.block ?_
  refine WC.region ?_
  iterate 4 refine m_ rfl rfl ?_
  refine WL.y rfl (Yd.indexAddr (e := 5) (s := 1) kr_ kr_ rfl rfl (by omega) (by omega)) ?_
  refine WL.h rfl (Hd.load1 (v := .int .u8 (ys.getD i 0#8).toNat) (b := b) (cs := bc ys ++ extra) kr_ rfl List.mem_cons_self (by rw [show 0 + (i : Int).toNat * 1 = i by omega, List.getElem?_append_left (by rw [bc_length]; omega)]; exact bc_getD (by omega)) ⟨_, rfl, ?_⟩)
  refine WL.y rfl (Yd.xor8 _ (165#8) rfl rfl rfl rfl) ?_
  refine WL.y rfl (Yd.indexAddr (e := 5) (s := 1) kr_ kr_ rfl rfl (by omega) (by omega)) ?_
  refine WL.s (Hd.store1 (b := b) (cs := bc ys ++ extra) (T' := 5) (D := []) kr_ rfl rfl rfl (List.Perm.refl _) (by simp [bc_length]; omega) ⟨rfl, ?_⟩)
  refine WL.nil ?_
  refine DN.block_normal ?_
  refine DN.then_normal ?_
  refine WC.region ?_
  refine m_ rfl rfl ?_
  refine WL.y rfl (Yd.add rfl rfl (by omega) (by omega)) ?_
  refine a_ rfl rfl ?_
  refine WL.nil ?_
  refine DN.again (i + 1, ys.set i (ys.getD i 0#8 ^^^ 165#8), [row b (bc (ys.set i (ys.getD i 0#8 ^^^ 165#8)) ++ extra) 5]) ⟨by show i + 1 ≤ n; omega, by simp [hys], .inr ⟨b, extra, rfl, rfl⟩⟩ (by show n - (i + 1) < n - i; omega) ⟨rfl, rfl, trivial⟩ ?_
  rw [show 0 + (i : Int).toNat * 1 = i by omega, set_front _ _ _ _ (by rw [bc_length]; omega), bc_set]
  try exact List.Perm.refl _
 ·refine WC.exit ?_
  refine DN.then_exit ?_
  refine DN.then_exit ?_
  refine DN.block_exit ?_
  refine DN.forget [] (List.nil_sublist _) ?_
  refine DN.end0 Try.results26 ?_
  exact rfl
theorem spoil_own (xo : Option Addr) (xc : Nat) (l : List (BitVec 8)) (C : List Ck) (hC : Ob 5 (.slice xo l.length xc) l C) (hl : l.length ≤ 1000000) : Tells Try.prog 26 [.slice xo l.length xc] C fun r H' => H' = [] := spoil_tells xo xc l.length 0 l C hC rfl hl
end Go.Proofs.Ytgpegfmonmdhoaa

set_option linter.unusedVariables false
set_option linter.unusedSimpArgs false
set_option maxHeartbeats 4000000
namespace Go.Proofs.Ytgpegfmonmdhoaa
open Go.SL
theorem rwcut_tells (q : Nat) (W : Wn) (cu : List (Int × Int)) (ti : List Int) (H C : List Ck) (h : RwAt 59 34 89 3 q W cu ti H C) (inv : WInv W) (hcu : cu.length ≤ 90000) (f t : Int) (b : Bool) : Tells Try.prog 42 [.pointer (some ⟨q, 0, none⟩), .int .i64 f, .int .i64 t, .bool b] C fun r C' => r = .int .i64 (cutE W f t) ∧ RwAt 59 34 89 3 q (cutW W f t b) (cutsC W cu f t b) ti H C' := by
 refine Tells.enter Try.func42 rfl Try.ntmps42 rfl ?_
 intro w0 R
 have hAt := h
 obtain ⟨vL, vC, vT, cs, CL, CC, CT, rfl, hL, hV, hC, hT⟩ := h
 obtain ⟨lo, lc, rfl, hlc⟩ := hL.form
 obtain ⟨co, cc, rfl, hcc⟩ := hC.form
 obtain ⟨to, tc, rfl, htc⟩ := hT.form
 have hcl := hL.len
 refine sr_ ?_
 refine a_ rfl rfl ?_
 refine ntsr_ ?_
 refine m_ rfl rfl ?_
 refine m_ rfl rfl ?_
 refine WL.rf rfl (Ent.func Try.call51 rfl) (ris_reads q W cu ti H _ hAt inv f) sp_ ?_
 refine a_ rfl rfl ?_
 refine ntsr_ ?_
 refine m_ rfl rfl ?_
 refine m_ rfl rfl ?_
 refine WL.rf rfl (Ent.func Try.call51 rfl) (ris_reads q W cu ti H _ hAt inv t) sp_ ?_
 refine a_ rfl rfl ?_
 refine nt_ ?_
 refine WC.seq ?_
 refine sr_ ?_
 refine m_ rfl rfl ?_
 refine WL.y rfl (Yd.notB rfl) ?_
 refine m_ rfl rfl ?_
 refine WL.part (t := 21) rfl (fun hg21 => ?_) (fun hg21 => ?_)
 ·refine gn_ 21 rfl rfl rfl rfl ?_
  refine gn_ 21 rfl rfl rfl rfl ?_
  refine WL.y rfl (Yd.pickT rfl rfl) ?_
  refine nt_ ?_
  refine WC.yes rfl ?_
  refine sr_ ?_
  refine a_ rfl rfl ?_
  refine nt_ ?_
  refine WC.ret ?_
  refine DN.then_ret ?_
  first
  | refine DN.fit (C := row q [.int .i64 W.n, .slice lo W.ls.length lc, .slice vo2 (((cu.take cu.length).filter (wayP f t)).length + 1) vc2, .slice to ti.length tc] 59 :: (CL ++ (C2 ++ CT))) sp_ ?_
  | refine DN.fit (C := row q [.int .i64 W.n, .slice lo W.ls.length lc, .slice oo ((cu.take cu.length).filter (wayP f t)).length oc, .slice to ti.length tc] 59 :: (CL ++ (D ++ CT))) sp_ ?_
  | refine DN.fit (C := row q [.int .i64 W.n, .slice lo W.ls.length lc, .slice co cu.length cc, .slice to ti.length tc] 59 :: (CL ++ (CC ++ CT))) sp_ ?_
  refine DN.ret1 Try.results42 rfl ?_
  first
  | (have e : ¬ cutE W f t = 0 := by
       unfold cutE
       rw [if_pos]
       · decide
       · first
         | exact .inl (by simpa using hg21)
         | exact .inr (by simpa using h24)
     rw [show cutE W f t = 2 by unfold cutE at e ⊢; split at e; (rw [if_pos ‹_›]); exact absurd rfl e, show cutW W f t b = W by unfold cutW; rw [if_neg e], show cutsC W cu f t b = cu by unfold cutsC; rw [if_neg e]]
     exact ⟨rfl, hAt⟩)
  | (have hf : isNode W f = true := by simpa using hg21
     have ht : isNode W t = true := by simpa using h24
     have e : cutE W f t = 0 := by unfold cutE; rw [if_neg (by rw [hf, ht]; decide)]
     rw [e, show cutW W f t b = { W with cut := W.cut.set (f.toNat * 6 + t.toNat) (if b then 1 else 0) } by unfold cutW; rw [if_pos e], show cutsC W cu f t b = cu.filter (wayP f t) ++ (if b then [(f, t)] else []) by unfold cutsC; rw [if_pos e]; rfl, h66]
     first
     | exact ⟨rfl, _, _, _, cs, CL, C2, CT, rfl, hL, hV, by simp only [List.take_length, if_true, List.length_append, List.flatMap_append, List.length_singleton, List.flatMap_cons, List.flatMap_nil, List.append_nil] at h2 ⊢; exact h2, hT⟩
     | exact ⟨rfl, _, _, _, cs, CL, D, CT, rfl, hL, hV, by rw [if_neg (by decide), List.append_nil]; simp only [List.take_length] at hO ⊢; exact hO, hT⟩)
 ·refine gy_ 21 rfl rfl rfl (Yd.move rfl) ?_
  refine gy_ 21 rfl rfl rfl (Yd.notB rfl) ?_
  refine WL.y rfl (Yd.pickF rfl rfl) ?_
  refine nt_ ?_
  refine WC.cond rfl (fun h24 => ?_) (fun h24 => ?_)
  ·refine sr_ ?_
   refine a_ rfl rfl ?_
   refine nt_ ?_
   refine WC.ret ?_
   refine DN.then_ret ?_
   first
   | refine DN.fit (C := row q [.int .i64 W.n, .slice lo W.ls.length lc, .slice vo2 (((cu.take cu.length).filter (wayP f t)).length + 1) vc2, .slice to ti.length tc] 59 :: (CL ++ (C2 ++ CT))) sp_ ?_
   | refine DN.fit (C := row q [.int .i64 W.n, .slice lo W.ls.length lc, .slice oo ((cu.take cu.length).filter (wayP f t)).length oc, .slice to ti.length tc] 59 :: (CL ++ (D ++ CT))) sp_ ?_
   | refine DN.fit (C := row q [.int .i64 W.n, .slice lo W.ls.length lc, .slice co cu.length cc, .slice to ti.length tc] 59 :: (CL ++ (CC ++ CT))) sp_ ?_
   refine DN.ret1 Try.results42 rfl ?_
   first
   | (have e : ¬ cutE W f t = 0 := by
        unfold cutE
        rw [if_pos]
        · decide
        · first
          | exact .inl (by simpa using hg21)
          | exact .inr (by simpa using h24)
      rw [show cutE W f t = 2 by unfold cutE at e ⊢; split at e; (rw [if_pos ‹_›]); exact absurd rfl e, show cutW W f t b = W by unfold cutW; rw [if_neg e], show cutsC W cu f t b = cu by unfold cutsC; rw [if_neg e]]
      exact ⟨rfl, hAt⟩)
   | (have hf : isNode W f = true := by simpa using hg21
      have ht : isNode W t = true := by simpa using h24
      have e : cutE W f t = 0 := by unfold cutE; rw [if_neg (by rw [hf, ht]; decide)]
      rw [e, show cutW W f t b = { W with cut := W.cut.set (f.toNat * 6 + t.toNat) (if b then 1 else 0) } by unfold cutW; rw [if_pos e], show cutsC W cu f t b = cu.filter (wayP f t) ++ (if b then [(f, t)] else []) by unfold cutsC; rw [if_pos e]; rfl, h66]
      first
      | exact ⟨rfl, _, _, _, cs, CL, C2, CT, rfl, hL, hV, by simp only [List.take_length, if_true, List.length_append, List.flatMap_append, List.length_singleton, List.flatMap_cons, List.flatMap_nil, List.append_nil] at h2 ⊢; exact h2, hT⟩
      | exact ⟨rfl, _, _, _, cs, CL, D, CT, rfl, hL, hV, by rw [if_neg (by decide), List.append_nil]; simp only [List.take_length] at hO ⊢; exact hO, hT⟩)
  ·refine WC.skip ?_
   refine ts_ ?_
   refine WC.region ?_
   refine a_ rfl rfl ?_
   refine nt_ ?_
   refine WC.seq ?_
   refine sr_ ?_
   refine a_ rfl rfl ?_
   refine nt_ ?_
   refine WC.block ?_
   refine WC.loopS (fun z : Nat × Value × List Ck => z.1 ≤ cu.length ∧ Own z.2.1 ((cu.take z.1).filter (wayP f t)).length (((cu.take z.1).filter (wayP f t)).flatMap wayc) 89 2 z.2.2) (fun z : Nat × Value × List Ck => [(11, z.2.1), (12, .int .i64 (z.1 : Int))]) (fun z : Nat × Value × List Ck => z.2.2 ++ (row q [.int .i64 W.n, .slice lo W.ls.length lc, .slice co cu.length cc, .slice to ti.length tc] 59 :: (CL ++ (CC ++ CT)))) (fun z : Nat × Value × List Ck => cu.length - z.1) (⟨0, .slice none 0 0, []⟩) (show 0 ≤ cu.length ∧ Own (.slice none 0 0) ((cu.take 0).filter (wayP f t)).length (((cu.take 0).filter (wayP f t)).flatMap wayc) 89 2 [] from ⟨Nat.zero_le _, by simpa using Own.nil 89 2⟩) (Sx.put rfl (Sx.put rfl (sx_))) sp_ ?_
   rintro ⟨i, v, D⟩ hI
   replace hI : i ≤ cu.length ∧ Own v ((cu.take i).filter (wayP f t)).length (((cu.take i).filter (wayP f t)).flatMap wayc) 89 2 D := hI
   obtain ⟨hi, hO⟩ := hI
   change WC _ _ _ _ _ _ ([(11, v), (12, .int .i64 (i : Int))] ++ _) (D ++ (row q [.int .i64 W.n, .slice lo W.ls.length lc, .slice co cu.length cc, .slice to ti.length tc] 59 :: (CL ++ (CC ++ CT))))
   obtain ⟨oo, oc, rfl, _⟩ := hO.form
   have hfl := List.length_filter_le (wayP f t) (cu.take i)
   rw [List.length_take] at hfl
   refine WC.seq ?_
   refine sr_ ?_
   refine m_ rfl rfl ?_
   refine m_ rfl rfl ?_
   refine n_ rfl rfl ?_
   refine f_ 2 kr_ rfl rfl ?_
   refine d_ kr_ rfl mem_ (by rfl) rfl ?_
   refine WL.y rfl (Yd.len (e := 89) kr_ rfl) ?_
   refine WL.y rfl (Yd.lss rfl rfl) ?_
   refine nt_ ?_
   refine WC.ite rfl (fun h31 => ?_) (fun h31 => ?_)
   ·have hlt : i < cu.length := by omega
    obtain ⟨wb, wf, ws, wT, wfr, wex, rfl, _, hwm, hws⟩ := hC.rs.lies (by omega)
    refine WC.skip ?_
    refine ts_ ?_
    refine WC.block ?_
    refine sr_ ?_
    refine m_ rfl rfl ?_
    refine n_ rfl rfl ?_
    refine f_ 2 kr_ rfl rfl ?_
    refine d_ kr_ rfl mem_ (by rfl) rfl ?_
    refine m_ rfl rfl ?_
    refine WL.y rfl (Yd.indexAddr (e := 89) (s := 2) kr_ kr_ rfl rfl (by omega) (by omega)) ?_
    refine f_ 0 kr_ rfl rfl ?_
    refine WL.h rfl (Hd.load1 (v := .int .i64 cu[i].1) (b := wb) (o := wf + (i : Int).toNat * 2 + 0) (cs := ws) kr_ rfl (Gr.get gr_ hwm) (cell_at2 (L := cu) wayc_len hws (by omega) (by omega)) ⟨_, rfl, ?_⟩)
    refine m_ rfl rfl ?_
    refine WL.y rfl (Yd.neq rfl rfl) ?_
    refine m_ rfl rfl ?_
    refine WL.partP (t := 44) rfl (fun hg44 => ?_) (fun hg44 => ?_)
    ·iterate 10 refine gn_ 44 rfl rfl rfl rfl ?_
     refine WL.y rfl (Yd.pickT rfl rfl) ?_
     refine nt_ ?_
     refine WC.yes rfl ?_
     refine WC.region ?_
     refine m_ rfl rfl ?_
     refine m_ rfl rfl ?_
     refine n_ rfl rfl ?_
     refine f_ 2 kr_ rfl rfl ?_
     refine d_ kr_ rfl mem_ (by rfl) rfl ?_
     refine m_ rfl rfl ?_
     refine WL.elemA (e := 89) (s := 2) kr_ kr_ kr_ rfl rfl (rfl) (hC.rs.mono gr_) (flat_row wayc 2 wayc_len cu i hlt) (by rfl) (by omega) (hlt) rfl rfl ?_
     intro p62
     refine WL.h rfl (Hd.buildA (e := 89) (sz := 2) (zs := [.int .i64 0, .int .i64 0]) kr_ kr_ kr_ rfl rfl (by rfl) kr_ fun b64 => ⟨_, rfl, ?_⟩)
     refine WL.h rfl (Hd.appendRow (e := 89) (sz := 2) (bytes := 16) (zs := [.int .i64 0, .int .i64 0]) kr_ kr_ rfl (by omega) rfl rfl (hO) sp_ mem_ (by rfl) (wayc_one _) (by simp only [maxLen]; omega) (by omega) fun v2 C2 h2 => ⟨_, rfl, ?_⟩)
     refine a_ rfl rfl ?_
     refine WL.nil ?_
     refine DN.block_normal ?_
     refine DN.then_normal ?_
     refine WC.region ?_
     refine m_ rfl rfl ?_
     refine WL.y rfl (Yd.add rfl rfl (by omega) (by omega)) ?_
     refine a_ rfl rfl ?_
     refine WL.nil ?_
     exact DN.againS (⟨i + 1, v2, C2⟩) (show (i + 1) ≤ cu.length ∧ Own v2 ((cu.take (i + 1)).filter (wayP f t)).length (((cu.take (i + 1)).filter (wayP f t)).flatMap wayc) 89 2 C2 from ⟨by omega, by rw [way_step hlt, if_pos (by unfold wayP; simp; exact .inl hg44), List.length_append, List.flatMap_append]; simpa using h2⟩) (show cu.length - (i + 1) < cu.length - i by omega) (Sx.put rfl (Sx.put rfl (sx_))) sp_
    ·refine gy_ 44 rfl rfl rfl (Yd.move rfl) ?_
     refine gy_ 44 rfl rfl rfl (Yd.notNil rfl) ?_
     refine gy_ 44 rfl rfl rfl (Yd.fieldAddr (k := 2) kr_ rfl) ?_
     refine WL.gh (dj := 44) rfl rfl rfl (Hd.load1 kr_ rfl mem_ (by rfl) ⟨_, rfl, ?_⟩)
     refine gy_ 44 rfl rfl rfl (Yd.move rfl) ?_
     refine gy_ 44 rfl rfl rfl (Yd.indexAddr (e := 89) (s := 2) kr_ kr_ rfl rfl (by omega) (by omega)) ?_
     refine gy_ 44 rfl rfl rfl (Yd.fieldAddr (k := 1) kr_ rfl) ?_
     refine WL.gh (dj := 44) rfl rfl rfl (Hd.load1 (v := .int .i64 cu[i].2) (b := wb) (o := wf + (i : Int).toNat * 2 + 1) (cs := ws) kr_ rfl (Gr.get gr_ hwm) (cell_at2 (L := cu) wayc_len hws (by omega) (by omega)) ⟨_, rfl, ?_⟩)
     refine gy_ 44 rfl rfl rfl (Yd.move rfl) ?_
     refine gy_ 44 rfl rfl rfl (Yd.neq rfl rfl) ?_
     refine WL.y rfl (Yd.pickF rfl rfl) ?_
     refine nt_ ?_
     refine WC.ite rfl (fun h55 => ?_) (fun h55 => ?_)
     ·refine WC.region ?_
      refine m_ rfl rfl ?_
      refine m_ rfl rfl ?_
      refine n_ rfl rfl ?_
      refine f_ 2 kr_ rfl rfl ?_
      refine d_ kr_ rfl mem_ (by rfl) rfl ?_
      refine m_ rfl rfl ?_
      refine WL.elemA (e := 89) (s := 2) kr_ kr_ kr_ rfl rfl (rfl) (hC.rs.mono gr_) (flat_row wayc 2 wayc_len cu i hlt) (by rfl) (by omega) (hlt) rfl rfl ?_
      intro p62
      refine WL.h rfl (Hd.buildA (e := 89) (sz := 2) (zs := [.int .i64 0, .int .i64 0]) kr_ kr_ kr_ rfl rfl (by rfl) kr_ fun b64 => ⟨_, rfl, ?_⟩)
      refine WL.h rfl (Hd.appendRow (e := 89) (sz := 2) (bytes := 16) (zs := [.int .i64 0, .int .i64 0]) kr_ kr_ rfl (by omega) rfl rfl (hO) sp_ mem_ (by rfl) (wayc_one _) (by simp only [maxLen]; omega) (by omega) fun v2 C2 h2 => ⟨_, rfl, ?_⟩)
      refine a_ rfl rfl ?_
      refine WL.nil ?_
      refine DN.block_normal ?_
      refine DN.then_normal ?_
      refine WC.region ?_
      refine m_ rfl rfl ?_
      refine WL.y rfl (Yd.add rfl rfl (by omega) (by omega)) ?_
      refine a_ rfl rfl ?_
      refine WL.nil ?_
      exact DN.againS (⟨i + 1, v2, C2⟩) (show (i + 1) ≤ cu.length ∧ Own v2 ((cu.take (i + 1)).filter (wayP f t)).length (((cu.take (i + 1)).filter (wayP f t)).flatMap wayc) 89 2 C2 from ⟨by omega, by rw [way_step hlt, if_pos (by unfold wayP; simp; exact .inr h55), List.length_append, List.flatMap_append]; simpa using h2⟩) (show cu.length - (i + 1) < cu.length - i by omega) (Sx.put rfl (Sx.put rfl (sx_))) sp_
     ·refine WC.skip ?_
      refine DN.block_normal ?_
      refine DN.then_normal ?_
      refine WC.region ?_
      refine m_ rfl rfl ?_
      refine WL.y rfl (Yd.add rfl rfl (by omega) (by omega)) ?_
      refine a_ rfl rfl ?_
      refine WL.nil ?_
      exact DN.againS (⟨i + 1, .slice oo ((cu.take i).filter (wayP f t)).length oc, D⟩) (show (i + 1) ≤ cu.length ∧ Own (.slice oo ((cu.take i).filter (wayP f t)).length oc) ((cu.take (i + 1)).filter (wayP f t)).length (((cu.take (i + 1)).filter (wayP f t)).flatMap wayc) 89 2 D from ⟨by omega, by rw [way_step hlt, if_neg (by unfold wayP; simp; exact ⟨by omega, by omega⟩), List.append_nil]; exact hO⟩) (show cu.length - (i + 1) < cu.length - i by omega) (Sx.put rfl (Sx.put rfl (sx_))) sp_
   ·obtain rfl : i = cu.length := by omega
    refine WC.exit ?_
    refine DN.then_exit ?_
    refine DN.then_exit ?_
    refine DN.block_exit ?_
    refine ts_ ?_
    refine sr_ ?_
    refine m_ rfl rfl ?_
    refine nt_ ?_
    refine WC.cond rfl (fun h66 => ?_) (fun h66 => ?_)
    ·refine WC.region ?_
     iterate 3 refine m_ rfl rfl ?_
     refine WL.y rfl (Yd.buildL (pl := [(0, 1), (1, 1)]) (zs := [.int .i64 0, .int .i64 0]) (parts := [(0, .tmp 68), (1, .tmp 69)]) (vs := [(0, _), (1, _)]) (cells := [_, _]) kr_ kr_ rfl rfl) ?_
     refine WL.h rfl (Hd.buildA (e := 89) (sz := 2) (zs := [.int .i64 0, .int .i64 0]) kr_ kr_ kr_ rfl rfl (by rfl) kr_ fun b71 => ⟨_, rfl, ?_⟩)
     refine WL.h rfl (Hd.appendRow (e := 89) (sz := 2) (bytes := 16) (zs := [.int .i64 0, .int .i64 0]) kr_ kr_ rfl (by omega) rfl rfl (hO) sp_ mem_ (by rfl) (wayc_one (f, t)) (by simp only [maxLen]; omega) (by omega) fun v2 C2 h2 => ⟨_, rfl, ?_⟩)
     refine a_ rfl rfl ?_
     refine ntsr_ ?_
     first | (obtain ⟨vo2, vc2, rfl, _⟩ := h2.form) | skip
     refine m_ rfl rfl ?_
     refine m_ rfl rfl ?_
     refine n_ rfl rfl ?_
     refine f_ 2 kr_ rfl rfl ?_
     refine WL.s (Hd.store1s kr_ rfl rfl (by rfl) fr_ (by rfl) (by first | (simp only [List.set_cons_zero, List.set_cons_succ, Nat.zero_add, Nat.add_zero, Nat.reduceAdd]; rfl) | rfl) ⟨rfl, ?_⟩)
     refine ntsr_ ?_
     refine a_ rfl rfl ?_
     refine nt_ ?_
     refine WC.ret ?_
     first
     | refine DN.fit (C := row q [.int .i64 W.n, .slice lo W.ls.length lc, .slice vo2 (((cu.take cu.length).filter (wayP f t)).length + 1) vc2, .slice to ti.length tc] 59 :: (CL ++ (C2 ++ CT))) sp_ ?_
     | refine DN.fit (C := row q [.int .i64 W.n, .slice lo W.ls.length lc, .slice oo ((cu.take cu.length).filter (wayP f t)).length oc, .slice to ti.length tc] 59 :: (CL ++ (D ++ CT))) sp_ ?_
     | refine DN.fit (C := row q [.int .i64 W.n, .slice lo W.ls.length lc, .slice co cu.length cc, .slice to ti.length tc] 59 :: (CL ++ (CC ++ CT))) sp_ ?_
     refine DN.ret1 Try.results42 rfl ?_
     first
     | (have e : ¬ cutE W f t = 0 := by
          unfold cutE
          rw [if_pos]
          · decide
          · first
            | exact .inl (by simpa using hg21)
            | exact .inr (by simpa using h24)
        rw [show cutE W f t = 2 by unfold cutE at e ⊢; split at e; (rw [if_pos ‹_›]); exact absurd rfl e, show cutW W f t b = W by unfold cutW; rw [if_neg e], show cutsC W cu f t b = cu by unfold cutsC; rw [if_neg e]]
        exact ⟨rfl, hAt⟩)
     | (have hf : isNode W f = true := by simpa using hg21
        have ht : isNode W t = true := by simpa using h24
        have e : cutE W f t = 0 := by unfold cutE; rw [if_neg (by rw [hf, ht]; decide)]
        rw [e, show cutW W f t b = { W with cut := W.cut.set (f.toNat * 6 + t.toNat) (if b then 1 else 0) } by unfold cutW; rw [if_pos e], show cutsC W cu f t b = cu.filter (wayP f t) ++ (if b then [(f, t)] else []) by unfold cutsC; rw [if_pos e]; rfl, h66]
        first
        | exact ⟨rfl, _, _, _, cs, CL, C2, CT, rfl, hL, hV, by simp only [List.take_length, if_true, List.length_append, List.flatMap_append, List.length_singleton, List.flatMap_cons, List.flatMap_nil, List.append_nil] at h2 ⊢; exact h2, hT⟩
        | exact ⟨rfl, _, _, _, cs, CL, D, CT, rfl, hL, hV, by rw [if_neg (by decide), List.append_nil]; simp only [List.take_length] at hO ⊢; exact hO, hT⟩)
    ·refine WC.skip ?_
     refine ts_ ?_
     refine WC.region ?_
     first | (obtain ⟨vo2, vc2, rfl, _⟩ := h2.form) | skip
     refine m_ rfl rfl ?_
     refine m_ rfl rfl ?_
     refine n_ rfl rfl ?_
     refine f_ 2 kr_ rfl rfl ?_
     refine WL.s (Hd.store1s kr_ rfl rfl (by rfl) fr_ (by rfl) (by first | (simp only [List.set_cons_zero, List.set_cons_succ, Nat.zero_add, Nat.add_zero, Nat.reduceAdd]; rfl) | rfl) ⟨rfl, ?_⟩)
     refine ntsr_ ?_
     refine a_ rfl rfl ?_
     refine nt_ ?_
     refine WC.ret ?_
     first
     | refine DN.fit (C := row q [.int .i64 W.n, .slice lo W.ls.length lc, .slice vo2 (((cu.take cu.length).filter (wayP f t)).length + 1) vc2, .slice to ti.length tc] 59 :: (CL ++ (C2 ++ CT))) sp_ ?_
     | refine DN.fit (C := row q [.int .i64 W.n, .slice lo W.ls.length lc, .slice oo ((cu.take cu.length).filter (wayP f t)).length oc, .slice to ti.length tc] 59 :: (CL ++ (D ++ CT))) sp_ ?_
     | refine DN.fit (C := row q [.int .i64 W.n, .slice lo W.ls.length lc, .slice co cu.length cc, .slice to ti.length tc] 59 :: (CL ++ (CC ++ CT))) sp_ ?_
     refine DN.ret1 Try.results42 rfl ?_
     first
     | (have e : ¬ cutE W f t = 0 := by
          unfold cutE
          rw [if_pos]
          · decide
          · first
            | exact .inl (by simpa using hg21)
            | exact .inr (by simpa using h24)
        rw [show cutE W f t = 2 by unfold cutE at e ⊢; split at e; (rw [if_pos ‹_›]); exact absurd rfl e, show cutW W f t b = W by unfold cutW; rw [if_neg e], show cutsC W cu f t b = cu by unfold cutsC; rw [if_neg e]]
        exact ⟨rfl, hAt⟩)
     | (have hf : isNode W f = true := by simpa using hg21
        have ht : isNode W t = true := by simpa using h24
        have e : cutE W f t = 0 := by unfold cutE; rw [if_neg (by rw [hf, ht]; decide)]
        rw [e, show cutW W f t b = { W with cut := W.cut.set (f.toNat * 6 + t.toNat) (if b then 1 else 0) } by unfold cutW; rw [if_pos e], show cutsC W cu f t b = cu.filter (wayP f t) ++ (if b then [(f, t)] else []) by unfold cutsC; rw [if_pos e]; rfl, h66]
        first
        | exact ⟨rfl, _, _, _, cs, CL, C2, CT, rfl, hL, hV, by simp only [List.take_length, if_true, List.length_append, List.flatMap_append, List.length_singleton, List.flatMap_cons, List.flatMap_nil, List.append_nil] at h2 ⊢; exact h2, hT⟩
        | exact ⟨rfl, _, _, _, cs, CL, D, CT, rfl, hL, hV, by rw [if_neg (by decide), List.append_nil]; simp only [List.take_length] at hO ⊢; exact hO, hT⟩)
end Go.Proofs.Ytgpegfmonmdhoaa
