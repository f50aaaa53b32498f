/-
  Lemmas and walks that CrewStale stands on (part 5); no condition.
-/
import Derived.Orders
import Derived.Tactics
import Derived.Scope
import Derived.Below
import Derived.WalkKit
import Derived.KernelRfl
import Derived.Laws.RangeString
import Derived.Laws.StructEq
import Derived.Lib.AppendZerosOnto
import Derived.Laws.CopyRow
import Derived.Lib.Overlaps
import Derived.Laws.IdiomStrings
import Derived.Deep.Quiet
import Derived.Lib.Bytealg
import Derived.Shelf.SlSortCmp.NoneTotal
import Derived.Test.YtkamlondepceiaaGreatRows
import Derived.Ground.SlsfProg
import Derived.Shelf.Small.Strs
import Derived.ProofKit
import Derived.OpenShut
import Derived.ShutString
import Derived.ChangeOld
import Derived.Test.YtkamlondepceiaaGreatCrewStaleB4

set_option linter.unusedVariables false
set_option linter.unusedSimpArgs false
set_option maxHeartbeats 4000000
namespace Go.Proofs.YtkamlondepceiaaGreat
open Go.SL
theorem rnum_tells (n : BitVec 64) (size : Nat) (hs : size ≤ 8) (H : List Ck) : Tells Tryz.prog 116 [.int .u64 n.toNat, .int .i64 size] H fun r H' => ∃ C, Ob 5 r (beW n size) C ∧ H' = C ++ H := by
 refine Tells.enter Tryz.func116 rfl Tryz.ntmps116 rfl ?_
 intro w0 R
 refine sr_ ?_
 refine a_ rfl rfl ?_
 refine ntsr_ ?_
 refine a_ rfl rfl ?_
 refine nt_ ?_
 refine WC.seq ?_
 refine sr_ ?_
 refine a_ rfl rfl ?_
 refine nt_ ?_
 refine WC.block ?_
 refine WC.loopS (fun z : Nat × Value × List Ck => z.1 ≤ size ∧ Ob 5 z.2.1 (loW n z.1) z.2.2) (fun z : Nat × Value × List Ck => [(0, .int .u64 (n >>> (8 * z.1)).toNat), (5, z.2.1), (6, .int .i64 (z.1 : Int))]) (fun z : Nat × Value × List Ck => z.2.2 ++ H) (fun z : Nat × Value × List Ck => size - z.1) (⟨0, .slice none 0 0, []⟩) (show 0 ≤ size ∧ Ob 5 (.slice none 0 0) (loW n 0) [] from ⟨Nat.zero_le _, Ob.nil _⟩) (Sx.put rfl (Sx.put rfl (Sx.put rfl (sx_)))) sp_ ?_
 rintro ⟨i, u, C⟩ hI
 replace hI : i ≤ size ∧ Ob 5 u (loW n i) C := hI
 obtain ⟨hi, hu⟩ := hI
 change WC _ _ _ _ _ _ ([(0, .int .u64 (n >>> (8 * i)).toNat), (5, u), (6, .int .i64 (i : Int))] ++ _) (C ++ H)
 obtain ⟨uo, uc, rfl, huc⟩ := hu.form
 rw [loW_len] at huc
 refine WC.seq ?_
 refine sr_ ?_
 refine m_ rfl rfl ?_
 refine m_ rfl rfl ?_
 refine WL.y rfl (Yd.lss rfl rfl) ?_
 refine nt_ ?_
 refine WC.ite rfl (fun h11 => ?_) (fun h11 => ?_)
 ·have hlt : i < size := by omega
  refine WC.skip ?_
  refine ts_ ?_
  refine WC.block ?_
  refine sr_ ?_
  refine m_ rfl rfl ?_
  refine m_ rfl rfl ?_
  refine WL.y rfl (Yd.rem64 _ (256#64) rfl rfl rfl rfl (by decide)) ?_
  refine WL.y rfl (Yd.conv64_8 _ kr_ kr_ rfl rfl) ?_
  refine WL.renamed (t := 17) (v := .int .u8 ((n >>> (8 * i)).setWidth 8).toNat) rfl (congrArg (fun q : BitVec 8 => Value.int .u8 q.toNat) (low_rem _)) ?_
  refine WL.h rfl (Hd.build1 (e := 5) (z := .int .u8 0) kr_ kr_ kr_ rfl rfl fun b18 => ⟨_, rfl, ?_⟩)
  refine WL.h rfl (Hd.appendBs (e := 5) (zs := [.int .u8 0]) kr_ kr_ rfl rfl rfl hu sp_ (Bs.block (bs := [(n >>> (8 * i)).setWidth 8]) rfl (by simp) mem_) (by rw [loW_len]; simp only [List.length_cons, List.length_nil]; omega) fun v1 C1 ho1 => ⟨_, rfl, ?_⟩)
  refine a_ rfl rfl ?_
  refine ntr_ ?_
  refine m_ rfl rfl ?_
  refine WL.y rfl (Yd.quo64 _ (256#64) rfl rfl rfl rfl (by decide)) ?_
  refine WL.renamed (t := 21) (v := .int .u64 (n >>> (8 * (i + 1))).toNat) rfl (congrArg (fun q : BitVec 64 => Value.int .u64 q.toNat) (low_quo n i)) ?_
  refine a_ rfl rfl ?_
  refine WL.nil ?_
  refine DN.block_normal ?_
  refine DN.then_normal ?_
  refine WC.region ?_
  refine m_ rfl rfl ?_
  refine WL.y rfl (Yd.add rfl rfl (by omega) (by omega)) ?_
  refine a_ rfl rfl ?_
  refine WL.nil ?_
  exact DN.againS (⟨i + 1, v1, C1⟩) (show (i + 1) ≤ size ∧ Ob 5 v1 (loW n (i + 1)) C1 from ⟨by omega, by rw [loW_next]; exact ho1⟩) (show size - (i + 1) < size - i by omega) (Sx.put rfl (Sx.put rfl (Sx.put rfl (sx_)))) sp_
 ·obtain rfl : size = i := by omega
  refine WC.exit ?_
  refine DN.then_exit ?_
  refine DN.then_exit ?_
  refine DN.block_exit ?_
  refine ts_ ?_
  refine WC.region ?_
  refine a_ rfl rfl ?_
  refine nt_ ?_
  refine WC.seq ?_
  refine sr_ ?_
  refine m_ rfl rfl ?_
  refine WL.y rfl (Yd.sub rfl rfl (by omega) (by omega)) ?_
  refine WL.renamed (t := 23) (v := .int .i64 ((size : Int) - 1 - ((0 : Nat) : Int))) rfl (congrArg (Value.int .i64) (by omega)) ?_
  refine a_ rfl rfl ?_
  refine nt_ ?_
  refine WC.block ?_
  refine WC.loopS (fun z : Nat × Value × List Ck => z.1 ≤ size ∧ Ob 5 z.2.1 ((beW n size).take z.1) z.2.2) (fun z : Nat × Value × List Ck => [(7, z.2.1), (8, .int .i64 ((size : Int) - 1 - z.1))]) (fun z : Nat × Value × List Ck => z.2.2 ++ (C ++ H)) (fun z : Nat × Value × List Ck => size - z.1) (⟨0, .slice none 0 0, []⟩) (show 0 ≤ size ∧ Ob 5 (.slice none 0 0) ((beW n size).take 0) [] from ⟨Nat.zero_le _, Ob.nil _⟩) (Sx.put rfl (Sx.put rfl (sx_))) sp_ ?_
  rintro ⟨j, w, D⟩ hI
  replace hI : j ≤ size ∧ Ob 5 w ((beW n size).take j) D := hI
  obtain ⟨hj, hw⟩ := hI
  change WC _ _ _ _ _ _ ([(7, w), (8, .int .i64 ((size : Int) - 1 - j))] ++ _) (D ++ (C ++ H))
  refine WC.seq ?_
  refine sr_ ?_
  refine m_ rfl rfl ?_
  refine WL.y rfl (Yd.geq rfl rfl) ?_
  refine nt_ ?_
  refine WC.ite rfl (fun h25 => ?_) (fun h25 => ?_)
  ·have hlt2 : j < size := by omega
   have hll : ((beW n size).take j).length ≤ 8 := by rw [List.length_take]; omega
   refine WC.skip ?_
   refine ts_ ?_
   refine WC.block ?_
   refine WC.region ?_
   iterate 3 refine m_ rfl rfl ?_
   refine WL.elem (e := 5) kr_ kr_ kr_ rfl rfl (by omega) (hu.bs.mono gr_) (bc_at (loW_get (n := n) (show size - 1 - j < size by omega))) (by rw [loW_len]; omega) rfl rfl ?_
   intro _
   refine WL.h rfl (Hd.build1 (e := 5) (z := .int .u8 0) kr_ kr_ kr_ rfl rfl fun b33 => ⟨_, rfl, ?_⟩)
   refine WL.h rfl (Hd.appendBs (e := 5) (zs := [.int .u8 0]) kr_ kr_ rfl rfl rfl hw sp_ (Bs.block (bs := [(n >>> (8 * (size - 1 - j))).setWidth 8]) rfl (by simp) mem_) (by simp only [List.length_cons, List.length_nil]; omega) fun v2 C2 ho2 => ⟨_, rfl, ?_⟩)
   refine a_ rfl rfl ?_
   refine WL.nil ?_
   refine DN.block_normal ?_
   refine DN.then_normal ?_
   refine WC.region ?_
   refine m_ rfl rfl ?_
   refine WL.y rfl (Yd.sub rfl rfl (by omega) (by omega)) ?_
   refine a_ rfl rfl ?_
   refine WL.nil ?_
   rw [show (size : Int) - 1 - (j : Int) - 1 = (size : Int) - 1 - ((j + 1 : Nat) : Int) by omega]
   exact DN.againS (j + 1, v2, C2) ⟨by show j + 1 ≤ size; omega, by rw [beW_next n size j hlt2]; exact ho2⟩ (by show size - (j + 1) < size - j; omega) ((Sx.put rfl (Sx.put rfl (sx_)))) sp_
  ·obtain rfl : size = j := by omega
   rw [List.take_of_length_le (by rw [beW_length]; omega)] at hw
   refine WC.exit ?_
   refine DN.then_exit ?_
   refine DN.then_exit ?_
   refine DN.block_exit ?_
   refine ts_ ?_
   refine WC.region ?_
   refine m_ rfl rfl ?_
   refine a_ rfl rfl ?_
   refine nt_ ?_
   refine WC.ret ?_
   refine DN.fit (C := D ++ H) sp_ ?_
   refine DN.ret1 Tryz.results116 rfl ?_
   exact ⟨D, hw, rfl⟩
theorem rone_tells (f : Fld) (vt : Value) (H : List Ck) (hvt : Bs vt f.text H) (hl : f.text.length ≤ 1000000) (hs : f.size ≤ 8) : Tells Tryz.prog 77 [.agg (fdc f vt).toArray] H fun r H' => ∃ w A, r = .tuple #[w, .int .i64 (oneF f).2] ∧ Ob 5 w (oneF f).1 A ∧ H' = A ++ H := by
 refine Tells.enter Tryz.func77 rfl Tryz.ntmps77 rfl ?_
 intro w0 R
 obtain ⟨to_, tc, rfl, htc⟩ := hvt.form
 refine sr_ ?_
 refine WL.h rfl (Hd.boxA rfl fun b1 => ⟨_, rfl, ?_⟩)
 refine a_ rfl rfl ?_
 refine a_ rfl rfl ?_
 refine nt_ ?_
 refine WC.seq ?_
 refine sr_ ?_
 refine f_ 0 kr_ rfl rfl ?_
 refine d_ kr_ rfl mem_ (by rfl) rfl ?_
 refine nt_ ?_
 refine WC.block ?_
 refine sr_ ?_
 refine WL.y rfl (Yd.eql rfl rfl) ?_
 refine a_ rfl rfl ?_
 refine nt_ ?_
 refine WC.ite rfl (fun h7 => ?_) (fun h7 => ?_)
 ·have hs0 : f.size = 0 := by omega
  refine WC.seq ?_
  refine sr_ ?_
  refine f_ 1 kr_ rfl rfl ?_
  refine d_ kr_ rfl mem_ (by rfl) rfl ?_
  refine WL.y rfl (Yd.neq64 _ (0#64) rfl rfl rfl rfl) ?_
  refine nt_ ?_
  refine WC.ite rfl (fun h11 => ?_) (fun h11 => ?_)
  ·refine sr_ ?_
   refine a_ rfl rfl ?_
   refine a_ rfl rfl ?_
   refine nt_ ?_
   refine WC.ret ?_
   refine DN.then_ret ?_
   refine DN.block_ret ?_
   refine DN.then_ret ?_
   first | refine DN.fit (C := C1 ++ H) sp_ ?_ | refine DN.fit (C := H) sp_ ?_
   refine DN.ret2 Tryz.results77 rfl rfl ?_
   first
   | (rw [oneF_0a hs0 h11]; exact ⟨_, [], rfl, Ob.nil _, rfl⟩)
   | (rw [oneF_0b hs0 h11 (by omega)]; exact ⟨_, [], rfl, Ob.nil _, rfl⟩)
   | (rw [oneF_0c hs0 h11 (by omega)]; exact ⟨_, C1, rfl, ho1, rfl⟩)
   | (rw [oneF_1b hs0 (of_decide_eq_true (hz25.symm.trans h25)) (one_ok hg33 h42)]; exact ⟨_, C1, rfl, hC1, rfl⟩)
   | (rw [oneF_1a hs0 (of_decide_eq_true (hz25.symm.trans h25)) (.inl (by omega))]; exact ⟨_, [], rfl, Ob.nil _, rfl⟩)
   | (rw [oneF_1a hs0 (of_decide_eq_true (hz25.symm.trans h25)) (.inr (Int.ofNat_le.1 h42))]; exact ⟨_, [], rfl, Ob.nil _, rfl⟩)
   | (rw [oneF_8a hs0 (of_decide_eq_false (hz25.symm.trans h25)) hs8 (by omega)]; exact ⟨_, [], rfl, Ob.nil _, rfl⟩)
   | (rw [oneF_8b hs0 (of_decide_eq_false (hz25.symm.trans h25)) hs8 (by omega)]; exact ⟨_, C1, rfl, hC1, rfl⟩)
   | (rw [oneF_no hs0 (of_decide_eq_false (hz25.symm.trans h25)) hs8]; exact ⟨_, [], rfl, Ob.nil _, rfl⟩)
  ·refine WC.skip ?_
   refine ts_ ?_
   refine sr_ ?_
   refine f_ 2 kr_ rfl rfl ?_
   refine d_ kr_ rfl mem_ (by rfl) rfl ?_
   refine WL.y rfl (Yd.len (e := 5) kr_ rfl) ?_
   refine WL.y rfl (Yd.gtr rfl rfl) ?_
   refine nt_ ?_
   refine WC.ite rfl (fun h15 => ?_) (fun h15 => ?_)
   ·refine sr_ ?_
    refine a_ rfl rfl ?_
    refine a_ rfl rfl ?_
    refine nt_ ?_
    refine WC.ret ?_
    refine DN.then_ret ?_
    refine DN.block_ret ?_
    refine DN.then_ret ?_
    first | refine DN.fit (C := C1 ++ H) sp_ ?_ | refine DN.fit (C := H) sp_ ?_
    refine DN.ret2 Tryz.results77 rfl rfl ?_
    first
    | (rw [oneF_0a hs0 h11]; exact ⟨_, [], rfl, Ob.nil _, rfl⟩)
    | (rw [oneF_0b hs0 h11 (by omega)]; exact ⟨_, [], rfl, Ob.nil _, rfl⟩)
    | (rw [oneF_0c hs0 h11 (by omega)]; exact ⟨_, C1, rfl, ho1, rfl⟩)
    | (rw [oneF_1b hs0 (of_decide_eq_true (hz25.symm.trans h25)) (one_ok hg33 h42)]; exact ⟨_, C1, rfl, hC1, rfl⟩)
    | (rw [oneF_1a hs0 (of_decide_eq_true (hz25.symm.trans h25)) (.inl (by omega))]; exact ⟨_, [], rfl, Ob.nil _, rfl⟩)
    | (rw [oneF_1a hs0 (of_decide_eq_true (hz25.symm.trans h25)) (.inr (Int.ofNat_le.1 h42))]; exact ⟨_, [], rfl, Ob.nil _, rfl⟩)
    | (rw [oneF_8a hs0 (of_decide_eq_false (hz25.symm.trans h25)) hs8 (by omega)]; exact ⟨_, [], rfl, Ob.nil _, rfl⟩)
    | (rw [oneF_8b hs0 (of_decide_eq_false (hz25.symm.trans h25)) hs8 (by omega)]; exact ⟨_, C1, rfl, hC1, rfl⟩)
    | (rw [oneF_no hs0 (of_decide_eq_false (hz25.symm.trans h25)) hs8]; exact ⟨_, [], rfl, Ob.nil _, rfl⟩)
   ·refine WC.skip ?_
    refine ts_ ?_
    refine WC.region ?_
    refine f_ 2 kr_ rfl rfl ?_
    refine d_ kr_ rfl mem_ (by rfl) rfl ?_
    refine WL.y rfl (Yd.len (e := 5) kr_ rfl) ?_
    refine WL.y rfl (Yd.to8 _ kr_ kr_ rfl rfl) ?_
    refine WL.h rfl (Hd.build1 (e := 5) (z := .int .u8 0) kr_ kr_ kr_ rfl rfl fun b20 => ⟨_, rfl, ?_⟩)
    refine a_ rfl rfl ?_
    refine ntsr_ ?_
    refine m_ rfl rfl ?_
    refine f_ 2 kr_ rfl rfl ?_
    refine d_ kr_ rfl mem_ (by rfl) rfl ?_
    refine WL.h rfl (Hd.appendBs (e := 5) (zs := [.int .u8 0]) kr_ kr_ rfl rfl rfl (Ob.block (T := 5) b20 [BitVec.ofInt 8 (f.text.length : Int)] (by simp only [maxLen, List.length_cons, List.length_nil]; omega)) sp_ (hvt.mono gr_) (by simp only [List.length_cons, List.length_nil]; omega) fun v1 C1 ho1 => ⟨_, rfl, ?_⟩)
    refine a_ rfl rfl ?_
    refine a_ rfl rfl ?_
    refine nt_ ?_
    refine WC.ret ?_
    refine DN.block_ret ?_
    refine DN.then_ret ?_
    first | refine DN.fit (C := C1 ++ H) sp_ ?_ | refine DN.fit (C := H) sp_ ?_
    refine DN.ret2 Tryz.results77 rfl rfl ?_
    first
    | (rw [oneF_0a hs0 h11]; exact ⟨_, [], rfl, Ob.nil _, rfl⟩)
    | (rw [oneF_0b hs0 h11 (by omega)]; exact ⟨_, [], rfl, Ob.nil _, rfl⟩)
    | (rw [oneF_0c hs0 h11 (by omega)]; exact ⟨_, C1, rfl, ho1, rfl⟩)
    | (rw [oneF_1b hs0 (of_decide_eq_true (hz25.symm.trans h25)) (one_ok hg33 h42)]; exact ⟨_, C1, rfl, hC1, rfl⟩)
    | (rw [oneF_1a hs0 (of_decide_eq_true (hz25.symm.trans h25)) (.inl (by omega))]; exact ⟨_, [], rfl, Ob.nil _, rfl⟩)
    | (rw [oneF_1a hs0 (of_decide_eq_true (hz25.symm.trans h25)) (.inr (Int.ofNat_le.1 h42))]; exact ⟨_, [], rfl, Ob.nil _, rfl⟩)
    | (rw [oneF_8a hs0 (of_decide_eq_false (hz25.symm.trans h25)) hs8 (by omega)]; exact ⟨_, [], rfl, Ob.nil _, rfl⟩)
    | (rw [oneF_8b hs0 (of_decide_eq_false (hz25.symm.trans h25)) hs8 (by omega)]; exact ⟨_, C1, rfl, hC1, rfl⟩)
    | (rw [oneF_no hs0 (of_decide_eq_false (hz25.symm.trans h25)) hs8]; exact ⟨_, [], rfl, Ob.nil _, rfl⟩)
 ·have hs0 : ¬ f.size = 0 := by omega
  refine WC.cutK (fun z : Bool => z = decide (f.size = 1 ∨ f.size = 2 ∨ f.size = 4)) (fun z : Bool => [(25, .bool z)]) (fun z : Bool => row b1 (fdc f (.slice to_ f.text.length tc)) 98 :: H) ?_ ?_
  ·refine sr_ ?_
   refine WL.y rfl (Yd.eql rfl rfl) ?_
   refine a_ rfl rfl ?_
   refine nt_ ?_
   first | refine WC.ite rfl (fun h25 => ?_) (fun h25 => ?_) | refine WC.cond rfl (fun h25 => ?_) (fun h25 => ?_)
   ·refine WC.skip ?_
    exact DN.reachK (_) (by rw [Bool.eq_iff_iff]; simp only [decide_eq_true_eq, eq_self, true_iff, Bool.false_eq_true, false_iff]; omega) (Sx.put rfl (sx_)) (Sp.all sp_)
   ·refine sr_ ?_
    skip
    refine WL.y rfl (Yd.eql rfl rfl) ?_
    refine a_ rfl rfl ?_
    refine nt_ ?_
    first | refine WC.ite rfl (fun h25 => ?_) (fun h25 => ?_) | refine WC.cond rfl (fun h25 => ?_) (fun h25 => ?_)
    ·refine WC.skip ?_
     exact DN.reachK (_) (by rw [Bool.eq_iff_iff]; simp only [decide_eq_true_eq, eq_self, true_iff, Bool.false_eq_true, false_iff]; omega) (Sx.put rfl (sx_)) (Sp.all sp_)
    ·refine WC.region ?_
     refine WL.y rfl (Yd.eql rfl rfl) ?_
     refine a_ rfl rfl ?_
     refine WL.nil ?_
     exact DN.reachK (_) (by rw [Bool.eq_iff_iff]; simp only [decide_eq_true_eq, eq_self, true_iff, Bool.false_eq_true, false_iff]; omega) (Sx.put rfl (sx_)) (Sp.all sp_)
  ·intro z25 hz25
   first | refine WC.ite rfl (fun h25 => ?_) (fun h25 => ?_) | refine WC.cond rfl (fun h25 => ?_) (fun h25 => ?_)
   ·refine WC.seq ?_
    refine sr_ ?_
    refine f_ 2 kr_ rfl rfl ?_
    refine d_ kr_ rfl mem_ (by rfl) rfl ?_
    refine WL.y rfl (Yd.len (e := 5) kr_ rfl) ?_
    refine WL.y rfl (Yd.neq rfl rfl) ?_
    refine m_ rfl rfl ?_
    refine WL.partP (t := 33) rfl (fun hg33 => ?_) (fun hg33 => ?_)
    ·iterate 8 refine gn_ 33 rfl rfl rfl rfl ?_
     refine WL.y rfl (Yd.pickT rfl rfl) ?_
     refine nt_ ?_
     refine WC.yes rfl ?_
     refine sr_ ?_
     refine a_ rfl rfl ?_
     refine a_ rfl rfl ?_
     refine nt_ ?_
     refine WC.ret ?_
     refine DN.then_ret ?_
     refine DN.block_ret ?_
     refine DN.then_ret ?_
     first | refine DN.fit (C := C1 ++ H) sp_ ?_ | refine DN.fit (C := H) sp_ ?_
     refine DN.ret2 Tryz.results77 rfl rfl ?_
     first
     | (rw [oneF_0a hs0 h11]; exact ⟨_, [], rfl, Ob.nil _, rfl⟩)
     | (rw [oneF_0b hs0 h11 (by omega)]; exact ⟨_, [], rfl, Ob.nil _, rfl⟩)
     | (rw [oneF_0c hs0 h11 (by omega)]; exact ⟨_, C1, rfl, ho1, rfl⟩)
     | (rw [oneF_1b hs0 (of_decide_eq_true (hz25.symm.trans h25)) (one_ok hg33 h42)]; exact ⟨_, C1, rfl, hC1, rfl⟩)
     | (rw [oneF_1a hs0 (of_decide_eq_true (hz25.symm.trans h25)) (.inl (by omega))]; exact ⟨_, [], rfl, Ob.nil _, rfl⟩)
     | (rw [oneF_1a hs0 (of_decide_eq_true (hz25.symm.trans h25)) (.inr (Int.ofNat_le.1 h42))]; exact ⟨_, [], rfl, Ob.nil _, rfl⟩)
     | (rw [oneF_8a hs0 (of_decide_eq_false (hz25.symm.trans h25)) hs8 (by omega)]; exact ⟨_, [], rfl, Ob.nil _, rfl⟩)
     | (rw [oneF_8b hs0 (of_decide_eq_false (hz25.symm.trans h25)) hs8 (by omega)]; exact ⟨_, C1, rfl, hC1, rfl⟩)
     | (rw [oneF_no hs0 (of_decide_eq_false (hz25.symm.trans h25)) hs8]; exact ⟨_, [], rfl, Ob.nil _, rfl⟩)
    ·refine gy_ 33 rfl rfl rfl (Yd.fieldAddr (k := 1) kr_ rfl) ?_
     refine WL.gh (dj := 33) rfl rfl rfl (Hd.load1 kr_ rfl mem_ (by rfl) ⟨_, rfl, ?_⟩)
     refine gy_ 33 rfl rfl rfl (Yd.fieldAddr (k := 0) kr_ rfl) ?_
     refine WL.gh (dj := 33) rfl rfl rfl (Hd.load1 kr_ rfl mem_ (by rfl) ⟨_, rfl, ?_⟩)
     refine gy_ 33 rfl rfl rfl (Yd.mul rfl rfl (by omega) (by omega)) ?_
     refine gy_ 33 rfl rfl rfl (Yd.to64 _ kr_ kr_ rfl rfl) ?_
     refine gy_ 33 rfl rfl rfl (Yd.shl64 (1#64) _ rfl rfl rfl rfl) ?_
     refine gy_ 33 rfl rfl rfl (Yd.geq rfl rfl) ?_
     refine WL.y rfl (Yd.pickF rfl rfl) ?_
     refine nt_ ?_
     refine WC.ite rfl (fun h42 => ?_) (fun h42 => ?_)
     ·refine sr_ ?_
      refine a_ rfl rfl ?_
      refine a_ rfl rfl ?_
      refine nt_ ?_
      refine WC.ret ?_
      refine DN.then_ret ?_
      refine DN.block_ret ?_
      refine DN.then_ret ?_
      first | refine DN.fit (C := C1 ++ H) sp_ ?_ | refine DN.fit (C := H) sp_ ?_
      refine DN.ret2 Tryz.results77 rfl rfl ?_
      first
      | (rw [oneF_0a hs0 h11]; exact ⟨_, [], rfl, Ob.nil _, rfl⟩)
      | (rw [oneF_0b hs0 h11 (by omega)]; exact ⟨_, [], rfl, Ob.nil _, rfl⟩)
      | (rw [oneF_0c hs0 h11 (by omega)]; exact ⟨_, C1, rfl, ho1, rfl⟩)
      | (rw [oneF_1b hs0 (of_decide_eq_true (hz25.symm.trans h25)) (one_ok hg33 h42)]; exact ⟨_, C1, rfl, hC1, rfl⟩)
      | (rw [oneF_1a hs0 (of_decide_eq_true (hz25.symm.trans h25)) (.inl (by omega))]; exact ⟨_, [], rfl, Ob.nil _, rfl⟩)
      | (rw [oneF_1a hs0 (of_decide_eq_true (hz25.symm.trans h25)) (.inr (Int.ofNat_le.1 h42))]; exact ⟨_, [], rfl, Ob.nil _, rfl⟩)
      | (rw [oneF_8a hs0 (of_decide_eq_false (hz25.symm.trans h25)) hs8 (by omega)]; exact ⟨_, [], rfl, Ob.nil _, rfl⟩)
      | (rw [oneF_8b hs0 (of_decide_eq_false (hz25.symm.trans h25)) hs8 (by omega)]; exact ⟨_, C1, rfl, hC1, rfl⟩)
      | (rw [oneF_no hs0 (of_decide_eq_false (hz25.symm.trans h25)) hs8]; exact ⟨_, [], rfl, Ob.nil _, rfl⟩)
     ·refine WC.skip ?_
      refine ts_ ?_
      refine WC.region ?_
      refine f_ 1 kr_ rfl rfl ?_
      refine d_ kr_ rfl mem_ (by rfl) rfl ?_
      refine f_ 0 kr_ rfl rfl ?_
      refine d_ kr_ rfl mem_ (by rfl) rfl ?_
      refine WL.c rfl (Ent.func Tryz.call116 rfl) (rnum_tells f.n f.size hs H) (Sp.p sp_) ?_
      rintro x1 H1 ⟨C1, hC1, rfl⟩
      refine a_ rfl rfl ?_
      refine a_ rfl rfl ?_
      refine nt_ ?_
      refine WC.ret ?_
      refine DN.block_ret ?_
      refine DN.then_ret ?_
      first | refine DN.fit (C := C1 ++ H) sp_ ?_ | refine DN.fit (C := H) sp_ ?_
      refine DN.ret2 Tryz.results77 rfl rfl ?_
      first
      | (rw [oneF_0a hs0 h11]; exact ⟨_, [], rfl, Ob.nil _, rfl⟩)
      | (rw [oneF_0b hs0 h11 (by omega)]; exact ⟨_, [], rfl, Ob.nil _, rfl⟩)
      | (rw [oneF_0c hs0 h11 (by omega)]; exact ⟨_, C1, rfl, ho1, rfl⟩)
      | (rw [oneF_1b hs0 (of_decide_eq_true (hz25.symm.trans h25)) (one_ok hg33 h42)]; exact ⟨_, C1, rfl, hC1, rfl⟩)
      | (rw [oneF_1a hs0 (of_decide_eq_true (hz25.symm.trans h25)) (.inl (by omega))]; exact ⟨_, [], rfl, Ob.nil _, rfl⟩)
      | (rw [oneF_1a hs0 (of_decide_eq_true (hz25.symm.trans h25)) (.inr (Int.ofNat_le.1 h42))]; exact ⟨_, [], rfl, Ob.nil _, rfl⟩)
      | (rw [oneF_8a hs0 (of_decide_eq_false (hz25.symm.trans h25)) hs8 (by omega)]; exact ⟨_, [], rfl, Ob.nil _, rfl⟩)
      | (rw [oneF_8b hs0 (of_decide_eq_false (hz25.symm.trans h25)) hs8 (by omega)]; exact ⟨_, C1, rfl, hC1, rfl⟩)
      | (rw [oneF_no hs0 (of_decide_eq_false (hz25.symm.trans h25)) hs8]; exact ⟨_, [], rfl, Ob.nil _, rfl⟩)
   ·refine sr_ ?_
    refine WL.y rfl (Yd.eql rfl rfl) ?_
    refine a_ rfl rfl ?_
    refine nt_ ?_
    refine WC.ite rfl (fun h48 => ?_) (fun h48 => ?_)
    ·have hs8 : f.size = 8 := by omega
     refine WC.seq ?_
     refine sr_ ?_
     refine f_ 2 kr_ rfl rfl ?_
     refine d_ kr_ rfl mem_ (by rfl) rfl ?_
     refine WL.y rfl (Yd.len (e := 5) kr_ rfl) ?_
     refine WL.y rfl (Yd.neq rfl rfl) ?_
     refine nt_ ?_
     refine WC.ite rfl (fun h53 => ?_) (fun h53 => ?_)
     ·refine sr_ ?_
      refine a_ rfl rfl ?_
      refine a_ rfl rfl ?_
      refine nt_ ?_
      refine WC.ret ?_
      refine DN.then_ret ?_
      refine DN.block_ret ?_
      refine DN.then_ret ?_
      first | refine DN.fit (C := C1 ++ H) sp_ ?_ | refine DN.fit (C := H) sp_ ?_
      refine DN.ret2 Tryz.results77 rfl rfl ?_
      first
      | (rw [oneF_0a hs0 h11]; exact ⟨_, [], rfl, Ob.nil _, rfl⟩)
      | (rw [oneF_0b hs0 h11 (by omega)]; exact ⟨_, [], rfl, Ob.nil _, rfl⟩)
      | (rw [oneF_0c hs0 h11 (by omega)]; exact ⟨_, C1, rfl, ho1, rfl⟩)
      | (rw [oneF_1b hs0 (of_decide_eq_true (hz25.symm.trans h25)) (one_ok hg33 h42)]; exact ⟨_, C1, rfl, hC1, rfl⟩)
      | (rw [oneF_1a hs0 (of_decide_eq_true (hz25.symm.trans h25)) (.inl (by omega))]; exact ⟨_, [], rfl, Ob.nil _, rfl⟩)
      | (rw [oneF_1a hs0 (of_decide_eq_true (hz25.symm.trans h25)) (.inr (Int.ofNat_le.1 h42))]; exact ⟨_, [], rfl, Ob.nil _, rfl⟩)
      | (rw [oneF_8a hs0 (of_decide_eq_false (hz25.symm.trans h25)) hs8 (by omega)]; exact ⟨_, [], rfl, Ob.nil _, rfl⟩)
      | (rw [oneF_8b hs0 (of_decide_eq_false (hz25.symm.trans h25)) hs8 (by omega)]; exact ⟨_, C1, rfl, hC1, rfl⟩)
      | (rw [oneF_no hs0 (of_decide_eq_false (hz25.symm.trans h25)) hs8]; exact ⟨_, [], rfl, Ob.nil _, rfl⟩)
     ·refine WC.skip ?_
      refine ts_ ?_
      refine WC.region ?_
      refine f_ 1 kr_ rfl rfl ?_
      refine d_ kr_ rfl mem_ (by rfl) rfl ?_
      refine WL.c rfl (Ent.func Tryz.call116 rfl) (rnum_tells f.n 8 (by omega) H) (Sp.p sp_) ?_
      rintro x1 H1 ⟨C1, hC1, rfl⟩
      refine a_ rfl rfl ?_
      refine a_ rfl rfl ?_
      refine nt_ ?_
      refine WC.ret ?_
      refine DN.block_ret ?_
      refine DN.then_ret ?_
      first | refine DN.fit (C := C1 ++ H) sp_ ?_ | refine DN.fit (C := H) sp_ ?_
      refine DN.ret2 Tryz.results77 rfl rfl ?_
      first
      | (rw [oneF_0a hs0 h11]; exact ⟨_, [], rfl, Ob.nil _, rfl⟩)
      | (rw [oneF_0b hs0 h11 (by omega)]; exact ⟨_, [], rfl, Ob.nil _, rfl⟩)
      | (rw [oneF_0c hs0 h11 (by omega)]; exact ⟨_, C1, rfl, ho1, rfl⟩)
      | (rw [oneF_1b hs0 (of_decide_eq_true (hz25.symm.trans h25)) (one_ok hg33 h42)]; exact ⟨_, C1, rfl, hC1, rfl⟩)
      | (rw [oneF_1a hs0 (of_decide_eq_true (hz25.symm.trans h25)) (.inl (by omega))]; exact ⟨_, [], rfl, Ob.nil _, rfl⟩)
      | (rw [oneF_1a hs0 (of_decide_eq_true (hz25.symm.trans h25)) (.inr (Int.ofNat_le.1 h42))]; exact ⟨_, [], rfl, Ob.nil _, rfl⟩)
      | (rw [oneF_8a hs0 (of_decide_eq_false (hz25.symm.trans h25)) hs8 (by omega)]; exact ⟨_, [], rfl, Ob.nil _, rfl⟩)
      | (rw [oneF_8b hs0 (of_decide_eq_false (hz25.symm.trans h25)) hs8 (by omega)]; exact ⟨_, C1, rfl, hC1, rfl⟩)
      | (rw [oneF_no hs0 (of_decide_eq_false (hz25.symm.trans h25)) hs8]; exact ⟨_, [], rfl, Ob.nil _, rfl⟩)
    ·have hs8 : ¬ f.size = 8 := by omega
     refine WC.skip ?_
     refine DN.block_normal ?_
     refine ts_ ?_
     refine WC.region ?_
     refine a_ rfl rfl ?_
     refine a_ rfl rfl ?_
     refine nt_ ?_
     refine WC.ret ?_
     first | refine DN.fit (C := C1 ++ H) sp_ ?_ | refine DN.fit (C := H) sp_ ?_
     refine DN.ret2 Tryz.results77 rfl rfl ?_
     first
     | (rw [oneF_0a hs0 h11]; exact ⟨_, [], rfl, Ob.nil _, rfl⟩)
     | (rw [oneF_0b hs0 h11 (by omega)]; exact ⟨_, [], rfl, Ob.nil _, rfl⟩)
     | (rw [oneF_0c hs0 h11 (by omega)]; exact ⟨_, C1, rfl, ho1, rfl⟩)
     | (rw [oneF_1b hs0 (of_decide_eq_true (hz25.symm.trans h25)) (one_ok hg33 h42)]; exact ⟨_, C1, rfl, hC1, rfl⟩)
     | (rw [oneF_1a hs0 (of_decide_eq_true (hz25.symm.trans h25)) (.inl (by omega))]; exact ⟨_, [], rfl, Ob.nil _, rfl⟩)
     | (rw [oneF_1a hs0 (of_decide_eq_true (hz25.symm.trans h25)) (.inr (Int.ofNat_le.1 h42))]; exact ⟨_, [], rfl, Ob.nil _, rfl⟩)
     | (rw [oneF_8a hs0 (of_decide_eq_false (hz25.symm.trans h25)) hs8 (by omega)]; exact ⟨_, [], rfl, Ob.nil _, rfl⟩)
     | (rw [oneF_8b hs0 (of_decide_eq_false (hz25.symm.trans h25)) hs8 (by omega)]; exact ⟨_, C1, rfl, hC1, rfl⟩)
     | (rw [oneF_no hs0 (of_decide_eq_false (hz25.symm.trans h25)) hs8]; exact ⟨_, [], rfl, Ob.nil _, rfl⟩)
theorem rput_tells (v : Value) (cs : List Value) (fs : List Fld) (H : List Ck) (hr : Rs v fs.length cs H) (hk : FVs H cs fs) (hl : fs.length ≤ 3000) (hb : ∀ f ∈ fs, f.text.length ≤ 1000000 ∧ f.size ≤ 8) : Tells Tryz.prog 46 [v] H fun r H' => ∃ w A, r = .tuple #[w, .int .i64 (putL fs []).2] ∧ Ob 5 w (putL fs []).1 A ∧ H' = A ++ H := by
 refine Tells.enter Tryz.func46 rfl Tryz.ntmps46 rfl ?_
 intro w0 R
 obtain ⟨ao, c, rfl, hc⟩ := hr.form
 have hcl := hk.len
 refine sr_ ?_
 refine a_ rfl rfl ?_
 refine a_ rfl rfl ?_
 refine ntsr_ ?_
 refine a_ rfl rfl ?_
 refine nt_ ?_
 refine WC.seq ?_
 refine sr_ ?_
 refine a_ rfl rfl ?_
 refine nt_ ?_
 refine WC.block ?_
 refine WC.loopS (fun z : Nat × List (BitVec 8) × Value × List Ck => z.1 ≤ fs.length ∧ z.2.1.length ≤ z.1 * 256 ∧ putL fs [] = putL (fs.drop z.1) z.2.1 ∧ Ob 5 z.2.2.1 z.2.1 z.2.2.2) (fun z : Nat × List (BitVec 8) × Value × List Ck => [(4, z.2.2.1), (5, .int .i64 (z.1 : Int))]) (fun z : Nat × List (BitVec 8) × Value × List Ck => z.2.2.2 ++ H) (fun z : Nat × List (BitVec 8) × Value × List Ck => fs.length - z.1) (⟨0, [], .slice none 0 0, []⟩) (show 0 ≤ fs.length ∧ [].length ≤ 0 * 256 ∧ putL fs [] = putL (fs.drop 0) [] ∧ Ob 5 (.slice none 0 0) [] [] from ⟨Nat.zero_le _, Nat.le_refl _, rfl, Ob.nil _⟩) (Sx.put rfl (Sx.put rfl (sx_))) sp_ ?_
 rintro ⟨i, o, w, A⟩ hI
 replace hI : i ≤ fs.length ∧ o.length ≤ i * 256 ∧ putL fs [] = putL (fs.drop i) o ∧ Ob 5 w o A := hI
 obtain ⟨hi, hol, hput, hA⟩ := hI
 change WC _ _ _ _ _ _ ([(4, w), (5, .int .i64 (i : Int))] ++ _) (A ++ H)
 refine WC.seq ?_
 refine sr_ ?_
 refine m_ rfl rfl ?_
 refine m_ rfl rfl ?_
 refine WL.y rfl (Yd.len (e := 98) kr_ rfl) ?_
 refine WL.y rfl (Yd.lss rfl rfl) ?_
 refine nt_ ?_
 refine WC.ite rfl (fun h11 => ?_) (fun h11 => ?_)
 ·have hlt : i < fs.length := by omega
  obtain ⟨vt, hg, hvt⟩ := hk.at i hlt
  have hcons := List.drop_eq_getElem_cons hlt
  have hbi := hb _ (List.getElem_mem hlt)
  have hol1 := oneF_len fs[i]
  refine WC.skip ?_
  refine ts_ ?_
  refine WC.block ?_
  refine sr_ ?_
  refine m_ rfl rfl ?_
  refine m_ rfl rfl ?_
  refine WL.elemA (e := 98) (s := 3) kr_ kr_ kr_ rfl rfl (rfl) (hr.mono gr_) (hg) (by rfl) (by omega) (hlt) rfl rfl ?_
  intro p17
  refine WL.c rfl (Ent.func Tryz.call77 rfl) (rone_tells fs[i] vt H hvt hbi.1 hbi.2) (Sp.p sp_) ?_
  rintro x1 H1 ⟨w1, A1, rfl, hA1, rfl⟩
  refine m_ rfl rfl ?_
  refine x_ rfl rfl rfl ?_
  refine x_ rfl rfl rfl ?_
  refine a_ rfl rfl ?_
  refine a_ rfl rfl ?_
  refine nt_ ?_
  refine WC.seq ?_
  refine sr_ ?_
  refine m_ rfl rfl ?_
  refine WL.y rfl (Yd.neq rfl rfl) ?_
  refine nt_ ?_
  refine WC.ite rfl (fun h23 => ?_) (fun h23 => ?_)
  ·refine sr_ ?_
   refine m_ rfl rfl ?_
   refine a_ rfl rfl ?_
   refine a_ rfl rfl ?_
   refine nt_ ?_
   refine WC.ret ?_
   refine DN.then_ret ?_
   refine DN.block_ret ?_
   refine DN.then_ret ?_
   refine DN.then_ret ?_
   refine DN.block_ret ?_
   refine DN.then_ret ?_
   refine DN.fit (C := H) sp_ ?_
   refine DN.ret2 Tryz.results46 rfl rfl ?_
   rw [hput, hcons, putL_err h23]
   exact ⟨_, [], rfl, Ob.nil _, rfl⟩
  ·refine WC.skip ?_
   refine DN.then_normal ?_
   refine WC.region ?_
   refine m_ rfl rfl ?_
   refine m_ rfl rfl ?_
   refine WL.h rfl (Hd.appendBs (e := 5) (zs := [.int .u8 0]) kr_ kr_ rfl rfl rfl hA sp_ (hA1.bs.mono gr_) (by omega) fun v2 C2 ho2 => ⟨_, rfl, ?_⟩)
   refine a_ rfl rfl ?_
   refine WL.nil ?_
   refine DN.block_normal ?_
   refine DN.then_normal ?_
   refine WC.region ?_
   refine m_ rfl rfl ?_
   refine WL.y rfl (Yd.add rfl rfl (by omega) (by omega)) ?_
   refine a_ rfl rfl ?_
   refine WL.nil ?_
   exact DN.againS (⟨i + 1, o ++ (oneF fs[i]).1, v2, C2⟩) (show (i + 1) ≤ fs.length ∧ (o ++ (oneF fs[i]).1).length ≤ (i + 1) * 256 ∧ putL fs [] = putL (fs.drop (i + 1)) (o ++ (oneF fs[i]).1) ∧ Ob 5 v2 (o ++ (oneF fs[i]).1) C2 from ⟨by omega, by rw [List.length_append]; omega, by rw [hput, hcons, putL_ok h23], ho2⟩) (show fs.length - (i + 1) < fs.length - i by omega) (Sx.put rfl (Sx.put rfl (sx_))) sp_
 ·obtain rfl : fs.length = i := by omega
  rw [List.drop_length] at hput
  refine WC.exit ?_
  refine DN.then_exit ?_
  refine DN.then_exit ?_
  refine DN.block_exit ?_
  refine ts_ ?_
  refine WC.region ?_
  refine m_ rfl rfl ?_
  refine a_ rfl rfl ?_
  refine a_ rfl rfl ?_
  refine nt_ ?_
  refine WC.ret ?_
  refine DN.fit (C := A ++ H) sp_ ?_
  refine DN.ret2 Tryz.results46 rfl rfl ?_
  rw [hput]
  exact ⟨_, A, rfl, hA, rfl⟩
end Go.Proofs.YtkamlondepceiaaGreat

set_option linter.unusedVariables false
set_option linter.unusedSimpArgs false
set_option maxHeartbeats 4000000
namespace Go.Proofs.YtkamlondepceiaaGreat
open Go.SL
theorem rencode_tells (w : Wk) (v : Value) (H : List Ck) (hv : Bs v w.name H) (hl : w.name.length ≤ 1000000) : Tells Tryz.prog 12 [.agg (wkc w v).toArray] H fun r H' => ∃ x A, r = .tuple #[x, .int .i64 (encE w)] ∧ Ob 5 x (encB w) A ∧ H' = A ++ H := by
 refine Tells.enter Tryz.func12 rfl Tryz.ntmps12 rfl ?_
 intro w0 R
 obtain ⟨no, nc, rfl, hnc⟩ := hv.form
 refine sr_ ?_
 refine WL.h rfl (Hd.boxA rfl fun b1 => ⟨_, rfl, ?_⟩)
 refine a_ rfl rfl ?_
 refine a_ rfl rfl ?_
 refine nt_ ?_
 refine WC.seq ?_
 refine WC.cutK (fun z : Bool => z = !decide (wkGood w)) (fun z : Bool => [(27, .bool z)]) (fun z : Bool => row b1 (wkc w (.slice no w.name.length nc)) 24 :: H) ?_ ?_
 ·refine WC.region ?_
  refine f_ 0 kr_ rfl rfl ?_
  refine d_ kr_ rfl mem_ (by rfl) rfl ?_
  refine WL.y rfl (Yd.lss rfl rfl) ?_
  refine m_ rfl rfl ?_
  refine WL.partP (t := 7) rfl (fun hg7 => ?_) (fun hg7 => ?_)
  ·iterate 3 refine gn_ 7 rfl rfl rfl rfl ?_
   refine WL.y rfl (Yd.pickT rfl rfl) ?_
   refine m_ rfl rfl ?_
   iterate 3 refine gn_ 12 rfl rfl rfl rfl ?_
   refine WL.y rfl (Yd.pickT rfl rfl) ?_
   refine m_ rfl rfl ?_
   iterate 3 refine gn_ 17 rfl rfl rfl rfl ?_
   refine WL.y rfl (Yd.pickT rfl rfl) ?_
   refine m_ rfl rfl ?_
   iterate 4 refine gn_ 22 rfl rfl rfl rfl ?_
   refine WL.y rfl (Yd.pickT rfl rfl) ?_
   refine WL.nil ?_
   exact DN.reachK (_) (wk_z (by unfold wkGood; simp only [decide_eq_true_eq, eq_self, true_iff, Bool.false_eq_true, false_iff]; omega)) (Sx.put rfl (sx_)) (Sp.all sp_)
  ·refine gy_ 7 rfl rfl rfl (Yd.fieldAddr (k := 0) kr_ rfl) ?_
   refine WL.gh (dj := 7) rfl rfl rfl (Hd.load1 kr_ rfl mem_ (by rfl) ⟨_, rfl, ?_⟩)
   refine gy_ 7 rfl rfl rfl (Yd.gtr rfl rfl) ?_
   refine WL.y rfl (Yd.pickF rfl rfl) ?_
   refine m_ rfl rfl ?_
   refine WL.partP (t := 12) rfl (fun hg12 => ?_) (fun hg12 => ?_)
   ·iterate 3 refine gn_ 12 rfl rfl rfl rfl ?_
    refine WL.y rfl (Yd.pickT rfl rfl) ?_
    refine m_ rfl rfl ?_
    iterate 3 refine gn_ 17 rfl rfl rfl rfl ?_
    refine WL.y rfl (Yd.pickT rfl rfl) ?_
    refine m_ rfl rfl ?_
    iterate 4 refine gn_ 22 rfl rfl rfl rfl ?_
    refine WL.y rfl (Yd.pickT rfl rfl) ?_
    refine WL.nil ?_
    exact DN.reachK (_) (wk_z (by unfold wkGood; simp only [decide_eq_true_eq, eq_self, true_iff, Bool.false_eq_true, false_iff]; omega)) (Sx.put rfl (sx_)) (Sp.all sp_)
   ·refine gy_ 12 rfl rfl rfl (Yd.fieldAddr (k := 1) kr_ rfl) ?_
    refine WL.gh (dj := 12) rfl rfl rfl (Hd.load1 kr_ rfl mem_ (by rfl) ⟨_, rfl, ?_⟩)
    refine gy_ 12 rfl rfl rfl (Yd.lss rfl rfl) ?_
    refine WL.y rfl (Yd.pickF rfl rfl) ?_
    refine m_ rfl rfl ?_
    refine WL.partP (t := 17) rfl (fun hg17 => ?_) (fun hg17 => ?_)
    ·iterate 3 refine gn_ 17 rfl rfl rfl rfl ?_
     refine WL.y rfl (Yd.pickT rfl rfl) ?_
     refine m_ rfl rfl ?_
     iterate 4 refine gn_ 22 rfl rfl rfl rfl ?_
     refine WL.y rfl (Yd.pickT rfl rfl) ?_
     refine WL.nil ?_
     exact DN.reachK (_) (wk_z (by unfold wkGood; simp only [decide_eq_true_eq, eq_self, true_iff, Bool.false_eq_true, false_iff]; omega)) (Sx.put rfl (sx_)) (Sp.all sp_)
    ·refine gy_ 17 rfl rfl rfl (Yd.fieldAddr (k := 1) kr_ rfl) ?_
     refine WL.gh (dj := 17) rfl rfl rfl (Hd.load1 kr_ rfl mem_ (by rfl) ⟨_, rfl, ?_⟩)
     refine gy_ 17 rfl rfl rfl (Yd.gtr rfl rfl) ?_
     refine WL.y rfl (Yd.pickF rfl rfl) ?_
     refine m_ rfl rfl ?_
     refine WL.partP (t := 22) rfl (fun hg22 => ?_) (fun hg22 => ?_)
     ·iterate 4 refine gn_ 22 rfl rfl rfl rfl ?_
      refine WL.y rfl (Yd.pickT rfl rfl) ?_
      refine WL.nil ?_
      exact DN.reachK (_) (wk_z (by unfold wkGood; simp only [decide_eq_true_eq, eq_self, true_iff, Bool.false_eq_true, false_iff]; omega)) (Sx.put rfl (sx_)) (Sp.all sp_)
     ·refine gy_ 22 rfl rfl rfl (Yd.fieldAddr (k := 2) kr_ rfl) ?_
      refine WL.gh (dj := 22) rfl rfl rfl (Hd.load1 kr_ rfl mem_ (by rfl) ⟨_, rfl, ?_⟩)
      refine gy_ 22 rfl rfl rfl (Yd.len (e := 5) kr_ rfl) ?_
      refine gy_ 22 rfl rfl rfl (Yd.gtr rfl rfl) ?_
      refine WL.y rfl (Yd.pickF rfl rfl) ?_
      refine WL.nil ?_
      exact DN.reachK (_) (wk_z (by unfold wkGood; simp only [decide_eq_true_eq, eq_self, true_iff, Bool.false_eq_true, false_iff]; omega)) (Sx.put rfl (sx_)) (Sp.all sp_)
 ·intro z hz
  refine WC.cond rfl (fun h27 => ?_) (fun h27 => ?_)
  ·have hb : ¬ wkGood w := by rw [hz] at h27; simpa using h27
   refine sr_ ?_
   refine a_ rfl rfl ?_
   refine a_ rfl rfl ?_
   refine nt_ ?_
   refine WC.ret ?_
   refine DN.then_ret ?_
   refine DN.fit (C := H) sp_ ?_
   refine DN.ret2 Tryz.results12 rfl rfl ?_
   rw [(enc_bad hb).1, (enc_bad hb).2]
   exact ⟨_, [], rfl, Ob.nil _, rfl⟩
  ·have hg : wkGood w := by rw [hz] at h27; simpa using h27
   have hF : FVs H ((fdc ⟨1, BitVec.ofInt 64 w.what, []⟩ (.slice none 0 0)) ++ (fdc ⟨4, BitVec.ofInt 64 w.n, []⟩ (.slice none 0 0)) ++ (fdc ⟨0, 0#64, w.name⟩ (.slice no w.name.length nc))) (fsW w) := FVs.cons (f := ⟨1, BitVec.ofInt 64 w.what, []⟩) (.inl ⟨_, _, rfl, rfl, rfl⟩) (FVs.cons (f := ⟨4, BitVec.ofInt 64 w.n, []⟩) (.inl ⟨_, _, rfl, rfl, rfl⟩) (FVs.cons (f := ⟨0, 0#64, w.name⟩) hv .nil))
   refine WC.skip ?_
   refine ts_ ?_
   refine WC.region ?_
   refine f_ 0 kr_ rfl rfl ?_
   refine d_ kr_ rfl mem_ (by rfl) rfl ?_
   refine WL.y rfl (Yd.to64 _ kr_ kr_ rfl rfl) ?_
   refine WL.y rfl (Yd.buildL (pl := [(0, 1), (1, 1), (2, 1)]) (zs := [.int .i64 0, .int .u64 0, .slice none 0 0]) (parts := [(0, .const (.int .i64 1)), (1, .tmp 30)]) (vs := [(0, _), (1, _)]) (cells := [_, _, .slice none 0 0]) kr_ kr_ rfl rfl) ?_
   refine f_ 1 kr_ rfl rfl ?_
   refine d_ kr_ rfl mem_ (by rfl) rfl ?_
   refine WL.y rfl (Yd.to64 _ kr_ kr_ rfl rfl) ?_
   refine WL.y rfl (Yd.buildL (pl := [(0, 1), (1, 1), (2, 1)]) (zs := [.int .i64 0, .int .u64 0, .slice none 0 0]) (parts := [(0, .const (.int .i64 4)), (1, .tmp 34)]) (vs := [(0, _), (1, _)]) (cells := [_, _, .slice none 0 0]) kr_ kr_ rfl rfl) ?_
   refine f_ 2 kr_ rfl rfl ?_
   refine d_ kr_ rfl mem_ (by rfl) rfl ?_
   refine WL.y rfl (Yd.buildL (pl := [(0, 1), (1, 1), (2, 1)]) (zs := [.int .i64 0, .int .u64 0, .slice none 0 0]) (parts := [(2, .tmp 37)]) (vs := [(2, _)]) (cells := [.int .i64 0, .int .u64 0, _]) kr_ kr_ rfl rfl) ?_
   refine WL.h rfl (Hd.buildSlice (e := 98) (sz := 3) (zs := [.int .i64 0, .int .u64 0, .slice none 0 0]) (parts := [(0, .tmp 31), (1, .tmp 35), (2, .tmp 38)]) (vs := [(0, .agg (fdc ⟨1, BitVec.ofInt 64 w.what, []⟩ (.slice none 0 0)).toArray), (1, .agg (fdc ⟨4, BitVec.ofInt 64 w.n, []⟩ (.slice none 0 0)).toArray), (2, .agg (fdc ⟨0, 0#64, w.name⟩ (.slice no w.name.length nc)).toArray)]) (cells := (fdc ⟨1, BitVec.ofInt 64 w.what, []⟩ (.slice none 0 0)) ++ (fdc ⟨4, BitVec.ofInt 64 w.n, []⟩ (.slice none 0 0)) ++ (fdc ⟨0, 0#64, w.name⟩ (.slice no w.name.length nc))) kr_ kr_ kr_ rfl kr_ kr_ fun b39 => ⟨_, rfl, ?_⟩)
   refine WL.c rfl (Ent.func Tryz.call46 rfl) (rput_tells _ ((fdc ⟨1, BitVec.ofInt 64 w.what, []⟩ (.slice none 0 0)) ++ (fdc ⟨4, BitVec.ofInt 64 w.n, []⟩ (.slice none 0 0)) ++ (fdc ⟨0, 0#64, w.name⟩ (.slice no w.name.length nc))) (fsW w) (row b39 ((fdc ⟨1, BitVec.ofInt 64 w.what, []⟩ (.slice none 0 0)) ++ (fdc ⟨4, BitVec.ofInt 64 w.n, []⟩ (.slice none 0 0)) ++ (fdc ⟨0, 0#64, w.name⟩ (.slice no w.name.length nc))) 98 :: H) (.inr ⟨b39, 0, 3, _, 98, (0, 0), true, rfl, Nat.le_refl _, List.mem_cons_self, rfl⟩) (hF.mono gr_) (by show 3 ≤ 3000; omega) (wfs_small w hl)) (Sp.p sp_) ?_
   rintro x1 H1 ⟨x2, A, rfl, hA, rfl⟩
   rw [putL_W hg] at hA ⊢
   refine x_ rfl rfl rfl ?_
   refine x_ rfl rfl rfl ?_
   refine a_ rfl rfl ?_
   refine a_ rfl rfl ?_
   refine nt_ ?_
   refine WC.ret ?_
   refine DN.fit (C := A ++ H) sp_ ?_
   refine DN.ret2 Tryz.results12 rfl rfl ?_
   rw [(enc_good hg).1, (enc_good hg).2]
   exact ⟨_, A, rfl, hA, rfl⟩
end Go.Proofs.YtkamlondepceiaaGreat

set_option linter.unusedVariables false
set_option linter.unusedSimpArgs false
set_option maxHeartbeats 4000000
namespace Go.Proofs.YtkamlondepceiaaGreat
open Go.SL
theorem step_tells (ep o : BitVec 32) (st : Int) (u : Bool) (w : Wk) (v : Value) (H : List Ck) (hv : Bs v w.name H) (hl : w.name.length ≤ 1000000) : Tells Tryz.prog 39 [.int .u32 ep.toNat, .int .u32 o.toNat, .int .i64 st, .bool u, .agg (wkc w v).toArray] H fun r H' => ∃ x A, r = .agg (ntc (stepW ep o st u (encB w)) (.slice none 0 0) x).toArray ∧ Ob 5 x (encB w) A ∧ H' = A ++ H := by
 refine Tells.enter Tryz.func39 rfl Tryz.ntmps39 rfl ?_
 intro w0 R
 obtain ⟨no, nc, rfl, hnc⟩ := hv.form
 refine sr_ ?_
 refine WL.h rfl (Hd.boxA rfl fun b9 => ⟨_, rfl, ?_⟩)
 refine WL.h rfl (Hd.alloc (zs := [.int .i64 0, .int .u32 0, .int .u32 0, .int .u64 0, .int .u64 0, .int .u32 0, .int .i64 0, .bool false, .int .i64 0, .slice none 0 0, .slice none 0 0]) kr_ fun b10 => ⟨_, rfl, ?_⟩)
 refine ntsr_ ?_
 refine WL.h rfl (Hd.loadAll (n := 3) kr_ rfl mem_ (by rfl) ⟨_, rfl, ?_⟩)
 refine WL.c rfl (Ent.func Tryz.call12 rfl) (rencode_tells w _ H hv hl) (Sp.p sp_) ?_
 rintro x0 H9 ⟨x, A, rfl, hA, rfl⟩
 obtain ⟨xo, xc, rfl, _⟩ := hA.form
 refine m_ rfl rfl ?_
 refine x_ rfl rfl rfl ?_
 refine x_ rfl rfl rfl ?_
 refine a_ rfl rfl ?_
 refine a_ rfl rfl ?_
 refine ntsr_ ?_
 iterate 5 refine m_ rfl rfl ?_
 refine WL.y rfl (Yd.buildL (pl := [(0, 1), (1, 1), (2, 1), (3, 1), (4, 1), (5, 1), (6, 1), (7, 1), (8, 1), (9, 1), (10, 1)]) (zs := [.int .i64 0, .int .u32 0, .int .u32 0, .int .u64 0, .int .u64 0, .int .u32 0, .int .i64 0, .bool false, .int .i64 0, .slice none 0 0, .slice none 0 0]) (parts := [(0, .const (.int .i64 7)), (1, .tmp 18), (5, .tmp 19), (6, .tmp 20), (7, .tmp 21), (10, .tmp 22)]) (vs := [(0, _), (1, _), (5, _), (6, _), (7, _), (10, _)]) (cells := [_, _, .int .u32 0, .int .u64 0, .int .u64 0, _, _, _, .int .i64 0, .slice none 0 0, _]) kr_ kr_ rfl rfl) ?_
 refine WL.s (Hd.storeAll (n := 11) kr_ rfl rfl (by rfl) one_ fr_ (by rfl) ⟨rfl, ?_⟩)
 refine nt_ ?_
 refine WC.ret ?_
 refine DN.retCS (s := 11) (A ++ H) Tryz.results39 kr_ rfl mem_ (by rfl) sp_ ?_
 exact ⟨_, A, rfl, hA, rfl⟩
end Go.Proofs.YtkamlondepceiaaGreat

set_option linter.unusedVariables false
set_option linter.unusedSimpArgs false
set_option maxHeartbeats 4000000
namespace Go.Proofs.YtkamlondepceiaaGreat
open Go.SL
theorem note_tells (a : As) (vn vd : Value) (H : List Ck) (hn : Bs vn a.w.name H) (hd : Bs vd a.data H) (hl : a.w.name.length ≤ 1000000) : Tells Tryz.prog 20 [.agg (asc a vn vd).toArray] H fun r H' => ∃ x A, r = .agg (ntc (noteA a) (.slice none 0 0) x).toArray ∧ Bs x (noteA a).data (A ++ H) ∧ H' = A ++ H := by
 refine Tells.enter Tryz.func20 rfl Tryz.ntmps20 rfl ?_
 intro w0 R
 obtain ⟨no, nc, rfl, hnc⟩ := hn.form
 obtain ⟨do_, dc, rfl, hdc⟩ := hd.form
 refine sr_ ?_
 refine WL.h rfl (Hd.boxA rfl fun b1 => ⟨_, rfl, ?_⟩)
 refine WL.h rfl (Hd.alloc (zs := [.int .i64 0, .int .u32 0, .int .u32 0, .int .u64 0, .int .u64 0, .int .u32 0, .int .i64 0, .bool false, .int .i64 0, .slice none 0 0, .slice none 0 0]) kr_ fun b2 => ⟨_, rfl, ?_⟩)
 refine ntsr_ ?_
 refine f_ 0 kr_ rfl rfl ?_
 refine d_ kr_ rfl mem_ (by rfl) rfl ?_
 refine f_ 1 kr_ rfl rfl ?_
 refine d_ kr_ rfl mem_ (by rfl) rfl ?_
 refine f_ 2 kr_ rfl rfl ?_
 refine d_ kr_ rfl mem_ (by rfl) rfl ?_
 refine f_ 3 kr_ rfl rfl ?_
 refine d_ kr_ rfl mem_ (by rfl) rfl ?_
 refine f_ 4 kr_ rfl rfl ?_
 refine WL.h rfl (Hd.loadA (n := 3) (vs := [_, _, _]) kr_ rfl mem_ (by rfl) (by rfl) ⟨_, rfl, ?_⟩)
 refine WL.c rfl (Ent.func Tryz.call39 rfl) (step_tells a.ep a.o a.st a.u a.w _ H hn hl) (Sp.p sp_) ?_
 rintro x0 H9 ⟨x, A, rfl, hA, rfl⟩
 obtain ⟨xo, xc, rfl, _⟩ := hA.form
 refine WL.h rfl (Hd.alloc (zs := [.int .i64 0, .int .u32 0, .int .u32 0, .int .u64 0, .int .u64 0, .int .u32 0, .int .i64 0, .bool false, .int .i64 0, .slice none 0 0, .slice none 0 0]) kr_ fun b3 => ⟨_, rfl, ?_⟩)
 refine WL.s (Hd.storeAll (n := 11) kr_ rfl rfl (by rfl) one_ fr_ (by rfl) ⟨rfl, ?_⟩)
 refine nt_ ?_
 refine WC.seq ?_
 refine sr_ ?_
 refine f_ 7 kr_ rfl rfl ?_
 refine d_ kr_ rfl mem_ (by rfl) rfl ?_
 refine WL.y rfl (Yd.len (e := 5) kr_ rfl) ?_
 refine WL.y rfl (Yd.gtr rfl rfl) ?_
 refine nt_ ?_
 refine WC.ite rfl (fun h18 => ?_) (fun h18 => ?_)
 ·have hp : 0 < a.data.length := by omega
  refine WC.region ?_
  refine f_ 7 kr_ rfl rfl ?_
  refine d_ kr_ rfl mem_ (by rfl) rfl ?_
  refine f_ 10 kr_ rfl rfl ?_
  refine WL.s (Hd.store1s kr_ rfl rfl (by rfl) fr_ (by rfl) (by first | (simp only [List.set_cons_zero, List.set_cons_succ, Nat.zero_add, Nat.add_zero, Nat.reduceAdd]; rfl) | rfl) ⟨rfl, ?_⟩)
  refine ntsr_ ?_
  refine WL.h rfl (Hd.loadAll (n := 11) kr_ rfl mem_ (by rfl) ⟨_, rfl, ?_⟩)
  refine WL.s (Hd.storeAll (n := 11) kr_ rfl rfl (by rfl) one_ fr_ (by rfl) ⟨rfl, ?_⟩)
  refine nt_ ?_
  refine WC.ret ?_
  refine DN.retCS (s := 11) H Tryz.results20 kr_ rfl mem_ (by rfl) sp_ ?_
  refine ⟨.slice do_ a.data.length dc, [], ?_, ?_, rfl⟩
  · unfold noteA; rw [if_pos hp]; try rfl
  · unfold noteA; rw [if_pos hp]; exact hd
 ·have hp : ¬ 0 < a.data.length := by omega
  refine WC.skip ?_
  refine ts_ ?_
  refine WC.region ?_
  refine WL.h rfl (Hd.loadAll (n := 11) kr_ rfl mem_ (by rfl) ⟨_, rfl, ?_⟩)
  refine WL.s (Hd.storeAll (n := 11) kr_ rfl rfl (by rfl) one_ fr_ (by rfl) ⟨rfl, ?_⟩)
  refine nt_ ?_
  refine WC.ret ?_
  refine DN.retCS (s := 11) (A ++ H) Tryz.results20 kr_ rfl mem_ (by rfl) sp_ ?_
  refine ⟨.slice xo (encB a.w).length xc, A, ?_, ?_, rfl⟩
  · unfold noteA; rw [if_neg hp]; try rfl
  · unfold noteA; rw [if_neg hp]; exact hA.bs.mono gr_
end Go.Proofs.YtkamlondepceiaaGreat

set_option linter.unusedVariables false
namespace Go.SL
def sameNt (a b : Nt) : Bool := decide (a.kind = b.kind) && (decide (a.epoch = b.epoch) && (decide (a.old = b.old) && (decide (a.lsn = b.lsn) && (decide (a.tick = b.tick) && (decide (a.order = b.order) && (decide (a.step = b.step) && ((a.undo == b.undo) && (decide (a.code = b.code) && (decide (str a.key = str b.key) && decide (str a.data = str b.data))))))))))
theorem sameNt_refl (a : Nt) : sameNt a a = true := by simp [sameNt]
end Go.SL

set_option linter.unusedVariables false
set_option linter.unusedSimpArgs false
set_option maxHeartbeats 4000000
namespace Go.Proofs.YtkamlondepceiaaGreat
open Go.SL
theorem same05_reads (a b : Nt) (vk vd uk ud : Value) (H : List Ck) (h1 : Bs vk a.key H) (h2 : Bs vd a.data H) (h3 : Bs uk b.key H) (h4 : Bs ud b.data H) : Reads Tryz.prog 34 [.agg (ntc a vk vd).toArray, .agg (ntc b uk ud).toArray] H (.bool (sameNt a b)) := by
 refine Tells.enter Tryz.func34 rfl Tryz.ntmps34 rfl ?_
 intro w0 R
 obtain ⟨o1, c1, rfl, _⟩ := h1.form
 obtain ⟨o2, c2, rfl, _⟩ := h2.form
 obtain ⟨o3, c3, rfl, _⟩ := h3.form
 obtain ⟨o4, c4, rfl, _⟩ := h4.form
 refine sr_ ?_
 refine WL.h rfl (Hd.boxA rfl fun b2 => ⟨_, rfl, ?_⟩)
 refine WL.h rfl (Hd.boxA rfl fun b3 => ⟨_, rfl, ?_⟩)
 refine a_ rfl rfl ?_
 refine ntsr_ ?_
 refine f_ 0 kr_ rfl rfl ?_
 refine d_ kr_ rfl mem_ (by rfl) rfl ?_
 refine f_ 0 kr_ rfl rfl ?_
 refine d_ kr_ rfl mem_ (by rfl) rfl ?_
 refine WL.y rfl (Yd.eql rfl rfl) ?_
 refine m_ rfl rfl ?_
 refine WL.partP (t := 10) rfl (fun hg10 => ?_) (fun hg10 => ?_)
 ·refine gy_ 10 rfl rfl rfl (Yd.fieldAddr (k := 1) kr_ rfl) ?_
  refine WL.gh (dj := 10) rfl rfl rfl (Hd.load1 kr_ rfl mem_ (by rfl) ⟨_, rfl, ?_⟩)
  refine gy_ 10 rfl rfl rfl (Yd.fieldAddr (k := 1) kr_ rfl) ?_
  refine WL.gh (dj := 10) rfl rfl rfl (Hd.load1 kr_ rfl mem_ (by rfl) ⟨_, rfl, ?_⟩)
  refine gy_ 10 rfl rfl rfl (Yd.eql32 _ _ rfl rfl rfl rfl) ?_
  refine WL.y rfl (Yd.pickT rfl rfl) ?_
  refine m_ rfl rfl ?_
  refine WL.partP (t := 17) rfl (fun hg17 => ?_) (fun hg17 => ?_)
  ·refine gy_ 17 rfl rfl rfl (Yd.fieldAddr (k := 2) kr_ rfl) ?_
   refine WL.gh (dj := 17) rfl rfl rfl (Hd.load1 kr_ rfl mem_ (by rfl) ⟨_, rfl, ?_⟩)
   refine gy_ 17 rfl rfl rfl (Yd.fieldAddr (k := 2) kr_ rfl) ?_
   refine WL.gh (dj := 17) rfl rfl rfl (Hd.load1 kr_ rfl mem_ (by rfl) ⟨_, rfl, ?_⟩)
   refine gy_ 17 rfl rfl rfl (Yd.eql32 _ _ rfl rfl rfl rfl) ?_
   refine WL.y rfl (Yd.pickT rfl rfl) ?_
   refine m_ rfl rfl ?_
   refine WL.partP (t := 24) rfl (fun hg24 => ?_) (fun hg24 => ?_)
   ·refine gy_ 24 rfl rfl rfl (Yd.fieldAddr (k := 3) kr_ rfl) ?_
    refine WL.gh (dj := 24) rfl rfl rfl (Hd.load1 kr_ rfl mem_ (by rfl) ⟨_, rfl, ?_⟩)
    refine gy_ 24 rfl rfl rfl (Yd.fieldAddr (k := 3) kr_ rfl) ?_
    refine WL.gh (dj := 24) rfl rfl rfl (Hd.load1 kr_ rfl mem_ (by rfl) ⟨_, rfl, ?_⟩)
    refine gy_ 24 rfl rfl rfl (Yd.eql64 _ _ rfl rfl rfl rfl) ?_
    refine WL.y rfl (Yd.pickT rfl rfl) ?_
    refine m_ rfl rfl ?_
    refine WL.partP (t := 31) rfl (fun hg31 => ?_) (fun hg31 => ?_)
    ·refine gy_ 31 rfl rfl rfl (Yd.fieldAddr (k := 4) kr_ rfl) ?_
     refine WL.gh (dj := 31) rfl rfl rfl (Hd.load1 kr_ rfl mem_ (by rfl) ⟨_, rfl, ?_⟩)
     refine gy_ 31 rfl rfl rfl (Yd.fieldAddr (k := 4) kr_ rfl) ?_
     refine WL.gh (dj := 31) rfl rfl rfl (Hd.load1 kr_ rfl mem_ (by rfl) ⟨_, rfl, ?_⟩)
     refine gy_ 31 rfl rfl rfl (Yd.eql64 _ _ rfl rfl rfl rfl) ?_
     refine WL.y rfl (Yd.pickT rfl rfl) ?_
     refine m_ rfl rfl ?_
     refine WL.partP (t := 38) rfl (fun hg38 => ?_) (fun hg38 => ?_)
     ·refine gy_ 38 rfl rfl rfl (Yd.fieldAddr (k := 5) kr_ rfl) ?_
      refine WL.gh (dj := 38) rfl rfl rfl (Hd.load1 kr_ rfl mem_ (by rfl) ⟨_, rfl, ?_⟩)
      refine gy_ 38 rfl rfl rfl (Yd.fieldAddr (k := 5) kr_ rfl) ?_
      refine WL.gh (dj := 38) rfl rfl rfl (Hd.load1 kr_ rfl mem_ (by rfl) ⟨_, rfl, ?_⟩)
      refine gy_ 38 rfl rfl rfl (Yd.eql32 _ _ rfl rfl rfl rfl) ?_
      refine WL.y rfl (Yd.pickT rfl rfl) ?_
      refine m_ rfl rfl ?_
      refine WL.partP (t := 45) rfl (fun hg45 => ?_) (fun hg45 => ?_)
      ·refine gy_ 45 rfl rfl rfl (Yd.fieldAddr (k := 6) kr_ rfl) ?_
       refine WL.gh (dj := 45) rfl rfl rfl (Hd.load1 kr_ rfl mem_ (by rfl) ⟨_, rfl, ?_⟩)
       refine gy_ 45 rfl rfl rfl (Yd.fieldAddr (k := 6) kr_ rfl) ?_
       refine WL.gh (dj := 45) rfl rfl rfl (Hd.load1 kr_ rfl mem_ (by rfl) ⟨_, rfl, ?_⟩)
       refine gy_ 45 rfl rfl rfl (Yd.eql rfl rfl) ?_
       refine WL.y rfl (Yd.pickT rfl rfl) ?_
       refine m_ rfl rfl ?_
       refine WL.partP (t := 52) rfl (fun hg52 => ?_) (fun hg52 => ?_)
       ·refine gy_ 52 rfl rfl rfl (Yd.fieldAddr (k := 7) kr_ rfl) ?_
        refine WL.gh (dj := 52) rfl rfl rfl (Hd.load1 kr_ rfl mem_ (by rfl) ⟨_, rfl, ?_⟩)
        refine gy_ 52 rfl rfl rfl (Yd.fieldAddr (k := 7) kr_ rfl) ?_
        refine WL.gh (dj := 52) rfl rfl rfl (Hd.load1 kr_ rfl mem_ (by rfl) ⟨_, rfl, ?_⟩)
        refine gy_ 52 rfl rfl rfl (Yd.eqlB Tryz.underlying4 rfl rfl) ?_
        refine WL.y rfl (Yd.pickT rfl rfl) ?_
        refine m_ rfl rfl ?_
        refine WL.part (t := 59) rfl (fun hg59 => ?_) (fun hg59 => ?_)
        ·refine gy_ 59 rfl rfl rfl (Yd.fieldAddr (k := 8) kr_ rfl) ?_
         refine WL.gh (dj := 59) rfl rfl rfl (Hd.load1 kr_ rfl mem_ (by rfl) ⟨_, rfl, ?_⟩)
         refine gy_ 59 rfl rfl rfl (Yd.fieldAddr (k := 8) kr_ rfl) ?_
         refine WL.gh (dj := 59) rfl rfl rfl (Hd.load1 kr_ rfl mem_ (by rfl) ⟨_, rfl, ?_⟩)
         refine gy_ 59 rfl rfl rfl (Yd.eql rfl rfl) ?_
         refine WL.y rfl (Yd.pickT rfl rfl) ?_
         refine m_ rfl rfl ?_
         refine WL.partP (t := 66) rfl (fun hg66 => ?_) (fun hg66 => ?_)
         ·refine gy_ 66 rfl rfl rfl (Yd.fieldAddr (k := 9) kr_ rfl) ?_
          refine WL.gh (dj := 66) rfl rfl rfl (Hd.load1 kr_ rfl mem_ (by rfl) ⟨_, rfl, ?_⟩)
          refine WL.gh (dj := 66) rfl rfl rfl (Hd.toStr (e := 5) (bs := a.key) kr_ kr_ Tryz.underlying9 rfl (h1.mono gr_) ⟨_, rfl, ?_⟩)
          refine gy_ 66 rfl rfl rfl (Yd.fieldAddr (k := 9) kr_ rfl) ?_
          refine WL.gh (dj := 66) rfl rfl rfl (Hd.load1 kr_ rfl mem_ (by rfl) ⟨_, rfl, ?_⟩)
          refine WL.gh (dj := 66) rfl rfl rfl (Hd.toStr (e := 5) (bs := b.key) kr_ kr_ Tryz.underlying9 rfl (h3.mono gr_) ⟨_, rfl, ?_⟩)
          refine gy_ 66 rfl rfl rfl (Yd.eqlS rfl rfl) ?_
          refine WL.y rfl (Yd.pickT rfl rfl) ?_
          refine m_ rfl rfl ?_
          refine WL.partP (t := 75) rfl (fun hg75 => ?_) (fun hg75 => ?_)
          ·refine gy_ 75 rfl rfl rfl (Yd.fieldAddr (k := 10) kr_ rfl) ?_
           refine WL.gh (dj := 75) rfl rfl rfl (Hd.load1 kr_ rfl mem_ (by rfl) ⟨_, rfl, ?_⟩)
           refine WL.gh (dj := 75) rfl rfl rfl (Hd.toStr (e := 5) (bs := a.data) kr_ kr_ Tryz.underlying9 rfl (h2.mono gr_) ⟨_, rfl, ?_⟩)
           refine gy_ 75 rfl rfl rfl (Yd.fieldAddr (k := 10) kr_ rfl) ?_
           refine WL.gh (dj := 75) rfl rfl rfl (Hd.load1 kr_ rfl mem_ (by rfl) ⟨_, rfl, ?_⟩)
           refine WL.gh (dj := 75) rfl rfl rfl (Hd.toStr (e := 5) (bs := b.data) kr_ kr_ Tryz.underlying9 rfl (h4.mono gr_) ⟨_, rfl, ?_⟩)
           refine gy_ 75 rfl rfl rfl (Yd.eqlS rfl rfl) ?_
           refine WL.y rfl (Yd.pickT rfl rfl) ?_
           refine a_ rfl rfl ?_
           refine nt_ ?_
           refine WC.ret ?_
           refine DN.fit (C := H) sp_ ?_
           refine DN.ret1 Tryz.results34 rfl ?_
           exact ⟨by congr 1; symm; simp only [sameNt, *, decide_true, decide_false, Bool.true_and, Bool.false_and], rfl⟩
          ·iterate 7 refine gn_ 75 rfl rfl rfl rfl ?_
           refine WL.y rfl (Yd.pickF rfl rfl) ?_
           refine a_ rfl rfl ?_
           refine nt_ ?_
           refine WC.ret ?_
           refine DN.fit (C := H) sp_ ?_
           refine DN.ret1 Tryz.results34 rfl ?_
           exact ⟨by congr 1; symm; simp only [sameNt, *, decide_true, decide_false, Bool.true_and, Bool.false_and], rfl⟩
         ·iterate 7 refine gn_ 66 rfl rfl rfl rfl ?_
          refine WL.y rfl (Yd.pickF rfl rfl) ?_
          refine m_ rfl rfl ?_
          iterate 7 refine gn_ 75 rfl rfl rfl rfl ?_
          refine WL.y rfl (Yd.pickF rfl rfl) ?_
          refine a_ rfl rfl ?_
          refine nt_ ?_
          refine WC.ret ?_
          refine DN.fit (C := H) sp_ ?_
          refine DN.ret1 Tryz.results34 rfl ?_
          exact ⟨by congr 1; symm; simp only [sameNt, *, decide_true, decide_false, Bool.true_and, Bool.false_and], rfl⟩
        ·iterate 5 refine gn_ 59 rfl rfl rfl rfl ?_
         refine WL.y rfl (Yd.pickF rfl rfl) ?_
         refine m_ rfl rfl ?_
         iterate 7 refine gn_ 66 rfl rfl rfl rfl ?_
         refine WL.y rfl (Yd.pickF rfl rfl) ?_
         refine m_ rfl rfl ?_
         iterate 7 refine gn_ 75 rfl rfl rfl rfl ?_
         refine WL.y rfl (Yd.pickF rfl rfl) ?_
         refine a_ rfl rfl ?_
         refine nt_ ?_
         refine WC.ret ?_
         refine DN.fit (C := H) sp_ ?_
         refine DN.ret1 Tryz.results34 rfl ?_
         exact ⟨by congr 1; symm; simp only [sameNt, *, decide_true, decide_false, Bool.true_and, Bool.false_and], rfl⟩
       ·iterate 5 refine gn_ 52 rfl rfl rfl rfl ?_
        refine WL.y rfl (Yd.pickF rfl rfl) ?_
        refine m_ rfl rfl ?_
        iterate 5 refine gn_ 59 rfl rfl rfl rfl ?_
        refine WL.y rfl (Yd.pickF rfl rfl) ?_
        refine m_ rfl rfl ?_
        iterate 7 refine gn_ 66 rfl rfl rfl rfl ?_
        refine WL.y rfl (Yd.pickF rfl rfl) ?_
        refine m_ rfl rfl ?_
        iterate 7 refine gn_ 75 rfl rfl rfl rfl ?_
        refine WL.y rfl (Yd.pickF rfl rfl) ?_
        refine a_ rfl rfl ?_
        refine nt_ ?_
        refine WC.ret ?_
        refine DN.fit (C := H) sp_ ?_
        refine DN.ret1 Tryz.results34 rfl ?_
        exact ⟨by congr 1; symm; simp only [sameNt, *, decide_true, decide_false, Bool.true_and, Bool.false_and], rfl⟩
      ·iterate 5 refine gn_ 45 rfl rfl rfl rfl ?_
       refine WL.y rfl (Yd.pickF rfl rfl) ?_
       refine m_ rfl rfl ?_
       iterate 5 refine gn_ 52 rfl rfl rfl rfl ?_
       refine WL.y rfl (Yd.pickF rfl rfl) ?_
       refine m_ rfl rfl ?_
       iterate 5 refine gn_ 59 rfl rfl rfl rfl ?_
       refine WL.y rfl (Yd.pickF rfl rfl) ?_
       refine m_ rfl rfl ?_
       iterate 7 refine gn_ 66 rfl rfl rfl rfl ?_
       refine WL.y rfl (Yd.pickF rfl rfl) ?_
       refine m_ rfl rfl ?_
       iterate 7 refine gn_ 75 rfl rfl rfl rfl ?_
       refine WL.y rfl (Yd.pickF rfl rfl) ?_
       refine a_ rfl rfl ?_
       refine nt_ ?_
       refine WC.ret ?_
       refine DN.fit (C := H) sp_ ?_
       refine DN.ret1 Tryz.results34 rfl ?_
       exact ⟨by congr 1; symm; simp only [sameNt, *, decide_true, decide_false, Bool.true_and, Bool.false_and], rfl⟩
     ·iterate 5 refine gn_ 38 rfl rfl rfl rfl ?_
      refine WL.y rfl (Yd.pickF rfl rfl) ?_
      refine m_ rfl rfl ?_
      iterate 5 refine gn_ 45 rfl rfl rfl rfl ?_
      refine WL.y rfl (Yd.pickF rfl rfl) ?_
      refine m_ rfl rfl ?_
      iterate 5 refine gn_ 52 rfl rfl rfl rfl ?_
      refine WL.y rfl (Yd.pickF rfl rfl) ?_
      refine m_ rfl rfl ?_
      iterate 5 refine gn_ 59 rfl rfl rfl rfl ?_
      refine WL.y rfl (Yd.pickF rfl rfl) ?_
      refine m_ rfl rfl ?_
      iterate 7 refine gn_ 66 rfl rfl rfl rfl ?_
      refine WL.y rfl (Yd.pickF rfl rfl) ?_
      refine m_ rfl rfl ?_
      iterate 7 refine gn_ 75 rfl rfl rfl rfl ?_
      refine WL.y rfl (Yd.pickF rfl rfl) ?_
      refine a_ rfl rfl ?_
      refine nt_ ?_
      refine WC.ret ?_
      refine DN.fit (C := H) sp_ ?_
      refine DN.ret1 Tryz.results34 rfl ?_
      exact ⟨by congr 1; symm; simp only [sameNt, *, decide_true, decide_false, Bool.true_and, Bool.false_and], rfl⟩
    ·iterate 5 refine gn_ 31 rfl rfl rfl rfl ?_
     refine WL.y rfl (Yd.pickF rfl rfl) ?_
     refine m_ rfl rfl ?_
     iterate 5 refine gn_ 38 rfl rfl rfl rfl ?_
     refine WL.y rfl (Yd.pickF rfl rfl) ?_
     refine m_ rfl rfl ?_
     iterate 5 refine gn_ 45 rfl rfl rfl rfl ?_
     refine WL.y rfl (Yd.pickF rfl rfl) ?_
     refine m_ rfl rfl ?_
     iterate 5 refine gn_ 52 rfl rfl rfl rfl ?_
     refine WL.y rfl (Yd.pickF rfl rfl) ?_
     refine m_ rfl rfl ?_
     iterate 5 refine gn_ 59 rfl rfl rfl rfl ?_
     refine WL.y rfl (Yd.pickF rfl rfl) ?_
     refine m_ rfl rfl ?_
     iterate 7 refine gn_ 66 rfl rfl rfl rfl ?_
     refine WL.y rfl (Yd.pickF rfl rfl) ?_
     refine m_ rfl rfl ?_
     iterate 7 refine gn_ 75 rfl rfl rfl rfl ?_
     refine WL.y rfl (Yd.pickF rfl rfl) ?_
     refine a_ rfl rfl ?_
     refine nt_ ?_
     refine WC.ret ?_
     refine DN.fit (C := H) sp_ ?_
     refine DN.ret1 Tryz.results34 rfl ?_
     exact ⟨by congr 1; symm; simp only [sameNt, *, decide_true, decide_false, Bool.true_and, Bool.false_and], rfl⟩
   ·iterate 5 refine gn_ 24 rfl rfl rfl rfl ?_
    refine WL.y rfl (Yd.pickF rfl rfl) ?_
    refine m_ rfl rfl ?_
    iterate 5 refine gn_ 31 rfl rfl rfl rfl ?_
    refine WL.y rfl (Yd.pickF rfl rfl) ?_
    refine m_ rfl rfl ?_
    iterate 5 refine gn_ 38 rfl rfl rfl rfl ?_
    refine WL.y rfl (Yd.pickF rfl rfl) ?_
    refine m_ rfl rfl ?_
    iterate 5 refine gn_ 45 rfl rfl rfl rfl ?_
    refine WL.y rfl (Yd.pickF rfl rfl) ?_
    refine m_ rfl rfl ?_
    iterate 5 refine gn_ 52 rfl rfl rfl rfl ?_
    refine WL.y rfl (Yd.pickF rfl rfl) ?_
    refine m_ rfl rfl ?_
    iterate 5 refine gn_ 59 rfl rfl rfl rfl ?_
    refine WL.y rfl (Yd.pickF rfl rfl) ?_
    refine m_ rfl rfl ?_
    iterate 7 refine gn_ 66 rfl rfl rfl rfl ?_
    refine WL.y rfl (Yd.pickF rfl rfl) ?_
    refine m_ rfl rfl ?_
    iterate 7 refine gn_ 75 rfl rfl rfl rfl ?_
    refine WL.y rfl (Yd.pickF rfl rfl) ?_
    refine a_ rfl rfl ?_
    refine nt_ ?_
    refine WC.ret ?_
    refine DN.fit (C := H) sp_ ?_
    refine DN.ret1 Tryz.results34 rfl ?_
    exact ⟨by congr 1; symm; simp only [sameNt, *, decide_true, decide_false, Bool.true_and, Bool.false_and], rfl⟩
  ·iterate 5 refine gn_ 17 rfl rfl rfl rfl ?_
   refine WL.y rfl (Yd.pickF rfl rfl) ?_
   refine m_ rfl rfl ?_
   iterate 5 refine gn_ 24 rfl rfl rfl rfl ?_
   refine WL.y rfl (Yd.pickF rfl rfl) ?_
   refine m_ rfl rfl ?_
   iterate 5 refine gn_ 31 rfl rfl rfl rfl ?_
   refine WL.y rfl (Yd.pickF rfl rfl) ?_
   refine m_ rfl rfl ?_
   iterate 5 refine gn_ 38 rfl rfl rfl rfl ?_
   refine WL.y rfl (Yd.pickF rfl rfl) ?_
   refine m_ rfl rfl ?_
   iterate 5 refine gn_ 45 rfl rfl rfl rfl ?_
   refine WL.y rfl (Yd.pickF rfl rfl) ?_
   refine m_ rfl rfl ?_
   iterate 5 refine gn_ 52 rfl rfl rfl rfl ?_
   refine WL.y rfl (Yd.pickF rfl rfl) ?_
   refine m_ rfl rfl ?_
   iterate 5 refine gn_ 59 rfl rfl rfl rfl ?_
   refine WL.y rfl (Yd.pickF rfl rfl) ?_
   refine m_ rfl rfl ?_
   iterate 7 refine gn_ 66 rfl rfl rfl rfl ?_
   refine WL.y rfl (Yd.pickF rfl rfl) ?_
   refine m_ rfl rfl ?_
   iterate 7 refine gn_ 75 rfl rfl rfl rfl ?_
   refine WL.y rfl (Yd.pickF rfl rfl) ?_
   refine a_ rfl rfl ?_
   refine nt_ ?_
   refine WC.ret ?_
   refine DN.fit (C := H) sp_ ?_
   refine DN.ret1 Tryz.results34 rfl ?_
   exact ⟨by congr 1; symm; simp only [sameNt, *, decide_true, decide_false, Bool.true_and, Bool.false_and], rfl⟩
 ·iterate 5 refine gn_ 10 rfl rfl rfl rfl ?_
  refine WL.y rfl (Yd.pickF rfl rfl) ?_
  refine m_ rfl rfl ?_
  iterate 5 refine gn_ 17 rfl rfl rfl rfl ?_
  refine WL.y rfl (Yd.pickF rfl rfl) ?_
  refine m_ rfl rfl ?_
  iterate 5 refine gn_ 24 rfl rfl rfl rfl ?_
  refine WL.y rfl (Yd.pickF rfl rfl) ?_
  refine m_ rfl rfl ?_
  iterate 5 refine gn_ 31 rfl rfl rfl rfl ?_
  refine WL.y rfl (Yd.pickF rfl rfl) ?_
  refine m_ rfl rfl ?_
  iterate 5 refine gn_ 38 rfl rfl rfl rfl ?_
  refine WL.y rfl (Yd.pickF rfl rfl) ?_
  refine m_ rfl rfl ?_
  iterate 5 refine gn_ 45 rfl rfl rfl rfl ?_
  refine WL.y rfl (Yd.pickF rfl rfl) ?_
  refine m_ rfl rfl ?_
  iterate 5 refine gn_ 52 rfl rfl rfl rfl ?_
  refine WL.y rfl (Yd.pickF rfl rfl) ?_
  refine m_ rfl rfl ?_
  iterate 5 refine gn_ 59 rfl rfl rfl rfl ?_
  refine WL.y rfl (Yd.pickF rfl rfl) ?_
  refine m_ rfl rfl ?_
  iterate 7 refine gn_ 66 rfl rfl rfl rfl ?_
  refine WL.y rfl (Yd.pickF rfl rfl) ?_
  refine m_ rfl rfl ?_
  iterate 7 refine gn_ 75 rfl rfl rfl rfl ?_
  refine WL.y rfl (Yd.pickF rfl rfl) ?_
  refine a_ rfl rfl ?_
  refine nt_ ?_
  refine WC.ret ?_
  refine DN.fit (C := H) sp_ ?_
  refine DN.ret1 Tryz.results34 rfl ?_
  exact ⟨by congr 1; symm; simp only [sameNt, *, decide_true, decide_false, Bool.true_and, Bool.false_and], rfl⟩
end Go.Proofs.YtkamlondepceiaaGreat

set_option linter.unusedVariables false
set_option maxRecDepth 100000
namespace Go.SL
def knG : List Gd := [⟨⟨#[97]⟩, 5, 0⟩]
def knU : List Au := [⟨⟨#[97, 110, 110]⟩, 9, 0⟩]
def knW : Wk := ⟨1, 2, [97#8]⟩
def knN (e : BitVec 32) (u : Bool) : Nt := ⟨7, e, 0#32, 0#64, 0#64, 7#32, 0, u, 0, [], encB knW⟩
def kn0c : Cw := Cw.new knG knU [3]
theorem kn_s1 : (serveS kn0c (knN 1#32 false)).K = [⟨⟨#[97]⟩, 3, 0⟩] := by decide
def knS1 : Cw := serveS kn0c (knN 1#32 false)
def knS2 : Cw := serveS knS1 (knN 1#32 false)
def knS3 : Cw := serveS knS2 (knN 0#32 false)
def knS4 : Cw := serveS knS3 (knN 1#32 true)
theorem kn_n1 : (serveN kn0c (knN 1#32 false)).kind = 8 ∧ (serveN kn0c (knN 1#32 false)).code = 1 := by decide
theorem kn_n3 : (serveN knS2 (knN 0#32 false)).kind = 6 ∧ (serveN knS2 (knN 0#32 false)).code = 1 := by decide
theorem kn_n4 : (serveN knS3 (knN 1#32 true)).code = 1 := by decide
theorem kn_K4 : knS4.K = [⟨⟨#[97]⟩, 5, 0⟩] ∧ knS4.e = 1#32 ∧ knS4.ef.length = 2 := by decide
theorem kn_n2 : serveN knS1 (knN 1#32 false) = serveN kn0c (knN 1#32 false) := by
  rw [show serveN kn0c (knN 1#32 false) = doneN (knN 1#32 false) 1 [] from rfl]
  rfl
end Go.SL

set_option linter.unusedVariables false
set_option linter.unusedSimpArgs false
namespace Go.SL
variable {g0 : List Gd} {u0 : List Au} {r0 : List Int} {s : Cw} {n : Nt}
theorem undo_same {o : BitVec 32} {w : Wk} (h : undoV s o w ≠ 1) : undoS s o w = s := by
  have hv : ∀ b, vd b ≠ 1 → b = false := fun b => by cases b <;> simp [vd]
  have hp : ∀ b, vdP b ≠ 1 → b = false := fun b => by cases b <;> simp [vdP]
  unfold undoV at h
  unfold undoS
  by_cases h1 : w.what = 1
  · rw [if_pos h1] at h ⊢
    have e : findK Ho.o s.L o = none := by simpa using hv _ h
    rw [delK_none e]
    unfold leaveKs
    rw [e]
  rw [if_neg h1] at h ⊢
  by_cases h2 : w.what = 2
  · rw [if_pos h2]
  rw [if_neg h2] at h ⊢
  by_cases h3 : w.what = 3
  · rw [if_pos h3] at h ⊢
    rw [(turn_no 3 0 (-1) (hp _ h)).1, (turn_no (K := s.U) 3 0 (-1) (hp _ h)).2]
  rw [if_neg h3] at h ⊢
  by_cases h4 : w.what = 4
  · rw [if_pos h4] at h ⊢
    rw [(turn_no 3 1 0 (hp _ h)).1, (turn_no (K := s.U) 3 1 0 (hp _ h)).2]
  rw [if_neg h4] at h ⊢
  by_cases h5 : w.what = 5
  · rw [if_pos h5] at h ⊢
    cases hb : findB s.B o with
    | none => rfl
    | some b => rw [hb] at h; exact absurd rfl h
  rw [if_neg h5] at h
  exact absurd rfl h
theorem work_same {o : BitVec 32} {w : Wk} (h : workV s o w ≠ 1) : workS s o w = s := by
  have hv : ∀ b, vd b ≠ 1 → b = false := fun b => by cases b <;> simp [vd]
  have hp : ∀ b, vdP b ≠ 1 → b = false := fun b => by cases b <;> simp [vdP]
  unfold workV at h
  unfold workS
  by_cases h1 : w.what = 1
  · rw [if_pos h1] at h ⊢
    have e := hv _ h
    unfold holdKs holdLs
    rw [e]
    rfl
  rw [if_neg h1] at h ⊢
  by_cases h2 : w.what = 2
  · rw [if_pos h2] at h ⊢
    have e : findK Ho.o s.L o = none := by simpa using hv _ h
    rw [delK_none e]
    unfold leaveKs
    rw [e]
  rw [if_neg h2] at h ⊢
  by_cases h3 : w.what = 3
  · rw [if_pos h3] at h ⊢
    rw [(auth_no (hp _ h)).1, (auth_no (hp _ h)).2]
  rw [if_neg h3] at h ⊢
  by_cases h4 : w.what = 4
  · rw [if_pos h4] at h ⊢
    rw [(turn_no 2 (-1) (-1) (hp _ h)).1, (turn_no (K := s.U) 2 (-1) (-1) (hp _ h)).2]
  rw [if_neg h4] at h ⊢
  by_cases h5 : w.what = 5
  · rw [if_pos h5] at h ⊢
    cases hb : bookOf s.rs s.B o 0 w.n with
    | none => rfl
    | some b => rw [hb] at h; exact absurd rfl h
  rw [if_neg h5] at h
  exact absurd rfl h
theorem do_same (h : doV s n ≠ 1) : doS s n = s := by
  unfold doV at h
  unfold doS
  split at h
  · rename_i h1; rw [if_pos h1]
  · rename_i h1
    rw [if_neg h1]
    split at h
    · rename_i h2; rw [if_pos h2]; exact undo_same h
    · rename_i h2; rw [if_neg h2]; exact work_same h
def insK (s : Cw) (n : Nt) (code : Int) (reply : List (BitVec 8)) : List Kp := insAt s.ks (pos s.ks (numb n.order n.step n.undo)) (stepK n code reply)
def efN (n : Nt) : Ef := ⟨n.order, n.step, n.undo⟩
inductive Served (s : Cw) (n : Nt) : Prop
  | old (h : n.epoch.toNat < s.e.toNat) (hs : serveS s n = s) (hn : serveN s n = fenN s.e n)
  | no (c : Int) (h1 : 1 ≤ c) (h3 : c ≤ 3) (hf : c = 1 ∧ askBad s.ks n ∨ c = 2 ∨ c = 3 ∧ 200 ≤ s.ks.length) (hs : serveS s n = s) (hn : serveN s n = noN s.e c)
  | again (hb : ¬ askBad s.ks n) (h : ¬ n.epoch.toNat < s.e.toNat) (k : Kp) (hk : getK s.ks (numb n.order n.step n.undo) = some k) (ha : k.asked = n.data) (hs : serveS s n = { s with e := n.epoch }) (hn : serveN s n = doneN n k.code k.reply)
  | none (hb : ¬ askBad s.ks n) (h : ¬ n.epoch.toNat < s.e.toNat) (hk : getK s.ks (numb n.order n.step n.undo) = none) (hl : s.ks.length < 200) (code : Int) (reply : List (BitVec 8)) (hc : code = 2 ∨ n.undo = true ∧ code = 1) (hr : rightP (stepK n code reply))
      (hv : (askK s.e s.ks n).1 = 1 → doV s n ≠ 1) (hs : serveS s n = { s with e := n.epoch, ks := insK s n code reply }) (hn : serveN s n = doneN n code reply)
  | took (hb : ¬ askBad s.ks n) (h : ¬ n.epoch.toNat < s.e.toNat) (hk : getK s.ks (numb n.order n.step n.undo) = none) (hl : s.ks.length < 200) (reply : List (BitVec 8)) (hr : rightP (stepK n 1 reply))
      (ha : n.undo = false ∧ getK s.ks (numb n.order n.step true) = none ∨ n.undo = true ∧ ∃ k, getK s.ks (numb n.order n.step false) = some k ∧ k.code ≠ 2)
      (hv : doV s n = 1) (hs : serveS s n = { doS s n with e := n.epoch, ks := insK s n 1 reply, ef := s.ef ++ [efN n] }) (hn : serveN s n = doneN n 1 reply)
theorem served (hc : chk s.ks) (n : Nt) : Served s n := by
  by_cases hb : askBad s.ks n
  · have ha := askK_arg (e := s.e) hb
    have h := serve_no (s := s) (n := n) (by rw [ha]; decide) (by rw [ha]; decide) (by rw [ha]; decide)
    exact .no 1 (by decide) (by decide) (.inl ⟨rfl, hb⟩) h.1 h.2
  by_cases ho : n.epoch.toNat < s.e.toNat
  · have ha := askK_old (e := s.e) hb ho
    have h := serve_72 (s := s) (n := n) (by rw [ha])
    exact .old ho h.1 h.2
  have hsee : seeK s.e s.ks n.epoch = (n.epoch, s.ks, 0) := by
    unfold seeK; rw [if_neg (not_not_intro hc), if_neg ho]
  cases hk : getK s.ks (numb n.order n.step n.undo) with
  | some k =>
    by_cases hd : k.asked = n.data
    · have ha := askK_again (e := s.e) hb ho hk hd
      have h := serve_again (s := s) (n := n) (by rw [ha]; exact fun q => q rfl) (by rw [ha])
      rw [ha, hsee] at h
      exact .again hb ho k hk hd h.1 h.2
    · have ha := askK_clash (e := s.e) hb ho hk hd
      have h := serve_80 (s := s) (n := n) (by rw [ha]; decide) (by rw [ha])
      exact .no 2 (by decide) (by decide) (.inr (.inl rfl)) h.1 h.2
  | none =>
    have key : (askK s.e s.ks n).2.2 = 0 ∧ ((askK s.e s.ks n).1 = 3 ∧ n.undo = false ∨ (askK s.e s.ks n).1 = 4 ∧ n.undo = true ∨ (askK s.e s.ks n).1 = 1 ∧ (n.undo = false ∧ getK s.ks (numb n.order n.step true) = none ∨ n.undo = true ∧ ∃ k, getK s.ks (numb n.order n.step false) = some k ∧ k.code ≠ 2)) := by
      cases hk2 : getK s.ks (numb n.order n.step (!n.undo)) with
      | none =>
        rw [askK_new hb ho hk hk2]
        cases hu : n.undo with
        | true => exact ⟨rfl, .inr (.inl ⟨rfl, rfl⟩)⟩
        | false => rw [hu] at hk2; exact ⟨rfl, .inr (.inr ⟨rfl, .inl ⟨rfl, hk2⟩⟩)⟩
      | some k =>
        cases hu : n.undo with
        | false => rw [askK_refuse hb ho hk hk2 hu]; exact ⟨rfl, .inl ⟨rfl, rfl⟩⟩
        | true =>
          rw [askK_undone hb ho hk hk2 hu]
          rw [hu] at hk2
          by_cases h2 : k.code = 2
          · rw [if_pos h2]; exact ⟨rfl, .inr (.inl ⟨rfl, rfl⟩)⟩
          · rw [if_neg h2]; exact ⟨rfl, .inr (.inr ⟨rfl, .inr ⟨rfl, k, hk2, h2⟩⟩)⟩
    obtain ⟨h0, hact⟩ := key
    have h2 : ¬ (askK s.e s.ks n).1 = 2 := by
      intro e
      rw [e] at hact
      rcases hact with ⟨q, _⟩ | ⟨q, _⟩ | ⟨q, _⟩ <;> exact absurd q (by decide)
    by_cases hf : 200 ≤ s.ks.length
    · have h := serve_full (s := s) (n := n) (by rw [h0]; decide) h2 hf
      exact .no 3 (by decide) (by decide) (.inr (.inr ⟨rfl, hf⟩)) h.1 h.2
    have h := serve_new (s := s) (n := n) (by rw [h0]; decide) h2 hf
    have hkp := serve_kept h0 h2 hf
    have hr := ask_right h0 (code_of (s := s) n (askK s.e s.ks n).1) (reply := replyOf s n (askK s.e s.ks n).1) (by have := reply_len (s := s) (n := n) (act := (askK s.e s.ks n).1); omega)
    have hdf := did_fence (s := s) (n := n) (act := (askK s.e s.ks n).1)
    unfold keptC at h
    rw [hdf.1, hdf.2, hkp] at h
    dsimp only at h
    obtain ⟨act, hq⟩ : ∃ a, a = (askK s.e s.ks n).1 := ⟨_, rfl⟩
    rw [← hq] at hact h hr
    rcases hact with ⟨q, hu⟩ | ⟨q, hu⟩ | ⟨q, hu⟩
    · have g := did_0 (s := s) (n := n) (act := act) (by rw [q]; decide) (by rw [q]; decide)
      rw [g.1, g.2.1] at hr
      rw [g.1, g.2.1, g.2.2] at h
      exact .none hb ho hk (by omega) 2 [] (.inl rfl) hr (fun e => by rw [← hq, q] at e; exact absurd e (by decide)) h.1 h.2
    · have g := did_4 (s := s) (n := n) (act := act) q
      rw [g.1, g.2.1] at hr
      rw [g.1, g.2.1, g.2.2] at h
      exact .none hb ho hk (by omega) 1 [] (.inr ⟨hu, rfl⟩) hr (fun e => by rw [← hq, q] at e; exact absurd e (by decide)) h.1 h.2
    · have g := did_1 (s := s) (n := n) (act := act) (by rw [q]; decide) q
      rw [g.1, g.2.1] at hr
      rw [g.1, g.2.1, g.2.2] at h
      by_cases hv : doV s n = 1
      · rw [if_pos hv, hv, do_fence.2.2] at h
        rw [hv] at hr
        exact .took hb ho hk (by omega) (doR s n) hr hu hv h.1 h.2
      · rw [if_neg hv, do_same hv] at h
        have h9 : doV s n = 2 := (do_code n).resolve_left hv
        rw [h9] at h hr
        exact .none hb ho hk (by omega) 2 (doR s n) (.inl rfl) hr (fun _ => hv) h.1 h.2
end Go.SL

set_option linter.unusedVariables false
set_option linter.unusedSimpArgs false
set_option linter.unusedSectionVars false
namespace Go.SL
variable {g0 : List Gd} {u0 : List Au} {r0 : List Int} {s : Cw} {n : Nt}
theorem inv_many (h : CInv g0 u0 r0 s) : s.K.length ≤ 50 ∧ s.U.length ≤ 50 := by
  have h1 := congrArg List.length h.st.names
  have h2 := congrArg List.length h.pu.names
  have h3 := h.st.few
  have h4 := h.pu.few
  simp only [List.length_map] at h1 h2
  omega
theorem note_len (a : As) : (noteA a).data.length ≤ a.data.length + 38 := by
  unfold noteA stepW
  show (if 0 < a.data.length then a.data else encB a.w).length ≤ _
  split
  · omega
  · have := encB_len a.w
    omega
theorem serve_key (s : Cw) (n : Nt) : (serveN s n).key = [] := by
  unfold serveN
  repeat' split
  all_goals rfl
inductive Stale (s t : Cw) (a n : Nt) : Prop
  | done (h8 : a.kind = 8) (he : a.epoch = n.epoch) (hc : t.e = n.epoch) (hlt : ¬ n.epoch.toNat < s.e.toNat) (hst : t.K = s.K ∧ t.U = s.U ∧ t.ef = s.ef ∨ t.ef.length = s.ef.length + 1)
  | fence (h9 : a.kind = 9) (hlt : n.epoch.toNat < s.e.toNat) (he : a.epoch = s.e) (ho : a.order = n.order) (hp : a.step = n.step) (hst : t = s)
  | no (h6 : a.kind = 6) (he : a.epoch = s.e) (hc : 1 ≤ a.code ∧ a.code ≤ 3) (hst : t = s)
theorem stale_of (hc : chk s.ks) (n : Nt) : Stale s (serveS s n) (serveN s n) n := by
  cases served hc n with
  | old h hs hn => rw [hs, hn]; exact .fence rfl h rfl rfl rfl rfl
  | no c h1 h3 hf hs hn => rw [hs, hn]; exact .no rfl rfl ⟨h1, h3⟩ rfl
  | again hb h k hk ha hs hn => rw [hs, hn]; exact .done rfl rfl rfl h (.inl ⟨rfl, rfl, rfl⟩)
  | none hb h hk hl code reply hc2 hr hv hs hn => rw [hs, hn]; exact .done rfl rfl rfl h (.inl ⟨rfl, rfl, rfl⟩)
  | took hb h hk hl reply hr ha hv hs hn => rw [hs, hn]; exact .done rfl rfl rfl h (.inr (by simp))
section
variable {ρ κ : Type} [DecidableEq κ] {key : ρ → κ}
end
theorem tellG {K S S' : List Gd} (hn : (K.map Gd.name).Nodup) (h : ToldK Gd.name sLt K S) (h' : ToldK Gd.name sLt K S') : S = S' := ToldK.unique sLt_irrefl (fun _ _ _ => sLt_trans) sLt_tri hn h h'
theorem tellU {K S S' : List Au} (hn : (K.map Au.name).Nodup) (h : ToldK Au.name sLt K S) (h' : ToldK Au.name sLt K S') : S = S' := ToldK.unique sLt_irrefl (fun _ _ _ => sLt_trans) sLt_tri hn h h'
end Go.SL

set_option linter.unusedVariables false
set_option linter.unusedSimpArgs false
namespace Go.SL
variable {P : Program} {l : Sl} {H : List Ck} {K : Next → List Ck → Prop} {d : Option Nat} {ty : TypeId} {pos : String} {aft : Array Edge} {g : Option (Nat × Bool)}
theorem Hd.markB {x : Operand} {S e : TypeId} {b n c : Nat} {xs : List Value} {T : TypeId} {D : List Ck} (hS : sliceOf P S = some e) (he : intOfTy P e = some .u8) (hx : ev l x = some (.slice (some ⟨b, 0, none⟩) n c)) (hf : Fr H (row b xs T) D)
    (k : K (.value (.slice (some ⟨b, 0, none⟩) n c)) (⟨b, .cells xs.toArray T (xs.length, xs.length + 1), true⟩ :: D)) : Hd P ⟨d, .convert S S x, ty, pos, aft, g⟩ l H K := by
  intro a w R kn s
  have sp : Sat w (row b xs T :: (D ++ R)) := s.perm (hf.p.append_right R)
  have hb : w.heap[b]? = some (.cells xs.toArray T) := sp.holds _ List.mem_cons_self
  have hlt : b < w.heap.size := (Array.getElem?_eq_some_iff.1 hb).1
  have hg : w.heap[b] = .cells xs.toArray T := (Array.getElem?_eq_some_iff.1 hb).2
  have hsh : w.shape? b = some (T, xs.length) := by unfold World.shape?; rw [hb]; simp
  have hr : (convert S S (.slice (some ⟨b, 0, none⟩) n c)).run P w = .ok (.slice (some ⟨b, 0, none⟩) n c) (w.freeze ⟨b, xs.length, none⟩ 1) := by
    simp [convert, run_underlying (underlying_slice hS), run_underlying (underlying_int he), markStringish, hsh]
  have hw : Sat (w.freeze ⟨b, xs.length, none⟩ 1) (⟨b, .cells xs.toArray T (xs.length, xs.length + 1), true⟩ :: (D ++ R)) := by
    refine sp.write ?_ ?_
    · unfold World.freeze
      rw [if_neg (by decide)]
      simp [Array.getElem?_modify, hb]
    · intro j hj
      unfold World.freeze
      rw [if_neg (by decide)]
      simp [Array.getElem?_modify, Ne.symm hj]
  refine ⟨_, w.freeze ⟨b, xs.length, none⟩ 1, _, (by simp only [execOp, kn.ev hx, Sem.run_bind, hr, Result.andThen_ok]; rfl), hw, ⟨rfl, rfl, rfl, ?_, ?_⟩, k⟩
  · unfold World.freeze; rw [if_neg (by decide)]; simp
  · unfold World.freeze; rw [if_neg (by decide)]; exact Nat.le_refl _
theorem bs_marked {b n : Nat} {bs : List (BitVec 8)} {T : TypeId} {fr : Nat × Nat} {A : List Ck} (hn : n = bs.length) (hm : (⟨b, .cells (bc bs).toArray T fr, true⟩ : Ck) ∈ A) : Bs (.slice (some ⟨b, 0, none⟩) n n) bs A := by
  subst hn
  exact .inr ⟨b, 0, _, bc bs, T, fr, true, rfl, Nat.le_refl _, hm, by simp⟩
end Go.SL

set_option linter.unusedVariables false
set_option linter.unusedSimpArgs false
namespace Go.SL
theorem cell_at2 {α : Type} {enc : α → List Value} {k : Nat} (hk : ∀ x, (enc x).length = k) {L : List α} {cs : List Value} {o i c : Nat} (hcs : (cs.drop o).take (L.flatMap enc).length = L.flatMap enc) (hi : i < L.length) (hc : c < k) : cs[o + (i : Int).toNat * k + c]? = (enc L[i])[c]? := by
  have h1 := flat_get enc k hk L i c hc
  rw [List.getElem?_eq_getElem hi, Option.bind_some] at h1
  rw [← h1, Int.toNat_natCast]
  have h2 : i * k + c < (L.flatMap enc).length := by
    rw [flat_len enc k hk]
    have := Nat.mul_le_mul_right k (show i + 1 ≤ L.length from hi)
    rw [Nat.add_mul, Nat.one_mul] at this
    omega
  conv => rhs; rw [← hcs]
  rw [List.getElem?_take_of_lt h2, List.getElem?_drop]
  congr 1
  omega
end Go.SL

set_option linter.unusedVariables false
set_option linter.unusedSimpArgs false
set_option maxHeartbeats 4000000
namespace Go.Proofs.YtkamlondepceiaaGreat
open Go.SL
theorem kn_good : GoodL knG ∧ AccL knU ∧ (([3] : List Int).findIdx? Do.badRoom).isSome = false ∧ ([3] : List Int).length ≤ 60 := by
  refine ⟨⟨by decide, by decide, fun g hg => ?_⟩, ⟨by decide, by decide, fun g hg => ?_⟩, by decide, by decide⟩
  · simp only [knG, List.mem_cons, List.not_mem_nil, or_false] at hg
    subst hg
    unfold goodB; decide
  · simp only [knU, List.mem_cons, List.not_mem_nil, or_false] at hg
    subst hg
    unfold accB; decide
theorem kn_inv : CInv knG knU [3] kn0c :=
  new_inv (SInv.start (by decide) (by decide) fun g hg => ⟨kn_good.1.2.2 g hg, (by decide : ∀ g ∈ knG, g.gone = 0) g hg⟩) (PInv.start kn_good.2.1) (DInv.start (roomsOk_of (by decide)) (by decide))
theorem kn_told {K S : List Gd} {g : Gd} (hK : K = [g]) (h : ToldK Gd.name sLt K S) : S = [g] := by
  subst hK
  exact List.perm_singleton.1 h.perm
theorem kn_step (e : BitVec 32) (u : Bool) : stepW e 7#32 0 u (encB knW) = knN e u := rfl
theorem known12 (H : List Ck) : Reads Tryz.prog 9 [] H (.bool true) := by
 refine Tells.enter Tryz.func9 rfl Tryz.ntmps9 rfl ?_
 intro w0 R
 refine sr_ ?_
 refine a_ rfl rfl ?_
 refine ntsr_ ?_
 refine WL.y rfl (Yd.buildL (pl := [(0, 1), (1, 1)]) (zs := [.string ⟨#[]⟩, .int .i64 0]) (parts := [(0, .const (.string ⟨#[97]⟩)), (1, .const (.int .i64 5))]) (vs := [(0, _), (1, _)]) (cells := [_, _]) kr_ kr_ rfl rfl) ?_
 refine WL.h rfl (Hd.buildSlice (e := 73) (sz := 2) (zs := [.string ⟨#[]⟩, .int .i64 0]) (parts := [(0, .tmp 11)]) (vs := [(0, .agg (cellsG ⟨⟨#[97]⟩, 5, 0⟩).toArray)]) (cells := knG.flatMap cellsG) kr_ kr_ kr_ rfl kr_ kr_ fun b12 => ⟨_, rfl, ?_⟩)
 refine WL.y rfl (Yd.buildL (pl := [(0, 1), (1, 1), (2, 1)]) (zs := [.string ⟨#[]⟩, .int .i64 0, .int .i64 0]) (parts := [(0, .const (.string ⟨#[97, 110, 110]⟩)), (1, .const (.int .i64 9))]) (vs := [(0, _), (1, _)]) (cells := [_, _, .int .i64 0]) kr_ kr_ rfl rfl) ?_
 refine WL.h rfl (Hd.buildSlice (e := 71) (sz := 3) (zs := [.string ⟨#[]⟩, .int .i64 0, .int .i64 0]) (parts := [(0, .tmp 13)]) (vs := [(0, .agg (cellsU ⟨⟨#[97, 110, 110]⟩, 9, 0⟩).toArray)]) (cells := knU.flatMap cellsU) kr_ kr_ kr_ rfl kr_ kr_ fun b14 => ⟨_, rfl, ?_⟩)
 refine WL.h rfl (Hd.build1 (e := 3) (z := .int .i64 0) kr_ kr_ kr_ rfl (by rfl) fun b15 => ⟨_, rfl, ?_⟩)
 refine WL.c rfl (Ent.func Tryz.call31 rfl) (cnew_tells _ _ _ knG knU [3] (by decide) (row b15 (ic [3]) 3 :: (row b14 (knU.flatMap cellsU) 71 :: (row b12 (knG.flatMap cellsG) 73 :: H))) (.inr ⟨b12, 0, 1, knG.flatMap cellsG, 73, (0, 0), true, rfl, Nat.le_refl _, List.mem_cons_of_mem _ (List.mem_cons_of_mem _ List.mem_cons_self), rfl⟩) (.inr ⟨b14, 0, 1, knU.flatMap cellsU, 71, (0, 0), true, rfl, Nat.le_refl _, List.mem_cons_of_mem _ List.mem_cons_self, rfl⟩) (.inr ⟨b15, 0, 1, ic [3], 3, (0, 0), true, rfl, Nat.le_refl _, List.mem_cons_self, rfl⟩) (by decide) (by decide) (by decide)) (Sp.p sp_) ?_
 intro x H9 h9
 obtain ⟨p, C0, rfl, h0, rfl⟩ := (h9.resolve_right fun q => q.1 kn_good).2
 have inv0 := kn_inv
 refine m_ rfl rfl ?_
 refine x_ rfl rfl rfl ?_
 refine x_ rfl rfl rfl ?_
 refine a_ rfl rfl ?_
 refine a_ rfl rfl ?_
 refine nt_ ?_
 refine WC.seq ?_
 refine sr_ ?_
 refine m_ rfl rfl ?_
 refine WL.y rfl (Yd.neq rfl rfl) ?_
 refine WL.renamed (t := 20) (v := .bool false) rfl (congrArg Value.bool (by decide)) ?_
 refine m_ rfl rfl ?_
 refine gy_ 21 rfl rfl rfl (Yd.move rfl) ?_
 refine gy_ 21 rfl rfl rfl (Yd.eqlNil Tryz.underlying40 rfl rfl) ?_
 refine WL.renamed (t := 23) (v := .bool false) rfl (congrArg Value.bool (rfl)) ?_
 refine WL.y rfl (Yd.pickF rfl rfl) ?_
 refine nt_ ?_
 refine WC.no rfl ?_
 refine WC.skip ?_
 refine ts_ ?_
 refine WC.region ?_
 refine WL.h rfl (Hd.buildBytes (e := 5) [97#8] kr_ kr_ kr_ rfl rfl kr_ fun b25 => ⟨_, rfl, ?_⟩)
 refine WL.h rfl (Hd.markB (e := 5) kr_ kr_ rfl fr_ ⟨_, rfl, ?_⟩)
 refine WL.y rfl (Yd.buildL (pl := [(0, 1), (1, 1), (2, 1)]) (zs := [.int .i64 0, .int .i64 0, .slice none 0 0]) (parts := [(0, .const (.int .i64 1)), (1, .const (.int .i64 2)), (2, .tmp 26)]) (vs := [(0, _), (1, _), (2, _)]) (cells := [_, _, _]) kr_ kr_ rfl rfl) ?_
 refine WL.h rfl (Hd.alloc (zs := [.int .i64 0, .int .i64 0, .slice none 0 0]) kr_ fun b3 => ⟨_, rfl, ?_⟩)
 refine WL.s (Hd.storeAll (n := 3) kr_ rfl rfl (by rfl) one_ fr_ (by rfl) ⟨rfl, ?_⟩)
 refine ntsr_ ?_
 refine m_ rfl rfl ?_
 refine WL.h rfl (Hd.loadAll (n := 3) kr_ rfl mem_ (by rfl) ⟨_, rfl, ?_⟩)
 refine WL.c rfl (Ent.func Tryz.call39 rfl) (step_tells 1#32 7#32 0 false knW _ [⟨b25, .cells (bc [97#8]).toArray 5 ((bc [97#8]).length, (bc [97#8]).length + 1), true⟩] (bs_marked rfl List.mem_cons_self) (by decide)) (Sp.p sp_) ?_
 rintro q1 Hq1 ⟨x1, A1, rfl, hA1, rfl⟩
 rw [kn_step]
 obtain ⟨xo1, xc1, rfl, _⟩ := hA1.form
 refine WL.c rfl (Ent.func Tryz.call22 rfl) (serve_tells p kn0c C0 h0 inv0 (knN 1#32 false) (.slice none 0 0) (.slice xo1 (encB knW).length xc1) A1 (.inl ⟨_, _, rfl, rfl, rfl⟩) hA1.bs) (Sp.p sp_) ?_
 rintro r1 Hs1 ⟨C1, w1, D1, rfl, h1, hD1, rfl⟩
 have inv1 := serve_inv inv0 (knN 1#32 false)
 obtain ⟨s1, hs1⟩ : ∃ t, t = serveS kn0c (knN 1#32 false) := ⟨_, rfl⟩
 obtain ⟨n1, hn1⟩ : ∃ t, t = serveN kn0c (knN 1#32 false) := ⟨_, rfl⟩
 rw [← hs1] at h1 inv1
 rw [← hn1] at hD1 ⊢
 obtain ⟨wo1, wc1, rfl, _⟩ := hD1.form
 refine WL.h rfl (Hd.alloc (zs := [.int .i64 0, .int .u32 0, .int .u32 0, .int .u64 0, .int .u64 0, .int .u32 0, .int .i64 0, .bool false, .int .i64 0, .slice none 0 0, .slice none 0 0]) kr_ fun b4 => ⟨_, rfl, ?_⟩)
 refine WL.s (Hd.storeAll (n := 11) kr_ rfl rfl (by rfl) (ntc_one rfl rfl) fr_ (by rfl) ⟨rfl, ?_⟩)
 refine ntsr_ ?_
 refine m_ rfl rfl ?_
 refine WL.c rfl (Ent.func Tryz.call25 rfl) (cgoods_tells p s1 C1 h1 (by rw [hs1, kn_s1]; decide)) (Sp.p sp_) ?_
 rintro g2 Hg2 ⟨S2, G2, hT2, ho2, rfl⟩
 obtain rfl := kn_told (g := ⟨⟨#[97]⟩, 3, 0⟩) (by rw [hs1]; exact kn_s1) hT2
 obtain ⟨go2, gc2, rfl, _⟩ := ho2.form
 obtain ⟨g2b, g2f, g2s, g2T, g2fr, g2ex, rfl, _, hg2m, hg2s⟩ := ho2.rs.lies (by decide)
 refine a_ rfl rfl ?_
 refine ntsr_ ?_
 refine m_ rfl rfl ?_
 refine WL.h rfl (Hd.loadAll (n := 3) kr_ rfl mem_ (by rfl) ⟨_, rfl, ?_⟩)
 refine WL.c rfl (Ent.func Tryz.call39 rfl) (step_tells 1#32 7#32 0 false knW _ [⟨b25, .cells (bc [97#8]).toArray 5 ((bc [97#8]).length, (bc [97#8]).length + 1), true⟩] (bs_marked rfl List.mem_cons_self) (by decide)) (Sp.p sp_) ?_
 rintro q3 Hq3 ⟨x3, A3, rfl, hA3, rfl⟩
 rw [kn_step]
 obtain ⟨xo3, xc3, rfl, _⟩ := hA3.form
 refine WL.c rfl (Ent.func Tryz.call22 rfl) (serve_tells p s1 C1 h1 inv1 (knN 1#32 false) (.slice none 0 0) (.slice xo3 (encB knW).length xc3) A3 (.inl ⟨_, _, rfl, rfl, rfl⟩) hA3.bs) (Sp.p sp_) ?_
 rintro r3 Hs3 ⟨C3, w3, D3, rfl, h3, hD3, rfl⟩
 have inv3 := serve_inv inv1 (knN 1#32 false)
 obtain ⟨s3, hs3⟩ : ∃ t, t = serveS s1 (knN 1#32 false) := ⟨_, rfl⟩
 obtain ⟨n3, hn3⟩ : ∃ t, t = serveN s1 (knN 1#32 false) := ⟨_, rfl⟩
 rw [← hs3] at h3 inv3
 rw [← hn3] at hD3 ⊢
 obtain ⟨wo3, wc3, rfl, _⟩ := hD3.form
 refine WL.h rfl (Hd.alloc (zs := [.int .i64 0, .int .u32 0, .int .u32 0, .int .u64 0, .int .u64 0, .int .u32 0, .int .i64 0, .bool false, .int .i64 0, .slice none 0 0, .slice none 0 0]) kr_ fun b6 => ⟨_, rfl, ?_⟩)
 refine WL.s (Hd.storeAll (n := 11) kr_ rfl rfl (by rfl) one_ fr_ (by rfl) ⟨rfl, ?_⟩)
 refine ntsr_ ?_
 refine m_ rfl rfl ?_
 refine WL.h rfl (Hd.loadAll (n := 3) kr_ rfl mem_ (by rfl) ⟨_, rfl, ?_⟩)
 refine WL.c rfl (Ent.func Tryz.call39 rfl) (step_tells 0#32 7#32 0 false knW _ [⟨b25, .cells (bc [97#8]).toArray 5 ((bc [97#8]).length, (bc [97#8]).length + 1), true⟩] (bs_marked rfl List.mem_cons_self) (by decide)) (Sp.p sp_) ?_
 rintro q4 Hq4 ⟨x4, A4, rfl, hA4, rfl⟩
 rw [kn_step]
 obtain ⟨xo4, xc4, rfl, _⟩ := hA4.form
 refine WL.c rfl (Ent.func Tryz.call22 rfl) (serve_tells p s3 C3 h3 inv3 (knN 0#32 false) (.slice none 0 0) (.slice xo4 (encB knW).length xc4) A4 (.inl ⟨_, _, rfl, rfl, rfl⟩) hA4.bs) (Sp.p sp_) ?_
 rintro r4 Hs4 ⟨C4, w4, D4, rfl, h4, hD4, rfl⟩
 have inv4 := serve_inv inv3 (knN 0#32 false)
 obtain ⟨s4, hs4⟩ : ∃ t, t = serveS s3 (knN 0#32 false) := ⟨_, rfl⟩
 obtain ⟨n4, hn4⟩ : ∃ t, t = serveN s3 (knN 0#32 false) := ⟨_, rfl⟩
 rw [← hs4] at h4 inv4
 rw [← hn4] at hD4 ⊢
 obtain ⟨wo4, wc4, rfl, _⟩ := hD4.form
 refine WL.h rfl (Hd.alloc (zs := [.int .i64 0, .int .u32 0, .int .u32 0, .int .u64 0, .int .u64 0, .int .u32 0, .int .i64 0, .bool false, .int .i64 0, .slice none 0 0, .slice none 0 0]) kr_ fun b7 => ⟨_, rfl, ?_⟩)
 refine WL.s (Hd.storeAll (n := 11) kr_ rfl rfl (by rfl) one_ fr_ (by rfl) ⟨rfl, ?_⟩)
 refine ntsr_ ?_
 refine m_ rfl rfl ?_
 refine WL.h rfl (Hd.loadAll (n := 3) kr_ rfl mem_ (by rfl) ⟨_, rfl, ?_⟩)
 refine WL.c rfl (Ent.func Tryz.call39 rfl) (step_tells 1#32 7#32 0 true knW _ [⟨b25, .cells (bc [97#8]).toArray 5 ((bc [97#8]).length, (bc [97#8]).length + 1), true⟩] (bs_marked rfl List.mem_cons_self) (by decide)) (Sp.p sp_) ?_
 rintro q6 Hq6 ⟨x6, A6, rfl, hA6, rfl⟩
 rw [kn_step]
 obtain ⟨xo6, xc6, rfl, _⟩ := hA6.form
 refine WL.c rfl (Ent.func Tryz.call22 rfl) (serve_tells p s4 C4 h4 inv4 (knN 1#32 true) (.slice none 0 0) (.slice xo6 (encB knW).length xc6) A6 (.inl ⟨_, _, rfl, rfl, rfl⟩) hA6.bs) (Sp.p sp_) ?_
 rintro r6 Hs6 ⟨C6, w6, D6, rfl, h6, hD6, rfl⟩
 have inv6 := serve_inv inv4 (knN 1#32 true)
 obtain ⟨s6, hs6⟩ : ∃ t, t = serveS s4 (knN 1#32 true) := ⟨_, rfl⟩
 obtain ⟨n6, hn6⟩ : ∃ t, t = serveN s4 (knN 1#32 true) := ⟨_, rfl⟩
 rw [← hs6] at h6 inv6
 rw [← hn6] at hD6 ⊢
 obtain ⟨wo6, wc6, rfl, _⟩ := hD6.form
 refine WL.h rfl (Hd.alloc (zs := [.int .i64 0, .int .u32 0, .int .u32 0, .int .u64 0, .int .u64 0, .int .u32 0, .int .i64 0, .bool false, .int .i64 0, .slice none 0 0, .slice none 0 0]) kr_ fun b8 => ⟨_, rfl, ?_⟩)
 refine WL.s (Hd.storeAll (n := 11) kr_ rfl rfl (by rfl) one_ fr_ (by rfl) ⟨rfl, ?_⟩)
 refine ntsr_ ?_
 refine m_ rfl rfl ?_
 have e6 : s6.K = [⟨⟨#[97]⟩, 5, 0⟩] ∧ s6.e = 1#32 ∧ s6.ef.length = 2 := by rw [hs6, hs4, hs3, hs1]; exact kn_K4
 refine WL.c rfl (Ent.func Tryz.call25 rfl) (cgoods_tells p s6 C6 h6 (by rw [e6.1]; decide)) (Sp.p sp_) ?_
 rintro g5 Hg5 ⟨S5, G5, hT5, ho5, rfl⟩
 obtain rfl := kn_told (g := ⟨⟨#[97]⟩, 5, 0⟩) (e6.1) hT5
 obtain ⟨go5, gc5, rfl, _⟩ := ho5.form
 obtain ⟨g5b, g5f, g5s, g5T, g5fr, g5ex, rfl, _, hg5m, hg5s⟩ := ho5.rs.lies (by decide)
 refine a_ rfl rfl ?_
 refine ntsr_ ?_
 refine f_ 0 kr_ rfl rfl ?_
 refine d_ kr_ rfl mem_ (by rfl) rfl ?_
 refine WL.y rfl (Yd.eql rfl rfl) ?_
 refine WL.renamed (t := 50) (v := .bool true) rfl (congrArg Value.bool (decide_eq_true (by rw [hn1]; exact kn_n1.1))) ?_
 refine m_ rfl rfl ?_
 refine gy_ 51 rfl rfl rfl (Yd.fieldAddr (k := 8) kr_ rfl) ?_
 refine WL.gh (dj := 51) rfl rfl rfl (Hd.load1 kr_ rfl mem_ (by rfl) ⟨_, rfl, ?_⟩)
 refine gy_ 51 rfl rfl rfl (Yd.eql rfl rfl) ?_
 refine WL.renamed (t := 54) (v := .bool true) rfl (congrArg Value.bool (decide_eq_true (by rw [hn1]; exact kn_n1.2))) ?_
 refine WL.y rfl (Yd.pickT rfl rfl) ?_
 refine m_ rfl rfl ?_
 refine gy_ 56 rfl rfl rfl (Yd.move rfl) ?_
 refine gy_ 56 rfl rfl rfl (Yd.len (e := 73) kr_ rfl) ?_
 refine gy_ 56 rfl rfl rfl (Yd.eql rfl rfl) ?_
 refine WL.renamed (t := 59) (v := .bool true) rfl (congrArg Value.bool (by decide)) ?_
 refine WL.y rfl (Yd.pickT rfl rfl) ?_
 refine m_ rfl rfl ?_
 refine gy_ 61 rfl rfl rfl (Yd.move rfl) ?_
 refine gy_ 61 rfl rfl rfl (Yd.indexAddr (e := 73) (s := 2) kr_ kr_ rfl rfl (by decide) (by decide)) ?_
 refine gy_ 61 rfl rfl rfl (Yd.fieldAddr (k := 1) kr_ rfl) ?_
 refine WL.gh (dj := 61) rfl rfl rfl (Hd.load1 (v := .int .i64 3) (b := g2b) (o := g2f + ((0 : Nat) : Int).toNat * 2 + 1) (cs := g2s) kr_ rfl (Gr.get gr_ hg2m) (cell_at2 (L := [⟨⟨#[97]⟩, 3, 0⟩]) cellsG_len hg2s (by decide) (by decide)) ⟨_, rfl, ?_⟩)
 refine gy_ 61 rfl rfl rfl (Yd.eql rfl rfl) ?_
 refine WL.renamed (t := 66) (v := .bool true) rfl (congrArg Value.bool (by decide)) ?_
 refine WL.y rfl (Yd.pickT rfl rfl) ?_
 refine m_ rfl rfl ?_
 refine WL.gh (dj := 68) rfl rfl rfl (Hd.loadAll (n := 11) kr_ rfl mem_ (by rfl) ⟨_, rfl, ?_⟩)
 refine WL.gh (dj := 68) rfl rfl rfl (Hd.loadAll (n := 11) kr_ rfl mem_ (by rfl) ⟨_, rfl, ?_⟩)
 refine WL.grf (dj := 68) rfl rfl rfl (Ent.func Tryz.call34 rfl) (same05_reads n1 n3 _ _ _ _ (D1 ++ D3) (by rw [hn1, serve_key]; exact .inl ⟨_, _, rfl, rfl, rfl⟩) (hD1.bs.mono gr_) (by rw [hn3, serve_key]; exact .inl ⟨_, _, rfl, rfl, rfl⟩) (hD3.bs.mono gr_)) sp_ ?_
 refine WL.renamed (t := 71) (v := .bool true) rfl (congrArg Value.bool (by rw [show n3 = n1 by rw [hn3, hs1, hn1]; exact kn_n2]; exact sameNt_refl n1)) ?_
 refine WL.y rfl (Yd.pickT rfl rfl) ?_
 refine m_ rfl rfl ?_
 refine gy_ 73 rfl rfl rfl (Yd.fieldAddr (k := 0) kr_ rfl) ?_
 refine WL.gh (dj := 73) rfl rfl rfl (Hd.load1 kr_ rfl mem_ (by rfl) ⟨_, rfl, ?_⟩)
 refine gy_ 73 rfl rfl rfl (Yd.eql rfl rfl) ?_
 refine WL.renamed (t := 76) (v := .bool true) rfl (congrArg Value.bool (decide_eq_true (by rw [hn4, hs3, hs1]; exact kn_n3.1))) ?_
 refine WL.y rfl (Yd.pickT rfl rfl) ?_
 refine m_ rfl rfl ?_
 refine gy_ 78 rfl rfl rfl (Yd.fieldAddr (k := 8) kr_ rfl) ?_
 refine WL.gh (dj := 78) rfl rfl rfl (Hd.load1 kr_ rfl mem_ (by rfl) ⟨_, rfl, ?_⟩)
 refine gy_ 78 rfl rfl rfl (Yd.eql rfl rfl) ?_
 refine WL.renamed (t := 81) (v := .bool true) rfl (congrArg Value.bool (decide_eq_true (by rw [hn4, hs3, hs1]; exact kn_n3.2))) ?_
 refine WL.y rfl (Yd.pickT rfl rfl) ?_
 refine m_ rfl rfl ?_
 refine gy_ 83 rfl rfl rfl (Yd.fieldAddr (k := 8) kr_ rfl) ?_
 refine WL.gh (dj := 83) rfl rfl rfl (Hd.load1 kr_ rfl mem_ (by rfl) ⟨_, rfl, ?_⟩)
 refine gy_ 83 rfl rfl rfl (Yd.eql rfl rfl) ?_
 refine WL.renamed (t := 86) (v := .bool true) rfl (congrArg Value.bool (decide_eq_true (by rw [hn6, hs4, hs3, hs1]; exact kn_n4))) ?_
 refine WL.y rfl (Yd.pickT rfl rfl) ?_
 refine m_ rfl rfl ?_
 refine gy_ 88 rfl rfl rfl (Yd.move rfl) ?_
 refine gy_ 88 rfl rfl rfl (Yd.indexAddr (e := 73) (s := 2) kr_ kr_ rfl rfl (by decide) (by decide)) ?_
 refine gy_ 88 rfl rfl rfl (Yd.fieldAddr (k := 1) kr_ rfl) ?_
 refine WL.gh (dj := 88) rfl rfl rfl (Hd.load1 (v := .int .i64 5) (b := g5b) (o := g5f + ((0 : Nat) : Int).toNat * 2 + 1) (cs := g5s) kr_ rfl (Gr.get gr_ hg5m) (cell_at2 (L := [⟨⟨#[97]⟩, 5, 0⟩]) cellsG_len hg5s (by decide) (by decide)) ⟨_, rfl, ?_⟩)
 refine gy_ 88 rfl rfl rfl (Yd.eql rfl rfl) ?_
 refine WL.renamed (t := 93) (v := .bool true) rfl (congrArg Value.bool (by decide)) ?_
 refine WL.y rfl (Yd.pickT rfl rfl) ?_
 refine m_ rfl rfl ?_
 refine gy_ 95 rfl rfl rfl (Yd.move rfl) ?_
 refine WL.grf (dj := 95) rfl rfl rfl (Ent.func Tryz.call24 rfl) (cepoch_reads p s6 C6 h6) sp_ ?_
 refine gy_ 95 rfl rfl rfl (Yd.eql32 _ (1#32) rfl rfl rfl rfl) ?_
 refine WL.renamed (t := 98) (v := .bool true) rfl (congrArg Value.bool (decide_eq_true (by rw [e6.2.1]))) ?_
 refine WL.y rfl (Yd.pickT rfl rfl) ?_
 refine m_ rfl rfl ?_
 refine gy_ 100 rfl rfl rfl (Yd.move rfl) ?_
 refine WL.gc (dj := 100) rfl rfl rfl (Ent.func Tryz.call21 rfl) (ceffs_tells p s6 C6 h6 (by rw [e6.2.2]; decide)) (Sp.p sp_) ?_
 rintro f9 Hf9 ⟨E9, hE9, rfl⟩
 obtain ⟨fo, fc, rfl, _⟩ := hE9.form
 rw [e6.2.2]
 refine gy_ 100 rfl rfl rfl (Yd.len (e := 111) kr_ rfl) ?_
 refine gy_ 100 rfl rfl rfl (Yd.eql rfl rfl) ?_
 refine WL.renamed (t := 104) (v := .bool true) rfl (congrArg Value.bool (by decide)) ?_
 refine WL.y rfl (Yd.pickT rfl rfl) ?_
 refine a_ rfl rfl ?_
 refine nt_ ?_
 refine WC.ret ?_
 refine DN.fit (C := H) sp_ ?_
 refine DN.ret1 Tryz.results9 rfl ?_
 exact ⟨rfl, rfl⟩
end Go.Proofs.YtkamlondepceiaaGreat

set_option linter.unusedVariables false
set_option linter.unusedSimpArgs false
namespace Go.SL
open Go.ChangeShapes Go.WideShapes Go.ChangeAt Go.RowKit
def Here (W : World) (H : List Ck) : Prop := ∀ c ∈ H, W.heap[c.b]? = some c.o ∧ c.ex = false
theorem Here.nil (W : World) : Here W [] := fun c h => by cases h
theorem Here.append {W : World} {A B : List Ck} (a : Here W A) (b : Here W B) : Here W (A ++ B) := fun c h => by
  rcases List.mem_append.1 h with h | h
  · exact a c h
  · exact b c h
variable {Hh : Type} {enc : TypeId × Value → Hh} {P : Program} {W : World} {base : Nat} {spare : Nat → Bool} {held : Bool} {fuel : Nat} {t : TypeId} {cs : List Value} {x : DataW Hh × List MemPlace}
theorem calls_of_tells {f : FuncId} {args : List Value} {H : List Ck} {v : Value} (h : Reads P f args H v) (hH : Here W H) : Calls P f args.toArray W fun e w' => e = .returned v ∧ Below W.heap.size W w' :=
  (Tells.below h hH).mono fun e w' ⟨v', H', he, hp, hb⟩ => ⟨by rw [he, hp.1], hb⟩
theorem cell_block {a : Addr} {v : Value} (h : W.cell? a = some v) : ∃ (b o : Nat) (c : Array Value) (T : TypeId) (fr : Nat × Nat), a = ⟨b, o, none⟩ ∧ W.heap[b]? = some (.cells c T fr) ∧ c[o]? = some v := by
  unfold World.cell? at h
  split at h
  · rename_i c T fr hb
    obtain ⟨b, o, sp⟩ := a
    cases sp with
    | none => exact ⟨b, o, c, T, fr, rfl, hb, by simpa using h⟩
    | some s => simp at h
  · cases h
theorem open_row {T e s : Nat} {ao : Option Addr} {len cap : Nat} {d : DataW Hh} {p : List MemPlace} (hT : sliceOf P T = some e) (hs : P.cellsOf e = s) (hs0 : 0 < s) (h : DataW.Trod enc P W base spare held T (.slice ao len cap) d p) :
    ∃ (xs : List Value) (H : List Ck) (n : Nat), Rs (.slice ao len cap) len xs H ∧ xs.length = len * s ∧ len ≤ maxLen ∧ Here W H ∧
      ∀ i, i < len → ∃ y, DataW.trod enc P W base spare held n e ((xs.drop (i * s)).take s) = some y := by
  obtain ⟨fuel, hf⟩ := h
  rcases DataW.trod_slice (underlying_slice hT) hf with ⟨hcs, _⟩ | ⟨a, l, c, elems, rest, n, _, hcs, _, hb, hl, hm, hlen, hel, _⟩
  · simp [Value.cells] at hcs
    obtain ⟨rfl, rfl, rfl⟩ := hcs
    exact ⟨[], [], 0, .inl ⟨_, _, rfl, rfl, rfl⟩, by simp, Nat.zero_le _, Here.nil W, fun i hi => by omega⟩
  · simp [Value.cells] at hcs
    obtain ⟨rfl, rfl, rfl⟩ := hcs
    rw [hs] at hel
    by_cases h0 : len = 0
    · subst h0
      exact ⟨[], [], 0, .inl ⟨_, _, rfl, rfl, rfl⟩, by simp, Nat.zero_le _, Here.nil W, fun i hi => by omega⟩
    · have each : ∀ i, i < len → ∃ l y, W.cells? base (a.add (i * s)) s = some l ∧ DataW.trod enc P W base spare held n e l = some y := fun i hi => by
        have h1 := hel i hi
        have h2 : i < elems.length := by omega
        rw [List.getElem?_eq_getElem h2] at h1
        obtain ⟨l, h3, h4⟩ := Option.bind_eq_some_iff.1 h1
        exact ⟨l, _, h3, h4⟩
      obtain ⟨l0, y0, h1, _⟩ := each 0 (by omega)
      have c0 := (World.cells?_some h1).2
      obtain ⟨hlen0, hcell0⟩ := c0
      obtain ⟨b, o, cs, T', fr, hab, hblk, _⟩ := cell_block ((hcell0 0 (by omega)).trans (List.getElem?_eq_getElem (show 0 < l0.length by omega)))
      have haz : a = ⟨b, o, none⟩ := by
        have : (a.add (0 * s)).add 0 = a := by simp [Addr.add]
        rw [this] at hab
        exact hab
      subst haz
      have key : ∀ i, i < len → ∀ j, j < s → ∃ l, W.cells? base ((⟨b, o, none⟩ : Addr).add (i * s)) s = some l ∧ cs[o + i * s + j]? = l[j]? ∧ l.length = s := fun i hi j hj => by
        obtain ⟨l, y, h3, _⟩ := each i hi
        obtain ⟨_, hl3, hc3⟩ := World.cells?_some h3
        refine ⟨l, h3, ?_, hl3⟩
        have h4 := hc3 j (by omega)
        rw [add_plain, add_plain, cell_at hblk] at h4
        exact h4
      have hsize : o + len * s ≤ cs.size := by
        obtain ⟨l, _, h5, h6⟩ := key (len - 1) (by omega) (s - 1) (by omega)
        rw [List.getElem?_eq_getElem (by omega)] at h5
        have h7 := (Array.getElem?_eq_some_iff.1 h5).1
        have h8 : len * s = (len - 1) * s + s := by
          have : len = (len - 1) + 1 := by omega
          rw [this, Nat.add_mul, Nat.one_mul]
          simp
        omega
      refine ⟨(cs.toList.drop o).take (len * s), [⟨b, .cells cs T' fr, false⟩], n, ?_, by simp; omega, by omega, fun c hc => by simp at hc; subst hc; exact ⟨hblk, rfl⟩, fun i hi => ?_⟩
      · refine .inr ⟨b, o, cap, cs.toList, T', fr, false, rfl, hl, by simp, ?_⟩
        have : ((cs.toList.drop o).take (len * s)).length = len * s := by simp; omega
        rw [this]
      · obtain ⟨l, y, h3, h4⟩ := each i hi
        refine ⟨y, ?_⟩
        have : (((cs.toList.drop o).take (len * s)).drop (i * s)).take s = l := by
          obtain ⟨_, hl3, hc3⟩ := World.cells?_some h3
          apply List.ext_getElem?
          intro j
          by_cases hj : j < s
          · obtain ⟨l', h5, h6, h7⟩ := key i hi j hj
            rw [h3] at h5
            cases h5
            rw [List.getElem?_take, if_pos hj, List.getElem?_drop, List.getElem?_take]
            have h8 : i * s + j < len * s := by
              have : i * s + s ≤ len * s := by
                have := Nat.mul_le_mul_right s (show i + 1 ≤ len by omega)
                rwa [Nat.add_mul, Nat.one_mul] at this
              omega
            rw [if_pos h8, List.getElem?_drop, ← h6]
            simp [Nat.add_assoc]
          · rw [List.getElem?_take, if_neg hj, List.getElem?_eq_none (by omega)]
        rw [this]
        exact h4
theorem as_bits8 {n : Int} (h : (Lit.int .u8 n).wf = true) : ∃ x : BitVec 8, n = x.toNat := by
  have := bounds_u8 h
  exact ⟨BitVec.ofNat 8 n.toNat, by simp; omega⟩
theorem as_bits32 {n : Int} (h : (Lit.int .u32 n).wf = true) : ∃ x : BitVec 32, n = x.toNat := by
  have := bounds_u32 h
  exact ⟨BitVec.ofNat 32 n.toNat, by simp; omega⟩
theorem as_i64 {n : Int} (h : (Lit.int .i64 n).wf = true) : -9223372036854775808 ≤ n ∧ n ≤ 9223372036854775807 := bounds_i64 h
theorem open_bytes {T e : Nat} {ao : Option Addr} {len cap : Nat} {d : DataW Hh} {p : List MemPlace} (hT : sliceOf P T = some e) (he : intOfTy P e = some .u8) (hs : P.cellsOf e = 1) (h : DataW.Trod enc P W base spare held T (.slice ao len cap) d p) :
    ∃ (bs : List (BitVec 8)) (H : List Ck), Bs (.slice ao len cap) bs H ∧ bs.length = len ∧ len ≤ maxLen ∧ Here W H := by
  obtain ⟨xs, H, n, hr, hl, hm, hh, hel⟩ := open_row hT hs (by omega) h
  have : ∃ bs : List (BitVec 8), xs = bc bs := by
    have each : ∀ i, i < xs.length → ∃ x : BitVec 8, xs[i]? = some (.int .u8 x.toNat) := fun i hi => by
      obtain ⟨y, hy⟩ := hel i (by omega)
      obtain ⟨m, hm1, _, hm2⟩ := DataW.trod_int (underlying_int he) hy
      obtain ⟨x, rfl⟩ := as_bits8 hm2
      refine ⟨x, ?_⟩
      have := congrArg (fun l => l[0]?) hm1
      simpa using this
    clear hr hl hel
    induction xs with
    | nil => exact ⟨[], rfl⟩
    | cons v xs ih =>
      obtain ⟨x, hx⟩ := each 0 (by simp)
      simp at hx
      obtain ⟨bs, hbs⟩ := ih (fun i hi => by
        obtain ⟨x, h⟩ := each (i + 1) (by simpa using hi)
        exact ⟨x, by simpa using h⟩)
      exact ⟨x :: bs, by rw [hx, hbs]; rfl⟩
  obtain ⟨bs, rfl⟩ := this
  rw [bc_length, Nat.mul_one] at hl
  refine ⟨bs, H, ?_, hl, hm, hh⟩
  show Rs _ bs.length _ _
  rw [hl]
  exact hr
end Go.SL

set_option linter.unusedVariables false
set_option linter.unusedSimpArgs false
namespace Go.SL
open Go.ChangeShapes Go.WideShapes Go.ChangeAt Go.RowKit
variable {Hh : Type} {enc : TypeId × Value → Hh} {P : Program} {W : World} {base : Nat} {spare : Nat → Bool} {held : Bool} {t : TypeId}
theorem open_bytes_cell {e e2 n : Nat} {v : Value} {y : DataW Hh × List MemPlace} (he : sliceOf P e = some e2) (he2 : intOfTy P e2 = some .u8) (hs2 : P.cellsOf e2 = 1) (h : DataW.trod enc P W base spare held n e [v] = some y) :
    ∃ (bs : List (BitVec 8)) (H : List Ck), Bs v bs H ∧ bs.length ≤ maxLen ∧ Here W H := by
  have hv : ∃ ao len cap, v = .slice ao len cap := by
    rcases DataW.trod_slice (underlying_slice he) h with ⟨hcs, _⟩ | ⟨a, l, c, elems, rest, n, _, hcs, _⟩
    · simp at hcs; exact ⟨_, _, _, hcs⟩
    · simp at hcs; exact ⟨_, _, _, hcs⟩
  obtain ⟨ao, len, cap, rfl⟩ := hv
  obtain ⟨bs, H, hb, hl, hm, hh⟩ := open_bytes (d := y.1) (p := y.2) he he2 hs2 ⟨n, h⟩
  exact ⟨bs, H, hb, by omega, hh⟩
end Go.SL

set_option linter.unusedVariables false
set_option linter.unusedSimpArgs false
namespace Go.SL
open Go.ChangeShapes Go.WideShapes Go.ChangeAt Go.RowKit
variable {Hh : Type} {enc : TypeId × Value → Hh} {P : Program} {W : World} {base : Nat} {spare : Nat → Bool} {held : Bool} {t : TypeId}
inductive Leaf where
  | int (k : IntKind)
  | bool
  | str
  | bytes
def leafOk (W : World) : Leaf → Value → Prop
  | .int k, v => ∃ m, v = .int k m ∧ (Lit.int k m).wf = true
  | .bool, v => ∃ b, v = .bool b
  | .str, v => ∃ s : ByteArray, v = .string s ∧ s.size ≤ maxLen
  | .bytes, v => ∃ (bs : List (BitVec 8)) (H : List Ck), Bs v bs H ∧ bs.length ≤ maxLen ∧ Here W H
def leavesF (P : Program) (rec : TypeId → Option (List Leaf)) : List Field → Nat → Option (List Leaf)
  | [], _ => some []
  | f :: r, o => if f.offset = o then (match rec f.type with
      | some L => if P.cellsOf f.type = L.length then (match leavesF P rec r (o + L.length) with | some R => some (L ++ R) | none => none) else none
      | none => none) else none
def leavesOf (P : Program) : Nat → TypeId → Option (List Leaf)
  | 0, _ => none
  | n + 1, T => match P.underlying T with
    | some (.int k) => some [.int k]
    | some .bool => some [.bool]
    | some .string => some [.str]
    | some (.slice e) => if intOfTy P e = some .u8 ∧ P.cellsOf e = 1 then some [.bytes] else none
    | some (.struct fs) => leavesF P (leavesOf P n) fs.toList 0
    | _ => none
theorem leaves_fields {n0 : Nat} (ih : ∀ (T : TypeId) (Ls : List Leaf) (n : Nat) (cs : List Value) (y : DataW Hh × List MemPlace), leavesOf P n0 T = some Ls → P.cellsOf T = Ls.length → DataW.trod enc P W base spare held n T cs = some y → ∀ (i : Nat) (lf : Leaf), Ls[i]? = some lf → ∃ v, cs[i]? = some v ∧ leafOk W lf v) (n : Nat) (cs : List Value) :
    ∀ (fs : List Field) (o : Nat) (Ls : List Leaf), leavesF P (leavesOf P n0) fs o = some Ls → (∀ f ∈ fs, ∃ y, DataW.trod enc P W base spare held n f.type ((cs.drop f.offset).take (P.cellsOf f.type)) = some y) → ∀ (i : Nat) (lf : Leaf), Ls[i]? = some lf → ∃ v, cs[o + i]? = some v ∧ leafOk W lf v := by
  intro fs
  induction fs with
  | nil =>
    intro o Ls h _ i lf hl
    simp [leavesF] at h
    subst h
    simp at hl
  | cons f r ihf =>
    intro o Ls h hy i lf hl
    simp only [leavesF] at h
    split at h
    · rename_i ho
      split at h
      · rename_i L hL
        split at h
        · rename_i hc
          split at h
          · rename_i R hR
            simp only [Option.some.injEq] at h
            subst h
            by_cases hi : i < L.length
            · rw [List.getElem?_append_left hi] at hl
              obtain ⟨y, hy1⟩ := hy f List.mem_cons_self
              obtain ⟨v, hv, hok⟩ := ih _ L n _ y hL hc hy1 i lf hl
              refine ⟨v, ?_, hok⟩
              rw [List.getElem?_take, if_pos (by omega), List.getElem?_drop, ho] at hv
              exact hv
            · rw [List.getElem?_append_right (by omega)] at hl
              obtain ⟨v, hv, hok⟩ := ihf (o + L.length) R hR (fun g hg => hy g (List.mem_cons_of_mem _ hg)) (i - L.length) lf hl
              refine ⟨v, ?_, hok⟩
              rwa [show o + L.length + (i - L.length) = o + i by omega] at hv
          · cases h
        · cases h
      · cases h
    · cases h
theorem open_leaves : ∀ (n0 : Nat) (T : TypeId) (Ls : List Leaf) (n : Nat) (cs : List Value) (y : DataW Hh × List MemPlace), leavesOf P n0 T = some Ls → P.cellsOf T = Ls.length → DataW.trod enc P W base spare held n T cs = some y → ∀ (i : Nat) (lf : Leaf), Ls[i]? = some lf → ∃ v, cs[i]? = some v ∧ leafOk W lf v := by
  intro n0
  induction n0 with
  | zero => intro T Ls n cs y h; simp [leavesOf] at h
  | succ n0 ih =>
    intro T Ls n cs y h hc hy i lf hl
    simp only [leavesOf] at h
    have one : ∀ (lf0 : Leaf), some [lf0] = some Ls → ∀ v, cs = [v] → leafOk W lf0 v → ∃ v, cs[i]? = some v ∧ leafOk W lf v := by
      intro lf0 e v hv hok
      simp only [Option.some.injEq] at e
      subst e hv
      cases i with
      | zero => simp at hl; subst hl; exact ⟨v, rfl, hok⟩
      | succ i => simp at hl
    split at h
    · rename_i k hu
      obtain ⟨m, h1, _, h2⟩ := DataW.trod_int hu hy
      exact one _ h _ h1 ⟨m, rfl, h2⟩
    · rename_i hu
      obtain ⟨b, h1, _⟩ := DataW.trod_bool hu hy
      exact one _ h _ h1 ⟨b, rfl⟩
    · rename_i hu
      obtain ⟨s, h1, _, h2⟩ := DataW.trod_string hu hy
      exact one _ h _ h1 ⟨s, rfl, h2⟩
    · rename_i e hu
      split at h
      · rename_i hb
        have hT : sliceOf P T = some e := by simp [sliceOf, hu]
        have hcs : ∃ v, cs = [v] := by
          rcases DataW.trod_slice hu hy with ⟨h1, _⟩ | ⟨a, l, c, elems, rest, n, _, h1, _⟩
          · exact ⟨_, h1⟩
          · exact ⟨_, h1⟩
        obtain ⟨v, rfl⟩ := hcs
        obtain ⟨bs, H, h1, h2, h3⟩ := open_bytes_cell hT hb.1 hb.2 hy
        exact one _ h v rfl ⟨bs, H, h1, h2, h3⟩
      · cases h
    · rename_i fs hu
      obtain ⟨xs, m, _, _, hlen, hxs, hf⟩ := DataW.trod_struct hu hy
      obtain ⟨v, hv, hok⟩ := leaves_fields ih m cs fs.toList 0 Ls h (by
        intro f hfm
        obtain ⟨j, hj⟩ := List.getElem?_of_mem hfm
        have h1 := hf j f (by simpa using hj)
        have h2 : j < xs.length := by
          have := (List.getElem?_eq_some_iff.1 hj).1
          simp at this
          omega
        rw [List.getElem?_eq_getElem h2] at h1
        exact ⟨_, h1⟩) i lf hl
      exact ⟨v, by simpa using hv, hok⟩
    · cases h
theorem trod_len {T : TypeId} {fs : Array Field} {n : Nat} {cs : List Value} {y : DataW Hh × List MemPlace} (hu : P.underlying T = some (.struct fs)) (h : DataW.trod enc P W base spare held n T cs = some y) : cs.length = P.cellsOf T := by
  obtain ⟨xs, m, _, _, hlen, _⟩ := DataW.trod_struct hu h
  exact hlen
theorem open_list {α : Type} {E : List Value → α → List Ck → Prop} (mono : ∀ c a A B, E c a A → (∀ x ∈ A, x ∈ B) → E c a B) {T e s : Nat} {ao : Option Addr} {len cap : Nat} {d : DataW Hh} {p : List MemPlace} (hT : sliceOf P T = some e) (hs : P.cellsOf e = s) (hs0 : 0 < s)
    (each : ∀ n cs y, DataW.trod enc P W base spare held n e cs = some y → ∃ a H, E cs a H ∧ Here W H) (h : DataW.Trod enc P W base spare held T (.slice ao len cap) d p) :
    ∃ (xs : List Value) (as : List α) (H : List Ck), Rs (.slice ao len cap) len xs H ∧ xs.length = len * s ∧ as.length = len ∧ len ≤ maxLen ∧ Here W H ∧ ∀ i (h : i < as.length), E ((xs.drop (i * s)).take s) as[i] H := by
  obtain ⟨xs, H0, n, hr, hl, hm, hh, hel⟩ := open_row hT hs hs0 h
  have key : ∀ (len : Nat) (xs : List Value), (∀ i, i < len → ∃ y, DataW.trod enc P W base spare held n e ((xs.drop (i * s)).take s) = some y) → ∃ (as : List α) (H : List Ck), as.length = len ∧ Here W H ∧ ∀ i (h : i < as.length), E ((xs.drop (i * s)).take s) as[i] H := by
    intro len
    induction len with
    | zero => intro xs _; exact ⟨[], [], rfl, Here.nil W, fun i h => by simp at h⟩
    | succ len ih =>
      intro xs hx
      obtain ⟨as, H, h1, h2, h3⟩ := ih (xs.drop s) (fun i hi => by
        obtain ⟨y, hy⟩ := hx (i + 1) (by omega)
        refine ⟨y, ?_⟩
        rw [List.drop_drop, show s + i * s = (i + 1) * s by rw [Nat.add_mul, Nat.one_mul, Nat.add_comm]]
        exact hy)
      obtain ⟨y, hy⟩ := hx 0 (by omega)
      obtain ⟨a, Ha, h4, h5⟩ := each n _ y hy
      refine ⟨a :: as, Ha ++ H, by simp [h1], h5.append h2, ?_⟩
      intro i hi
      cases i with
      | zero => exact mono _ _ _ _ h4 (fun x hx => List.mem_append_left _ hx)
      | succ i =>
        have := h3 i (by simpa using hi)
        rw [List.drop_drop, show s + i * s = (i + 1) * s by rw [Nat.add_mul, Nat.one_mul, Nat.add_comm]] at this
        exact mono _ _ _ _ this (fun x hx => List.mem_append_right _ hx)
  obtain ⟨as, H, h1, h2, h3⟩ := key len xs hel
  exact ⟨xs, as, H0 ++ H, hr.mono fun x hx => List.mem_append_left _ hx, hl, h1, hm, hh.append h2, fun i hi => mono _ _ _ _ (h3 i hi) (fun x hx => List.mem_append_right _ hx)⟩
end Go.SL

set_option linter.unusedVariables false
set_option linter.unusedSimpArgs false
namespace Go.SL
open Go.ChangeShapes Go.WideShapes Go.ChangeAt Go.RowKit
variable {Hh : Type} {enc : TypeId × Value → Hh} {P : Program} {W : World} {base : Nat} {spare : Nat → Bool} {held : Bool} {t : TypeId}
def askLeaves : List Leaf := [.int .u32, .int .u32, .int .i64, .bool, .int .i64, .int .i64, .bytes, .bytes]
def AsE (cs : List Value) (a : As) (H : List Ck) : Prop := ∃ vn vd, cs = asc a vn vd ∧ Bs vn a.w.name H ∧ Bs vd a.data H ∧ a.w.name.length ≤ maxLen ∧ a.data.length ≤ maxLen ∧ (-9223372036854775808 ≤ a.st ∧ a.st ≤ 9223372036854775807) ∧ (-9223372036854775808 ≤ a.w.what ∧ a.w.what ≤ 9223372036854775807) ∧ -9223372036854775808 ≤ a.w.n ∧ a.w.n ≤ 9223372036854775807
theorem AsE.mono (cs : List Value) (a : As) (A B : List Ck) (h : AsE cs a A) (s : ∀ x ∈ A, x ∈ B) : AsE cs a B := by
  obtain ⟨vn, vd, h1, h2, h3, h4⟩ := h
  exact ⟨vn, vd, h1, h2.mono s, h3.mono s, h4⟩
theorem ask_of {cs : List Value} (hl : cs.length = 8) (h : ∀ (i : Nat) (lf : Leaf), askLeaves[i]? = some lf → ∃ v, cs[i]? = some v ∧ leafOk W lf v) : ∃ a H, AsE cs a H ∧ Here W H := by
  obtain ⟨v0, e0, m0, rfl, w0⟩ := h 0 _ rfl
  obtain ⟨v1, e1, m1, rfl, w1⟩ := h 1 _ rfl
  obtain ⟨v2, e2, m2, rfl, w2⟩ := h 2 _ rfl
  obtain ⟨v3, e3, m3, rfl⟩ := h 3 _ rfl
  obtain ⟨v4, e4, m4, rfl, w4⟩ := h 4 _ rfl
  obtain ⟨v5, e5, m5, rfl, w5⟩ := h 5 _ rfl
  obtain ⟨v6, e6, bk, Hk, hk1, hk2, hk3⟩ := h 6 _ rfl
  obtain ⟨v7, e7, bd, Hd', hd1, hd2, hd3⟩ := h 7 _ rfl
  obtain ⟨x0, rfl⟩ := as_bits32 w0
  obtain ⟨x1, rfl⟩ := as_bits32 w1
  refine ⟨⟨x0, x1, m2, m3, ⟨m4, m5, bk⟩, bd⟩, Hk ++ Hd', ⟨v6, v7, ?_, hk1.mono fun x hx => List.mem_append_left _ hx, hd1.mono fun x hx => List.mem_append_right _ hx, hk2, hd2, as_i64 w2, as_i64 w4, as_i64 w5⟩, hk3.append hd3⟩
  apply List.ext_getElem?
  intro i
  match i with
  | 0 => exact e0
  | 1 => exact e1
  | 2 => exact e2
  | 3 => exact e3
  | 4 => exact e4
  | 5 => exact e5
  | 6 => exact e6
  | 7 => exact e7
  | i + 8 => rw [List.getElem?_eq_none (by omega), List.getElem?_eq_none (by simp [asc])]
theorem open_asks {T E : TypeId} {fs : Array Field} {ao : Option Addr} {len cap : Nat} {d : DataW Hh} {p : List MemPlace} (hT : sliceOf P T = some E) (hu : P.underlying E = some (.struct fs)) (hL : leavesOf P 5 E = some askLeaves) (hc : P.cellsOf E = 8) (h : DataW.Trod enc P W base spare held T (.slice ao len cap) d p) :
    ∃ (xs : List Value) (ls : List As) (H : List Ck), Rs (.slice ao len cap) len xs H ∧ xs.length = len * 8 ∧ ls.length = len ∧ len ≤ maxLen ∧ Here W H ∧ ∀ i (h : i < ls.length), AsE ((xs.drop (i * 8)).take 8) ls[i] H :=
  open_list AsE.mono hT hc (by omega) (fun n cs y hy => ask_of (by rw [← hc]; exact trod_len hu hy) (open_leaves 5 E _ n _ _ hL hc hy)) h
end Go.SL

set_option linter.unusedVariables false
set_option linter.unusedSimpArgs false
set_option maxHeartbeats 4000000
namespace Go.Proofs.YtkamlondepceiaaGreat
open Go.SL
def AskL (v : Value) (l : List As) (xs : List Value) (H : List Ck) : Prop := Rs v l.length xs H ∧ xs.length = l.length * 8 ∧ ∀ i (h : i < l.length), AsE ((xs.drop (i * 8)).take 8) l[i] H
def NotLong (gs : List Gd) (us : List Au) (rs : List Int) (l : List As) : Prop := gs.length ≤ 100 ∧ us.length ≤ 100 ∧ rs.length ≤ 100 ∧ ∀ (j : Nat) (h : j < l.length), j < 200 → l[j].w.name.length ≤ 500 ∧ l[j].data.length ≤ 500
theorem ask_at {ao : Option Addr} {n c i : Nat} {xs : List Value} {H : List Ck} {vs : List Value} (hv : Rs (.slice ao n c) n xs H) (hx : (xs.drop (i * 8)).take 8 = vs) (hvs : vs.length = 8) : ∃ b o, ao = some ⟨b, o, none⟩ ∧ ∃ (c0 : List Value) (T0 : TypeId) (fr0 : Nat × Nat) (ex0 : Bool), (⟨b, .cells c0.toArray T0 fr0, ex0⟩ : Ck) ∈ H ∧ (∀ (k : Nat) u, vs[k]? = some u → c0[o + (i : Int).toNat * 8 + k]? = some u) ∧ (c0.drop (o + (i : Int).toNat * 8)).take 8 = vs := by
  have hne : xs ≠ [] := by intro e; rw [e] at hx; simp at hx; rw [hx] at hvs; simp at hvs
  obtain ⟨b, o, cs, T, fr, ex, h1, h2, h3⟩ := hv.at hne
  have key : ∀ (k : Nat) u, vs[k]? = some u → cs.toList[o + (i : Int).toNat * 8 + k]? = some u := fun k u hu => by
    rw [← hx, List.getElem?_take] at hu
    split at hu
    · rw [List.getElem?_drop] at hu
      have := h3 _ _ hu
      rw [Int.toNat_natCast]
      simpa [Nat.add_assoc] using this
    · cases hu
  refine ⟨b, o, h1, cs.toList, T, fr, ex, by simpa using h2, key, ?_⟩
  apply List.ext_getElem?
  intro k
  by_cases hk : k < 8
  · rw [List.getElem?_take, if_pos hk, List.getElem?_drop]
    have h9 : vs[k]? = some vs[k] := List.getElem?_eq_getElem (by omega)
    rw [h9]
    exact key k _ h9
  · rw [List.getElem?_eq_none (by rw [List.length_take]; omega), List.getElem?_eq_none (by omega)]
theorem long_reads (v1 v2 v3 v : Value) (gs : List Gd) (us : List Au) (rs : List Int) (l : List As) (xs : List Value) (H : List Ck) (h1 : Rs v1 gs.length (gs.flatMap cellsG) H) (h2 : Rs v2 us.length (us.flatMap cellsU) H) (h3 : Rs v3 rs.length (ic rs) H) (ha : AskL v l xs H) (hl1 : gs.length ≤ 9223372036854775807) (hl2 : us.length ≤ 9223372036854775807) (hl3 : rs.length ≤ 9223372036854775807) (hl : l.length ≤ 9223372036854775807) : Tells Tryz.prog 19 [.agg #[v1, v2, v3], v] H fun r H' => H' = H ∧ ∃ z, r = .bool z ∧ (z = false → NotLong gs us rs l) := by
 refine Tells.enter Tryz.func19 rfl Tryz.ntmps19 rfl ?_
 intro w0 R
 obtain ⟨hv, hx, hA⟩ := ha
 obtain ⟨go, gc, rfl, _⟩ := h1.form
 obtain ⟨uo, uc, rfl, _⟩ := h2.form
 obtain ⟨ro, rc, rfl, _⟩ := h3.form
 obtain ⟨vo, vc, rfl, _⟩ := hv.form
 refine sr_ ?_
 refine WL.h rfl (Hd.boxA (vs := [.slice go gs.length gc, .slice uo us.length uc, .slice ro rs.length rc]) rfl fun b2 => ⟨_, rfl, ?_⟩)
 refine a_ rfl rfl ?_
 refine nt_ ?_
 refine WC.seq ?_
 refine sr_ ?_
 refine f_ 0 kr_ rfl rfl ?_
 refine d_ kr_ rfl mem_ (by rfl) rfl ?_
 refine WL.y rfl (Yd.len (e := 73) kr_ rfl) ?_
 refine WL.y rfl (Yd.gtr rfl rfl) ?_
 refine m_ rfl rfl ?_
 refine WL.partP (t := 12) rfl (fun hg12 => ?_) (fun hg12 => ?_)
 ·iterate 4 refine gn_ 12 rfl rfl rfl rfl ?_
  refine WL.y rfl (Yd.pickT rfl rfl) ?_
  refine m_ rfl rfl ?_
  iterate 4 refine gn_ 18 rfl rfl rfl rfl ?_
  refine WL.y rfl (Yd.pickT rfl rfl) ?_
  refine nt_ ?_
  refine WC.yes rfl ?_
  refine sr_ ?_
  refine a_ rfl rfl ?_
  refine nt_ ?_
  refine WC.ret ?_
  refine DN.then_ret ?_
  refine DN.fit (C := H) sp_ ?_
  refine DN.ret1 Tryz.results19 rfl ?_
  first | exact ⟨rfl, true, rfl, fun e => by cases e⟩ | exact ⟨rfl, false, rfl, fun _ => ⟨by omega, by omega, by omega, fun j h hj => hno j h (by omega)⟩⟩
 ·refine gy_ 12 rfl rfl rfl (Yd.fieldAddr (k := 1) kr_ rfl) ?_
  refine WL.gh (dj := 12) rfl rfl rfl (Hd.load1 kr_ rfl mem_ (by rfl) ⟨_, rfl, ?_⟩)
  refine gy_ 12 rfl rfl rfl (Yd.len (e := 71) kr_ rfl) ?_
  refine gy_ 12 rfl rfl rfl (Yd.gtr rfl rfl) ?_
  refine WL.y rfl (Yd.pickF rfl rfl) ?_
  refine m_ rfl rfl ?_
  refine WL.partP (t := 18) rfl (fun hg18 => ?_) (fun hg18 => ?_)
  ·iterate 4 refine gn_ 18 rfl rfl rfl rfl ?_
   refine WL.y rfl (Yd.pickT rfl rfl) ?_
   refine nt_ ?_
   refine WC.yes rfl ?_
   refine sr_ ?_
   refine a_ rfl rfl ?_
   refine nt_ ?_
   refine WC.ret ?_
   refine DN.then_ret ?_
   refine DN.fit (C := H) sp_ ?_
   refine DN.ret1 Tryz.results19 rfl ?_
   first | exact ⟨rfl, true, rfl, fun e => by cases e⟩ | exact ⟨rfl, false, rfl, fun _ => ⟨by omega, by omega, by omega, fun j h hj => hno j h (by omega)⟩⟩
  ·refine gy_ 18 rfl rfl rfl (Yd.fieldAddr (k := 2) kr_ rfl) ?_
   refine WL.gh (dj := 18) rfl rfl rfl (Hd.load1 kr_ rfl mem_ (by rfl) ⟨_, rfl, ?_⟩)
   refine gy_ 18 rfl rfl rfl (Yd.len (e := 3) kr_ rfl) ?_
   refine gy_ 18 rfl rfl rfl (Yd.gtr rfl rfl) ?_
   refine WL.y rfl (Yd.pickF rfl rfl) ?_
   refine nt_ ?_
   refine WC.ite rfl (fun h23 => ?_) (fun h23 => ?_)
   ·refine sr_ ?_
    refine a_ rfl rfl ?_
    refine nt_ ?_
    refine WC.ret ?_
    refine DN.then_ret ?_
    refine DN.fit (C := H) sp_ ?_
    refine DN.ret1 Tryz.results19 rfl ?_
    first | exact ⟨rfl, true, rfl, fun e => by cases e⟩ | exact ⟨rfl, false, rfl, fun _ => ⟨by omega, by omega, by omega, fun j h hj => hno j h (by omega)⟩⟩
   ·refine WC.skip ?_
    refine ts_ ?_
    refine sr_ ?_
    refine a_ rfl rfl ?_
    refine nt_ ?_
    refine WC.block ?_
    refine WC.loopS (fun z : Nat => z ≤ gs.length) (fun z : Nat => [(5, .int .i64 (z : Int))]) (fun z : Nat => row b2 [.slice go gs.length gc, .slice uo us.length uc, .slice ro rs.length rc] 47 :: H) (fun z : Nat => gs.length - z) (0) (show 0 ≤ gs.length from Nat.zero_le _) (Sx.put rfl (sx_)) sp_ ?_
    rintro i hI
    replace hI : i ≤ gs.length := hI
    obtain hi := hI
    change WC _ _ _ _ _ _ ([(5, .int .i64 (i : Int))] ++ _) (row b2 [.slice go gs.length gc, .slice uo us.length uc, .slice ro rs.length rc] 47 :: H)
    refine WC.seq ?_
    refine sr_ ?_
    refine m_ rfl rfl ?_
    refine f_ 0 kr_ rfl rfl ?_
    refine d_ kr_ rfl mem_ (by rfl) rfl ?_
    refine WL.y rfl (Yd.len (e := 73) kr_ rfl) ?_
    refine WL.y rfl (Yd.lss rfl rfl) ?_
    refine nt_ ?_
    refine WC.ite rfl (fun h28 => ?_) (fun h28 => ?_)
    ·have hlt : i < gs.length := by omega
     obtain ⟨pb, pf, ps, pT, pfr, pex, rfl, _, hpm, hps⟩ := h1.lies (by omega)
     refine WC.skip ?_
     refine ts_ ?_
     refine WC.block ?_
     refine sr_ ?_
     refine f_ 0 kr_ rfl rfl ?_
     refine d_ kr_ rfl mem_ (by rfl) rfl ?_
     refine m_ rfl rfl ?_
     refine WL.y rfl (Yd.indexAddr (e := 73) (s := 2) kr_ kr_ rfl rfl (by omega) (by omega)) ?_
     refine f_ 0 kr_ rfl rfl ?_
     refine WL.h rfl (Hd.load1 (v := .string gs[i].name) (b := pb) (o := pf + (i : Int).toNat * 2 + 0) (cs := ps) kr_ rfl (Gr.get gr_ hpm) (cell_at2 (L := gs) cellsG_len hps (by omega) (by omega)) ⟨_, rfl, ?_⟩)
     refine WL.y rfl (Yd.lenS Tryz.underlying9 rfl) ?_
     refine WL.y rfl (Yd.gtr rfl rfl) ?_
     refine nt_ ?_
     refine WC.ite rfl (fun h38 => ?_) (fun h38 => ?_)
     ·refine sr_ ?_
      refine a_ rfl rfl ?_
      refine nt_ ?_
      refine WC.ret ?_
      refine DN.block_ret ?_
      refine DN.then_ret ?_
      refine DN.then_ret ?_
      refine DN.block_ret ?_
      refine DN.then_ret ?_
      refine DN.fit (C := H) sp_ ?_
      refine DN.ret1 Tryz.results19 rfl ?_
      first | exact ⟨rfl, true, rfl, fun e => by cases e⟩ | exact ⟨rfl, false, rfl, fun _ => ⟨by omega, by omega, by omega, fun j h hj => hno j h (by omega)⟩⟩
     ·refine WC.skip ?_
      refine DN.block_normal ?_
      refine DN.then_normal ?_
      refine WC.region ?_
      refine m_ rfl rfl ?_
      refine WL.y rfl (Yd.add rfl rfl (by omega) (by omega)) ?_
      refine a_ rfl rfl ?_
      refine WL.nil ?_
      exact DN.againS (i + 1) (show (i + 1) ≤ gs.length from by omega) (show gs.length - (i + 1) < gs.length - i by omega) (Sx.put rfl (sx_)) sp_
    ·refine WC.exit ?_
     refine DN.then_exit ?_
     refine DN.then_exit ?_
     refine DN.block_exit ?_
     refine ts_ ?_
     refine sr_ ?_
     refine a_ rfl rfl ?_
     refine nt_ ?_
     refine WC.block ?_
     refine WC.loopS (fun z : Nat => z ≤ us.length) (fun z : Nat => [(6, .int .i64 (z : Int))]) (fun z : Nat => row b2 [.slice go gs.length gc, .slice uo us.length uc, .slice ro rs.length rc] 47 :: H) (fun z : Nat => us.length - z) (0) (show 0 ≤ us.length from Nat.zero_le _) (Sx.put rfl (sx_)) sp_ ?_
     rintro i hI
     replace hI : i ≤ us.length := hI
     obtain hi := hI
     change WC _ _ _ _ _ _ ([(6, .int .i64 (i : Int))] ++ _) (row b2 [.slice go gs.length gc, .slice uo us.length uc, .slice ro rs.length rc] 47 :: H)
     refine WC.seq ?_
     refine sr_ ?_
     refine m_ rfl rfl ?_
     refine f_ 1 kr_ rfl rfl ?_
     refine d_ kr_ rfl mem_ (by rfl) rfl ?_
     refine WL.y rfl (Yd.len (e := 71) kr_ rfl) ?_
     refine WL.y rfl (Yd.lss rfl rfl) ?_
     refine nt_ ?_
     refine WC.ite rfl (fun h43 => ?_) (fun h43 => ?_)
     ·have hlt : i < us.length := by omega
      obtain ⟨qb, qf, qs, qT, qfr, qex, rfl, _, hqm, hqs⟩ := h2.lies (by omega)
      refine WC.skip ?_
      refine ts_ ?_
      refine WC.block ?_
      refine sr_ ?_
      refine f_ 1 kr_ rfl rfl ?_
      refine d_ kr_ rfl mem_ (by rfl) rfl ?_
      refine m_ rfl rfl ?_
      refine WL.y rfl (Yd.indexAddr (e := 71) (s := 3) kr_ kr_ rfl rfl (by omega) (by omega)) ?_
      refine f_ 0 kr_ rfl rfl ?_
      refine WL.h rfl (Hd.load1 (v := .string us[i].name) (b := qb) (o := qf + (i : Int).toNat * 3 + 0) (cs := qs) kr_ rfl (Gr.get gr_ hqm) (cell_at2 (L := us) cellsU_len hqs (by omega) (by omega)) ⟨_, rfl, ?_⟩)
      refine WL.y rfl (Yd.lenS Tryz.underlying9 rfl) ?_
      refine WL.y rfl (Yd.gtr rfl rfl) ?_
      refine nt_ ?_
      refine WC.ite rfl (fun h53 => ?_) (fun h53 => ?_)
      ·refine sr_ ?_
       refine a_ rfl rfl ?_
       refine nt_ ?_
       refine WC.ret ?_
       refine DN.block_ret ?_
       refine DN.then_ret ?_
       refine DN.then_ret ?_
       refine DN.block_ret ?_
       refine DN.then_ret ?_
       refine DN.fit (C := H) sp_ ?_
       refine DN.ret1 Tryz.results19 rfl ?_
       first | exact ⟨rfl, true, rfl, fun e => by cases e⟩ | exact ⟨rfl, false, rfl, fun _ => ⟨by omega, by omega, by omega, fun j h hj => hno j h (by omega)⟩⟩
      ·refine WC.skip ?_
       refine DN.block_normal ?_
       refine DN.then_normal ?_
       refine WC.region ?_
       refine m_ rfl rfl ?_
       refine WL.y rfl (Yd.add rfl rfl (by omega) (by omega)) ?_
       refine a_ rfl rfl ?_
       refine WL.nil ?_
       exact DN.againS (i + 1) (show (i + 1) ≤ us.length from by omega) (show us.length - (i + 1) < us.length - i by omega) (Sx.put rfl (sx_)) sp_
     ·refine WC.exit ?_
      refine DN.then_exit ?_
      refine DN.then_exit ?_
      refine DN.block_exit ?_
      refine ts_ ?_
      refine sr_ ?_
      refine a_ rfl rfl ?_
      refine nt_ ?_
      refine WC.block ?_
      refine WC.loopS (fun z : Nat => z ≤ l.length ∧ ∀ j (h : j < l.length), j < z → l[j].w.name.length ≤ 500 ∧ l[j].data.length ≤ 500) (fun z : Nat => [(7, .int .i64 (z : Int))]) (fun z : Nat => row b2 [.slice go gs.length gc, .slice uo us.length uc, .slice ro rs.length rc] 47 :: H) (fun z : Nat => l.length - z) (0) (show 0 ≤ l.length ∧ ∀ j (h : j < l.length), j < 0 → l[j].w.name.length ≤ 500 ∧ l[j].data.length ≤ 500 from ⟨Nat.zero_le _, fun j h hj => by omega⟩) (Sx.put rfl (sx_)) sp_ ?_
      rintro i hI
      replace hI : i ≤ l.length ∧ ∀ j (h : j < l.length), j < i → l[j].w.name.length ≤ 500 ∧ l[j].data.length ≤ 500 := hI
      obtain ⟨hi, hno⟩ := hI
      change WC _ _ _ _ _ _ ([(7, .int .i64 (i : Int))] ++ _) (row b2 [.slice go gs.length gc, .slice uo us.length uc, .slice ro rs.length rc] 47 :: H)
      refine WC.seq ?_
      refine sr_ ?_
      refine m_ rfl rfl ?_
      refine m_ rfl rfl ?_
      refine WL.y rfl (Yd.len (e := 54) kr_ rfl) ?_
      refine WL.y rfl (Yd.lss rfl rfl) ?_
      refine m_ rfl rfl ?_
      refine WL.partP (t := 58) rfl (fun hg58 => ?_) (fun hg58 => ?_)
      ·refine gy_ 58 rfl rfl rfl (Yd.move rfl) ?_
       refine gy_ 58 rfl rfl rfl (Yd.lss rfl rfl) ?_
       refine WL.y rfl (Yd.pickT rfl rfl) ?_
       refine nt_ ?_
       refine WC.ite rfl (fun h61 => ?_) (fun h61 => ?_)
       ·have hlt : i < l.length := by omega
        obtain ⟨vn, vd, hcell, hk, hd, _⟩ := hA i hlt
        obtain ⟨ko, kc, rfl, _⟩ := hk.form
        obtain ⟨eo, ec, rfl, _⟩ := hd.form
        obtain ⟨b0, o0, rfl, c0, T0, fr0, ex0, hm0, hc0, _⟩ := ask_at hv hcell rfl
        refine WC.skip ?_
        refine ts_ ?_
        refine WC.block ?_
        refine sr_ ?_
        refine m_ rfl rfl ?_
        refine m_ rfl rfl ?_
        refine WL.y rfl (Yd.indexAddr (e := 54) (s := 8) kr_ kr_ rfl rfl (by omega) (by omega)) ?_
        refine f_ 4 kr_ rfl rfl ?_
        refine f_ 2 kr_ rfl rfl ?_
        refine WL.h rfl (Hd.load1 (v := .slice ko l[i].w.name.length kc) kr_ rfl (Gr.get gr_ hm0) (hc0 6 _ rfl) ⟨_, rfl, ?_⟩)
        refine WL.y rfl (Yd.len (e := 5) kr_ rfl) ?_
        refine WL.y rfl (Yd.gtr rfl rfl) ?_
        refine m_ rfl rfl ?_
        refine WL.partP (t := 72) rfl (fun hg72 => ?_) (fun hg72 => ?_)
        ·iterate 7 refine gn_ 72 rfl rfl rfl rfl ?_
         refine WL.y rfl (Yd.pickT rfl rfl) ?_
         refine nt_ ?_
         refine WC.yes rfl ?_
         refine sr_ ?_
         refine a_ rfl rfl ?_
         refine nt_ ?_
         refine WC.ret ?_
         refine DN.block_ret ?_
         refine DN.then_ret ?_
         refine DN.then_ret ?_
         refine DN.block_ret ?_
         refine DN.then_ret ?_
         refine DN.fit (C := H) sp_ ?_
         refine DN.ret1 Tryz.results19 rfl ?_
         first | exact ⟨rfl, true, rfl, fun e => by cases e⟩ | exact ⟨rfl, false, rfl, fun _ => ⟨by omega, by omega, by omega, fun j h hj => hno j h (by omega)⟩⟩
        ·refine gy_ 72 rfl rfl rfl (Yd.move rfl) ?_
         refine gy_ 72 rfl rfl rfl (Yd.move rfl) ?_
         refine gy_ 72 rfl rfl rfl (Yd.indexAddr (e := 54) (s := 8) kr_ kr_ rfl rfl (by omega) (by omega)) ?_
         refine gy_ 72 rfl rfl rfl (Yd.fieldAddr (k := 7) kr_ rfl) ?_
         refine WL.gh (dj := 72) rfl rfl rfl (Hd.load1 (v := .slice eo l[i].data.length ec) kr_ rfl (Gr.get gr_ hm0) (hc0 7 _ rfl) ⟨_, rfl, ?_⟩)
         refine gy_ 72 rfl rfl rfl (Yd.len (e := 5) kr_ rfl) ?_
         refine gy_ 72 rfl rfl rfl (Yd.gtr rfl rfl) ?_
         refine WL.y rfl (Yd.pickF rfl rfl) ?_
         refine nt_ ?_
         refine WC.ite rfl (fun h80 => ?_) (fun h80 => ?_)
         ·refine sr_ ?_
          refine a_ rfl rfl ?_
          refine nt_ ?_
          refine WC.ret ?_
          refine DN.block_ret ?_
          refine DN.then_ret ?_
          refine DN.then_ret ?_
          refine DN.block_ret ?_
          refine DN.then_ret ?_
          refine DN.fit (C := H) sp_ ?_
          refine DN.ret1 Tryz.results19 rfl ?_
          first | exact ⟨rfl, true, rfl, fun e => by cases e⟩ | exact ⟨rfl, false, rfl, fun _ => ⟨by omega, by omega, by omega, fun j h hj => hno j h (by omega)⟩⟩
         ·refine WC.skip ?_
          refine DN.block_normal ?_
          refine DN.then_normal ?_
          refine WC.region ?_
          refine m_ rfl rfl ?_
          refine WL.y rfl (Yd.add rfl rfl (by omega) (by omega)) ?_
          refine a_ rfl rfl ?_
          refine WL.nil ?_
          exact DN.againS (i + 1) (show (i + 1) ≤ l.length ∧ ∀ j (h : j < l.length), j < (i + 1) → l[j].w.name.length ≤ 500 ∧ l[j].data.length ≤ 500 from ⟨by omega, fun j h hj => by by_cases e : j = i; (subst e; exact ⟨by omega, by omega⟩); exact hno j h (by omega)⟩) (show l.length - (i + 1) < l.length - i by omega) (Sx.put rfl (sx_)) sp_
       ·refine WC.exit ?_
        refine DN.then_exit ?_
        refine DN.then_exit ?_
        refine DN.block_exit ?_
        refine ts_ ?_
        refine WC.region ?_
        refine a_ rfl rfl ?_
        refine nt_ ?_
        refine WC.ret ?_
        refine DN.fit (C := H) sp_ ?_
        refine DN.ret1 Tryz.results19 rfl ?_
        first | exact ⟨rfl, true, rfl, fun e => by cases e⟩ | exact ⟨rfl, false, rfl, fun _ => ⟨by omega, by omega, by omega, fun j h hj => hno j h (by omega)⟩⟩
      ·refine gn_ 58 rfl rfl rfl rfl ?_
       refine gn_ 58 rfl rfl rfl rfl ?_
       refine WL.y rfl (Yd.pickF rfl rfl) ?_
       refine nt_ ?_
       refine WC.no rfl ?_
       refine WC.exit ?_
       refine DN.then_exit ?_
       refine DN.then_exit ?_
       refine DN.block_exit ?_
       refine ts_ ?_
       refine WC.region ?_
       refine a_ rfl rfl ?_
       refine nt_ ?_
       refine WC.ret ?_
       refine DN.fit (C := H) sp_ ?_
       refine DN.ret1 Tryz.results19 rfl ?_
       first | exact ⟨rfl, true, rfl, fun e => by cases e⟩ | exact ⟨rfl, false, rfl, fun _ => ⟨by omega, by omega, by omega, fun j h hj => hno j h (by omega)⟩⟩
end Go.Proofs.YtkamlondepceiaaGreat

set_option linter.unusedVariables false
set_option linter.unusedSimpArgs false
set_option maxHeartbeats 8000000
namespace Go.Proofs.YtkamlondepceiaaGreat
open Go.SL
theorem law_CrewStale (v : Value) (l : List As) (xs : List Value) (H : List Ck) (ha : AskL v l xs H) (hm : l.length ≤ 9223372036854775807) : Reads Tryz.prog 5 [v] H (.bool true) := by
 refine Tells.enter Tryz.func5 rfl Tryz.ntmps5 rfl ?_
 intro w0 R
 have ha9 := ha
 obtain ⟨hv, hx, hA⟩ := ha
 obtain ⟨vo, vc, rfl, hvc⟩ := hv.form
 refine sr_ ?_
 refine a_ rfl rfl ?_
 refine ntsr_ ?_
 refine WL.ca rfl (Ent.func Tryz.call18 rfl) (small_tells H) ?_
 rintro q0 H0 ⟨p, C0, rfl, h0, rfl⟩
 have inv0 := sm_inv
 refine a_ rfl rfl ?_
 refine nt_ ?_
 refine WC.seq ?_
 refine sr_ ?_
 refine m_ rfl rfl ?_
 refine WL.y rfl (Yd.eqlNil Tryz.underlying40 rfl rfl) ?_
 refine WL.renamed (t := 14) (v := .bool false) rfl (congrArg Value.bool (rfl)) ?_
 refine m_ rfl rfl ?_
 refine gy_ 15 rfl rfl rfl (Yd.buildL (pl := [(0, 1), (1, 1), (2, 1)]) (zs := [.slice none 0 0, .slice none 0 0, .slice none 0 0]) (parts := []) (vs := []) (cells := [.slice none 0 0, .slice none 0 0, .slice none 0 0]) kr_ kr_ rfl rfl) ?_
 refine gy_ 15 rfl rfl rfl (Yd.move rfl) ?_
 refine WL.gc (dj := 15) rfl rfl rfl (Ent.func Tryz.call19 rfl) (long_reads _ _ _ _ [] [] [] l xs H (.inl ⟨none, 0, rfl, rfl, rfl⟩) (.inl ⟨none, 0, rfl, rfl, rfl⟩) (.inl ⟨none, 0, rfl, rfl, rfl⟩) ha9 (by decide) (by decide) (by decide) hm) (Sp.p sp_) ?_
 rintro q Hq ⟨hHq, z, rfl, hz⟩
 have hHq := hHq.symm
 subst hHq
 refine WL.y rfl (Yd.pickF rfl rfl) ?_
 refine nt_ ?_
 refine WC.cond rfl (fun h19 => ?_) (fun h19 => ?_)
 ·refine sr_ ?_
  refine m_ rfl rfl ?_
  refine WL.y rfl (Yd.neqNil Tryz.underlying40 rfl rfl) ?_
  refine WL.renamed (t := 21) (v := .bool true) rfl (congrArg Value.bool (rfl)) ?_
  refine m_ rfl rfl ?_
  refine WL.gr (dj := 22) rfl rfl rfl (Ent.func Tryz.call9 rfl) (known12 _) ?_
  refine WL.y rfl (Yd.pickT rfl rfl) ?_
  refine a_ rfl rfl ?_
  refine nt_ ?_
  refine WC.ret ?_
  refine DN.then_ret ?_
  refine DN.fit (C := H) sp_ ?_
  refine DN.ret1 Tryz.results5 rfl ?_
  exact ⟨rfl, rfl⟩
 ·have hnl := hz h19
  refine WC.skip ?_
  refine ts_ ?_
  refine sr_ ?_
  refine a_ rfl rfl ?_
  refine nt_ ?_
  refine WC.block ?_
  refine WC.loopS (fun z : Nat × Cw × List Ck => z.1 ≤ l.length ∧ CwAt 189 198 203 3 5 118 111 22 116 p z.2.1 z.2.2 ∧ CInv smG smU [3, 5] z.2.1) (fun z : Nat × Cw × List Ck => [(4, .int .i64 (z.1 : Int))]) (fun z : Nat × Cw × List Ck => z.2.2 ++ H) (fun z : Nat × Cw × List Ck => l.length - z.1) (⟨0, (Cw.new smG smU [3, 5]), C0⟩) (show 0 ≤ l.length ∧ CwAt 189 198 203 3 5 118 111 22 116 p ((Cw.new smG smU [3, 5])) C0 ∧ CInv smG smU [3, 5] ((Cw.new smG smU [3, 5])) from ⟨Nat.zero_le _, h0, inv0⟩) (Sx.put rfl (sx_)) sp_ ?_
  rintro ⟨i, s, C⟩ hI
  replace hI : i ≤ l.length ∧ CwAt 189 198 203 3 5 118 111 22 116 p s C ∧ CInv smG smU [3, 5] s := hI
  obtain ⟨hi, h, inv⟩ := hI
  change WC _ _ _ _ _ _ ([(4, .int .i64 (i : Int))] ++ _) (C ++ H)
  refine WC.seq ?_
  refine sr_ ?_
  refine m_ rfl rfl ?_
  refine m_ rfl rfl ?_
  refine WL.y rfl (Yd.len (e := 54) kr_ rfl) ?_
  refine WL.y rfl (Yd.lss rfl rfl) ?_
  refine m_ rfl rfl ?_
  refine WL.partP (t := 29) rfl (fun hg29 => ?_) (fun hg29 => ?_)
  ·refine gy_ 29 rfl rfl rfl (Yd.move rfl) ?_
   refine gy_ 29 rfl rfl rfl (Yd.lss rfl rfl) ?_
   refine WL.y rfl (Yd.pickT rfl rfl) ?_
   refine nt_ ?_
   refine WC.ite rfl (fun h32 => ?_) (fun h32 => ?_)
   ·have hlt : i < l.length := by omega
    obtain ⟨hq1, hq2⟩ := hnl.2.2.2 i hlt (by omega)
    obtain ⟨vn, vd, hcell, hkn, hkd, _⟩ := hA i hlt
    obtain ⟨ko, kc, rfl, _⟩ := hkn.form
    obtain ⟨eo, ec, rfl, _⟩ := hkd.form
    obtain ⟨hmK, hmU⟩ := inv_many inv
    have hme := inv.ef
    have hmk := inv.ck.1
    refine WC.skip ?_
    refine ts_ ?_
    refine WC.block ?_
    refine sr_ ?_
    refine m_ rfl rfl ?_
    refine m_ rfl rfl ?_
    refine WL.elemA (e := 54) (s := 8) kr_ kr_ kr_ rfl rfl (rfl) (hv.mono gr_) (hcell) (by rfl) (by omega) (hlt) rfl rfl ?_
    intro p37
    refine WL.c rfl (Ent.func Tryz.call20 rfl) (note_tells l[i] _ _ H hkn hkd (by omega)) (Sp.p sp_) ?_
    rintro q1 Hq1 ⟨x, A, rfl, hbx, rfl⟩
    have hnl9 := note_len l[i]
    obtain ⟨n0, hn0⟩ : ∃ m, m = noteA l[i] := ⟨_, rfl⟩
    rw [← hn0] at hbx hnl9 ⊢
    obtain ⟨xo, xc, rfl, _⟩ := hbx.form
    refine WL.h rfl (Hd.alloc (zs := [.int .i64 0, .int .u32 0, .int .u32 0, .int .u64 0, .int .u64 0, .int .u32 0, .int .i64 0, .bool false, .int .i64 0, .slice none 0 0, .slice none 0 0]) kr_ fun b5 => ⟨_, rfl, ?_⟩)
    refine WL.s (Hd.storeAll (n := 11) kr_ rfl rfl (by rfl) one_ fr_ (by rfl) ⟨rfl, ?_⟩)
    refine ntsr_ ?_
    refine f_ 1 kr_ rfl rfl ?_
    refine d_ kr_ rfl mem_ (by rfl) rfl ?_
    refine WL.y rfl (Yd.rem32 _ (6#32) rfl rfl rfl rfl (by decide)) ?_
    refine f_ 1 kr_ rfl rfl ?_
    obtain ⟨n, hn⟩ : ∃ m, m = ({ n0 with epoch := n0.epoch % 6#32 } : Nt) := ⟨_, rfl⟩
    have hbn : Bs (.slice xo n.data.length xc) n.data (A ++ H) := by rw [hn]; exact hbx
    refine WL.s (Hd.store1s (cs' := (ntc n (.slice none 0 0) (.slice xo n.data.length xc))) kr_ rfl rfl (by rfl) fr_ (by rfl) (by subst hn; rfl) ⟨rfl, ?_⟩)
    refine ntsr_ ?_
    refine m_ rfl rfl ?_
    refine WL.rf rfl (Ent.func Tryz.call24 rfl) (cepoch_reads p s C h) sp_ ?_
    refine a_ rfl rfl ?_
    refine ntsr_ ?_
    refine m_ rfl rfl ?_
    refine WL.c rfl (Ent.func Tryz.call25 rfl) (cgoods_tells p s C h (by omega)) (Sp.p sp_) ?_
    rintro q Hq ⟨S1, Cs1, hT1, ho1, rfl⟩
    have hl1 := hT1.perm.length_eq
    obtain ⟨so1, sc1, rfl, _⟩ := ho1.form
    refine a_ rfl rfl ?_
    refine ntsr_ ?_
    refine m_ rfl rfl ?_
    refine WL.c rfl (Ent.func Tryz.call26 rfl) (caccs_tells p s C h (by omega)) (Sp.p sp_) ?_
    rintro q Hq ⟨T1, Ct1, hU1, hq1, rfl⟩
    have hlU1 := hU1.perm.length_eq
    obtain ⟨to1, tc1, rfl, _⟩ := hq1.form
    refine a_ rfl rfl ?_
    refine ntsr_ ?_
    refine m_ rfl rfl ?_
    refine WL.c rfl (Ent.func Tryz.call21 rfl) (ceffs_tells p s C h (by omega)) (Sp.p sp_) ?_
    rintro q Hq ⟨Ce1, he1, rfl⟩
    obtain ⟨fo1, fc1, rfl, _⟩ := he1.form
    refine a_ rfl rfl ?_
    refine ntsr_ ?_
    refine m_ rfl rfl ?_
    refine WL.h rfl (Hd.loadAll (n := 11) kr_ rfl mem_ (by rfl) ⟨_, rfl, ?_⟩)
    refine WL.c rfl (Ent.func Tryz.call22 rfl) (serve_tells p s C h inv n _ _ (A ++ H) (by rw [hn, hn0]; exact .inl ⟨_, _, rfl, rfl, rfl⟩) hbn) (Sp.p sp_) ?_
    rintro q2 Hq2 ⟨C2, w2, D2, rfl, h2, hD2, rfl⟩
    have inv2 := serve_inv inv n
    have hk2 := serve_key s n
    have hst := stale_of inv.ck n
    obtain ⟨s2, hs2⟩ : ∃ t, t = serveS s n := ⟨_, rfl⟩
    obtain ⟨a2, ha2⟩ : ∃ t, t = serveN s n := ⟨_, rfl⟩
    rw [← hs2] at h2 inv2 hst
    rw [← ha2] at hD2 hk2 hst ⊢
    obtain ⟨wo2, wc2, rfl, _⟩ := hD2.form
    obtain ⟨hmK2, hmU2⟩ := inv_many inv2
    have hme2 := inv2.ef
    have hmk2 := inv2.ck.1
    refine WL.h rfl (Hd.alloc (zs := [.int .i64 0, .int .u32 0, .int .u32 0, .int .u64 0, .int .u64 0, .int .u32 0, .int .i64 0, .bool false, .int .i64 0, .slice none 0 0, .slice none 0 0]) kr_ fun b10 => ⟨_, rfl, ?_⟩)
    refine WL.s (Hd.storeAll (n := 11) kr_ rfl rfl (by rfl) (ntc_one rfl rfl) fr_ (by rfl) ⟨rfl, ?_⟩)
    refine nt_ ?_
    refine WC.cutK (fun y : Bool => s2.K = s.K ∧ s2.U = s.U ∧ s2.ef = s.ef → y = true) (fun y : Bool => [(11, .bool y)]) (fun y : Bool => row b10 (ntc a2 (.slice none 0 0) (.slice wo2 a2.data.length wc2)) 52 :: (row b5 (ntc n (.slice none 0 0) (.slice xo n.data.length xc)) 52 :: (C2 ++ H))) ?_ ?_
    ·refine WC.region ?_
     refine m_ rfl rfl ?_
     refine WL.c rfl (Ent.func Tryz.call25 rfl) (cgoods_tells p s2 C2 h2 (by omega)) (Sp.p sp_) ?_
     rintro q Hq ⟨S2, Cs2, hT2, ho2, rfl⟩
     have hl2 := hT2.perm.length_eq
     obtain ⟨so2, sc2, rfl, _⟩ := ho2.form
     refine m_ rfl rfl ?_
     refine WL.rf rfl (Ent.func Tryz.call27 rfl) (sameGoods_reads _ _ S2 S1 (Cs2 ++ Cs1) (ho2.rs.mono gr_) (ho1.rs.mono gr_) (by omega) (by omega)) sp_ ?_
     refine m_ rfl rfl ?_
     refine WL.partP (t := 59) rfl (fun hg59 => ?_) (fun hg59 => ?_)
     ·refine gy_ 59 rfl rfl rfl (Yd.move rfl) ?_
      refine WL.gc (dj := 59) rfl rfl rfl (Ent.func Tryz.call26 rfl) (caccs_tells p s2 C2 h2 (by omega)) (Sp.p sp_) ?_
      rintro q Hq ⟨T2, Ct2, hU2, hq2, rfl⟩
      have hlU2 := hU2.perm.length_eq
      obtain ⟨to2, tc2, rfl, _⟩ := hq2.form
      refine gy_ 59 rfl rfl rfl (Yd.move rfl) ?_
      refine WL.grf (dj := 59) rfl rfl rfl (Ent.func Tryz.call28 rfl) (sameAccs_reads _ _ T2 T1 (Ct2 ++ Ct1) (hq2.rs.mono gr_) (hq1.rs.mono gr_) (by omega) (by omega)) sp_ ?_
      refine WL.y rfl (Yd.pickT rfl rfl) ?_
      refine m_ rfl rfl ?_
      refine WL.partP (t := 65) rfl (fun hg65 => ?_) (fun hg65 => ?_)
      ·refine gy_ 65 rfl rfl rfl (Yd.move rfl) ?_
       refine WL.gc (dj := 65) rfl rfl rfl (Ent.func Tryz.call21 rfl) (ceffs_tells p s2 C2 h2 (by omega)) (Sp.p sp_) ?_
       rintro q Hq ⟨Ce2, he2, rfl⟩
       obtain ⟨fo2, fc2, rfl, _⟩ := he2.form
       refine gy_ 65 rfl rfl rfl (Yd.move rfl) ?_
       refine WL.grf (dj := 65) rfl rfl rfl (Ent.func Tryz.call29 rfl) (sameEffs_reads _ _ s2.ef s.ef (Ce2 ++ Ce1) (he2.rs.mono gr_) (he1.rs.mono gr_) (by omega) (by omega)) sp_ ?_
       refine WL.y rfl (Yd.pickT rfl rfl) ?_
       refine a_ rfl rfl ?_
       refine WL.nil ?_
       exact DN.reachS (_) (fun q => decide_eq_true q.2.2) (Sx.put rfl (sx_)) sp_
      ·iterate 4 refine gn_ 65 rfl rfl rfl rfl ?_
       refine WL.y rfl (Yd.pickF rfl rfl) ?_
       refine a_ rfl rfl ?_
       refine WL.nil ?_
       exact DN.reachS (_) (fun q => absurd (tellU inv.pu.knd hU1 (by rw [← q.2.1]; exact hU2)).symm hg65) (Sx.put rfl (sx_)) sp_
     ·iterate 4 refine gn_ 59 rfl rfl rfl rfl ?_
      refine WL.y rfl (Yd.pickF rfl rfl) ?_
      refine m_ rfl rfl ?_
      iterate 4 refine gn_ 65 rfl rfl rfl rfl ?_
      refine WL.y rfl (Yd.pickF rfl rfl) ?_
      refine a_ rfl rfl ?_
      refine WL.nil ?_
      exact DN.reachS (_) (fun q => absurd (by rw [tellG inv.st.knd hT1 (by rw [← q.1]; exact hT2)]) hg59) (Sx.put rfl (sx_)) sp_
    ·intro y hy
     refine WC.seq ?_
     rcases hst with ⟨h8, hae, hce, hlt9, hst9⟩ | ⟨h9, hlt9, hae, hao, hap, hst9⟩ | ⟨h6, hae, hcc, hst9⟩
     ·refine WC.region ?_
      refine f_ 0 kr_ rfl rfl ?_
      refine d_ kr_ rfl mem_ (by rfl) rfl ?_
      refine nt_ ?_
      refine WC.block ?_
      refine sr_ ?_
      refine WL.y rfl (Yd.eql rfl rfl) ?_
      refine WL.renamed (t := 74) (v := .bool true) rfl (congrArg Value.bool (decide_eq_true h8)) ?_
      refine a_ rfl rfl ?_
      refine nt_ ?_
      refine WC.yes rfl ?_
      refine WC.seq ?_
      refine WC.draw 31 kr_ rfl ?_
      refine WA.float (N := 31) rfl ?_
      refine WAF.add (i := 0) (d := 75) rfl (QF.mk [] [] rfl rfl kr_ rfl (QAt.y Wt.none (Yd.fieldAddr (k := 1) kr_ rfl))) ?_
      refine WAF.add (i := 1) (d := 76) rfl (QF.mk [0] [(75, _)] rfl rfl kr_ rfl (QAt.rd Wt.none (Rd.load1 kr_ rfl mem_ (by rfl)))) ?_
      refine WAF.add (i := 2) (d := 77) rfl (QF.mk [] [] rfl rfl kr_ rfl (QAt.y Wt.none (Yd.fieldAddr (k := 1) kr_ rfl))) ?_
      refine WAF.add (i := 3) (d := 78) rfl (QF.mk [2] [(77, _)] rfl rfl kr_ rfl (QAt.rd Wt.none (Rd.load1 kr_ rfl mem_ (by rfl)))) ?_
      refine WAF.add (i := 4) (d := 79) rfl (QF.mk [3, 1] [(78, _), (76, _)] rfl rfl kr_ rfl (QAt.y Wt.none (Yd.neq32 _ _ rfl rfl rfl rfl))) ?_
      refine WAF.ren (v := .bool false) (congrArg Value.bool (by simp [hae])) ?_
      refine WAF.add (i := 5) (d := 80) rfl (QF.mk [4] [(79, _)] rfl rfl kr_ rfl (QAt.y Wt.none (Yd.move rfl))) ?_
      refine WAF.add (i := 6) (d := 81) rfl (QF.mk [5] [(80, _)] rfl rfl kr_ rfl (QAt.y (Wt.yes (dj := 80) rfl rfl) (Yd.move rfl))) ?_
      refine WAF.add (i := 7) (d := 82) rfl (QF.mk [6, 5] [(81, _), (80, _)] rfl rfl kr_ rfl (QAt.rf (Wt.yes (dj := 80) rfl rfl) (Ent.func Tryz.call24 rfl) (cepoch_reads p s2 C2 h2) sp_)) ?_
      refine WAF.add (i := 8) (d := 83) rfl (QF.mk [5] [(80, _)] rfl rfl kr_ rfl (QAt.y (Wt.yes (dj := 80) rfl rfl) (Yd.fieldAddr (k := 1) kr_ rfl))) ?_
      refine WAF.add (i := 9) (d := 84) rfl (QF.mk [8, 5] [(83, _), (80, _)] rfl rfl kr_ rfl (QAt.rd (Wt.yes (dj := 80) rfl rfl) (Rd.load1 kr_ rfl mem_ (by rfl)))) ?_
      refine WAF.add (i := 10) (d := 85) rfl (QF.mk [9, 7, 5] [(84, _), (82, _), (80, _)] rfl rfl kr_ rfl (QAt.y (Wt.yes (dj := 80) rfl rfl) (Yd.neq32 _ _ rfl rfl rfl rfl))) ?_
      refine WAF.ren (v := .bool false) (congrArg Value.bool (by simp [hce])) ?_
      refine WAF.add (i := 11) (d := 86) rfl (QF.mk [10, 5] [(85, _), (80, _)] rfl rfl kr_ rfl (QAt.y Wt.none (Yd.pickF rfl rfl))) ?_
      refine WAF.add (i := 12) (d := 87) rfl (QF.mk [11, 7] [(86, _), (82, _)] rfl rfl kr_ rfl (QAt.y Wt.none (Yd.move rfl))) ?_
      refine WAF.add (i := 13) (d := 88) rfl (QF.mk [12] [(87, _)] rfl rfl kr_ rfl (QAt.y (Wt.yes (dj := 87) rfl rfl) (Yd.fieldAddr (k := 1) kr_ rfl))) ?_
      refine WAF.add (i := 14) (d := 89) rfl (QF.mk [13, 12] [(88, _), (87, _)] rfl rfl kr_ rfl (QAt.rd (Wt.yes (dj := 87) rfl rfl) (Rd.load1 kr_ rfl mem_ (by rfl)))) ?_
      refine WAF.add (i := 15) (d := 90) rfl (QF.mk [12] [(87, _)] rfl rfl kr_ rfl (QAt.y (Wt.yes (dj := 87) rfl rfl) (Yd.move rfl))) ?_
      refine WAF.add (i := 16) (d := 91) rfl (QF.mk [15, 14, 12] [(90, _), (89, _), (87, _)] rfl rfl kr_ rfl (QAt.y (Wt.yes (dj := 87) rfl rfl) (Yd.lss rfl rfl))) ?_
      refine WAF.ren (v := .bool false) (congrArg Value.bool (decide_eq_false (by omega))) ?_
      refine WAF.add (i := 17) (d := 92) rfl (QF.mk [16, 12] [(91, _), (87, _)] rfl rfl kr_ rfl (QAt.y Wt.none (Yd.pickF rfl rfl))) ?_
      refine WAF.add (i := 18) (d := 93) rfl (QF.mk [17, 12] [(92, _), (87, _)] rfl rfl kr_ rfl (QAt.y Wt.none (Yd.move rfl))) ?_
      refine WAF.add (i := 19) (d := 94) rfl (QF.mk [18] [(93, _)] rfl rfl kr_ rfl (QAt.y (Wt.yes (dj := 93) rfl rfl) (Yd.move rfl))) ?_
      refine WAF.add (i := 20) (d := 95) rfl (QF.mk [19, 18] [(94, _), (93, _)] rfl rfl kr_ rfl (QAt.y (Wt.yes (dj := 93) rfl rfl) (Yd.notB rfl))) ?_
      refine WAF.add (i := 21) (d := 96) rfl (QF.mk [20, 18] [(95, _), (93, _)] rfl rfl kr_ rfl (QAt.y (Wt.yes (dj := 93) rfl rfl) (Yd.move rfl))) ?_
      refine WAF.part (fun hg96 => ?_) (fun hg96 => ?_)
      ·refine WAF.add (i := 22) (d := 97) rfl (QF.mk [21] [(96, _)] rfl rfl kr_ rfl (QAt.y (Wt.yes (dj := 96) rfl rfl) (Yd.move rfl))) ?_
       refine WAF.add (i := 25) (d := 100) rfl (QF.mk [21] [(96, _)] rfl rfl kr_ rfl (QAt.y (Wt.yes (dj := 96) rfl rfl) (Yd.move rfl))) ?_
       refine WAF.add (i := 26) (d := 101) rfl (QF.mk [25, 21] [(100, _), (96, _)] rfl rfl kr_ rfl (QAt.y (Wt.yes (dj := 96) rfl rfl) (Yd.len (e := 111) kr_ rfl))) ?_
       refine WAF.add (i := 27) (d := 102) rfl (QF.mk [26, 21] [(101, _), (96, _)] rfl rfl kr_ rfl (QAt.y (Wt.yes (dj := 96) rfl rfl) (Yd.add rfl rfl (by omega) (by omega)))) ?_
       refine WAF.step (pd := [(27, 102), (26, 101), (25, 100), (22, 97), (21, 96), (20, 95), (19, 94), (18, 93), (17, 92), (16, 91), (15, 90), (14, 89), (13, 88), (12, 87), (11, 86), (10, 85), (9, 84), (8, 83), (7, 82), (6, 81), (5, 80), (4, 79), (3, 78), (2, 77), (1, 76), (0, 75)]) [(23, [22, 21])] rfl kr_ kr_ (all_c rfl (all_c rfl (all_c rfl (all_c rfl (all_c rfl (all_c rfl (all_c rfl (all_c rfl (all_c rfl (all_c rfl (all_c rfl (all_c rfl (all_c rfl (all_c rfl (all_c rfl (all_c rfl (all_c rfl (all_c rfl (all_c rfl (all_c rfl (all_c rfl (all_c rfl (all_c rfl (all_c rfl (all_c rfl (all_c rfl (all_n))))))))))))))))))))))))))) (all_c (QF.mk [26, 21] [(101, _), (96, _)] rfl rfl kr_ rfl (QAt.y (Wt.yes (dj := 96) rfl rfl) (Yd.add rfl rfl (by omega) (by omega)))) (all_c (QF.mk [25, 21] [(100, _), (96, _)] rfl rfl kr_ rfl (QAt.y (Wt.yes (dj := 96) rfl rfl) (Yd.len (e := 111) kr_ rfl))) (all_c (QF.mk [21] [(96, _)] rfl rfl kr_ rfl (QAt.y (Wt.yes (dj := 96) rfl rfl) (Yd.move rfl))) (all_c (QF.mk [21] [(96, _)] rfl rfl kr_ rfl (QAt.y (Wt.yes (dj := 96) rfl rfl) (Yd.move rfl))) (all_c (QF.ren (congrArg Value.bool hg96) (QF.mk [20, 18] [(95, _), (93, _)] rfl rfl kr_ rfl (QAt.y (Wt.yes (dj := 93) rfl rfl) (Yd.move rfl)))) (all_c (QF.mk [19, 18] [(94, _), (93, _)] rfl rfl kr_ rfl (QAt.y (Wt.yes (dj := 93) rfl rfl) (Yd.notB rfl))) (all_c (QF.mk [18] [(93, _)] rfl rfl kr_ rfl (QAt.y (Wt.yes (dj := 93) rfl rfl) (Yd.move rfl))) (all_c (QF.mk [17, 12] [(92, _), (87, _)] rfl rfl kr_ rfl (QAt.y Wt.none (Yd.move rfl))) (all_c (QF.mk [16, 12] [(91, _), (87, _)] rfl rfl kr_ rfl (QAt.y Wt.none (Yd.pickF rfl rfl))) (all_c (QF.ren (congrArg Value.bool (decide_eq_false (by omega))) (QF.mk [15, 14, 12] [(90, _), (89, _), (87, _)] rfl rfl kr_ rfl (QAt.y (Wt.yes (dj := 87) rfl rfl) (Yd.lss rfl rfl)))) (all_c (QF.mk [12] [(87, _)] rfl rfl kr_ rfl (QAt.y (Wt.yes (dj := 87) rfl rfl) (Yd.move rfl))) (all_c (QF.mk [13, 12] [(88, _), (87, _)] rfl rfl kr_ rfl (QAt.rd (Wt.yes (dj := 87) rfl rfl) (Rd.load1 kr_ rfl mem_ (by rfl)))) (all_c (QF.mk [12] [(87, _)] rfl rfl kr_ rfl (QAt.y (Wt.yes (dj := 87) rfl rfl) (Yd.fieldAddr (k := 1) kr_ rfl))) (all_c (QF.mk [11, 7] [(86, _), (82, _)] rfl rfl kr_ rfl (QAt.y Wt.none (Yd.move rfl))) (all_c (QF.mk [10, 5] [(85, _), (80, _)] rfl rfl kr_ rfl (QAt.y Wt.none (Yd.pickF rfl rfl))) (all_c (QF.ren (congrArg Value.bool (by simp [hce])) (QF.mk [9, 7, 5] [(84, _), (82, _), (80, _)] rfl rfl kr_ rfl (QAt.y (Wt.yes (dj := 80) rfl rfl) (Yd.neq32 _ _ rfl rfl rfl rfl)))) (all_c (QF.mk [8, 5] [(83, _), (80, _)] rfl rfl kr_ rfl (QAt.rd (Wt.yes (dj := 80) rfl rfl) (Rd.load1 kr_ rfl mem_ (by rfl)))) (all_c (QF.mk [5] [(80, _)] rfl rfl kr_ rfl (QAt.y (Wt.yes (dj := 80) rfl rfl) (Yd.fieldAddr (k := 1) kr_ rfl))) (all_c (QF.mk [6, 5] [(81, _), (80, _)] rfl rfl kr_ rfl (QAt.rf (Wt.yes (dj := 80) rfl rfl) (Ent.func Tryz.call24 rfl) (cepoch_reads p s2 C2 h2) sp_)) (all_c (QF.mk [5] [(80, _)] rfl rfl kr_ rfl (QAt.y (Wt.yes (dj := 80) rfl rfl) (Yd.move rfl))) (all_c (QF.mk [4] [(79, _)] rfl rfl kr_ rfl (QAt.y Wt.none (Yd.move rfl))) (all_c (QF.ren (congrArg Value.bool (by simp [hae])) (QF.mk [3, 1] [(78, _), (76, _)] rfl rfl kr_ rfl (QAt.y Wt.none (Yd.neq32 _ _ rfl rfl rfl rfl)))) (all_c (QF.mk [2] [(77, _)] rfl rfl kr_ rfl (QAt.rd Wt.none (Rd.load1 kr_ rfl mem_ (by rfl)))) (all_c (QF.mk [] [] rfl rfl kr_ rfl (QAt.y Wt.none (Yd.fieldAddr (k := 1) kr_ rfl))) (all_c (QF.mk [0] [(75, _)] rfl rfl kr_ rfl (QAt.rd Wt.none (Rd.load1 kr_ rfl mem_ (by rfl)))) (all_c (QF.mk [] [] rfl rfl kr_ rfl (QAt.y Wt.none (Yd.fieldAddr (k := 1) kr_ rfl))) (all_n))))))))))))))))))))))))))) (all_c ?_ (all_n))
       ·change SO _ _ _ _ _ _ 23 ([(97, _), (96, _)] ++ _) _ _
        refine SO.c rfl (Wt.yes (dj := 96) rfl rfl) rfl (Ent.func Tryz.call21 rfl) (ceffs_tells p s2 C2 h2 (by omega)) (Sp.p sp_) ?_
        rintro q Hq ⟨Ce3, he3, rfl⟩
        obtain ⟨fo3, fc3, rfl, _⟩ := he3.form
        change WAF _ _ _ _ _ _ [(27, 102, _), (26, 101, _), (25, 100, _), (20, 95, _), (19, 94, _), (18, 93, _), (17, 92, _), (16, 91, _), (15, 90, _), (14, 89, _), (13, 88, _), (12, 87, _), (11, 86, _), (10, 85, _), (9, 84, _), (8, 83, _), (7, 82, _), (6, 81, _), (5, 80, _), (4, 79, _), (3, 78, _), (2, 77, _), (1, 76, _), (0, 75, _)] _ [23, 22, 21] ((98, _) :: ([(97, _), (96, _)] ++ _)) _
        refine WAF.add (i := 24) (d := 99) rfl (QF.mk [] [] rfl rfl kr_ rfl (QAt.y (Wt.yes (dj := 96) rfl rfl) (Yd.len (e := 111) kr_ rfl))) ?_
        refine WAF.add (i := 28) (d := 103) rfl (QF.mk [24, 27] [(99, _), (102, _)] rfl rfl kr_ rfl (QAt.y (Wt.yes (dj := 96) rfl rfl) (Yd.neq rfl rfl))) ?_
        refine WAF.ren (v := .bool false) (congrArg Value.bool (decide_eq_false (fun e => by rcases hst9 with q | q; (rw [hy q] at hg96; cases hg96); exact e (by omega)))) ?_
        refine WAF.add (i := 29) (d := 104) rfl (QF.mk [28, 18] [(103, _), (93, _)] rfl rfl kr_ rfl (QAt.y (Wt.yes (dj := 93) rfl rfl) (Yd.pickT rfl rfl))) ?_
        refine WAF.add (i := 30) (d := 105) rfl (QF.mk [29, 18] [(104, _), (93, _)] rfl rfl kr_ rfl (QAt.y Wt.none (Yd.pickF rfl rfl))) ?_
        refine WAF.done (pd := [(30, 105), (29, 104), (28, 103), (24, 99), (27, 102), (26, 101), (25, 100), (20, 95), (19, 94), (18, 93), (17, 92), (16, 91), (15, 90), (14, 89), (13, 88), (12, 87), (11, 86), (10, 85), (9, 84), (8, 83), (7, 82), (6, 81), (5, 80), (4, 79), (3, 78), (2, 77), (1, 76), (0, 75)]) rfl kr_ kr_ (all_c rfl (all_c rfl (all_c rfl (all_c rfl (all_c rfl (all_c rfl (all_c rfl (all_c rfl (all_c rfl (all_c rfl (all_c rfl (all_c rfl (all_c rfl (all_c rfl (all_c rfl (all_c rfl (all_c rfl (all_c rfl (all_c rfl (all_c rfl (all_c rfl (all_c rfl (all_c rfl (all_c rfl (all_c rfl (all_c rfl (all_c rfl (all_c rfl (all_n))))))))))))))))))))))))))))) (all_c (QF.mk [29, 18] [(104, _), (93, _)] rfl rfl kr_ rfl (QAt.y Wt.none (Yd.pickF rfl rfl))) (all_c (QF.mk [28, 18] [(103, _), (93, _)] rfl rfl kr_ rfl (QAt.y (Wt.yes (dj := 93) rfl rfl) (Yd.pickT rfl rfl))) (all_c (QF.ren (congrArg Value.bool (decide_eq_false (fun e => by rcases hst9 with q | q; (rw [hy q] at hg96; cases hg96); exact e (by omega)))) (QF.mk [24, 27] [(99, _), (102, _)] rfl rfl kr_ rfl (QAt.y (Wt.yes (dj := 96) rfl rfl) (Yd.neq rfl rfl)))) (all_c (QF.mk [] [] rfl rfl kr_ rfl (QAt.y (Wt.yes (dj := 96) rfl rfl) (Yd.len (e := 111) kr_ rfl))) (all_c (QF.mk [26] [(101, _)] rfl rfl kr_ rfl (QAt.y (Wt.yes (dj := 96) rfl rfl) (Yd.add rfl rfl (by omega) (by omega)))) (all_c (QF.mk [25] [(100, _)] rfl rfl kr_ rfl (QAt.y (Wt.yes (dj := 96) rfl rfl) (Yd.len (e := 111) kr_ rfl))) (all_c (QF.mk [] [] rfl rfl kr_ rfl (QAt.y (Wt.yes (dj := 96) rfl rfl) (Yd.move rfl))) (all_c (QF.mk [19, 18] [(94, _), (93, _)] rfl rfl kr_ rfl (QAt.y (Wt.yes (dj := 93) rfl rfl) (Yd.notB rfl))) (all_c (QF.mk [18] [(93, _)] rfl rfl kr_ rfl (QAt.y (Wt.yes (dj := 93) rfl rfl) (Yd.move rfl))) (all_c (QF.mk [17, 12] [(92, _), (87, _)] rfl rfl kr_ rfl (QAt.y Wt.none (Yd.move rfl))) (all_c (QF.mk [16, 12] [(91, _), (87, _)] rfl rfl kr_ rfl (QAt.y Wt.none (Yd.pickF rfl rfl))) (all_c (QF.ren (congrArg Value.bool (decide_eq_false (by omega))) (QF.mk [15, 14, 12] [(90, _), (89, _), (87, _)] rfl rfl kr_ rfl (QAt.y (Wt.yes (dj := 87) rfl rfl) (Yd.lss rfl rfl)))) (all_c (QF.mk [12] [(87, _)] rfl rfl kr_ rfl (QAt.y (Wt.yes (dj := 87) rfl rfl) (Yd.move rfl))) (all_c (QF.mk [13, 12] [(88, _), (87, _)] rfl rfl kr_ rfl (QAt.rd (Wt.yes (dj := 87) rfl rfl) (Rd.load1 kr_ rfl mem_ (by rfl)))) (all_c (QF.mk [12] [(87, _)] rfl rfl kr_ rfl (QAt.y (Wt.yes (dj := 87) rfl rfl) (Yd.fieldAddr (k := 1) kr_ rfl))) (all_c (QF.mk [11, 7] [(86, _), (82, _)] rfl rfl kr_ rfl (QAt.y Wt.none (Yd.move rfl))) (all_c (QF.mk [10, 5] [(85, _), (80, _)] rfl rfl kr_ rfl (QAt.y Wt.none (Yd.pickF rfl rfl))) (all_c (QF.ren (congrArg Value.bool (by simp [hce])) (QF.mk [9, 7, 5] [(84, _), (82, _), (80, _)] rfl rfl kr_ rfl (QAt.y (Wt.yes (dj := 80) rfl rfl) (Yd.neq32 _ _ rfl rfl rfl rfl)))) (all_c (QF.mk [8, 5] [(83, _), (80, _)] rfl rfl kr_ rfl (QAt.rd (Wt.yes (dj := 80) rfl rfl) (Rd.load1 kr_ rfl mem_ (by rfl)))) (all_c (QF.mk [5] [(80, _)] rfl rfl kr_ rfl (QAt.y (Wt.yes (dj := 80) rfl rfl) (Yd.fieldAddr (k := 1) kr_ rfl))) (all_c (QF.mk [6, 5] [(81, _), (80, _)] rfl rfl kr_ rfl (QAt.rf (Wt.yes (dj := 80) rfl rfl) (Ent.func Tryz.call24 rfl) (cepoch_reads p s2 C2 h2) sp_)) (all_c (QF.mk [5] [(80, _)] rfl rfl kr_ rfl (QAt.y (Wt.yes (dj := 80) rfl rfl) (Yd.move rfl))) (all_c (QF.mk [4] [(79, _)] rfl rfl kr_ rfl (QAt.y Wt.none (Yd.move rfl))) (all_c (QF.ren (congrArg Value.bool (by simp [hae])) (QF.mk [3, 1] [(78, _), (76, _)] rfl rfl kr_ rfl (QAt.y Wt.none (Yd.neq32 _ _ rfl rfl rfl rfl)))) (all_c (QF.mk [2] [(77, _)] rfl rfl kr_ rfl (QAt.rd Wt.none (Rd.load1 kr_ rfl mem_ (by rfl)))) (all_c (QF.mk [] [] rfl rfl kr_ rfl (QAt.y Wt.none (Yd.fieldAddr (k := 1) kr_ rfl))) (all_c (QF.mk [0] [(75, _)] rfl rfl kr_ rfl (QAt.rd Wt.none (Rd.load1 kr_ rfl mem_ (by rfl)))) (all_c (QF.mk [] [] rfl rfl kr_ rfl (QAt.y Wt.none (Yd.fieldAddr (k := 1) kr_ rfl))) (all_n))))))))))))))))))))))))))))) ?_
        change DN _ _ _ _ _ _ ([(105, _), (104, _), (103, _), (99, _), (102, _), (101, _), (100, _), (95, _), (94, _), (93, _), (92, _), (91, _), (90, _), (89, _), (88, _), (87, _), (86, _), (85, _), (84, _), (83, _), (82, _), (81, _), (80, _), (79, _), (78, _), (77, _), (76, _), (75, _)] ++ _) _
        refine DN.then_normal ?_
        refine WC.no rfl ?_
        refine WC.skip ?_
        refine DN.block_normal ?_
        refine DN.block_normal ?_
        refine DN.then_normal ?_
        refine WC.region ?_
        refine m_ rfl rfl ?_
        refine WL.y rfl (Yd.add rfl rfl (by omega) (by omega)) ?_
        refine a_ rfl rfl ?_
        refine WL.nil ?_
        exact DN.againS (⟨i + 1, s2, C2⟩) (show (i + 1) ≤ l.length ∧ CwAt 189 198 203 3 5 118 111 22 116 p s2 C2 ∧ CInv smG smU [3, 5] s2 from ⟨by omega, h2, inv2⟩) (show l.length - (i + 1) < l.length - i by omega) (Sx.put rfl (sx_)) sp_
      ·refine WAF.add (i := 22) (d := 97) rfl (QF.mk [21] [(96, _)] rfl rfl kr_ rfl (QAt.gn rfl rfl rfl)) ?_
       refine WAF.add (i := 23) (d := 98) rfl (QF.mk [22, 21] [(97, _), (96, _)] rfl rfl kr_ rfl (QAt.gn rfl rfl rfl)) ?_
       refine WAF.add (i := 24) (d := 99) rfl (QF.mk [23, 21] [(98, _), (96, _)] rfl rfl kr_ rfl (QAt.gn rfl rfl rfl)) ?_
       refine WAF.add (i := 25) (d := 100) rfl (QF.mk [21] [(96, _)] rfl rfl kr_ rfl (QAt.gn rfl rfl rfl)) ?_
       refine WAF.add (i := 26) (d := 101) rfl (QF.mk [25, 21] [(100, _), (96, _)] rfl rfl kr_ rfl (QAt.gn rfl rfl rfl)) ?_
       refine WAF.add (i := 27) (d := 102) rfl (QF.mk [26, 21] [(101, _), (96, _)] rfl rfl kr_ rfl (QAt.gn rfl rfl rfl)) ?_
       refine WAF.add (i := 28) (d := 103) rfl (QF.mk [27, 24, 21] [(102, _), (99, _), (96, _)] rfl rfl kr_ rfl (QAt.gn rfl rfl rfl)) ?_
       refine WAF.add (i := 29) (d := 104) rfl (QF.mk [28, 21, 18] [(103, _), (96, _), (93, _)] rfl rfl kr_ rfl (QAt.y (Wt.yes (dj := 93) rfl rfl) (Yd.pickF rfl rfl))) ?_
       refine WAF.add (i := 30) (d := 105) rfl (QF.mk [29, 18] [(104, _), (93, _)] rfl rfl kr_ rfl (QAt.y Wt.none (Yd.pickF rfl rfl))) ?_
       refine WAF.done (pd := [(30, 105), (29, 104), (28, 103), (27, 102), (26, 101), (25, 100), (24, 99), (23, 98), (22, 97), (21, 96), (20, 95), (19, 94), (18, 93), (17, 92), (16, 91), (15, 90), (14, 89), (13, 88), (12, 87), (11, 86), (10, 85), (9, 84), (8, 83), (7, 82), (6, 81), (5, 80), (4, 79), (3, 78), (2, 77), (1, 76), (0, 75)]) rfl kr_ kr_ (all_c rfl (all_c rfl (all_c rfl (all_c rfl (all_c rfl (all_c rfl (all_c rfl (all_c rfl (all_c rfl (all_c rfl (all_c rfl (all_c rfl (all_c rfl (all_c rfl (all_c rfl (all_c rfl (all_c rfl (all_c rfl (all_c rfl (all_c rfl (all_c rfl (all_c rfl (all_c rfl (all_c rfl (all_c rfl (all_c rfl (all_c rfl (all_c rfl (all_c rfl (all_c rfl (all_c rfl (all_n)))))))))))))))))))))))))))))))) (all_c (QF.mk [29, 18] [(104, _), (93, _)] rfl rfl kr_ rfl (QAt.y Wt.none (Yd.pickF rfl rfl))) (all_c (QF.mk [28, 21, 18] [(103, _), (96, _), (93, _)] rfl rfl kr_ rfl (QAt.y (Wt.yes (dj := 93) rfl rfl) (Yd.pickF rfl rfl))) (all_c (QF.mk [27, 24, 21] [(102, _), (99, _), (96, _)] rfl rfl kr_ rfl (QAt.gn rfl rfl rfl)) (all_c (QF.mk [26, 21] [(101, _), (96, _)] rfl rfl kr_ rfl (QAt.gn rfl rfl rfl)) (all_c (QF.mk [25, 21] [(100, _), (96, _)] rfl rfl kr_ rfl (QAt.gn rfl rfl rfl)) (all_c (QF.mk [21] [(96, _)] rfl rfl kr_ rfl (QAt.gn rfl rfl rfl)) (all_c (QF.mk [23, 21] [(98, _), (96, _)] rfl rfl kr_ rfl (QAt.gn rfl rfl rfl)) (all_c (QF.mk [22, 21] [(97, _), (96, _)] rfl rfl kr_ rfl (QAt.gn rfl rfl rfl)) (all_c (QF.mk [21] [(96, _)] rfl rfl kr_ rfl (QAt.gn rfl rfl rfl)) (all_c (QF.ren (congrArg Value.bool hg96) (QF.mk [20, 18] [(95, _), (93, _)] rfl rfl kr_ rfl (QAt.y (Wt.yes (dj := 93) rfl rfl) (Yd.move rfl)))) (all_c (QF.mk [19, 18] [(94, _), (93, _)] rfl rfl kr_ rfl (QAt.y (Wt.yes (dj := 93) rfl rfl) (Yd.notB rfl))) (all_c (QF.mk [18] [(93, _)] rfl rfl kr_ rfl (QAt.y (Wt.yes (dj := 93) rfl rfl) (Yd.move rfl))) (all_c (QF.mk [17, 12] [(92, _), (87, _)] rfl rfl kr_ rfl (QAt.y Wt.none (Yd.move rfl))) (all_c (QF.mk [16, 12] [(91, _), (87, _)] rfl rfl kr_ rfl (QAt.y Wt.none (Yd.pickF rfl rfl))) (all_c (QF.ren (congrArg Value.bool (decide_eq_false (by omega))) (QF.mk [15, 14, 12] [(90, _), (89, _), (87, _)] rfl rfl kr_ rfl (QAt.y (Wt.yes (dj := 87) rfl rfl) (Yd.lss rfl rfl)))) (all_c (QF.mk [12] [(87, _)] rfl rfl kr_ rfl (QAt.y (Wt.yes (dj := 87) rfl rfl) (Yd.move rfl))) (all_c (QF.mk [13, 12] [(88, _), (87, _)] rfl rfl kr_ rfl (QAt.rd (Wt.yes (dj := 87) rfl rfl) (Rd.load1 kr_ rfl mem_ (by rfl)))) (all_c (QF.mk [12] [(87, _)] rfl rfl kr_ rfl (QAt.y (Wt.yes (dj := 87) rfl rfl) (Yd.fieldAddr (k := 1) kr_ rfl))) (all_c (QF.mk [11, 7] [(86, _), (82, _)] rfl rfl kr_ rfl (QAt.y Wt.none (Yd.move rfl))) (all_c (QF.mk [10, 5] [(85, _), (80, _)] rfl rfl kr_ rfl (QAt.y Wt.none (Yd.pickF rfl rfl))) (all_c (QF.ren (congrArg Value.bool (by simp [hce])) (QF.mk [9, 7, 5] [(84, _), (82, _), (80, _)] rfl rfl kr_ rfl (QAt.y (Wt.yes (dj := 80) rfl rfl) (Yd.neq32 _ _ rfl rfl rfl rfl)))) (all_c (QF.mk [8, 5] [(83, _), (80, _)] rfl rfl kr_ rfl (QAt.rd (Wt.yes (dj := 80) rfl rfl) (Rd.load1 kr_ rfl mem_ (by rfl)))) (all_c (QF.mk [5] [(80, _)] rfl rfl kr_ rfl (QAt.y (Wt.yes (dj := 80) rfl rfl) (Yd.fieldAddr (k := 1) kr_ rfl))) (all_c (QF.mk [6, 5] [(81, _), (80, _)] rfl rfl kr_ rfl (QAt.rf (Wt.yes (dj := 80) rfl rfl) (Ent.func Tryz.call24 rfl) (cepoch_reads p s2 C2 h2) sp_)) (all_c (QF.mk [5] [(80, _)] rfl rfl kr_ rfl (QAt.y (Wt.yes (dj := 80) rfl rfl) (Yd.move rfl))) (all_c (QF.mk [4] [(79, _)] rfl rfl kr_ rfl (QAt.y Wt.none (Yd.move rfl))) (all_c (QF.ren (congrArg Value.bool (by simp [hae])) (QF.mk [3, 1] [(78, _), (76, _)] rfl rfl kr_ rfl (QAt.y Wt.none (Yd.neq32 _ _ rfl rfl rfl rfl)))) (all_c (QF.mk [2] [(77, _)] rfl rfl kr_ rfl (QAt.rd Wt.none (Rd.load1 kr_ rfl mem_ (by rfl)))) (all_c (QF.mk [] [] rfl rfl kr_ rfl (QAt.y Wt.none (Yd.fieldAddr (k := 1) kr_ rfl))) (all_c (QF.mk [0] [(75, _)] rfl rfl kr_ rfl (QAt.rd Wt.none (Rd.load1 kr_ rfl mem_ (by rfl)))) (all_c (QF.mk [] [] rfl rfl kr_ rfl (QAt.y Wt.none (Yd.fieldAddr (k := 1) kr_ rfl))) (all_n)))))))))))))))))))))))))))))))) ?_
       change DN _ _ _ _ _ _ ([(105, _), (104, _), (103, _), (102, _), (101, _), (100, _), (99, _), (98, _), (97, _), (96, _), (95, _), (94, _), (93, _), (92, _), (91, _), (90, _), (89, _), (88, _), (87, _), (86, _), (85, _), (84, _), (83, _), (82, _), (81, _), (80, _), (79, _), (78, _), (77, _), (76, _), (75, _)] ++ _) _
       refine DN.then_normal ?_
       refine WC.no rfl ?_
       refine WC.skip ?_
       refine DN.block_normal ?_
       refine DN.block_normal ?_
       refine DN.then_normal ?_
       refine WC.region ?_
       refine m_ rfl rfl ?_
       refine WL.y rfl (Yd.add rfl rfl (by omega) (by omega)) ?_
       refine a_ rfl rfl ?_
       refine WL.nil ?_
       exact DN.againS (⟨i + 1, s2, C2⟩) (show (i + 1) ≤ l.length ∧ CwAt 189 198 203 3 5 118 111 22 116 p s2 C2 ∧ CInv smG smU [3, 5] s2 from ⟨by omega, h2, inv2⟩) (show l.length - (i + 1) < l.length - i by omega) (Sx.put rfl (sx_)) sp_
     ·refine WC.region ?_
      refine f_ 0 kr_ rfl rfl ?_
      refine d_ kr_ rfl mem_ (by rfl) rfl ?_
      refine nt_ ?_
      refine WC.block ?_
      refine sr_ ?_
      refine WL.y rfl (Yd.eql rfl rfl) ?_
      refine WL.renamed (t := 74) (v := .bool false) rfl (congrArg Value.bool (by rw [h9]; decide)) ?_
      refine a_ rfl rfl ?_
      refine nt_ ?_
      refine WC.no rfl ?_
      refine sr_ ?_
      refine WL.y rfl (Yd.eql rfl rfl) ?_
      refine WL.renamed (t := 107) (v := .bool true) rfl (congrArg Value.bool (decide_eq_true h9)) ?_
      refine a_ rfl rfl ?_
      refine nt_ ?_
      refine WC.yes rfl ?_
      refine sr_ ?_
      refine f_ 1 kr_ rfl rfl ?_
      refine d_ kr_ rfl mem_ (by rfl) rfl ?_
      refine m_ rfl rfl ?_
      refine WL.y rfl (Yd.geq rfl rfl) ?_
      refine WL.renamed (t := 111) (v := .bool false) rfl (congrArg Value.bool (decide_eq_false (by omega))) ?_
      refine m_ rfl rfl ?_
      refine gy_ 112 rfl rfl rfl (Yd.fieldAddr (k := 1) kr_ rfl) ?_
      refine WL.gh (dj := 112) rfl rfl rfl (Hd.load1 kr_ rfl mem_ (by rfl) ⟨_, rfl, ?_⟩)
      refine gy_ 112 rfl rfl rfl (Yd.move rfl) ?_
      refine gy_ 112 rfl rfl rfl (Yd.neq32 _ _ rfl rfl rfl rfl) ?_
      refine WL.renamed (t := 116) (v := .bool false) rfl (congrArg Value.bool (by simp [hae])) ?_
      refine WL.y rfl (Yd.pickF rfl rfl) ?_
      refine m_ rfl rfl ?_
      refine gy_ 118 rfl rfl rfl (Yd.fieldAddr (k := 5) kr_ rfl) ?_
      refine WL.gh (dj := 118) rfl rfl rfl (Hd.load1 kr_ rfl mem_ (by rfl) ⟨_, rfl, ?_⟩)
      refine gy_ 118 rfl rfl rfl (Yd.fieldAddr (k := 5) kr_ rfl) ?_
      refine WL.gh (dj := 118) rfl rfl rfl (Hd.load1 kr_ rfl mem_ (by rfl) ⟨_, rfl, ?_⟩)
      refine gy_ 118 rfl rfl rfl (Yd.neq32 _ _ rfl rfl rfl rfl) ?_
      refine WL.renamed (t := 123) (v := .bool false) rfl (congrArg Value.bool (by simp [hao])) ?_
      refine WL.y rfl (Yd.pickF rfl rfl) ?_
      refine m_ rfl rfl ?_
      refine gy_ 125 rfl rfl rfl (Yd.fieldAddr (k := 6) kr_ rfl) ?_
      refine WL.gh (dj := 125) rfl rfl rfl (Hd.load1 kr_ rfl mem_ (by rfl) ⟨_, rfl, ?_⟩)
      refine gy_ 125 rfl rfl rfl (Yd.fieldAddr (k := 6) kr_ rfl) ?_
      refine WL.gh (dj := 125) rfl rfl rfl (Hd.load1 kr_ rfl mem_ (by rfl) ⟨_, rfl, ?_⟩)
      refine gy_ 125 rfl rfl rfl (Yd.neq rfl rfl) ?_
      refine WL.renamed (t := 130) (v := .bool false) rfl (congrArg Value.bool (by simp [hap])) ?_
      refine WL.y rfl (Yd.pickF rfl rfl) ?_
      refine m_ rfl rfl ?_
      refine gy_ 132 rfl rfl rfl (Yd.move rfl) ?_
      refine gy_ 132 rfl rfl rfl (Yd.notB rfl) ?_
      refine WL.renamed (t := 134) (v := .bool false) rfl (congrArg Value.bool (by rw [hy ⟨by rw [hst9], by rw [hst9], by rw [hst9]⟩]; rfl)) ?_
      refine WL.y rfl (Yd.pickF rfl rfl) ?_
      refine m_ rfl rfl ?_
      refine gy_ 136 rfl rfl rfl (Yd.move rfl) ?_
      refine WL.grf (dj := 136) rfl rfl rfl (Ent.func Tryz.call24 rfl) (cepoch_reads p s2 C2 h2) sp_ ?_
      refine gy_ 136 rfl rfl rfl (Yd.move rfl) ?_
      refine gy_ 136 rfl rfl rfl (Yd.neq32 _ _ rfl rfl rfl rfl) ?_
      refine WL.renamed (t := 140) (v := .bool false) rfl (congrArg Value.bool (by simp [hst9])) ?_
      refine WL.y rfl (Yd.pickF rfl rfl) ?_
      refine nt_ ?_
      refine WC.no rfl ?_
      refine WC.skip ?_
      refine DN.block_normal ?_
      refine DN.block_normal ?_
      refine DN.then_normal ?_
      refine WC.region ?_
      refine m_ rfl rfl ?_
      refine WL.y rfl (Yd.add rfl rfl (by omega) (by omega)) ?_
      refine a_ rfl rfl ?_
      refine WL.nil ?_
      exact DN.againS (⟨i + 1, s2, C2⟩) (show (i + 1) ≤ l.length ∧ CwAt 189 198 203 3 5 118 111 22 116 p s2 C2 ∧ CInv smG smU [3, 5] s2 from ⟨by omega, h2, inv2⟩) (show l.length - (i + 1) < l.length - i by omega) (Sx.put rfl (sx_)) sp_
     ·refine WC.region ?_
      refine f_ 0 kr_ rfl rfl ?_
      refine d_ kr_ rfl mem_ (by rfl) rfl ?_
      refine nt_ ?_
      refine WC.block ?_
      refine sr_ ?_
      refine WL.y rfl (Yd.eql rfl rfl) ?_
      refine WL.renamed (t := 74) (v := .bool false) rfl (congrArg Value.bool (by rw [h6]; decide)) ?_
      refine a_ rfl rfl ?_
      refine nt_ ?_
      refine WC.no rfl ?_
      refine sr_ ?_
      refine WL.y rfl (Yd.eql rfl rfl) ?_
      refine WL.renamed (t := 107) (v := .bool false) rfl (congrArg Value.bool (by rw [h6]; decide)) ?_
      refine a_ rfl rfl ?_
      refine nt_ ?_
      refine WC.no rfl ?_
      refine sr_ ?_
      refine WL.y rfl (Yd.eql rfl rfl) ?_
      refine WL.renamed (t := 143) (v := .bool true) rfl (congrArg Value.bool (decide_eq_true h6)) ?_
      refine a_ rfl rfl ?_
      refine nt_ ?_
      refine WC.yes rfl ?_
      refine sr_ ?_
      refine f_ 1 kr_ rfl rfl ?_
      refine d_ kr_ rfl mem_ (by rfl) rfl ?_
      refine m_ rfl rfl ?_
      refine WL.y rfl (Yd.neq32 _ _ rfl rfl rfl rfl) ?_
      refine WL.renamed (t := 147) (v := .bool false) rfl (congrArg Value.bool (by simp [hae])) ?_
      refine m_ rfl rfl ?_
      refine gy_ 148 rfl rfl rfl (Yd.fieldAddr (k := 8) kr_ rfl) ?_
      refine WL.gh (dj := 148) rfl rfl rfl (Hd.load1 kr_ rfl mem_ (by rfl) ⟨_, rfl, ?_⟩)
      refine gy_ 148 rfl rfl rfl (Yd.lss rfl rfl) ?_
      refine WL.renamed (t := 151) (v := .bool false) rfl (congrArg Value.bool (decide_eq_false (by omega))) ?_
      refine WL.y rfl (Yd.pickF rfl rfl) ?_
      refine m_ rfl rfl ?_
      refine gy_ 153 rfl rfl rfl (Yd.fieldAddr (k := 8) kr_ rfl) ?_
      refine WL.gh (dj := 153) rfl rfl rfl (Hd.load1 kr_ rfl mem_ (by rfl) ⟨_, rfl, ?_⟩)
      refine gy_ 153 rfl rfl rfl (Yd.gtr rfl rfl) ?_
      refine WL.renamed (t := 156) (v := .bool false) rfl (congrArg Value.bool (decide_eq_false (by omega))) ?_
      refine WL.y rfl (Yd.pickF rfl rfl) ?_
      refine m_ rfl rfl ?_
      refine gy_ 158 rfl rfl rfl (Yd.move rfl) ?_
      refine gy_ 158 rfl rfl rfl (Yd.notB rfl) ?_
      refine WL.renamed (t := 160) (v := .bool false) rfl (congrArg Value.bool (by rw [hy ⟨by rw [hst9], by rw [hst9], by rw [hst9]⟩]; rfl)) ?_
      refine WL.y rfl (Yd.pickF rfl rfl) ?_
      refine m_ rfl rfl ?_
      refine gy_ 162 rfl rfl rfl (Yd.move rfl) ?_
      refine WL.grf (dj := 162) rfl rfl rfl (Ent.func Tryz.call24 rfl) (cepoch_reads p s2 C2 h2) sp_ ?_
      refine gy_ 162 rfl rfl rfl (Yd.move rfl) ?_
      refine gy_ 162 rfl rfl rfl (Yd.neq32 _ _ rfl rfl rfl rfl) ?_
      refine WL.renamed (t := 166) (v := .bool false) rfl (congrArg Value.bool (by simp [hst9])) ?_
      refine WL.y rfl (Yd.pickF rfl rfl) ?_
      refine nt_ ?_
      refine WC.no rfl ?_
      refine WC.skip ?_
      refine DN.block_normal ?_
      refine DN.block_normal ?_
      refine DN.then_normal ?_
      refine WC.region ?_
      refine m_ rfl rfl ?_
      refine WL.y rfl (Yd.add rfl rfl (by omega) (by omega)) ?_
      refine a_ rfl rfl ?_
      refine WL.nil ?_
      exact DN.againS (⟨i + 1, s2, C2⟩) (show (i + 1) ≤ l.length ∧ CwAt 189 198 203 3 5 118 111 22 116 p s2 C2 ∧ CInv smG smU [3, 5] s2 from ⟨by omega, h2, inv2⟩) (show l.length - (i + 1) < l.length - i by omega) (Sx.put rfl (sx_)) sp_
   ·refine WC.exit ?_
    refine DN.then_exit ?_
    refine DN.then_exit ?_
    refine DN.block_exit ?_
    refine ts_ ?_
    refine WC.region ?_
    refine WL.r rfl (Ent.func Tryz.call9 rfl) (known12 _) ?_
    refine a_ rfl rfl ?_
    refine nt_ ?_
    refine WC.ret ?_
    refine DN.fit (C := H) sp_ ?_
    refine DN.ret1 Tryz.results5 rfl ?_
    exact ⟨rfl, rfl⟩
  ·refine gn_ 29 rfl rfl rfl rfl ?_
   refine gn_ 29 rfl rfl rfl rfl ?_
   refine WL.y rfl (Yd.pickF rfl rfl) ?_
   refine nt_ ?_
   refine WC.no rfl ?_
   refine WC.exit ?_
   refine DN.then_exit ?_
   refine DN.then_exit ?_
   refine DN.block_exit ?_
   refine ts_ ?_
   refine WC.region ?_
   refine WL.r rfl (Ent.func Tryz.call9 rfl) (known12 _) ?_
   refine a_ rfl rfl ?_
   refine nt_ ?_
   refine WC.ret ?_
   refine DN.fit (C := H) sp_ ?_
   refine DN.ret1 Tryz.results5 rfl ?_
   exact ⟨rfl, rfl⟩
end Go.Proofs.YtkamlondepceiaaGreat
