/-
  Lemmas and walks that WiresPlays stands on (part 4); no condition.
-/
import Derived.Orders
import Derived.Tactics
import Derived.Scope
import Derived.Below
import Derived.WalkKit
import Derived.KernelRfl
import Derived.Laws.RangeString
import Derived.Laws.StructEq
import Derived.Lib.AppendZerosOnto
import Derived.Laws.CopyRow
import Derived.Lib.Overlaps
import Derived.Laws.IdiomStrings
import Derived.Deep.Quiet
import Derived.ProofKit
import Derived.OpenShut
import Derived.ShutString
import Derived.ChangeOld
import Derived.Lib.Bytealg
import Derived.Shelf.SlSortCmp.NoneTotal
import Derived.Test.YtgpegfmonmdhoaaRows
import Derived.Test.YtgpegfmonmdhoaaWiresPlaysB3

set_option linter.unusedVariables false
set_option linter.unusedSimpArgs false
set_option maxHeartbeats 8000000
set_option maxRecDepth 100000
namespace Go.Proofs.Ytgpegfmonmdhoaa
open Go.SL
theorem both_tells (p q : Nat) (W : Wn) (cu : List (Int × Int)) (ti : List Int) (H C Q : List Ck) (hW : WAt 72 34 5 p W C) (hQ : RwAt 59 34 89 3 q W cu ti H Q) (inv : WInv W) (rel : WRel W cu ti) (hcu : cu.length ≤ 1000) (hti : ti.length ≤ 1000) (a : Aw) (vk vd : Value) (hk : Bs vk a.L.n.key H) (hd : Bs vd a.L.n.data H) (hkl : a.L.n.key.length ≤ 500) (hdl : a.L.n.data.length ≤ 500) : Tells Try.prog 22 [.pointer (some ⟨p, 0, none⟩), .pointer (some ⟨q, 0, none⟩), .agg (awc a vk vd).toArray] (C ++ (Q ++ H)) fun r H' => r = .bool true ∧ ∃ W2 cu2 ti2 C2 Q2, WAt 72 34 5 p W2 C2 ∧ RwAt 59 34 89 3 q W2 cu2 ti2 H Q2 ∧ WInv W2 ∧ WRel W2 cu2 ti2 ∧ cu2.length ≤ cu.length + 1 ∧ ti2.length ≤ ti.length + 1 ∧ H' = C2 ++ (Q2 ++ H) := by
 refine Tells.enter Try.func22 rfl Try.ntmps22 rfl ?_
 intro w0 R
 obtain ⟨ko, kc, rfl, _⟩ := hk.form
 obtain ⟨eo, ec, rfl, _⟩ := hd.form
 have hmk : a.L.n.key.length ≤ maxLen := by simp only [maxLen]; omega
 have hmd : a.L.n.data.length ≤ maxLen := by simp only [maxLen]; omega
 have hps := pick_small inv a.at_
 refine sr_ ?_
 refine WL.h rfl (Hd.boxA (vs := awc a (.slice ko a.L.n.key.length kc) (.slice eo a.L.n.data.length ec)) rfl fun b5 => ⟨_, rfl, ?_⟩)
 refine a_ rfl rfl ?_
 refine nt_ ?_
 refine WC.seq ?_
 refine sr_ ?_
 refine f_ 0 kr_ rfl rfl ?_
 refine d_ kr_ rfl mem_ (by rfl) rfl ?_
 refine nt_ ?_
 refine WC.block ?_
 refine WC.seq ?_
 refine sr_ ?_
 refine WL.y rfl (Yd.eql rfl rfl) ?_
 refine a_ rfl rfl ?_
 refine nt_ ?_
 refine WC.ite rfl (fun h30 => ?_) (fun h30 => ?_)
 ·refine WC.skip ?_
  refine DN.then_normal ?_
  refine WC.ite rfl (fun h30 => ?_) (fun h30 => ?_)
  ·refine sr_ ?_
   refine f_ 1 kr_ rfl rfl ?_
   refine WL.h rfl (Hd.loadA (n := 13) (vs := ltc a.L (.slice ko a.L.n.key.length kc) (.slice eo a.L.n.data.length ec)) kr_ rfl mem_ (by rfl) (by rfl) ⟨_, rfl, ?_⟩)
   refine WL.h rfl (Hd.alloc (zs := [.int .i64 0, .int .i64 0, .int .i64 0, .int .u32 0, .int .u32 0, .int .u64 0, .int .u64 0, .int .u32 0, .int .i64 0, .bool false, .int .i64 0, .slice none 0 0, .slice none 0 0]) kr_ fun b7 => ⟨_, rfl, ?_⟩)
   refine WL.s (Hd.storeAll (n := 13) (vs := ltc a.L (.slice ko a.L.n.key.length kc) (.slice eo a.L.n.data.length ec)) kr_ rfl rfl (by rfl) (ltc_one9 rfl rfl) fr_ (by rfl) ⟨rfl, ?_⟩)
   refine ntsr_ ?_
   refine f_ 1 kr_ rfl rfl ?_
   refine f_ 2 kr_ rfl rfl ?_
   refine f_ 9 kr_ rfl rfl ?_
   refine d_ kr_ rfl mem_ (by rfl) rfl ?_
   refine WL.c rfl (Ent.func Try.call35 rfl) (lent_spec _ a.L.n.key H hk (by omega)) (Sp.p sp_) ?_
   rintro x H9 ⟨lo1, lc1, CK, rfl, hCK, rfl⟩
   refine f_ 2 kr_ rfl rfl ?_
   refine f_ 9 kr_ rfl rfl ?_
   refine WL.s (Hd.store1s (cs' := ltc a.L (.slice lo1 a.L.n.key.length lc1) (.slice eo a.L.n.data.length ec)) kr_ rfl rfl (by rfl) fr_ (by rfl) (by rfl) ⟨rfl, ?_⟩)
   refine ntsr_ ?_
   refine f_ 1 kr_ rfl rfl ?_
   refine f_ 2 kr_ rfl rfl ?_
   refine f_ 10 kr_ rfl rfl ?_
   refine d_ kr_ rfl mem_ (by rfl) rfl ?_
   refine WL.c rfl (Ent.func Try.call35 rfl) (lent_spec _ a.L.n.data H hd (by omega)) (Sp.p sp_) ?_
   rintro x H9 ⟨lo2, lc2, CD, rfl, hCD, rfl⟩
   refine f_ 2 kr_ rfl rfl ?_
   refine f_ 10 kr_ rfl rfl ?_
   refine WL.s (Hd.store1s (cs' := ltc a.L (.slice lo1 a.L.n.key.length lc1) (.slice lo2 a.L.n.data.length lc2)) kr_ rfl rfl (by rfl) fr_ (by rfl) (by rfl) ⟨rfl, ?_⟩)
   refine ntsr_ ?_
   refine m_ rfl rfl ?_
   refine WL.h rfl (Hd.loadAll (n := 13) kr_ rfl mem_ (by rfl) ⟨_, rfl, ?_⟩)
   refine WL.c rfl (Ent.func Try.call10 rfl) (send_tells p W C (CK ++ CD) hW inv a.L _ _ ((lent_of hCK (by omega)).mono gr_) ((lent_of hCD (by omega)).mono gr_) (by omega) (by omega)) (Sp.p sp_) ?_
   rintro x H9 ⟨C2, rfl, hW2, rfl⟩
   refine a_ rfl rfl ?_
   refine ntsr_ ?_
   refine m_ rfl rfl ?_
   refine f_ 1 kr_ rfl rfl ?_
   refine WL.h rfl (Hd.loadA (n := 13) (vs := ltc a.L (.slice ko a.L.n.key.length kc) (.slice eo a.L.n.data.length ec)) kr_ rfl mem_ (by rfl) (by rfl) ⟨_, rfl, ?_⟩)
   refine WL.c rfl (Ent.func Try.call36 rfl) (rwsend_tells q W cu ti H Q hQ inv rel (by omega) a.L _ _ hk hd hmk hmd) (Sp.p sp_) ?_
   rintro x Q2 ⟨rfl, hQ2⟩
   refine a_ rfl rfl ?_
   refine ntsr_ ?_
   refine f_ 2 kr_ rfl rfl ?_
   refine f_ 9 kr_ rfl rfl ?_
   refine d_ kr_ rfl mem_ (by rfl) rfl ?_
   refine f_ 1 kr_ rfl rfl ?_
   refine f_ 2 kr_ rfl rfl ?_
   refine f_ 9 kr_ rfl rfl ?_
   refine d_ kr_ rfl mem_ (by rfl) rfl ?_
   refine WL.r rfl (Ent.func Try.call37 rfl) (whole_reads lo1 lc1 _ a.L.n.key _ (hCK.bs.mono gr_) (hk.mono gr_) (by omega)) ?_
   refine WL.renamed (t := 64) (v := .bool true) rfl (congrArg Value.bool (rfl)) ?_
   refine m_ rfl rfl ?_
   refine gy_ 65 rfl rfl rfl (Yd.fieldAddr (k := 2) kr_ rfl) ?_
   refine gy_ 65 rfl rfl rfl (Yd.fieldAddr (k := 10) kr_ rfl) ?_
   refine WL.gh (dj := 65) rfl rfl rfl (Hd.load1 kr_ rfl mem_ (by rfl) ⟨_, rfl, ?_⟩)
   refine gy_ 65 rfl rfl rfl (Yd.fieldAddr (k := 1) kr_ rfl) ?_
   refine gy_ 65 rfl rfl rfl (Yd.fieldAddr (k := 2) kr_ rfl) ?_
   refine gy_ 65 rfl rfl rfl (Yd.fieldAddr (k := 10) kr_ rfl) ?_
   refine WL.gh (dj := 65) rfl rfl rfl (Hd.load1 kr_ rfl mem_ (by rfl) ⟨_, rfl, ?_⟩)
   refine WL.gr (dj := 65) rfl rfl rfl (Ent.func Try.call37 rfl) (whole_reads lo2 lc2 _ a.L.n.data _ (hCD.bs.mono gr_) (hd.mono gr_) (by omega)) ?_
   refine WL.renamed (t := 73) (v := .bool true) rfl (congrArg Value.bool (rfl)) ?_
   refine WL.y rfl (Yd.pickT rfl rfl) ?_
   refine a_ rfl rfl ?_
   refine ntsr_ ?_
   refine f_ 2 kr_ rfl rfl ?_
   refine f_ 9 kr_ rfl rfl ?_
   refine d_ kr_ rfl mem_ (by rfl) rfl ?_
   refine WL.c rfl (Ent.func Try.call26 rfl) (spoil_tells lo1 lc1 a.L.n.key.length 2 _ CK hCK (by simp) (by omega)) (Sp.p sp_) ?_
   intro x H9 hH9
   subst hH9
   rw [List.nil_append]
   refine ntsr_ ?_
   refine f_ 2 kr_ rfl rfl ?_
   refine f_ 10 kr_ rfl rfl ?_
   refine d_ kr_ rfl mem_ (by rfl) rfl ?_
   refine WL.c rfl (Ent.func Try.call26 rfl) (spoil_tells lo2 lc2 a.L.n.data.length 2 _ CD hCD (by simp) (by omega)) (Sp.p sp_) ?_
   intro x H9 hH9
   subst hH9
   rw [List.nil_append]
   refine ntsr_ ?_
   refine m_ rfl rfl ?_
   refine m_ rfl rfl ?_
   refine WL.y rfl (Yd.eql rfl rfl) ?_
   refine WL.renamed (t := 85) (v := .bool true) rfl (congrArg Value.bool (decide_eq_true rfl)) ?_
   refine m_ rfl rfl ?_
   refine gy_ 86 rfl rfl rfl (Yd.move rfl) ?_
   refine WL.y rfl (Yd.pickT rfl rfl) ?_
   refine a_ rfl rfl ?_
   refine nt_ ?_
   refine WC.ret ?_
   refine DN.block_ret ?_
   refine DN.then_ret ?_
   refine DN.fit (C := C2 ++ (Q2 ++ H)) sp_ ?_
   refine DN.ret1 Try.results22 rfl ?_
   first
   | exact ⟨rfl, _, _, _, C2, Q2, hW2, hQ2, inv.send _, rel.send _, Nat.le_succ _, Nat.le_succ _, rfl⟩
   | exact ⟨rfl, _, _, _, C2, Q2, hW2, hQ2, inv.out _, rel.out _, Nat.le_succ _, Nat.le_succ _, rfl⟩
   | exact ⟨rfl, _, _, _, C2, Q2, hW2, hQ2, inv.copy _, rel.copy _, Nat.le_succ _, Nat.le_succ _, rfl⟩
   | exact ⟨rfl, _, _, _, C2, Q2, hW2, hQ2, inv.late _, rel.late _, Nat.le_succ _, Nat.le_succ _, rfl⟩
   | exact ⟨rfl, _, _, _, C2, Q2, hW2, hQ2, inv.cut' _ _ _, rel.cut' inv _ _ _, cuts_len _ _ _ _ _, Nat.le_succ _, rfl⟩
   | exact ⟨rfl, _, _, _, C2, Q2, hW2, hQ2, inv.tick _, hrt, Nat.le_succ _, htl, rfl⟩
  ·refine WC.seq ?_
   refine sr_ ?_
   refine WL.y rfl (Yd.eql rfl rfl) ?_
   refine a_ rfl rfl ?_
   refine nt_ ?_
   refine WC.ite rfl (fun h89 => ?_) (fun h89 => ?_)
   ·refine WC.skip ?_
    refine DN.then_normal ?_
    refine WC.ite rfl (fun h89 => ?_) (fun h89 => ?_)
    ·refine sr_ ?_
     refine m_ rfl rfl ?_
     refine f_ 14 kr_ rfl rfl ?_
     refine d_ kr_ rfl mem_ (by rfl) rfl ?_
     refine WL.c rfl (Ent.func Try.call13 rfl) (pick_tells p W C hW inv a.at_) (Sp.p sp_) ?_
     rintro x H9 ⟨uk, ud, A6, B6, C2, rfl, hA6, hB6, hW2, rfl⟩
     obtain ⟨uko, ukc, rfl, _⟩ := hA6.form
     obtain ⟨udo, udc, rfl, _⟩ := hB6.form
     refine m_ rfl rfl ?_
     refine x_ rfl rfl rfl ?_
     refine x_ rfl rfl rfl ?_
     refine WL.h rfl (Hd.alloc (zs := [.int .i64 0, .int .i64 0, .int .i64 0, .int .u32 0, .int .u32 0, .int .u64 0, .int .u64 0, .int .u32 0, .int .i64 0, .bool false, .int .i64 0, .slice none 0 0, .slice none 0 0]) kr_ fun b11 => ⟨_, rfl, ?_⟩)
     refine WL.s (Hd.storeAll (n := 13) (vs := ltc (pickL W a.at_) (.slice uko (pickL W a.at_).n.key.length ukc) (.slice udo (pickL W a.at_).n.data.length udc)) kr_ rfl rfl (by rfl) (ltc_one9 rfl rfl) fr_ (by rfl) ⟨rfl, ?_⟩)
     refine a_ rfl rfl ?_
     refine ntsr_ ?_
     refine m_ rfl rfl ?_
     refine f_ 14 kr_ rfl rfl ?_
     refine d_ kr_ rfl mem_ (by rfl) rfl ?_
     refine WL.c rfl (Ent.func Try.call38 rfl) (rwpick_tells q W cu ti H Q hQ inv rel (by omega) a.at_) (Sp.p sp_) ?_
     rintro x Q2 ⟨wk, wd, rfl, hA7, hB7, hQ2⟩
     obtain ⟨vko, vkc, rfl, _⟩ := hA7.form
     obtain ⟨vdo, vdc, rfl, _⟩ := hB7.form
     refine m_ rfl rfl ?_
     refine x_ rfl rfl rfl ?_
     refine x_ rfl rfl rfl ?_
     refine WL.h rfl (Hd.alloc (zs := [.int .i64 0, .int .i64 0, .int .i64 0, .int .u32 0, .int .u32 0, .int .u64 0, .int .u64 0, .int .u32 0, .int .i64 0, .bool false, .int .i64 0, .slice none 0 0, .slice none 0 0]) kr_ fun b13 => ⟨_, rfl, ?_⟩)
     refine WL.s (Hd.storeAll (n := 13) (vs := ltc (pickL W a.at_) (.slice vko (pickL W a.at_).n.key.length vkc) (.slice vdo (pickL W a.at_).n.data.length vdc)) kr_ rfl rfl (by rfl) (ltc_one9 rfl rfl) fr_ (by rfl) ⟨rfl, ?_⟩)
     refine a_ rfl rfl ?_
     refine ntsr_ ?_
     refine WL.h rfl (Hd.loadAll (n := 13) kr_ rfl mem_ (by rfl) ⟨_, rfl, ?_⟩)
     refine WL.h rfl (Hd.loadAll (n := 13) kr_ rfl mem_ (by rfl) ⟨_, rfl, ?_⟩)
     refine WL.rf rfl (Ent.func Try.call25 rfl) (same18_reads (pickL W a.at_) (pickL W a.at_) _ _ _ _ (A6 ++ (B6 ++ H)) (hA6.bs.mono gr_) (hB6.bs.mono gr_) (hA7.mono gr_) (hB7.mono gr_)) sp_ ?_
     refine WL.renamed (t := 108) (v := .bool true) rfl (congrArg Value.bool (sameL_refl _)) ?_
     refine m_ rfl rfl ?_
     refine gy_ 109 rfl rfl rfl (Yd.move rfl) ?_
     refine gy_ 109 rfl rfl rfl (Yd.move rfl) ?_
     refine gy_ 109 rfl rfl rfl (Yd.eqlB Try.underlying4 rfl rfl) ?_
     refine WL.renamed (t := 112) (v := .bool true) rfl (congrArg Value.bool (by simp)) ?_
     refine WL.y rfl (Yd.pickT rfl rfl) ?_
     refine a_ rfl rfl ?_
     refine ntsr_ ?_
     refine f_ 2 kr_ rfl rfl ?_
     refine f_ 10 kr_ rfl rfl ?_
     refine d_ kr_ rfl mem_ (by rfl) rfl ?_
     refine WL.c rfl (Ent.func Try.call26 rfl) (spoil_own udo udc (pickL W a.at_).n.data B6 hB6 (by omega)) (Sp.p sp_) ?_
     intro x H9 hH9
     subst hH9
     rw [List.nil_append]
     refine ntsr_ ?_
     refine m_ rfl rfl ?_
     refine a_ rfl rfl ?_
     refine nt_ ?_
     refine WC.ret ?_
     refine DN.block_ret ?_
     refine DN.then_ret ?_
     refine DN.fit (C := C2 ++ (Q2 ++ H)) sp_ ?_
     refine DN.ret1 Try.results22 rfl ?_
     first
     | exact ⟨rfl, _, _, _, C2, Q2, hW2, hQ2, inv.send _, rel.send _, Nat.le_succ _, Nat.le_succ _, rfl⟩
     | exact ⟨rfl, _, _, _, C2, Q2, hW2, hQ2, inv.out _, rel.out _, Nat.le_succ _, Nat.le_succ _, rfl⟩
     | exact ⟨rfl, _, _, _, C2, Q2, hW2, hQ2, inv.copy _, rel.copy _, Nat.le_succ _, Nat.le_succ _, rfl⟩
     | exact ⟨rfl, _, _, _, C2, Q2, hW2, hQ2, inv.late _, rel.late _, Nat.le_succ _, Nat.le_succ _, rfl⟩
     | exact ⟨rfl, _, _, _, C2, Q2, hW2, hQ2, inv.cut' _ _ _, rel.cut' inv _ _ _, cuts_len _ _ _ _ _, Nat.le_succ _, rfl⟩
     | exact ⟨rfl, _, _, _, C2, Q2, hW2, hQ2, inv.tick _, hrt, Nat.le_succ _, htl, rfl⟩
    ·refine sr_ ?_
     refine WL.y rfl (Yd.eql rfl rfl) ?_
     refine a_ rfl rfl ?_
     refine nt_ ?_
     refine WC.ite rfl (fun h119 => ?_) (fun h119 => ?_)
     ·refine sr_ ?_
      refine m_ rfl rfl ?_
      refine f_ 14 kr_ rfl rfl ?_
      refine d_ kr_ rfl mem_ (by rfl) rfl ?_
      refine WL.c rfl (Ent.func Try.call19 rfl) (lose_tells p W C hW inv a.at_) (Sp.p sp_) ?_
      rintro x C2 ⟨rfl, hW2⟩
      refine a_ rfl rfl ?_
      refine ntsr_ ?_
      refine m_ rfl rfl ?_
      refine f_ 14 kr_ rfl rfl ?_
      refine d_ kr_ rfl mem_ (by rfl) rfl ?_
      refine WL.c rfl (Ent.func Try.call39 rfl) (rlose_tells q W cu ti H Q hQ (by have := inv.few; omega) a.at_) (Sp.p sp_) ?_
      rintro x Q2 ⟨rfl, hQ2⟩
      refine a_ rfl rfl ?_
      refine ntsr_ ?_
      refine m_ rfl rfl ?_
      refine m_ rfl rfl ?_
      refine WL.y rfl (Yd.eqlB Try.underlying4 rfl rfl) ?_
      refine WL.renamed (t := 131) (v := .bool true) rfl (congrArg Value.bool (by simp)) ?_
      refine a_ rfl rfl ?_
      refine nt_ ?_
      refine WC.ret ?_
      refine DN.block_ret ?_
      refine DN.then_ret ?_
      refine DN.fit (C := C2 ++ (Q2 ++ H)) sp_ ?_
      refine DN.ret1 Try.results22 rfl ?_
      first
      | exact ⟨rfl, _, _, _, C2, Q2, hW2, hQ2, inv.send _, rel.send _, Nat.le_succ _, Nat.le_succ _, rfl⟩
      | exact ⟨rfl, _, _, _, C2, Q2, hW2, hQ2, inv.out _, rel.out _, Nat.le_succ _, Nat.le_succ _, rfl⟩
      | exact ⟨rfl, _, _, _, C2, Q2, hW2, hQ2, inv.copy _, rel.copy _, Nat.le_succ _, Nat.le_succ _, rfl⟩
      | exact ⟨rfl, _, _, _, C2, Q2, hW2, hQ2, inv.late _, rel.late _, Nat.le_succ _, Nat.le_succ _, rfl⟩
      | exact ⟨rfl, _, _, _, C2, Q2, hW2, hQ2, inv.cut' _ _ _, rel.cut' inv _ _ _, cuts_len _ _ _ _ _, Nat.le_succ _, rfl⟩
      | exact ⟨rfl, _, _, _, C2, Q2, hW2, hQ2, inv.tick _, hrt, Nat.le_succ _, htl, rfl⟩
     ·refine sr_ ?_
      refine WL.y rfl (Yd.eql rfl rfl) ?_
      refine a_ rfl rfl ?_
      refine nt_ ?_
      refine WC.ite rfl (fun h132 => ?_) (fun h132 => ?_)
      ·refine sr_ ?_
       refine m_ rfl rfl ?_
       refine f_ 14 kr_ rfl rfl ?_
       refine d_ kr_ rfl mem_ (by rfl) rfl ?_
       refine WL.c rfl (Ent.func Try.call20 rfl) (copy_tells p W C hW inv a.at_) (Sp.p sp_) ?_
       rintro x C2 ⟨rfl, hW2⟩
       refine a_ rfl rfl ?_
       refine ntsr_ ?_
       refine m_ rfl rfl ?_
       refine f_ 14 kr_ rfl rfl ?_
       refine d_ kr_ rfl mem_ (by rfl) rfl ?_
       refine WL.c rfl (Ent.func Try.call40 rfl) (rwcopy_tells q W cu ti H Q hQ inv a.at_) (Sp.p sp_) ?_
       rintro x Q2 ⟨rfl, hQ2⟩
       refine a_ rfl rfl ?_
       refine ntsr_ ?_
       refine m_ rfl rfl ?_
       refine m_ rfl rfl ?_
       refine WL.y rfl (Yd.eqlB Try.underlying4 rfl rfl) ?_
       refine WL.renamed (t := 144) (v := .bool true) rfl (congrArg Value.bool (by simp)) ?_
       refine a_ rfl rfl ?_
       refine nt_ ?_
       refine WC.ret ?_
       refine DN.block_ret ?_
       refine DN.then_ret ?_
       refine DN.fit (C := C2 ++ (Q2 ++ H)) sp_ ?_
       refine DN.ret1 Try.results22 rfl ?_
       first
       | exact ⟨rfl, _, _, _, C2, Q2, hW2, hQ2, inv.send _, rel.send _, Nat.le_succ _, Nat.le_succ _, rfl⟩
       | exact ⟨rfl, _, _, _, C2, Q2, hW2, hQ2, inv.out _, rel.out _, Nat.le_succ _, Nat.le_succ _, rfl⟩
       | exact ⟨rfl, _, _, _, C2, Q2, hW2, hQ2, inv.copy _, rel.copy _, Nat.le_succ _, Nat.le_succ _, rfl⟩
       | exact ⟨rfl, _, _, _, C2, Q2, hW2, hQ2, inv.late _, rel.late _, Nat.le_succ _, Nat.le_succ _, rfl⟩
       | exact ⟨rfl, _, _, _, C2, Q2, hW2, hQ2, inv.cut' _ _ _, rel.cut' inv _ _ _, cuts_len _ _ _ _ _, Nat.le_succ _, rfl⟩
       | exact ⟨rfl, _, _, _, C2, Q2, hW2, hQ2, inv.tick _, hrt, Nat.le_succ _, htl, rfl⟩
      ·refine sr_ ?_
       refine WL.y rfl (Yd.eql rfl rfl) ?_
       refine a_ rfl rfl ?_
       refine nt_ ?_
       refine WC.ite rfl (fun h145 => ?_) (fun h145 => ?_)
       ·refine sr_ ?_
        refine m_ rfl rfl ?_
        refine f_ 14 kr_ rfl rfl ?_
        refine d_ kr_ rfl mem_ (by rfl) rfl ?_
        refine WL.c rfl (Ent.func Try.call12 rfl) (late_tells p W C hW inv a.at_) (Sp.p sp_) ?_
        rintro x C2 ⟨rfl, hW2⟩
        refine a_ rfl rfl ?_
        refine ntsr_ ?_
        refine m_ rfl rfl ?_
        refine f_ 14 kr_ rfl rfl ?_
        refine d_ kr_ rfl mem_ (by rfl) rfl ?_
        refine WL.c rfl (Ent.func Try.call41 rfl) (rwlate_tells q W cu ti H Q hQ inv a.at_) (Sp.p sp_) ?_
        rintro x Q2 ⟨rfl, hQ2⟩
        refine a_ rfl rfl ?_
        refine ntsr_ ?_
        refine m_ rfl rfl ?_
        refine m_ rfl rfl ?_
        refine WL.y rfl (Yd.eqlB Try.underlying4 rfl rfl) ?_
        refine WL.renamed (t := 157) (v := .bool true) rfl (congrArg Value.bool (by simp)) ?_
        refine a_ rfl rfl ?_
        refine nt_ ?_
        refine WC.ret ?_
        refine DN.block_ret ?_
        refine DN.then_ret ?_
        refine DN.fit (C := C2 ++ (Q2 ++ H)) sp_ ?_
        refine DN.ret1 Try.results22 rfl ?_
        first
        | exact ⟨rfl, _, _, _, C2, Q2, hW2, hQ2, inv.send _, rel.send _, Nat.le_succ _, Nat.le_succ _, rfl⟩
        | exact ⟨rfl, _, _, _, C2, Q2, hW2, hQ2, inv.out _, rel.out _, Nat.le_succ _, Nat.le_succ _, rfl⟩
        | exact ⟨rfl, _, _, _, C2, Q2, hW2, hQ2, inv.copy _, rel.copy _, Nat.le_succ _, Nat.le_succ _, rfl⟩
        | exact ⟨rfl, _, _, _, C2, Q2, hW2, hQ2, inv.late _, rel.late _, Nat.le_succ _, Nat.le_succ _, rfl⟩
        | exact ⟨rfl, _, _, _, C2, Q2, hW2, hQ2, inv.cut' _ _ _, rel.cut' inv _ _ _, cuts_len _ _ _ _ _, Nat.le_succ _, rfl⟩
        | exact ⟨rfl, _, _, _, C2, Q2, hW2, hQ2, inv.tick _, hrt, Nat.le_succ _, htl, rfl⟩
       ·refine sr_ ?_
        refine WL.y rfl (Yd.eql rfl rfl) ?_
        refine a_ rfl rfl ?_
        refine nt_ ?_
        refine WC.ite rfl (fun h158 => ?_) (fun h158 => ?_)
        ·refine sr_ ?_
         refine m_ rfl rfl ?_
         refine f_ 14 kr_ rfl rfl ?_
         refine d_ kr_ rfl mem_ (by rfl) rfl ?_
         refine f_ 15 kr_ rfl rfl ?_
         refine d_ kr_ rfl mem_ (by rfl) rfl ?_
         refine f_ 16 kr_ rfl rfl ?_
         refine d_ kr_ rfl mem_ (by rfl) rfl ?_
         refine WL.c rfl (Ent.func Try.call16 rfl) (cut_tells p W C hW inv a.at_ a.to a.on) (Sp.p sp_) ?_
         rintro x C2 ⟨rfl, hW2⟩
         refine a_ rfl rfl ?_
         refine ntsr_ ?_
         refine m_ rfl rfl ?_
         refine f_ 14 kr_ rfl rfl ?_
         refine d_ kr_ rfl mem_ (by rfl) rfl ?_
         refine f_ 15 kr_ rfl rfl ?_
         refine d_ kr_ rfl mem_ (by rfl) rfl ?_
         refine f_ 16 kr_ rfl rfl ?_
         refine d_ kr_ rfl mem_ (by rfl) rfl ?_
         refine WL.c rfl (Ent.func Try.call42 rfl) (rwcut_tells q W cu ti H Q hQ inv (by omega) a.at_ a.to a.on) (Sp.p sp_) ?_
         rintro x Q2 ⟨rfl, hQ2⟩
         refine a_ rfl rfl ?_
         refine ntsr_ ?_
         refine m_ rfl rfl ?_
         refine m_ rfl rfl ?_
         refine WL.y rfl (Yd.eql rfl rfl) ?_
         refine WL.renamed (t := 178) (v := .bool true) rfl (congrArg Value.bool (decide_eq_true rfl)) ?_
         refine a_ rfl rfl ?_
         refine nt_ ?_
         refine WC.ret ?_
         refine DN.block_ret ?_
         refine DN.then_ret ?_
         refine DN.fit (C := C2 ++ (Q2 ++ H)) sp_ ?_
         refine DN.ret1 Try.results22 rfl ?_
         first
         | exact ⟨rfl, _, _, _, C2, Q2, hW2, hQ2, inv.send _, rel.send _, Nat.le_succ _, Nat.le_succ _, rfl⟩
         | exact ⟨rfl, _, _, _, C2, Q2, hW2, hQ2, inv.out _, rel.out _, Nat.le_succ _, Nat.le_succ _, rfl⟩
         | exact ⟨rfl, _, _, _, C2, Q2, hW2, hQ2, inv.copy _, rel.copy _, Nat.le_succ _, Nat.le_succ _, rfl⟩
         | exact ⟨rfl, _, _, _, C2, Q2, hW2, hQ2, inv.late _, rel.late _, Nat.le_succ _, Nat.le_succ _, rfl⟩
         | exact ⟨rfl, _, _, _, C2, Q2, hW2, hQ2, inv.cut' _ _ _, rel.cut' inv _ _ _, cuts_len _ _ _ _ _, Nat.le_succ _, rfl⟩
         | exact ⟨rfl, _, _, _, C2, Q2, hW2, hQ2, inv.tick _, hrt, Nat.le_succ _, htl, rfl⟩
        ·refine WC.skip ?_
         refine DN.block_normal ?_
         refine ts_ ?_
         refine WC.region ?_
         refine m_ rfl rfl ?_
         refine f_ 14 kr_ rfl rfl ?_
         refine d_ kr_ rfl mem_ (by rfl) rfl ?_
         refine WL.c rfl (Ent.func Try.call27 rfl) (tick_tells p W C hW inv a.at_) (Sp.p sp_) ?_
         rintro x C2 ⟨rfl, hW2⟩
         refine m_ rfl rfl ?_
         refine x_ rfl rfl rfl ?_
         refine x_ rfl rfl rfl ?_
         refine a_ rfl rfl ?_
         refine a_ rfl rfl ?_
         refine ntsr_ ?_
         refine m_ rfl rfl ?_
         refine f_ 14 kr_ rfl rfl ?_
         refine d_ kr_ rfl mem_ (by rfl) rfl ?_
         refine WL.c rfl (Ent.func Try.call43 rfl) (rwtick_tells q W cu ti H Q hQ inv rel (by omega) (by omega) a.at_) (Sp.p sp_) ?_
         rintro x Q2 ⟨rfl, hQ2⟩
         have hrt := rel.tick inv a.at_
         have htl := ticks_len W ti a.at_
         refine m_ rfl rfl ?_
         refine x_ rfl rfl rfl ?_
         refine x_ rfl rfl rfl ?_
         refine a_ rfl rfl ?_
         refine a_ rfl rfl ?_
         refine nt_ ?_
         refine WC.seq ?_
         refine WC.draw 20 kr_ rfl ?_
         refine WA.float (N := 20) rfl ?_
         refine WAF.add (i := 0) (d := 193) rfl (QF.mk [] [] rfl rfl kr_ rfl (QAt.y Wt.none (Yd.move rfl))) ?_
         refine WAF.add (i := 1) (d := 194) rfl (QF.mk [] [] rfl rfl kr_ rfl (QAt.y Wt.none (Yd.move rfl))) ?_
         refine WAF.add (i := 2) (d := 195) rfl (QF.mk [1, 0] [(194, _), (193, _)] rfl rfl kr_ rfl (QAt.y Wt.none (Yd.eql64 _ _ rfl rfl rfl rfl))) ?_
         refine WAF.ren (v := .bool true) (congrArg Value.bool (decide_eq_true rfl)) ?_
         refine WAF.add (i := 3) (d := 196) rfl (QF.mk [2] [(195, _)] rfl rfl kr_ rfl (QAt.y Wt.none (Yd.move rfl))) ?_
         refine WAF.add (i := 4) (d := 197) rfl (QF.mk [3] [(196, _)] rfl rfl kr_ rfl (QAt.y (Wt.yes (dj := 196) rfl rfl) (Yd.move rfl))) ?_
         refine WAF.add (i := 5) (d := 198) rfl (QF.mk [3] [(196, _)] rfl rfl kr_ rfl (QAt.y (Wt.yes (dj := 196) rfl rfl) (Yd.move rfl))) ?_
         refine WAF.add (i := 6) (d := 199) rfl (QF.mk [5, 4, 3] [(198, _), (197, _), (196, _)] rfl rfl kr_ rfl (QAt.y (Wt.yes (dj := 196) rfl rfl) (Yd.eql rfl rfl))) ?_
         refine WAF.ren (v := .bool true) (congrArg Value.bool (decide_eq_true rfl)) ?_
         refine WAF.add (i := 7) (d := 200) rfl (QF.mk [6, 3] [(199, _), (196, _)] rfl rfl kr_ rfl (QAt.y Wt.none (Yd.pickT rfl rfl))) ?_
         refine WAF.add (i := 8) (d := 201) rfl (QF.mk [7, 3] [(200, _), (196, _)] rfl rfl kr_ rfl (QAt.y Wt.none (Yd.move rfl))) ?_
         refine WAF.add (i := 9) (d := 202) rfl (QF.mk [8] [(201, _)] rfl rfl kr_ rfl (QAt.y (Wt.yes (dj := 201) rfl rfl) (Yd.move rfl))) ?_
         refine WAF.add (i := 10) (d := 203) rfl (QF.mk [8] [(201, _)] rfl rfl kr_ rfl (QAt.y (Wt.yes (dj := 201) rfl rfl) (Yd.fieldAddr (k := 14) kr_ rfl))) ?_
         refine WAF.add (i := 11) (d := 204) rfl (QF.mk [10, 8] [(203, _), (201, _)] rfl rfl kr_ rfl (QAt.rd (Wt.yes (dj := 201) rfl rfl) (Rd.load1 kr_ rfl mem_ (by rfl)))) ?_
         refine WAF.add (i := 12) (d := 205) rfl (QF.mk [11, 9, 8] [(204, _), (202, _), (201, _)] rfl rfl kr_ rfl (QAt.rf (Wt.yes (dj := 201) rfl rfl) (Ent.func Try.call28 rfl) (clock_reads p (tickW W a.at_) C2 hW2 (inv.tick a.at_) a.at_) sp_)) ?_
         refine WAF.add (i := 13) (d := 206) rfl (QF.mk [8] [(201, _)] rfl rfl kr_ rfl (QAt.y (Wt.yes (dj := 201) rfl rfl) (Yd.move rfl))) ?_
         refine WAF.add (i := 14) (d := 207) rfl (QF.mk [8] [(201, _)] rfl rfl kr_ rfl (QAt.y (Wt.yes (dj := 201) rfl rfl) (Yd.fieldAddr (k := 14) kr_ rfl))) ?_
         refine WAF.add (i := 15) (d := 208) rfl (QF.mk [14, 8] [(207, _), (201, _)] rfl rfl kr_ rfl (QAt.rd (Wt.yes (dj := 201) rfl rfl) (Rd.load1 kr_ rfl mem_ (by rfl)))) ?_
         refine WAF.add (i := 16) (d := 209) rfl (QF.mk [15, 13, 12, 8] [(208, _), (206, _), (205, _), (201, _)] rfl rfl kr_ rfl (QAt.rf (Wt.yes (dj := 201) rfl rfl) (Ent.func Try.call44 rfl) (rwclock_reads q (tickW W a.at_) cu (ticksC W ti a.at_) H Q2 hQ2 (inv.tick a.at_) hrt (by omega) (by omega) a.at_) sp_)) ?_
         refine WAF.add (i := 17) (d := 210) rfl (QF.mk [16, 12, 8] [(209, _), (205, _), (201, _)] rfl rfl kr_ rfl (QAt.y (Wt.yes (dj := 201) rfl rfl) (Yd.eql64 _ _ rfl rfl rfl rfl))) ?_
         refine WAF.ren (v := .bool true) (congrArg Value.bool (decide_eq_true rfl)) ?_
         refine WAF.add (i := 18) (d := 211) rfl (QF.mk [17, 8] [(210, _), (201, _)] rfl rfl kr_ rfl (QAt.y Wt.none (Yd.pickT rfl rfl))) ?_
         refine WAF.step (pd := [(18, 211), (17, 210), (16, 209), (15, 208), (14, 207), (13, 206), (12, 205), (11, 204), (10, 203), (9, 202), (8, 201), (7, 200), (6, 199), (5, 198), (4, 197), (3, 196), (2, 195), (1, 194), (0, 193)]) [(19, [18, 17, 16, 15, 14, 13, 12, 11, 10, 9, 8, 7, 6, 5, 4, 3, 2, 1, 0])] rfl kr_ kr_ (all_c rfl (all_c rfl (all_c rfl (all_c rfl (all_c rfl (all_c rfl (all_c rfl (all_c rfl (all_c rfl (all_c rfl (all_c rfl (all_c rfl (all_c rfl (all_c rfl (all_c rfl (all_c rfl (all_c rfl (all_c rfl (all_c rfl (all_n)))))))))))))))))))) (all_c (QF.mk [17, 8] [(210, _), (201, _)] rfl rfl kr_ rfl (QAt.y Wt.none (Yd.pickT rfl rfl))) (all_c (QF.ren (congrArg Value.bool (decide_eq_true rfl)) (QF.mk [16, 12, 8] [(209, _), (205, _), (201, _)] rfl rfl kr_ rfl (QAt.y (Wt.yes (dj := 201) rfl rfl) (Yd.eql64 _ _ rfl rfl rfl rfl)))) (all_c (QF.mk [15, 13, 12, 8] [(208, _), (206, _), (205, _), (201, _)] rfl rfl kr_ rfl (QAt.rf (Wt.yes (dj := 201) rfl rfl) (Ent.func Try.call44 rfl) (rwclock_reads q (tickW W a.at_) cu (ticksC W ti a.at_) H Q2 hQ2 (inv.tick a.at_) hrt (by omega) (by omega) a.at_) sp_)) (all_c (QF.mk [14, 8] [(207, _), (201, _)] rfl rfl kr_ rfl (QAt.rd (Wt.yes (dj := 201) rfl rfl) (Rd.load1 kr_ rfl mem_ (by rfl)))) (all_c (QF.mk [8] [(201, _)] rfl rfl kr_ rfl (QAt.y (Wt.yes (dj := 201) rfl rfl) (Yd.fieldAddr (k := 14) kr_ rfl))) (all_c (QF.mk [8] [(201, _)] rfl rfl kr_ rfl (QAt.y (Wt.yes (dj := 201) rfl rfl) (Yd.move rfl))) (all_c (QF.mk [11, 9, 8] [(204, _), (202, _), (201, _)] rfl rfl kr_ rfl (QAt.rf (Wt.yes (dj := 201) rfl rfl) (Ent.func Try.call28 rfl) (clock_reads p (tickW W a.at_) C2 hW2 (inv.tick a.at_) a.at_) sp_)) (all_c (QF.mk [10, 8] [(203, _), (201, _)] rfl rfl kr_ rfl (QAt.rd (Wt.yes (dj := 201) rfl rfl) (Rd.load1 kr_ rfl mem_ (by rfl)))) (all_c (QF.mk [8] [(201, _)] rfl rfl kr_ rfl (QAt.y (Wt.yes (dj := 201) rfl rfl) (Yd.fieldAddr (k := 14) kr_ rfl))) (all_c (QF.mk [8] [(201, _)] rfl rfl kr_ rfl (QAt.y (Wt.yes (dj := 201) rfl rfl) (Yd.move rfl))) (all_c (QF.mk [7, 3] [(200, _), (196, _)] rfl rfl kr_ rfl (QAt.y Wt.none (Yd.move rfl))) (all_c (QF.mk [6, 3] [(199, _), (196, _)] rfl rfl kr_ rfl (QAt.y Wt.none (Yd.pickT rfl rfl))) (all_c (QF.ren (congrArg Value.bool (decide_eq_true rfl)) (QF.mk [5, 4, 3] [(198, _), (197, _), (196, _)] rfl rfl kr_ rfl (QAt.y (Wt.yes (dj := 196) rfl rfl) (Yd.eql rfl rfl)))) (all_c (QF.mk [3] [(196, _)] rfl rfl kr_ rfl (QAt.y (Wt.yes (dj := 196) rfl rfl) (Yd.move rfl))) (all_c (QF.mk [3] [(196, _)] rfl rfl kr_ rfl (QAt.y (Wt.yes (dj := 196) rfl rfl) (Yd.move rfl))) (all_c (QF.mk [2] [(195, _)] rfl rfl kr_ rfl (QAt.y Wt.none (Yd.move rfl))) (all_c (QF.ren (congrArg Value.bool (decide_eq_true rfl)) (QF.mk [1, 0] [(194, _), (193, _)] rfl rfl kr_ rfl (QAt.y Wt.none (Yd.eql64 _ _ rfl rfl rfl rfl)))) (all_c (QF.mk [] [] rfl rfl kr_ rfl (QAt.y Wt.none (Yd.move rfl))) (all_c (QF.mk [] [] rfl rfl kr_ rfl (QAt.y Wt.none (Yd.move rfl))) (all_n)))))))))))))))))))) (all_c ?_ (all_n))
         ·change SO _ _ _ _ _ _ 19 ([(211, _), (210, _), (209, _), (208, _), (207, _), (206, _), (205, _), (204, _), (203, _), (202, _), (201, _), (200, _), (199, _), (198, _), (197, _), (196, _), (195, _), (194, _), (193, _)] ++ _) _ _
          refine SO.y rfl Wt.none rfl (Yd.assign rfl) ?_
          change WAF _ _ _ _ _ _ [] _ [19, 18, 17, 16, 15, 14, 13, 12, 11, 10, 9, 8, 7, 6, 5, 4, 3, 2, 1, 0] ((6, _) :: ([(211, _), (210, _), (209, _), (208, _), (207, _), (206, _), (205, _), (204, _), (203, _), (202, _), (201, _), (200, _), (199, _), (198, _), (197, _), (196, _), (195, _), (194, _), (193, _)] ++ _)) _
          refine WAF.done (pd := []) rfl kr_ kr_ (all_n) (all_n) ?_
          change DN _ _ _ _ _ _ ([] ++ _) _
          refine DN.then_normal ?_
          refine WC.ret ?_
          refine DN.fit (C := C2 ++ (Q2 ++ H)) sp_ ?_
          refine DN.ret1 Try.results22 rfl ?_
          first
          | exact ⟨rfl, _, _, _, C2, Q2, hW2, hQ2, inv.send _, rel.send _, Nat.le_succ _, Nat.le_succ _, rfl⟩
          | exact ⟨rfl, _, _, _, C2, Q2, hW2, hQ2, inv.out _, rel.out _, Nat.le_succ _, Nat.le_succ _, rfl⟩
          | exact ⟨rfl, _, _, _, C2, Q2, hW2, hQ2, inv.copy _, rel.copy _, Nat.le_succ _, Nat.le_succ _, rfl⟩
          | exact ⟨rfl, _, _, _, C2, Q2, hW2, hQ2, inv.late _, rel.late _, Nat.le_succ _, Nat.le_succ _, rfl⟩
          | exact ⟨rfl, _, _, _, C2, Q2, hW2, hQ2, inv.cut' _ _ _, rel.cut' inv _ _ _, cuts_len _ _ _ _ _, Nat.le_succ _, rfl⟩
          | exact ⟨rfl, _, _, _, C2, Q2, hW2, hQ2, inv.tick _, hrt, Nat.le_succ _, htl, rfl⟩
   ·refine WC.region ?_
    refine WL.y rfl (Yd.eql rfl rfl) ?_
    refine a_ rfl rfl ?_
    refine nt_ ?_
    refine WC.ite rfl (fun h89 => ?_) (fun h89 => ?_)
    ·refine sr_ ?_
     refine m_ rfl rfl ?_
     refine f_ 14 kr_ rfl rfl ?_
     refine d_ kr_ rfl mem_ (by rfl) rfl ?_
     refine WL.c rfl (Ent.func Try.call13 rfl) (pick_tells p W C hW inv a.at_) (Sp.p sp_) ?_
     rintro x H9 ⟨uk, ud, A6, B6, C2, rfl, hA6, hB6, hW2, rfl⟩
     obtain ⟨uko, ukc, rfl, _⟩ := hA6.form
     obtain ⟨udo, udc, rfl, _⟩ := hB6.form
     refine m_ rfl rfl ?_
     refine x_ rfl rfl rfl ?_
     refine x_ rfl rfl rfl ?_
     refine WL.h rfl (Hd.alloc (zs := [.int .i64 0, .int .i64 0, .int .i64 0, .int .u32 0, .int .u32 0, .int .u64 0, .int .u64 0, .int .u32 0, .int .i64 0, .bool false, .int .i64 0, .slice none 0 0, .slice none 0 0]) kr_ fun b11 => ⟨_, rfl, ?_⟩)
     refine WL.s (Hd.storeAll (n := 13) (vs := ltc (pickL W a.at_) (.slice uko (pickL W a.at_).n.key.length ukc) (.slice udo (pickL W a.at_).n.data.length udc)) kr_ rfl rfl (by rfl) (ltc_one9 rfl rfl) fr_ (by rfl) ⟨rfl, ?_⟩)
     refine a_ rfl rfl ?_
     refine ntsr_ ?_
     refine m_ rfl rfl ?_
     refine f_ 14 kr_ rfl rfl ?_
     refine d_ kr_ rfl mem_ (by rfl) rfl ?_
     refine WL.c rfl (Ent.func Try.call38 rfl) (rwpick_tells q W cu ti H Q hQ inv rel (by omega) a.at_) (Sp.p sp_) ?_
     rintro x Q2 ⟨wk, wd, rfl, hA7, hB7, hQ2⟩
     obtain ⟨vko, vkc, rfl, _⟩ := hA7.form
     obtain ⟨vdo, vdc, rfl, _⟩ := hB7.form
     refine m_ rfl rfl ?_
     refine x_ rfl rfl rfl ?_
     refine x_ rfl rfl rfl ?_
     refine WL.h rfl (Hd.alloc (zs := [.int .i64 0, .int .i64 0, .int .i64 0, .int .u32 0, .int .u32 0, .int .u64 0, .int .u64 0, .int .u32 0, .int .i64 0, .bool false, .int .i64 0, .slice none 0 0, .slice none 0 0]) kr_ fun b13 => ⟨_, rfl, ?_⟩)
     refine WL.s (Hd.storeAll (n := 13) (vs := ltc (pickL W a.at_) (.slice vko (pickL W a.at_).n.key.length vkc) (.slice vdo (pickL W a.at_).n.data.length vdc)) kr_ rfl rfl (by rfl) (ltc_one9 rfl rfl) fr_ (by rfl) ⟨rfl, ?_⟩)
     refine a_ rfl rfl ?_
     refine ntsr_ ?_
     refine WL.h rfl (Hd.loadAll (n := 13) kr_ rfl mem_ (by rfl) ⟨_, rfl, ?_⟩)
     refine WL.h rfl (Hd.loadAll (n := 13) kr_ rfl mem_ (by rfl) ⟨_, rfl, ?_⟩)
     refine WL.rf rfl (Ent.func Try.call25 rfl) (same18_reads (pickL W a.at_) (pickL W a.at_) _ _ _ _ (A6 ++ (B6 ++ H)) (hA6.bs.mono gr_) (hB6.bs.mono gr_) (hA7.mono gr_) (hB7.mono gr_)) sp_ ?_
     refine WL.renamed (t := 108) (v := .bool true) rfl (congrArg Value.bool (sameL_refl _)) ?_
     refine m_ rfl rfl ?_
     refine gy_ 109 rfl rfl rfl (Yd.move rfl) ?_
     refine gy_ 109 rfl rfl rfl (Yd.move rfl) ?_
     refine gy_ 109 rfl rfl rfl (Yd.eqlB Try.underlying4 rfl rfl) ?_
     refine WL.renamed (t := 112) (v := .bool true) rfl (congrArg Value.bool (by simp)) ?_
     refine WL.y rfl (Yd.pickT rfl rfl) ?_
     refine a_ rfl rfl ?_
     refine ntsr_ ?_
     refine f_ 2 kr_ rfl rfl ?_
     refine f_ 10 kr_ rfl rfl ?_
     refine d_ kr_ rfl mem_ (by rfl) rfl ?_
     refine WL.c rfl (Ent.func Try.call26 rfl) (spoil_own udo udc (pickL W a.at_).n.data B6 hB6 (by omega)) (Sp.p sp_) ?_
     intro x H9 hH9
     subst hH9
     rw [List.nil_append]
     refine ntsr_ ?_
     refine m_ rfl rfl ?_
     refine a_ rfl rfl ?_
     refine nt_ ?_
     refine WC.ret ?_
     refine DN.block_ret ?_
     refine DN.then_ret ?_
     refine DN.fit (C := C2 ++ (Q2 ++ H)) sp_ ?_
     refine DN.ret1 Try.results22 rfl ?_
     first
     | exact ⟨rfl, _, _, _, C2, Q2, hW2, hQ2, inv.send _, rel.send _, Nat.le_succ _, Nat.le_succ _, rfl⟩
     | exact ⟨rfl, _, _, _, C2, Q2, hW2, hQ2, inv.out _, rel.out _, Nat.le_succ _, Nat.le_succ _, rfl⟩
     | exact ⟨rfl, _, _, _, C2, Q2, hW2, hQ2, inv.copy _, rel.copy _, Nat.le_succ _, Nat.le_succ _, rfl⟩
     | exact ⟨rfl, _, _, _, C2, Q2, hW2, hQ2, inv.late _, rel.late _, Nat.le_succ _, Nat.le_succ _, rfl⟩
     | exact ⟨rfl, _, _, _, C2, Q2, hW2, hQ2, inv.cut' _ _ _, rel.cut' inv _ _ _, cuts_len _ _ _ _ _, Nat.le_succ _, rfl⟩
     | exact ⟨rfl, _, _, _, C2, Q2, hW2, hQ2, inv.tick _, hrt, Nat.le_succ _, htl, rfl⟩
    ·refine sr_ ?_
     refine WL.y rfl (Yd.eql rfl rfl) ?_
     refine a_ rfl rfl ?_
     refine nt_ ?_
     refine WC.ite rfl (fun h119 => ?_) (fun h119 => ?_)
     ·refine sr_ ?_
      refine m_ rfl rfl ?_
      refine f_ 14 kr_ rfl rfl ?_
      refine d_ kr_ rfl mem_ (by rfl) rfl ?_
      refine WL.c rfl (Ent.func Try.call19 rfl) (lose_tells p W C hW inv a.at_) (Sp.p sp_) ?_
      rintro x C2 ⟨rfl, hW2⟩
      refine a_ rfl rfl ?_
      refine ntsr_ ?_
      refine m_ rfl rfl ?_
      refine f_ 14 kr_ rfl rfl ?_
      refine d_ kr_ rfl mem_ (by rfl) rfl ?_
      refine WL.c rfl (Ent.func Try.call39 rfl) (rlose_tells q W cu ti H Q hQ (by have := inv.few; omega) a.at_) (Sp.p sp_) ?_
      rintro x Q2 ⟨rfl, hQ2⟩
      refine a_ rfl rfl ?_
      refine ntsr_ ?_
      refine m_ rfl rfl ?_
      refine m_ rfl rfl ?_
      refine WL.y rfl (Yd.eqlB Try.underlying4 rfl rfl) ?_
      refine WL.renamed (t := 131) (v := .bool true) rfl (congrArg Value.bool (by simp)) ?_
      refine a_ rfl rfl ?_
      refine nt_ ?_
      refine WC.ret ?_
      refine DN.block_ret ?_
      refine DN.then_ret ?_
      refine DN.fit (C := C2 ++ (Q2 ++ H)) sp_ ?_
      refine DN.ret1 Try.results22 rfl ?_
      first
      | exact ⟨rfl, _, _, _, C2, Q2, hW2, hQ2, inv.send _, rel.send _, Nat.le_succ _, Nat.le_succ _, rfl⟩
      | exact ⟨rfl, _, _, _, C2, Q2, hW2, hQ2, inv.out _, rel.out _, Nat.le_succ _, Nat.le_succ _, rfl⟩
      | exact ⟨rfl, _, _, _, C2, Q2, hW2, hQ2, inv.copy _, rel.copy _, Nat.le_succ _, Nat.le_succ _, rfl⟩
      | exact ⟨rfl, _, _, _, C2, Q2, hW2, hQ2, inv.late _, rel.late _, Nat.le_succ _, Nat.le_succ _, rfl⟩
      | exact ⟨rfl, _, _, _, C2, Q2, hW2, hQ2, inv.cut' _ _ _, rel.cut' inv _ _ _, cuts_len _ _ _ _ _, Nat.le_succ _, rfl⟩
      | exact ⟨rfl, _, _, _, C2, Q2, hW2, hQ2, inv.tick _, hrt, Nat.le_succ _, htl, rfl⟩
     ·refine sr_ ?_
      refine WL.y rfl (Yd.eql rfl rfl) ?_
      refine a_ rfl rfl ?_
      refine nt_ ?_
      refine WC.ite rfl (fun h132 => ?_) (fun h132 => ?_)
      ·refine sr_ ?_
       refine m_ rfl rfl ?_
       refine f_ 14 kr_ rfl rfl ?_
       refine d_ kr_ rfl mem_ (by rfl) rfl ?_
       refine WL.c rfl (Ent.func Try.call20 rfl) (copy_tells p W C hW inv a.at_) (Sp.p sp_) ?_
       rintro x C2 ⟨rfl, hW2⟩
       refine a_ rfl rfl ?_
       refine ntsr_ ?_
       refine m_ rfl rfl ?_
       refine f_ 14 kr_ rfl rfl ?_
       refine d_ kr_ rfl mem_ (by rfl) rfl ?_
       refine WL.c rfl (Ent.func Try.call40 rfl) (rwcopy_tells q W cu ti H Q hQ inv a.at_) (Sp.p sp_) ?_
       rintro x Q2 ⟨rfl, hQ2⟩
       refine a_ rfl rfl ?_
       refine ntsr_ ?_
       refine m_ rfl rfl ?_
       refine m_ rfl rfl ?_
       refine WL.y rfl (Yd.eqlB Try.underlying4 rfl rfl) ?_
       refine WL.renamed (t := 144) (v := .bool true) rfl (congrArg Value.bool (by simp)) ?_
       refine a_ rfl rfl ?_
       refine nt_ ?_
       refine WC.ret ?_
       refine DN.block_ret ?_
       refine DN.then_ret ?_
       refine DN.fit (C := C2 ++ (Q2 ++ H)) sp_ ?_
       refine DN.ret1 Try.results22 rfl ?_
       first
       | exact ⟨rfl, _, _, _, C2, Q2, hW2, hQ2, inv.send _, rel.send _, Nat.le_succ _, Nat.le_succ _, rfl⟩
       | exact ⟨rfl, _, _, _, C2, Q2, hW2, hQ2, inv.out _, rel.out _, Nat.le_succ _, Nat.le_succ _, rfl⟩
       | exact ⟨rfl, _, _, _, C2, Q2, hW2, hQ2, inv.copy _, rel.copy _, Nat.le_succ _, Nat.le_succ _, rfl⟩
       | exact ⟨rfl, _, _, _, C2, Q2, hW2, hQ2, inv.late _, rel.late _, Nat.le_succ _, Nat.le_succ _, rfl⟩
       | exact ⟨rfl, _, _, _, C2, Q2, hW2, hQ2, inv.cut' _ _ _, rel.cut' inv _ _ _, cuts_len _ _ _ _ _, Nat.le_succ _, rfl⟩
       | exact ⟨rfl, _, _, _, C2, Q2, hW2, hQ2, inv.tick _, hrt, Nat.le_succ _, htl, rfl⟩
      ·refine sr_ ?_
       refine WL.y rfl (Yd.eql rfl rfl) ?_
       refine a_ rfl rfl ?_
       refine nt_ ?_
       refine WC.ite rfl (fun h145 => ?_) (fun h145 => ?_)
       ·refine sr_ ?_
        refine m_ rfl rfl ?_
        refine f_ 14 kr_ rfl rfl ?_
        refine d_ kr_ rfl mem_ (by rfl) rfl ?_
        refine WL.c rfl (Ent.func Try.call12 rfl) (late_tells p W C hW inv a.at_) (Sp.p sp_) ?_
        rintro x C2 ⟨rfl, hW2⟩
        refine a_ rfl rfl ?_
        refine ntsr_ ?_
        refine m_ rfl rfl ?_
        refine f_ 14 kr_ rfl rfl ?_
        refine d_ kr_ rfl mem_ (by rfl) rfl ?_
        refine WL.c rfl (Ent.func Try.call41 rfl) (rwlate_tells q W cu ti H Q hQ inv a.at_) (Sp.p sp_) ?_
        rintro x Q2 ⟨rfl, hQ2⟩
        refine a_ rfl rfl ?_
        refine ntsr_ ?_
        refine m_ rfl rfl ?_
        refine m_ rfl rfl ?_
        refine WL.y rfl (Yd.eqlB Try.underlying4 rfl rfl) ?_
        refine WL.renamed (t := 157) (v := .bool true) rfl (congrArg Value.bool (by simp)) ?_
        refine a_ rfl rfl ?_
        refine nt_ ?_
        refine WC.ret ?_
        refine DN.block_ret ?_
        refine DN.then_ret ?_
        refine DN.fit (C := C2 ++ (Q2 ++ H)) sp_ ?_
        refine DN.ret1 Try.results22 rfl ?_
        first
        | exact ⟨rfl, _, _, _, C2, Q2, hW2, hQ2, inv.send _, rel.send _, Nat.le_succ _, Nat.le_succ _, rfl⟩
        | exact ⟨rfl, _, _, _, C2, Q2, hW2, hQ2, inv.out _, rel.out _, Nat.le_succ _, Nat.le_succ _, rfl⟩
        | exact ⟨rfl, _, _, _, C2, Q2, hW2, hQ2, inv.copy _, rel.copy _, Nat.le_succ _, Nat.le_succ _, rfl⟩
        | exact ⟨rfl, _, _, _, C2, Q2, hW2, hQ2, inv.late _, rel.late _, Nat.le_succ _, Nat.le_succ _, rfl⟩
        | exact ⟨rfl, _, _, _, C2, Q2, hW2, hQ2, inv.cut' _ _ _, rel.cut' inv _ _ _, cuts_len _ _ _ _ _, Nat.le_succ _, rfl⟩
        | exact ⟨rfl, _, _, _, C2, Q2, hW2, hQ2, inv.tick _, hrt, Nat.le_succ _, htl, rfl⟩
       ·refine sr_ ?_
        refine WL.y rfl (Yd.eql rfl rfl) ?_
        refine a_ rfl rfl ?_
        refine nt_ ?_
        refine WC.ite rfl (fun h158 => ?_) (fun h158 => ?_)
        ·refine sr_ ?_
         refine m_ rfl rfl ?_
         refine f_ 14 kr_ rfl rfl ?_
         refine d_ kr_ rfl mem_ (by rfl) rfl ?_
         refine f_ 15 kr_ rfl rfl ?_
         refine d_ kr_ rfl mem_ (by rfl) rfl ?_
         refine f_ 16 kr_ rfl rfl ?_
         refine d_ kr_ rfl mem_ (by rfl) rfl ?_
         refine WL.c rfl (Ent.func Try.call16 rfl) (cut_tells p W C hW inv a.at_ a.to a.on) (Sp.p sp_) ?_
         rintro x C2 ⟨rfl, hW2⟩
         refine a_ rfl rfl ?_
         refine ntsr_ ?_
         refine m_ rfl rfl ?_
         refine f_ 14 kr_ rfl rfl ?_
         refine d_ kr_ rfl mem_ (by rfl) rfl ?_
         refine f_ 15 kr_ rfl rfl ?_
         refine d_ kr_ rfl mem_ (by rfl) rfl ?_
         refine f_ 16 kr_ rfl rfl ?_
         refine d_ kr_ rfl mem_ (by rfl) rfl ?_
         refine WL.c rfl (Ent.func Try.call42 rfl) (rwcut_tells q W cu ti H Q hQ inv (by omega) a.at_ a.to a.on) (Sp.p sp_) ?_
         rintro x Q2 ⟨rfl, hQ2⟩
         refine a_ rfl rfl ?_
         refine ntsr_ ?_
         refine m_ rfl rfl ?_
         refine m_ rfl rfl ?_
         refine WL.y rfl (Yd.eql rfl rfl) ?_
         refine WL.renamed (t := 178) (v := .bool true) rfl (congrArg Value.bool (decide_eq_true rfl)) ?_
         refine a_ rfl rfl ?_
         refine nt_ ?_
         refine WC.ret ?_
         refine DN.block_ret ?_
         refine DN.then_ret ?_
         refine DN.fit (C := C2 ++ (Q2 ++ H)) sp_ ?_
         refine DN.ret1 Try.results22 rfl ?_
         first
         | exact ⟨rfl, _, _, _, C2, Q2, hW2, hQ2, inv.send _, rel.send _, Nat.le_succ _, Nat.le_succ _, rfl⟩
         | exact ⟨rfl, _, _, _, C2, Q2, hW2, hQ2, inv.out _, rel.out _, Nat.le_succ _, Nat.le_succ _, rfl⟩
         | exact ⟨rfl, _, _, _, C2, Q2, hW2, hQ2, inv.copy _, rel.copy _, Nat.le_succ _, Nat.le_succ _, rfl⟩
         | exact ⟨rfl, _, _, _, C2, Q2, hW2, hQ2, inv.late _, rel.late _, Nat.le_succ _, Nat.le_succ _, rfl⟩
         | exact ⟨rfl, _, _, _, C2, Q2, hW2, hQ2, inv.cut' _ _ _, rel.cut' inv _ _ _, cuts_len _ _ _ _ _, Nat.le_succ _, rfl⟩
         | exact ⟨rfl, _, _, _, C2, Q2, hW2, hQ2, inv.tick _, hrt, Nat.le_succ _, htl, rfl⟩
        ·refine WC.skip ?_
         refine DN.block_normal ?_
         refine ts_ ?_
         refine WC.region ?_
         refine m_ rfl rfl ?_
         refine f_ 14 kr_ rfl rfl ?_
         refine d_ kr_ rfl mem_ (by rfl) rfl ?_
         refine WL.c rfl (Ent.func Try.call27 rfl) (tick_tells p W C hW inv a.at_) (Sp.p sp_) ?_
         rintro x C2 ⟨rfl, hW2⟩
         refine m_ rfl rfl ?_
         refine x_ rfl rfl rfl ?_
         refine x_ rfl rfl rfl ?_
         refine a_ rfl rfl ?_
         refine a_ rfl rfl ?_
         refine ntsr_ ?_
         refine m_ rfl rfl ?_
         refine f_ 14 kr_ rfl rfl ?_
         refine d_ kr_ rfl mem_ (by rfl) rfl ?_
         refine WL.c rfl (Ent.func Try.call43 rfl) (rwtick_tells q W cu ti H Q hQ inv rel (by omega) (by omega) a.at_) (Sp.p sp_) ?_
         rintro x Q2 ⟨rfl, hQ2⟩
         have hrt := rel.tick inv a.at_
         have htl := ticks_len W ti a.at_
         refine m_ rfl rfl ?_
         refine x_ rfl rfl rfl ?_
         refine x_ rfl rfl rfl ?_
         refine a_ rfl rfl ?_
         refine a_ rfl rfl ?_
         refine nt_ ?_
         refine WC.seq ?_
         refine WC.draw 20 kr_ rfl ?_
         refine WA.float (N := 20) rfl ?_
         refine WAF.add (i := 0) (d := 193) rfl (QF.mk [] [] rfl rfl kr_ rfl (QAt.y Wt.none (Yd.move rfl))) ?_
         refine WAF.add (i := 1) (d := 194) rfl (QF.mk [] [] rfl rfl kr_ rfl (QAt.y Wt.none (Yd.move rfl))) ?_
         refine WAF.add (i := 2) (d := 195) rfl (QF.mk [1, 0] [(194, _), (193, _)] rfl rfl kr_ rfl (QAt.y Wt.none (Yd.eql64 _ _ rfl rfl rfl rfl))) ?_
         refine WAF.ren (v := .bool true) (congrArg Value.bool (decide_eq_true rfl)) ?_
         refine WAF.add (i := 3) (d := 196) rfl (QF.mk [2] [(195, _)] rfl rfl kr_ rfl (QAt.y Wt.none (Yd.move rfl))) ?_
         refine WAF.add (i := 4) (d := 197) rfl (QF.mk [3] [(196, _)] rfl rfl kr_ rfl (QAt.y (Wt.yes (dj := 196) rfl rfl) (Yd.move rfl))) ?_
         refine WAF.add (i := 5) (d := 198) rfl (QF.mk [3] [(196, _)] rfl rfl kr_ rfl (QAt.y (Wt.yes (dj := 196) rfl rfl) (Yd.move rfl))) ?_
         refine WAF.add (i := 6) (d := 199) rfl (QF.mk [5, 4, 3] [(198, _), (197, _), (196, _)] rfl rfl kr_ rfl (QAt.y (Wt.yes (dj := 196) rfl rfl) (Yd.eql rfl rfl))) ?_
         refine WAF.ren (v := .bool true) (congrArg Value.bool (decide_eq_true rfl)) ?_
         refine WAF.add (i := 7) (d := 200) rfl (QF.mk [6, 3] [(199, _), (196, _)] rfl rfl kr_ rfl (QAt.y Wt.none (Yd.pickT rfl rfl))) ?_
         refine WAF.add (i := 8) (d := 201) rfl (QF.mk [7, 3] [(200, _), (196, _)] rfl rfl kr_ rfl (QAt.y Wt.none (Yd.move rfl))) ?_
         refine WAF.add (i := 9) (d := 202) rfl (QF.mk [8] [(201, _)] rfl rfl kr_ rfl (QAt.y (Wt.yes (dj := 201) rfl rfl) (Yd.move rfl))) ?_
         refine WAF.add (i := 10) (d := 203) rfl (QF.mk [8] [(201, _)] rfl rfl kr_ rfl (QAt.y (Wt.yes (dj := 201) rfl rfl) (Yd.fieldAddr (k := 14) kr_ rfl))) ?_
         refine WAF.add (i := 11) (d := 204) rfl (QF.mk [10, 8] [(203, _), (201, _)] rfl rfl kr_ rfl (QAt.rd (Wt.yes (dj := 201) rfl rfl) (Rd.load1 kr_ rfl mem_ (by rfl)))) ?_
         refine WAF.add (i := 12) (d := 205) rfl (QF.mk [11, 9, 8] [(204, _), (202, _), (201, _)] rfl rfl kr_ rfl (QAt.rf (Wt.yes (dj := 201) rfl rfl) (Ent.func Try.call28 rfl) (clock_reads p (tickW W a.at_) C2 hW2 (inv.tick a.at_) a.at_) sp_)) ?_
         refine WAF.add (i := 13) (d := 206) rfl (QF.mk [8] [(201, _)] rfl rfl kr_ rfl (QAt.y (Wt.yes (dj := 201) rfl rfl) (Yd.move rfl))) ?_
         refine WAF.add (i := 14) (d := 207) rfl (QF.mk [8] [(201, _)] rfl rfl kr_ rfl (QAt.y (Wt.yes (dj := 201) rfl rfl) (Yd.fieldAddr (k := 14) kr_ rfl))) ?_
         refine WAF.add (i := 15) (d := 208) rfl (QF.mk [14, 8] [(207, _), (201, _)] rfl rfl kr_ rfl (QAt.rd (Wt.yes (dj := 201) rfl rfl) (Rd.load1 kr_ rfl mem_ (by rfl)))) ?_
         refine WAF.add (i := 16) (d := 209) rfl (QF.mk [15, 13, 12, 8] [(208, _), (206, _), (205, _), (201, _)] rfl rfl kr_ rfl (QAt.rf (Wt.yes (dj := 201) rfl rfl) (Ent.func Try.call44 rfl) (rwclock_reads q (tickW W a.at_) cu (ticksC W ti a.at_) H Q2 hQ2 (inv.tick a.at_) hrt (by omega) (by omega) a.at_) sp_)) ?_
         refine WAF.add (i := 17) (d := 210) rfl (QF.mk [16, 12, 8] [(209, _), (205, _), (201, _)] rfl rfl kr_ rfl (QAt.y (Wt.yes (dj := 201) rfl rfl) (Yd.eql64 _ _ rfl rfl rfl rfl))) ?_
         refine WAF.ren (v := .bool true) (congrArg Value.bool (decide_eq_true rfl)) ?_
         refine WAF.add (i := 18) (d := 211) rfl (QF.mk [17, 8] [(210, _), (201, _)] rfl rfl kr_ rfl (QAt.y Wt.none (Yd.pickT rfl rfl))) ?_
         refine WAF.step (pd := [(18, 211), (17, 210), (16, 209), (15, 208), (14, 207), (13, 206), (12, 205), (11, 204), (10, 203), (9, 202), (8, 201), (7, 200), (6, 199), (5, 198), (4, 197), (3, 196), (2, 195), (1, 194), (0, 193)]) [(19, [18, 17, 16, 15, 14, 13, 12, 11, 10, 9, 8, 7, 6, 5, 4, 3, 2, 1, 0])] rfl kr_ kr_ (all_c rfl (all_c rfl (all_c rfl (all_c rfl (all_c rfl (all_c rfl (all_c rfl (all_c rfl (all_c rfl (all_c rfl (all_c rfl (all_c rfl (all_c rfl (all_c rfl (all_c rfl (all_c rfl (all_c rfl (all_c rfl (all_c rfl (all_n)))))))))))))))))))) (all_c (QF.mk [17, 8] [(210, _), (201, _)] rfl rfl kr_ rfl (QAt.y Wt.none (Yd.pickT rfl rfl))) (all_c (QF.ren (congrArg Value.bool (decide_eq_true rfl)) (QF.mk [16, 12, 8] [(209, _), (205, _), (201, _)] rfl rfl kr_ rfl (QAt.y (Wt.yes (dj := 201) rfl rfl) (Yd.eql64 _ _ rfl rfl rfl rfl)))) (all_c (QF.mk [15, 13, 12, 8] [(208, _), (206, _), (205, _), (201, _)] rfl rfl kr_ rfl (QAt.rf (Wt.yes (dj := 201) rfl rfl) (Ent.func Try.call44 rfl) (rwclock_reads q (tickW W a.at_) cu (ticksC W ti a.at_) H Q2 hQ2 (inv.tick a.at_) hrt (by omega) (by omega) a.at_) sp_)) (all_c (QF.mk [14, 8] [(207, _), (201, _)] rfl rfl kr_ rfl (QAt.rd (Wt.yes (dj := 201) rfl rfl) (Rd.load1 kr_ rfl mem_ (by rfl)))) (all_c (QF.mk [8] [(201, _)] rfl rfl kr_ rfl (QAt.y (Wt.yes (dj := 201) rfl rfl) (Yd.fieldAddr (k := 14) kr_ rfl))) (all_c (QF.mk [8] [(201, _)] rfl rfl kr_ rfl (QAt.y (Wt.yes (dj := 201) rfl rfl) (Yd.move rfl))) (all_c (QF.mk [11, 9, 8] [(204, _), (202, _), (201, _)] rfl rfl kr_ rfl (QAt.rf (Wt.yes (dj := 201) rfl rfl) (Ent.func Try.call28 rfl) (clock_reads p (tickW W a.at_) C2 hW2 (inv.tick a.at_) a.at_) sp_)) (all_c (QF.mk [10, 8] [(203, _), (201, _)] rfl rfl kr_ rfl (QAt.rd (Wt.yes (dj := 201) rfl rfl) (Rd.load1 kr_ rfl mem_ (by rfl)))) (all_c (QF.mk [8] [(201, _)] rfl rfl kr_ rfl (QAt.y (Wt.yes (dj := 201) rfl rfl) (Yd.fieldAddr (k := 14) kr_ rfl))) (all_c (QF.mk [8] [(201, _)] rfl rfl kr_ rfl (QAt.y (Wt.yes (dj := 201) rfl rfl) (Yd.move rfl))) (all_c (QF.mk [7, 3] [(200, _), (196, _)] rfl rfl kr_ rfl (QAt.y Wt.none (Yd.move rfl))) (all_c (QF.mk [6, 3] [(199, _), (196, _)] rfl rfl kr_ rfl (QAt.y Wt.none (Yd.pickT rfl rfl))) (all_c (QF.ren (congrArg Value.bool (decide_eq_true rfl)) (QF.mk [5, 4, 3] [(198, _), (197, _), (196, _)] rfl rfl kr_ rfl (QAt.y (Wt.yes (dj := 196) rfl rfl) (Yd.eql rfl rfl)))) (all_c (QF.mk [3] [(196, _)] rfl rfl kr_ rfl (QAt.y (Wt.yes (dj := 196) rfl rfl) (Yd.move rfl))) (all_c (QF.mk [3] [(196, _)] rfl rfl kr_ rfl (QAt.y (Wt.yes (dj := 196) rfl rfl) (Yd.move rfl))) (all_c (QF.mk [2] [(195, _)] rfl rfl kr_ rfl (QAt.y Wt.none (Yd.move rfl))) (all_c (QF.ren (congrArg Value.bool (decide_eq_true rfl)) (QF.mk [1, 0] [(194, _), (193, _)] rfl rfl kr_ rfl (QAt.y Wt.none (Yd.eql64 _ _ rfl rfl rfl rfl)))) (all_c (QF.mk [] [] rfl rfl kr_ rfl (QAt.y Wt.none (Yd.move rfl))) (all_c (QF.mk [] [] rfl rfl kr_ rfl (QAt.y Wt.none (Yd.move rfl))) (all_n)))))))))))))))))))) (all_c ?_ (all_n))
         ·change SO _ _ _ _ _ _ 19 ([(211, _), (210, _), (209, _), (208, _), (207, _), (206, _), (205, _), (204, _), (203, _), (202, _), (201, _), (200, _), (199, _), (198, _), (197, _), (196, _), (195, _), (194, _), (193, _)] ++ _) _ _
          refine SO.y rfl Wt.none rfl (Yd.assign rfl) ?_
          change WAF _ _ _ _ _ _ [] _ [19, 18, 17, 16, 15, 14, 13, 12, 11, 10, 9, 8, 7, 6, 5, 4, 3, 2, 1, 0] ((6, _) :: ([(211, _), (210, _), (209, _), (208, _), (207, _), (206, _), (205, _), (204, _), (203, _), (202, _), (201, _), (200, _), (199, _), (198, _), (197, _), (196, _), (195, _), (194, _), (193, _)] ++ _)) _
          refine WAF.done (pd := []) rfl kr_ kr_ (all_n) (all_n) ?_
          change DN _ _ _ _ _ _ ([] ++ _) _
          refine DN.then_normal ?_
          refine WC.ret ?_
          refine DN.fit (C := C2 ++ (Q2 ++ H)) sp_ ?_
          refine DN.ret1 Try.results22 rfl ?_
          first
          | exact ⟨rfl, _, _, _, C2, Q2, hW2, hQ2, inv.send _, rel.send _, Nat.le_succ _, Nat.le_succ _, rfl⟩
          | exact ⟨rfl, _, _, _, C2, Q2, hW2, hQ2, inv.out _, rel.out _, Nat.le_succ _, Nat.le_succ _, rfl⟩
          | exact ⟨rfl, _, _, _, C2, Q2, hW2, hQ2, inv.copy _, rel.copy _, Nat.le_succ _, Nat.le_succ _, rfl⟩
          | exact ⟨rfl, _, _, _, C2, Q2, hW2, hQ2, inv.late _, rel.late _, Nat.le_succ _, Nat.le_succ _, rfl⟩
          | exact ⟨rfl, _, _, _, C2, Q2, hW2, hQ2, inv.cut' _ _ _, rel.cut' inv _ _ _, cuts_len _ _ _ _ _, Nat.le_succ _, rfl⟩
          | exact ⟨rfl, _, _, _, C2, Q2, hW2, hQ2, inv.tick _, hrt, Nat.le_succ _, htl, rfl⟩
 ·refine sr_ ?_
  refine WL.y rfl (Yd.eql rfl rfl) ?_
  refine a_ rfl rfl ?_
  refine nt_ ?_
  refine WC.ite rfl (fun h30 => ?_) (fun h30 => ?_)
  ·refine WC.skip ?_
   refine DN.then_normal ?_
   refine WC.ite rfl (fun h30 => ?_) (fun h30 => ?_)
   ·refine sr_ ?_
    refine f_ 1 kr_ rfl rfl ?_
    refine WL.h rfl (Hd.loadA (n := 13) (vs := ltc a.L (.slice ko a.L.n.key.length kc) (.slice eo a.L.n.data.length ec)) kr_ rfl mem_ (by rfl) (by rfl) ⟨_, rfl, ?_⟩)
    refine WL.h rfl (Hd.alloc (zs := [.int .i64 0, .int .i64 0, .int .i64 0, .int .u32 0, .int .u32 0, .int .u64 0, .int .u64 0, .int .u32 0, .int .i64 0, .bool false, .int .i64 0, .slice none 0 0, .slice none 0 0]) kr_ fun b7 => ⟨_, rfl, ?_⟩)
    refine WL.s (Hd.storeAll (n := 13) (vs := ltc a.L (.slice ko a.L.n.key.length kc) (.slice eo a.L.n.data.length ec)) kr_ rfl rfl (by rfl) (ltc_one9 rfl rfl) fr_ (by rfl) ⟨rfl, ?_⟩)
    refine ntsr_ ?_
    refine f_ 1 kr_ rfl rfl ?_
    refine f_ 2 kr_ rfl rfl ?_
    refine f_ 9 kr_ rfl rfl ?_
    refine d_ kr_ rfl mem_ (by rfl) rfl ?_
    refine WL.c rfl (Ent.func Try.call35 rfl) (lent_spec _ a.L.n.key H hk (by omega)) (Sp.p sp_) ?_
    rintro x H9 ⟨lo1, lc1, CK, rfl, hCK, rfl⟩
    refine f_ 2 kr_ rfl rfl ?_
    refine f_ 9 kr_ rfl rfl ?_
    refine WL.s (Hd.store1s (cs' := ltc a.L (.slice lo1 a.L.n.key.length lc1) (.slice eo a.L.n.data.length ec)) kr_ rfl rfl (by rfl) fr_ (by rfl) (by rfl) ⟨rfl, ?_⟩)
    refine ntsr_ ?_
    refine f_ 1 kr_ rfl rfl ?_
    refine f_ 2 kr_ rfl rfl ?_
    refine f_ 10 kr_ rfl rfl ?_
    refine d_ kr_ rfl mem_ (by rfl) rfl ?_
    refine WL.c rfl (Ent.func Try.call35 rfl) (lent_spec _ a.L.n.data H hd (by omega)) (Sp.p sp_) ?_
    rintro x H9 ⟨lo2, lc2, CD, rfl, hCD, rfl⟩
    refine f_ 2 kr_ rfl rfl ?_
    refine f_ 10 kr_ rfl rfl ?_
    refine WL.s (Hd.store1s (cs' := ltc a.L (.slice lo1 a.L.n.key.length lc1) (.slice lo2 a.L.n.data.length lc2)) kr_ rfl rfl (by rfl) fr_ (by rfl) (by rfl) ⟨rfl, ?_⟩)
    refine ntsr_ ?_
    refine m_ rfl rfl ?_
    refine WL.h rfl (Hd.loadAll (n := 13) kr_ rfl mem_ (by rfl) ⟨_, rfl, ?_⟩)
    refine WL.c rfl (Ent.func Try.call10 rfl) (send_tells p W C (CK ++ CD) hW inv a.L _ _ ((lent_of hCK (by omega)).mono gr_) ((lent_of hCD (by omega)).mono gr_) (by omega) (by omega)) (Sp.p sp_) ?_
    rintro x H9 ⟨C2, rfl, hW2, rfl⟩
    refine a_ rfl rfl ?_
    refine ntsr_ ?_
    refine m_ rfl rfl ?_
    refine f_ 1 kr_ rfl rfl ?_
    refine WL.h rfl (Hd.loadA (n := 13) (vs := ltc a.L (.slice ko a.L.n.key.length kc) (.slice eo a.L.n.data.length ec)) kr_ rfl mem_ (by rfl) (by rfl) ⟨_, rfl, ?_⟩)
    refine WL.c rfl (Ent.func Try.call36 rfl) (rwsend_tells q W cu ti H Q hQ inv rel (by omega) a.L _ _ hk hd hmk hmd) (Sp.p sp_) ?_
    rintro x Q2 ⟨rfl, hQ2⟩
    refine a_ rfl rfl ?_
    refine ntsr_ ?_
    refine f_ 2 kr_ rfl rfl ?_
    refine f_ 9 kr_ rfl rfl ?_
    refine d_ kr_ rfl mem_ (by rfl) rfl ?_
    refine f_ 1 kr_ rfl rfl ?_
    refine f_ 2 kr_ rfl rfl ?_
    refine f_ 9 kr_ rfl rfl ?_
    refine d_ kr_ rfl mem_ (by rfl) rfl ?_
    refine WL.r rfl (Ent.func Try.call37 rfl) (whole_reads lo1 lc1 _ a.L.n.key _ (hCK.bs.mono gr_) (hk.mono gr_) (by omega)) ?_
    refine WL.renamed (t := 64) (v := .bool true) rfl (congrArg Value.bool (rfl)) ?_
    refine m_ rfl rfl ?_
    refine gy_ 65 rfl rfl rfl (Yd.fieldAddr (k := 2) kr_ rfl) ?_
    refine gy_ 65 rfl rfl rfl (Yd.fieldAddr (k := 10) kr_ rfl) ?_
    refine WL.gh (dj := 65) rfl rfl rfl (Hd.load1 kr_ rfl mem_ (by rfl) ⟨_, rfl, ?_⟩)
    refine gy_ 65 rfl rfl rfl (Yd.fieldAddr (k := 1) kr_ rfl) ?_
    refine gy_ 65 rfl rfl rfl (Yd.fieldAddr (k := 2) kr_ rfl) ?_
    refine gy_ 65 rfl rfl rfl (Yd.fieldAddr (k := 10) kr_ rfl) ?_
    refine WL.gh (dj := 65) rfl rfl rfl (Hd.load1 kr_ rfl mem_ (by rfl) ⟨_, rfl, ?_⟩)
    refine WL.gr (dj := 65) rfl rfl rfl (Ent.func Try.call37 rfl) (whole_reads lo2 lc2 _ a.L.n.data _ (hCD.bs.mono gr_) (hd.mono gr_) (by omega)) ?_
    refine WL.renamed (t := 73) (v := .bool true) rfl (congrArg Value.bool (rfl)) ?_
    refine WL.y rfl (Yd.pickT rfl rfl) ?_
    refine a_ rfl rfl ?_
    refine ntsr_ ?_
    refine f_ 2 kr_ rfl rfl ?_
    refine f_ 9 kr_ rfl rfl ?_
    refine d_ kr_ rfl mem_ (by rfl) rfl ?_
    refine WL.c rfl (Ent.func Try.call26 rfl) (spoil_tells lo1 lc1 a.L.n.key.length 2 _ CK hCK (by simp) (by omega)) (Sp.p sp_) ?_
    intro x H9 hH9
    subst hH9
    rw [List.nil_append]
    refine ntsr_ ?_
    refine f_ 2 kr_ rfl rfl ?_
    refine f_ 10 kr_ rfl rfl ?_
    refine d_ kr_ rfl mem_ (by rfl) rfl ?_
    refine WL.c rfl (Ent.func Try.call26 rfl) (spoil_tells lo2 lc2 a.L.n.data.length 2 _ CD hCD (by simp) (by omega)) (Sp.p sp_) ?_
    intro x H9 hH9
    subst hH9
    rw [List.nil_append]
    refine ntsr_ ?_
    refine m_ rfl rfl ?_
    refine m_ rfl rfl ?_
    refine WL.y rfl (Yd.eql rfl rfl) ?_
    refine WL.renamed (t := 85) (v := .bool true) rfl (congrArg Value.bool (decide_eq_true rfl)) ?_
    refine m_ rfl rfl ?_
    refine gy_ 86 rfl rfl rfl (Yd.move rfl) ?_
    refine WL.y rfl (Yd.pickT rfl rfl) ?_
    refine a_ rfl rfl ?_
    refine nt_ ?_
    refine WC.ret ?_
    refine DN.block_ret ?_
    refine DN.then_ret ?_
    refine DN.fit (C := C2 ++ (Q2 ++ H)) sp_ ?_
    refine DN.ret1 Try.results22 rfl ?_
    first
    | exact ⟨rfl, _, _, _, C2, Q2, hW2, hQ2, inv.send _, rel.send _, Nat.le_succ _, Nat.le_succ _, rfl⟩
    | exact ⟨rfl, _, _, _, C2, Q2, hW2, hQ2, inv.out _, rel.out _, Nat.le_succ _, Nat.le_succ _, rfl⟩
    | exact ⟨rfl, _, _, _, C2, Q2, hW2, hQ2, inv.copy _, rel.copy _, Nat.le_succ _, Nat.le_succ _, rfl⟩
    | exact ⟨rfl, _, _, _, C2, Q2, hW2, hQ2, inv.late _, rel.late _, Nat.le_succ _, Nat.le_succ _, rfl⟩
    | exact ⟨rfl, _, _, _, C2, Q2, hW2, hQ2, inv.cut' _ _ _, rel.cut' inv _ _ _, cuts_len _ _ _ _ _, Nat.le_succ _, rfl⟩
    | exact ⟨rfl, _, _, _, C2, Q2, hW2, hQ2, inv.tick _, hrt, Nat.le_succ _, htl, rfl⟩
   ·refine WC.seq ?_
    refine sr_ ?_
    refine WL.y rfl (Yd.eql rfl rfl) ?_
    refine a_ rfl rfl ?_
    refine nt_ ?_
    refine WC.ite rfl (fun h89 => ?_) (fun h89 => ?_)
    ·refine WC.skip ?_
     refine DN.then_normal ?_
     refine WC.ite rfl (fun h89 => ?_) (fun h89 => ?_)
     ·refine sr_ ?_
      refine m_ rfl rfl ?_
      refine f_ 14 kr_ rfl rfl ?_
      refine d_ kr_ rfl mem_ (by rfl) rfl ?_
      refine WL.c rfl (Ent.func Try.call13 rfl) (pick_tells p W C hW inv a.at_) (Sp.p sp_) ?_
      rintro x H9 ⟨uk, ud, A6, B6, C2, rfl, hA6, hB6, hW2, rfl⟩
      obtain ⟨uko, ukc, rfl, _⟩ := hA6.form
      obtain ⟨udo, udc, rfl, _⟩ := hB6.form
      refine m_ rfl rfl ?_
      refine x_ rfl rfl rfl ?_
      refine x_ rfl rfl rfl ?_
      refine WL.h rfl (Hd.alloc (zs := [.int .i64 0, .int .i64 0, .int .i64 0, .int .u32 0, .int .u32 0, .int .u64 0, .int .u64 0, .int .u32 0, .int .i64 0, .bool false, .int .i64 0, .slice none 0 0, .slice none 0 0]) kr_ fun b11 => ⟨_, rfl, ?_⟩)
      refine WL.s (Hd.storeAll (n := 13) (vs := ltc (pickL W a.at_) (.slice uko (pickL W a.at_).n.key.length ukc) (.slice udo (pickL W a.at_).n.data.length udc)) kr_ rfl rfl (by rfl) (ltc_one9 rfl rfl) fr_ (by rfl) ⟨rfl, ?_⟩)
      refine a_ rfl rfl ?_
      refine ntsr_ ?_
      refine m_ rfl rfl ?_
      refine f_ 14 kr_ rfl rfl ?_
      refine d_ kr_ rfl mem_ (by rfl) rfl ?_
      refine WL.c rfl (Ent.func Try.call38 rfl) (rwpick_tells q W cu ti H Q hQ inv rel (by omega) a.at_) (Sp.p sp_) ?_
      rintro x Q2 ⟨wk, wd, rfl, hA7, hB7, hQ2⟩
      obtain ⟨vko, vkc, rfl, _⟩ := hA7.form
      obtain ⟨vdo, vdc, rfl, _⟩ := hB7.form
      refine m_ rfl rfl ?_
      refine x_ rfl rfl rfl ?_
      refine x_ rfl rfl rfl ?_
      refine WL.h rfl (Hd.alloc (zs := [.int .i64 0, .int .i64 0, .int .i64 0, .int .u32 0, .int .u32 0, .int .u64 0, .int .u64 0, .int .u32 0, .int .i64 0, .bool false, .int .i64 0, .slice none 0 0, .slice none 0 0]) kr_ fun b13 => ⟨_, rfl, ?_⟩)
      refine WL.s (Hd.storeAll (n := 13) (vs := ltc (pickL W a.at_) (.slice vko (pickL W a.at_).n.key.length vkc) (.slice vdo (pickL W a.at_).n.data.length vdc)) kr_ rfl rfl (by rfl) (ltc_one9 rfl rfl) fr_ (by rfl) ⟨rfl, ?_⟩)
      refine a_ rfl rfl ?_
      refine ntsr_ ?_
      refine WL.h rfl (Hd.loadAll (n := 13) kr_ rfl mem_ (by rfl) ⟨_, rfl, ?_⟩)
      refine WL.h rfl (Hd.loadAll (n := 13) kr_ rfl mem_ (by rfl) ⟨_, rfl, ?_⟩)
      refine WL.rf rfl (Ent.func Try.call25 rfl) (same18_reads (pickL W a.at_) (pickL W a.at_) _ _ _ _ (A6 ++ (B6 ++ H)) (hA6.bs.mono gr_) (hB6.bs.mono gr_) (hA7.mono gr_) (hB7.mono gr_)) sp_ ?_
      refine WL.renamed (t := 108) (v := .bool true) rfl (congrArg Value.bool (sameL_refl _)) ?_
      refine m_ rfl rfl ?_
      refine gy_ 109 rfl rfl rfl (Yd.move rfl) ?_
      refine gy_ 109 rfl rfl rfl (Yd.move rfl) ?_
      refine gy_ 109 rfl rfl rfl (Yd.eqlB Try.underlying4 rfl rfl) ?_
      refine WL.renamed (t := 112) (v := .bool true) rfl (congrArg Value.bool (by simp)) ?_
      refine WL.y rfl (Yd.pickT rfl rfl) ?_
      refine a_ rfl rfl ?_
      refine ntsr_ ?_
      refine f_ 2 kr_ rfl rfl ?_
      refine f_ 10 kr_ rfl rfl ?_
      refine d_ kr_ rfl mem_ (by rfl) rfl ?_
      refine WL.c rfl (Ent.func Try.call26 rfl) (spoil_own udo udc (pickL W a.at_).n.data B6 hB6 (by omega)) (Sp.p sp_) ?_
      intro x H9 hH9
      subst hH9
      rw [List.nil_append]
      refine ntsr_ ?_
      refine m_ rfl rfl ?_
      refine a_ rfl rfl ?_
      refine nt_ ?_
      refine WC.ret ?_
      refine DN.block_ret ?_
      refine DN.then_ret ?_
      refine DN.fit (C := C2 ++ (Q2 ++ H)) sp_ ?_
      refine DN.ret1 Try.results22 rfl ?_
      first
      | exact ⟨rfl, _, _, _, C2, Q2, hW2, hQ2, inv.send _, rel.send _, Nat.le_succ _, Nat.le_succ _, rfl⟩
      | exact ⟨rfl, _, _, _, C2, Q2, hW2, hQ2, inv.out _, rel.out _, Nat.le_succ _, Nat.le_succ _, rfl⟩
      | exact ⟨rfl, _, _, _, C2, Q2, hW2, hQ2, inv.copy _, rel.copy _, Nat.le_succ _, Nat.le_succ _, rfl⟩
      | exact ⟨rfl, _, _, _, C2, Q2, hW2, hQ2, inv.late _, rel.late _, Nat.le_succ _, Nat.le_succ _, rfl⟩
      | exact ⟨rfl, _, _, _, C2, Q2, hW2, hQ2, inv.cut' _ _ _, rel.cut' inv _ _ _, cuts_len _ _ _ _ _, Nat.le_succ _, rfl⟩
      | exact ⟨rfl, _, _, _, C2, Q2, hW2, hQ2, inv.tick _, hrt, Nat.le_succ _, htl, rfl⟩
     ·refine sr_ ?_
      refine WL.y rfl (Yd.eql rfl rfl) ?_
      refine a_ rfl rfl ?_
      refine nt_ ?_
      refine WC.ite rfl (fun h119 => ?_) (fun h119 => ?_)
      ·refine sr_ ?_
       refine m_ rfl rfl ?_
       refine f_ 14 kr_ rfl rfl ?_
       refine d_ kr_ rfl mem_ (by rfl) rfl ?_
       refine WL.c rfl (Ent.func Try.call19 rfl) (lose_tells p W C hW inv a.at_) (Sp.p sp_) ?_
       rintro x C2 ⟨rfl, hW2⟩
       refine a_ rfl rfl ?_
       refine ntsr_ ?_
       refine m_ rfl rfl ?_
       refine f_ 14 kr_ rfl rfl ?_
       refine d_ kr_ rfl mem_ (by rfl) rfl ?_
       refine WL.c rfl (Ent.func Try.call39 rfl) (rlose_tells q W cu ti H Q hQ (by have := inv.few; omega) a.at_) (Sp.p sp_) ?_
       rintro x Q2 ⟨rfl, hQ2⟩
       refine a_ rfl rfl ?_
       refine ntsr_ ?_
       refine m_ rfl rfl ?_
       refine m_ rfl rfl ?_
       refine WL.y rfl (Yd.eqlB Try.underlying4 rfl rfl) ?_
       refine WL.renamed (t := 131) (v := .bool true) rfl (congrArg Value.bool (by simp)) ?_
       refine a_ rfl rfl ?_
       refine nt_ ?_
       refine WC.ret ?_
       refine DN.block_ret ?_
       refine DN.then_ret ?_
       refine DN.fit (C := C2 ++ (Q2 ++ H)) sp_ ?_
       refine DN.ret1 Try.results22 rfl ?_
       first
       | exact ⟨rfl, _, _, _, C2, Q2, hW2, hQ2, inv.send _, rel.send _, Nat.le_succ _, Nat.le_succ _, rfl⟩
       | exact ⟨rfl, _, _, _, C2, Q2, hW2, hQ2, inv.out _, rel.out _, Nat.le_succ _, Nat.le_succ _, rfl⟩
       | exact ⟨rfl, _, _, _, C2, Q2, hW2, hQ2, inv.copy _, rel.copy _, Nat.le_succ _, Nat.le_succ _, rfl⟩
       | exact ⟨rfl, _, _, _, C2, Q2, hW2, hQ2, inv.late _, rel.late _, Nat.le_succ _, Nat.le_succ _, rfl⟩
       | exact ⟨rfl, _, _, _, C2, Q2, hW2, hQ2, inv.cut' _ _ _, rel.cut' inv _ _ _, cuts_len _ _ _ _ _, Nat.le_succ _, rfl⟩
       | exact ⟨rfl, _, _, _, C2, Q2, hW2, hQ2, inv.tick _, hrt, Nat.le_succ _, htl, rfl⟩
      ·refine sr_ ?_
       refine WL.y rfl (Yd.eql rfl rfl) ?_
       refine a_ rfl rfl ?_
       refine nt_ ?_
       refine WC.ite rfl (fun h132 => ?_) (fun h132 => ?_)
       ·refine sr_ ?_
        refine m_ rfl rfl ?_
        refine f_ 14 kr_ rfl rfl ?_
        refine d_ kr_ rfl mem_ (by rfl) rfl ?_
        refine WL.c rfl (Ent.func Try.call20 rfl) (copy_tells p W C hW inv a.at_) (Sp.p sp_) ?_
        rintro x C2 ⟨rfl, hW2⟩
        refine a_ rfl rfl ?_
        refine ntsr_ ?_
        refine m_ rfl rfl ?_
        refine f_ 14 kr_ rfl rfl ?_
        refine d_ kr_ rfl mem_ (by rfl) rfl ?_
        refine WL.c rfl (Ent.func Try.call40 rfl) (rwcopy_tells q W cu ti H Q hQ inv a.at_) (Sp.p sp_) ?_
        rintro x Q2 ⟨rfl, hQ2⟩
        refine a_ rfl rfl ?_
        refine ntsr_ ?_
        refine m_ rfl rfl ?_
        refine m_ rfl rfl ?_
        refine WL.y rfl (Yd.eqlB Try.underlying4 rfl rfl) ?_
        refine WL.renamed (t := 144) (v := .bool true) rfl (congrArg Value.bool (by simp)) ?_
        refine a_ rfl rfl ?_
        refine nt_ ?_
        refine WC.ret ?_
        refine DN.block_ret ?_
        refine DN.then_ret ?_
        refine DN.fit (C := C2 ++ (Q2 ++ H)) sp_ ?_
        refine DN.ret1 Try.results22 rfl ?_
        first
        | exact ⟨rfl, _, _, _, C2, Q2, hW2, hQ2, inv.send _, rel.send _, Nat.le_succ _, Nat.le_succ _, rfl⟩
        | exact ⟨rfl, _, _, _, C2, Q2, hW2, hQ2, inv.out _, rel.out _, Nat.le_succ _, Nat.le_succ _, rfl⟩
        | exact ⟨rfl, _, _, _, C2, Q2, hW2, hQ2, inv.copy _, rel.copy _, Nat.le_succ _, Nat.le_succ _, rfl⟩
        | exact ⟨rfl, _, _, _, C2, Q2, hW2, hQ2, inv.late _, rel.late _, Nat.le_succ _, Nat.le_succ _, rfl⟩
        | exact ⟨rfl, _, _, _, C2, Q2, hW2, hQ2, inv.cut' _ _ _, rel.cut' inv _ _ _, cuts_len _ _ _ _ _, Nat.le_succ _, rfl⟩
        | exact ⟨rfl, _, _, _, C2, Q2, hW2, hQ2, inv.tick _, hrt, Nat.le_succ _, htl, rfl⟩
       ·refine sr_ ?_
        refine WL.y rfl (Yd.eql rfl rfl) ?_
        refine a_ rfl rfl ?_
        refine nt_ ?_
        refine WC.ite rfl (fun h145 => ?_) (fun h145 => ?_)
        ·refine sr_ ?_
         refine m_ rfl rfl ?_
         refine f_ 14 kr_ rfl rfl ?_
         refine d_ kr_ rfl mem_ (by rfl) rfl ?_
         refine WL.c rfl (Ent.func Try.call12 rfl) (late_tells p W C hW inv a.at_) (Sp.p sp_) ?_
         rintro x C2 ⟨rfl, hW2⟩
         refine a_ rfl rfl ?_
         refine ntsr_ ?_
         refine m_ rfl rfl ?_
         refine f_ 14 kr_ rfl rfl ?_
         refine d_ kr_ rfl mem_ (by rfl) rfl ?_
         refine WL.c rfl (Ent.func Try.call41 rfl) (rwlate_tells q W cu ti H Q hQ inv a.at_) (Sp.p sp_) ?_
         rintro x Q2 ⟨rfl, hQ2⟩
         refine a_ rfl rfl ?_
         refine ntsr_ ?_
         refine m_ rfl rfl ?_
         refine m_ rfl rfl ?_
         refine WL.y rfl (Yd.eqlB Try.underlying4 rfl rfl) ?_
         refine WL.renamed (t := 157) (v := .bool true) rfl (congrArg Value.bool (by simp)) ?_
         refine a_ rfl rfl ?_
         refine nt_ ?_
         refine WC.ret ?_
         refine DN.block_ret ?_
         refine DN.then_ret ?_
         refine DN.fit (C := C2 ++ (Q2 ++ H)) sp_ ?_
         refine DN.ret1 Try.results22 rfl ?_
         first
         | exact ⟨rfl, _, _, _, C2, Q2, hW2, hQ2, inv.send _, rel.send _, Nat.le_succ _, Nat.le_succ _, rfl⟩
         | exact ⟨rfl, _, _, _, C2, Q2, hW2, hQ2, inv.out _, rel.out _, Nat.le_succ _, Nat.le_succ _, rfl⟩
         | exact ⟨rfl, _, _, _, C2, Q2, hW2, hQ2, inv.copy _, rel.copy _, Nat.le_succ _, Nat.le_succ _, rfl⟩
         | exact ⟨rfl, _, _, _, C2, Q2, hW2, hQ2, inv.late _, rel.late _, Nat.le_succ _, Nat.le_succ _, rfl⟩
         | exact ⟨rfl, _, _, _, C2, Q2, hW2, hQ2, inv.cut' _ _ _, rel.cut' inv _ _ _, cuts_len _ _ _ _ _, Nat.le_succ _, rfl⟩
         | exact ⟨rfl, _, _, _, C2, Q2, hW2, hQ2, inv.tick _, hrt, Nat.le_succ _, htl, rfl⟩
        ·refine sr_ ?_
         refine WL.y rfl (Yd.eql rfl rfl) ?_
         refine a_ rfl rfl ?_
         refine nt_ ?_
         refine WC.ite rfl (fun h158 => ?_) (fun h158 => ?_)
         ·refine sr_ ?_
          refine m_ rfl rfl ?_
          refine f_ 14 kr_ rfl rfl ?_
          refine d_ kr_ rfl mem_ (by rfl) rfl ?_
          refine f_ 15 kr_ rfl rfl ?_
          refine d_ kr_ rfl mem_ (by rfl) rfl ?_
          refine f_ 16 kr_ rfl rfl ?_
          refine d_ kr_ rfl mem_ (by rfl) rfl ?_
          refine WL.c rfl (Ent.func Try.call16 rfl) (cut_tells p W C hW inv a.at_ a.to a.on) (Sp.p sp_) ?_
          rintro x C2 ⟨rfl, hW2⟩
          refine a_ rfl rfl ?_
          refine ntsr_ ?_
          refine m_ rfl rfl ?_
          refine f_ 14 kr_ rfl rfl ?_
          refine d_ kr_ rfl mem_ (by rfl) rfl ?_
          refine f_ 15 kr_ rfl rfl ?_
          refine d_ kr_ rfl mem_ (by rfl) rfl ?_
          refine f_ 16 kr_ rfl rfl ?_
          refine d_ kr_ rfl mem_ (by rfl) rfl ?_
          refine WL.c rfl (Ent.func Try.call42 rfl) (rwcut_tells q W cu ti H Q hQ inv (by omega) a.at_ a.to a.on) (Sp.p sp_) ?_
          rintro x Q2 ⟨rfl, hQ2⟩
          refine a_ rfl rfl ?_
          refine ntsr_ ?_
          refine m_ rfl rfl ?_
          refine m_ rfl rfl ?_
          refine WL.y rfl (Yd.eql rfl rfl) ?_
          refine WL.renamed (t := 178) (v := .bool true) rfl (congrArg Value.bool (decide_eq_true rfl)) ?_
          refine a_ rfl rfl ?_
          refine nt_ ?_
          refine WC.ret ?_
          refine DN.block_ret ?_
          refine DN.then_ret ?_
          refine DN.fit (C := C2 ++ (Q2 ++ H)) sp_ ?_
          refine DN.ret1 Try.results22 rfl ?_
          first
          | exact ⟨rfl, _, _, _, C2, Q2, hW2, hQ2, inv.send _, rel.send _, Nat.le_succ _, Nat.le_succ _, rfl⟩
          | exact ⟨rfl, _, _, _, C2, Q2, hW2, hQ2, inv.out _, rel.out _, Nat.le_succ _, Nat.le_succ _, rfl⟩
          | exact ⟨rfl, _, _, _, C2, Q2, hW2, hQ2, inv.copy _, rel.copy _, Nat.le_succ _, Nat.le_succ _, rfl⟩
          | exact ⟨rfl, _, _, _, C2, Q2, hW2, hQ2, inv.late _, rel.late _, Nat.le_succ _, Nat.le_succ _, rfl⟩
          | exact ⟨rfl, _, _, _, C2, Q2, hW2, hQ2, inv.cut' _ _ _, rel.cut' inv _ _ _, cuts_len _ _ _ _ _, Nat.le_succ _, rfl⟩
          | exact ⟨rfl, _, _, _, C2, Q2, hW2, hQ2, inv.tick _, hrt, Nat.le_succ _, htl, rfl⟩
         ·refine WC.skip ?_
          refine DN.block_normal ?_
          refine ts_ ?_
          refine WC.region ?_
          refine m_ rfl rfl ?_
          refine f_ 14 kr_ rfl rfl ?_
          refine d_ kr_ rfl mem_ (by rfl) rfl ?_
          refine WL.c rfl (Ent.func Try.call27 rfl) (tick_tells p W C hW inv a.at_) (Sp.p sp_) ?_
          rintro x C2 ⟨rfl, hW2⟩
          refine m_ rfl rfl ?_
          refine x_ rfl rfl rfl ?_
          refine x_ rfl rfl rfl ?_
          refine a_ rfl rfl ?_
          refine a_ rfl rfl ?_
          refine ntsr_ ?_
          refine m_ rfl rfl ?_
          refine f_ 14 kr_ rfl rfl ?_
          refine d_ kr_ rfl mem_ (by rfl) rfl ?_
          refine WL.c rfl (Ent.func Try.call43 rfl) (rwtick_tells q W cu ti H Q hQ inv rel (by omega) (by omega) a.at_) (Sp.p sp_) ?_
          rintro x Q2 ⟨rfl, hQ2⟩
          have hrt := rel.tick inv a.at_
          have htl := ticks_len W ti a.at_
          refine m_ rfl rfl ?_
          refine x_ rfl rfl rfl ?_
          refine x_ rfl rfl rfl ?_
          refine a_ rfl rfl ?_
          refine a_ rfl rfl ?_
          refine nt_ ?_
          refine WC.seq ?_
          refine WC.draw 20 kr_ rfl ?_
          refine WA.float (N := 20) rfl ?_
          refine WAF.add (i := 0) (d := 193) rfl (QF.mk [] [] rfl rfl kr_ rfl (QAt.y Wt.none (Yd.move rfl))) ?_
          refine WAF.add (i := 1) (d := 194) rfl (QF.mk [] [] rfl rfl kr_ rfl (QAt.y Wt.none (Yd.move rfl))) ?_
          refine WAF.add (i := 2) (d := 195) rfl (QF.mk [1, 0] [(194, _), (193, _)] rfl rfl kr_ rfl (QAt.y Wt.none (Yd.eql64 _ _ rfl rfl rfl rfl))) ?_
          refine WAF.ren (v := .bool true) (congrArg Value.bool (decide_eq_true rfl)) ?_
          refine WAF.add (i := 3) (d := 196) rfl (QF.mk [2] [(195, _)] rfl rfl kr_ rfl (QAt.y Wt.none (Yd.move rfl))) ?_
          refine WAF.add (i := 4) (d := 197) rfl (QF.mk [3] [(196, _)] rfl rfl kr_ rfl (QAt.y (Wt.yes (dj := 196) rfl rfl) (Yd.move rfl))) ?_
          refine WAF.add (i := 5) (d := 198) rfl (QF.mk [3] [(196, _)] rfl rfl kr_ rfl (QAt.y (Wt.yes (dj := 196) rfl rfl) (Yd.move rfl))) ?_
          refine WAF.add (i := 6) (d := 199) rfl (QF.mk [5, 4, 3] [(198, _), (197, _), (196, _)] rfl rfl kr_ rfl (QAt.y (Wt.yes (dj := 196) rfl rfl) (Yd.eql rfl rfl))) ?_
          refine WAF.ren (v := .bool true) (congrArg Value.bool (decide_eq_true rfl)) ?_
          refine WAF.add (i := 7) (d := 200) rfl (QF.mk [6, 3] [(199, _), (196, _)] rfl rfl kr_ rfl (QAt.y Wt.none (Yd.pickT rfl rfl))) ?_
          refine WAF.add (i := 8) (d := 201) rfl (QF.mk [7, 3] [(200, _), (196, _)] rfl rfl kr_ rfl (QAt.y Wt.none (Yd.move rfl))) ?_
          refine WAF.add (i := 9) (d := 202) rfl (QF.mk [8] [(201, _)] rfl rfl kr_ rfl (QAt.y (Wt.yes (dj := 201) rfl rfl) (Yd.move rfl))) ?_
          refine WAF.add (i := 10) (d := 203) rfl (QF.mk [8] [(201, _)] rfl rfl kr_ rfl (QAt.y (Wt.yes (dj := 201) rfl rfl) (Yd.fieldAddr (k := 14) kr_ rfl))) ?_
          refine WAF.add (i := 11) (d := 204) rfl (QF.mk [10, 8] [(203, _), (201, _)] rfl rfl kr_ rfl (QAt.rd (Wt.yes (dj := 201) rfl rfl) (Rd.load1 kr_ rfl mem_ (by rfl)))) ?_
          refine WAF.add (i := 12) (d := 205) rfl (QF.mk [11, 9, 8] [(204, _), (202, _), (201, _)] rfl rfl kr_ rfl (QAt.rf (Wt.yes (dj := 201) rfl rfl) (Ent.func Try.call28 rfl) (clock_reads p (tickW W a.at_) C2 hW2 (inv.tick a.at_) a.at_) sp_)) ?_
          refine WAF.add (i := 13) (d := 206) rfl (QF.mk [8] [(201, _)] rfl rfl kr_ rfl (QAt.y (Wt.yes (dj := 201) rfl rfl) (Yd.move rfl))) ?_
          refine WAF.add (i := 14) (d := 207) rfl (QF.mk [8] [(201, _)] rfl rfl kr_ rfl (QAt.y (Wt.yes (dj := 201) rfl rfl) (Yd.fieldAddr (k := 14) kr_ rfl))) ?_
          refine WAF.add (i := 15) (d := 208) rfl (QF.mk [14, 8] [(207, _), (201, _)] rfl rfl kr_ rfl (QAt.rd (Wt.yes (dj := 201) rfl rfl) (Rd.load1 kr_ rfl mem_ (by rfl)))) ?_
          refine WAF.add (i := 16) (d := 209) rfl (QF.mk [15, 13, 12, 8] [(208, _), (206, _), (205, _), (201, _)] rfl rfl kr_ rfl (QAt.rf (Wt.yes (dj := 201) rfl rfl) (Ent.func Try.call44 rfl) (rwclock_reads q (tickW W a.at_) cu (ticksC W ti a.at_) H Q2 hQ2 (inv.tick a.at_) hrt (by omega) (by omega) a.at_) sp_)) ?_
          refine WAF.add (i := 17) (d := 210) rfl (QF.mk [16, 12, 8] [(209, _), (205, _), (201, _)] rfl rfl kr_ rfl (QAt.y (Wt.yes (dj := 201) rfl rfl) (Yd.eql64 _ _ rfl rfl rfl rfl))) ?_
          refine WAF.ren (v := .bool true) (congrArg Value.bool (decide_eq_true rfl)) ?_
          refine WAF.add (i := 18) (d := 211) rfl (QF.mk [17, 8] [(210, _), (201, _)] rfl rfl kr_ rfl (QAt.y Wt.none (Yd.pickT rfl rfl))) ?_
          refine WAF.step (pd := [(18, 211), (17, 210), (16, 209), (15, 208), (14, 207), (13, 206), (12, 205), (11, 204), (10, 203), (9, 202), (8, 201), (7, 200), (6, 199), (5, 198), (4, 197), (3, 196), (2, 195), (1, 194), (0, 193)]) [(19, [18, 17, 16, 15, 14, 13, 12, 11, 10, 9, 8, 7, 6, 5, 4, 3, 2, 1, 0])] rfl kr_ kr_ (all_c rfl (all_c rfl (all_c rfl (all_c rfl (all_c rfl (all_c rfl (all_c rfl (all_c rfl (all_c rfl (all_c rfl (all_c rfl (all_c rfl (all_c rfl (all_c rfl (all_c rfl (all_c rfl (all_c rfl (all_c rfl (all_c rfl (all_n)))))))))))))))))))) (all_c (QF.mk [17, 8] [(210, _), (201, _)] rfl rfl kr_ rfl (QAt.y Wt.none (Yd.pickT rfl rfl))) (all_c (QF.ren (congrArg Value.bool (decide_eq_true rfl)) (QF.mk [16, 12, 8] [(209, _), (205, _), (201, _)] rfl rfl kr_ rfl (QAt.y (Wt.yes (dj := 201) rfl rfl) (Yd.eql64 _ _ rfl rfl rfl rfl)))) (all_c (QF.mk [15, 13, 12, 8] [(208, _), (206, _), (205, _), (201, _)] rfl rfl kr_ rfl (QAt.rf (Wt.yes (dj := 201) rfl rfl) (Ent.func Try.call44 rfl) (rwclock_reads q (tickW W a.at_) cu (ticksC W ti a.at_) H Q2 hQ2 (inv.tick a.at_) hrt (by omega) (by omega) a.at_) sp_)) (all_c (QF.mk [14, 8] [(207, _), (201, _)] rfl rfl kr_ rfl (QAt.rd (Wt.yes (dj := 201) rfl rfl) (Rd.load1 kr_ rfl mem_ (by rfl)))) (all_c (QF.mk [8] [(201, _)] rfl rfl kr_ rfl (QAt.y (Wt.yes (dj := 201) rfl rfl) (Yd.fieldAddr (k := 14) kr_ rfl))) (all_c (QF.mk [8] [(201, _)] rfl rfl kr_ rfl (QAt.y (Wt.yes (dj := 201) rfl rfl) (Yd.move rfl))) (all_c (QF.mk [11, 9, 8] [(204, _), (202, _), (201, _)] rfl rfl kr_ rfl (QAt.rf (Wt.yes (dj := 201) rfl rfl) (Ent.func Try.call28 rfl) (clock_reads p (tickW W a.at_) C2 hW2 (inv.tick a.at_) a.at_) sp_)) (all_c (QF.mk [10, 8] [(203, _), (201, _)] rfl rfl kr_ rfl (QAt.rd (Wt.yes (dj := 201) rfl rfl) (Rd.load1 kr_ rfl mem_ (by rfl)))) (all_c (QF.mk [8] [(201, _)] rfl rfl kr_ rfl (QAt.y (Wt.yes (dj := 201) rfl rfl) (Yd.fieldAddr (k := 14) kr_ rfl))) (all_c (QF.mk [8] [(201, _)] rfl rfl kr_ rfl (QAt.y (Wt.yes (dj := 201) rfl rfl) (Yd.move rfl))) (all_c (QF.mk [7, 3] [(200, _), (196, _)] rfl rfl kr_ rfl (QAt.y Wt.none (Yd.move rfl))) (all_c (QF.mk [6, 3] [(199, _), (196, _)] rfl rfl kr_ rfl (QAt.y Wt.none (Yd.pickT rfl rfl))) (all_c (QF.ren (congrArg Value.bool (decide_eq_true rfl)) (QF.mk [5, 4, 3] [(198, _), (197, _), (196, _)] rfl rfl kr_ rfl (QAt.y (Wt.yes (dj := 196) rfl rfl) (Yd.eql rfl rfl)))) (all_c (QF.mk [3] [(196, _)] rfl rfl kr_ rfl (QAt.y (Wt.yes (dj := 196) rfl rfl) (Yd.move rfl))) (all_c (QF.mk [3] [(196, _)] rfl rfl kr_ rfl (QAt.y (Wt.yes (dj := 196) rfl rfl) (Yd.move rfl))) (all_c (QF.mk [2] [(195, _)] rfl rfl kr_ rfl (QAt.y Wt.none (Yd.move rfl))) (all_c (QF.ren (congrArg Value.bool (decide_eq_true rfl)) (QF.mk [1, 0] [(194, _), (193, _)] rfl rfl kr_ rfl (QAt.y Wt.none (Yd.eql64 _ _ rfl rfl rfl rfl)))) (all_c (QF.mk [] [] rfl rfl kr_ rfl (QAt.y Wt.none (Yd.move rfl))) (all_c (QF.mk [] [] rfl rfl kr_ rfl (QAt.y Wt.none (Yd.move rfl))) (all_n)))))))))))))))))))) (all_c ?_ (all_n))
          ·change SO _ _ _ _ _ _ 19 ([(211, _), (210, _), (209, _), (208, _), (207, _), (206, _), (205, _), (204, _), (203, _), (202, _), (201, _), (200, _), (199, _), (198, _), (197, _), (196, _), (195, _), (194, _), (193, _)] ++ _) _ _
           refine SO.y rfl Wt.none rfl (Yd.assign rfl) ?_
           change WAF _ _ _ _ _ _ [] _ [19, 18, 17, 16, 15, 14, 13, 12, 11, 10, 9, 8, 7, 6, 5, 4, 3, 2, 1, 0] ((6, _) :: ([(211, _), (210, _), (209, _), (208, _), (207, _), (206, _), (205, _), (204, _), (203, _), (202, _), (201, _), (200, _), (199, _), (198, _), (197, _), (196, _), (195, _), (194, _), (193, _)] ++ _)) _
           refine WAF.done (pd := []) rfl kr_ kr_ (all_n) (all_n) ?_
           change DN _ _ _ _ _ _ ([] ++ _) _
           refine DN.then_normal ?_
           refine WC.ret ?_
           refine DN.fit (C := C2 ++ (Q2 ++ H)) sp_ ?_
           refine DN.ret1 Try.results22 rfl ?_
           first
           | exact ⟨rfl, _, _, _, C2, Q2, hW2, hQ2, inv.send _, rel.send _, Nat.le_succ _, Nat.le_succ _, rfl⟩
           | exact ⟨rfl, _, _, _, C2, Q2, hW2, hQ2, inv.out _, rel.out _, Nat.le_succ _, Nat.le_succ _, rfl⟩
           | exact ⟨rfl, _, _, _, C2, Q2, hW2, hQ2, inv.copy _, rel.copy _, Nat.le_succ _, Nat.le_succ _, rfl⟩
           | exact ⟨rfl, _, _, _, C2, Q2, hW2, hQ2, inv.late _, rel.late _, Nat.le_succ _, Nat.le_succ _, rfl⟩
           | exact ⟨rfl, _, _, _, C2, Q2, hW2, hQ2, inv.cut' _ _ _, rel.cut' inv _ _ _, cuts_len _ _ _ _ _, Nat.le_succ _, rfl⟩
           | exact ⟨rfl, _, _, _, C2, Q2, hW2, hQ2, inv.tick _, hrt, Nat.le_succ _, htl, rfl⟩
    ·refine WC.region ?_
     refine WL.y rfl (Yd.eql rfl rfl) ?_
     refine a_ rfl rfl ?_
     refine nt_ ?_
     refine WC.ite rfl (fun h89 => ?_) (fun h89 => ?_)
     ·refine sr_ ?_
      refine m_ rfl rfl ?_
      refine f_ 14 kr_ rfl rfl ?_
      refine d_ kr_ rfl mem_ (by rfl) rfl ?_
      refine WL.c rfl (Ent.func Try.call13 rfl) (pick_tells p W C hW inv a.at_) (Sp.p sp_) ?_
      rintro x H9 ⟨uk, ud, A6, B6, C2, rfl, hA6, hB6, hW2, rfl⟩
      obtain ⟨uko, ukc, rfl, _⟩ := hA6.form
      obtain ⟨udo, udc, rfl, _⟩ := hB6.form
      refine m_ rfl rfl ?_
      refine x_ rfl rfl rfl ?_
      refine x_ rfl rfl rfl ?_
      refine WL.h rfl (Hd.alloc (zs := [.int .i64 0, .int .i64 0, .int .i64 0, .int .u32 0, .int .u32 0, .int .u64 0, .int .u64 0, .int .u32 0, .int .i64 0, .bool false, .int .i64 0, .slice none 0 0, .slice none 0 0]) kr_ fun b11 => ⟨_, rfl, ?_⟩)
      refine WL.s (Hd.storeAll (n := 13) (vs := ltc (pickL W a.at_) (.slice uko (pickL W a.at_).n.key.length ukc) (.slice udo (pickL W a.at_).n.data.length udc)) kr_ rfl rfl (by rfl) (ltc_one9 rfl rfl) fr_ (by rfl) ⟨rfl, ?_⟩)
      refine a_ rfl rfl ?_
      refine ntsr_ ?_
      refine m_ rfl rfl ?_
      refine f_ 14 kr_ rfl rfl ?_
      refine d_ kr_ rfl mem_ (by rfl) rfl ?_
      refine WL.c rfl (Ent.func Try.call38 rfl) (rwpick_tells q W cu ti H Q hQ inv rel (by omega) a.at_) (Sp.p sp_) ?_
      rintro x Q2 ⟨wk, wd, rfl, hA7, hB7, hQ2⟩
      obtain ⟨vko, vkc, rfl, _⟩ := hA7.form
      obtain ⟨vdo, vdc, rfl, _⟩ := hB7.form
      refine m_ rfl rfl ?_
      refine x_ rfl rfl rfl ?_
      refine x_ rfl rfl rfl ?_
      refine WL.h rfl (Hd.alloc (zs := [.int .i64 0, .int .i64 0, .int .i64 0, .int .u32 0, .int .u32 0, .int .u64 0, .int .u64 0, .int .u32 0, .int .i64 0, .bool false, .int .i64 0, .slice none 0 0, .slice none 0 0]) kr_ fun b13 => ⟨_, rfl, ?_⟩)
      refine WL.s (Hd.storeAll (n := 13) (vs := ltc (pickL W a.at_) (.slice vko (pickL W a.at_).n.key.length vkc) (.slice vdo (pickL W a.at_).n.data.length vdc)) kr_ rfl rfl (by rfl) (ltc_one9 rfl rfl) fr_ (by rfl) ⟨rfl, ?_⟩)
      refine a_ rfl rfl ?_
      refine ntsr_ ?_
      refine WL.h rfl (Hd.loadAll (n := 13) kr_ rfl mem_ (by rfl) ⟨_, rfl, ?_⟩)
      refine WL.h rfl (Hd.loadAll (n := 13) kr_ rfl mem_ (by rfl) ⟨_, rfl, ?_⟩)
      refine WL.rf rfl (Ent.func Try.call25 rfl) (same18_reads (pickL W a.at_) (pickL W a.at_) _ _ _ _ (A6 ++ (B6 ++ H)) (hA6.bs.mono gr_) (hB6.bs.mono gr_) (hA7.mono gr_) (hB7.mono gr_)) sp_ ?_
      refine WL.renamed (t := 108) (v := .bool true) rfl (congrArg Value.bool (sameL_refl _)) ?_
      refine m_ rfl rfl ?_
      refine gy_ 109 rfl rfl rfl (Yd.move rfl) ?_
      refine gy_ 109 rfl rfl rfl (Yd.move rfl) ?_
      refine gy_ 109 rfl rfl rfl (Yd.eqlB Try.underlying4 rfl rfl) ?_
      refine WL.renamed (t := 112) (v := .bool true) rfl (congrArg Value.bool (by simp)) ?_
      refine WL.y rfl (Yd.pickT rfl rfl) ?_
      refine a_ rfl rfl ?_
      refine ntsr_ ?_
      refine f_ 2 kr_ rfl rfl ?_
      refine f_ 10 kr_ rfl rfl ?_
      refine d_ kr_ rfl mem_ (by rfl) rfl ?_
      refine WL.c rfl (Ent.func Try.call26 rfl) (spoil_own udo udc (pickL W a.at_).n.data B6 hB6 (by omega)) (Sp.p sp_) ?_
      intro x H9 hH9
      subst hH9
      rw [List.nil_append]
      refine ntsr_ ?_
      refine m_ rfl rfl ?_
      refine a_ rfl rfl ?_
      refine nt_ ?_
      refine WC.ret ?_
      refine DN.block_ret ?_
      refine DN.then_ret ?_
      refine DN.fit (C := C2 ++ (Q2 ++ H)) sp_ ?_
      refine DN.ret1 Try.results22 rfl ?_
      first
      | exact ⟨rfl, _, _, _, C2, Q2, hW2, hQ2, inv.send _, rel.send _, Nat.le_succ _, Nat.le_succ _, rfl⟩
      | exact ⟨rfl, _, _, _, C2, Q2, hW2, hQ2, inv.out _, rel.out _, Nat.le_succ _, Nat.le_succ _, rfl⟩
      | exact ⟨rfl, _, _, _, C2, Q2, hW2, hQ2, inv.copy _, rel.copy _, Nat.le_succ _, Nat.le_succ _, rfl⟩
      | exact ⟨rfl, _, _, _, C2, Q2, hW2, hQ2, inv.late _, rel.late _, Nat.le_succ _, Nat.le_succ _, rfl⟩
      | exact ⟨rfl, _, _, _, C2, Q2, hW2, hQ2, inv.cut' _ _ _, rel.cut' inv _ _ _, cuts_len _ _ _ _ _, Nat.le_succ _, rfl⟩
      | exact ⟨rfl, _, _, _, C2, Q2, hW2, hQ2, inv.tick _, hrt, Nat.le_succ _, htl, rfl⟩
     ·refine sr_ ?_
      refine WL.y rfl (Yd.eql rfl rfl) ?_
      refine a_ rfl rfl ?_
      refine nt_ ?_
      refine WC.ite rfl (fun h119 => ?_) (fun h119 => ?_)
      ·refine sr_ ?_
       refine m_ rfl rfl ?_
       refine f_ 14 kr_ rfl rfl ?_
       refine d_ kr_ rfl mem_ (by rfl) rfl ?_
       refine WL.c rfl (Ent.func Try.call19 rfl) (lose_tells p W C hW inv a.at_) (Sp.p sp_) ?_
       rintro x C2 ⟨rfl, hW2⟩
       refine a_ rfl rfl ?_
       refine ntsr_ ?_
       refine m_ rfl rfl ?_
       refine f_ 14 kr_ rfl rfl ?_
       refine d_ kr_ rfl mem_ (by rfl) rfl ?_
       refine WL.c rfl (Ent.func Try.call39 rfl) (rlose_tells q W cu ti H Q hQ (by have := inv.few; omega) a.at_) (Sp.p sp_) ?_
       rintro x Q2 ⟨rfl, hQ2⟩
       refine a_ rfl rfl ?_
       refine ntsr_ ?_
       refine m_ rfl rfl ?_
       refine m_ rfl rfl ?_
       refine WL.y rfl (Yd.eqlB Try.underlying4 rfl rfl) ?_
       refine WL.renamed (t := 131) (v := .bool true) rfl (congrArg Value.bool (by simp)) ?_
       refine a_ rfl rfl ?_
       refine nt_ ?_
       refine WC.ret ?_
       refine DN.block_ret ?_
       refine DN.then_ret ?_
       refine DN.fit (C := C2 ++ (Q2 ++ H)) sp_ ?_
       refine DN.ret1 Try.results22 rfl ?_
       first
       | exact ⟨rfl, _, _, _, C2, Q2, hW2, hQ2, inv.send _, rel.send _, Nat.le_succ _, Nat.le_succ _, rfl⟩
       | exact ⟨rfl, _, _, _, C2, Q2, hW2, hQ2, inv.out _, rel.out _, Nat.le_succ _, Nat.le_succ _, rfl⟩
       | exact ⟨rfl, _, _, _, C2, Q2, hW2, hQ2, inv.copy _, rel.copy _, Nat.le_succ _, Nat.le_succ _, rfl⟩
       | exact ⟨rfl, _, _, _, C2, Q2, hW2, hQ2, inv.late _, rel.late _, Nat.le_succ _, Nat.le_succ _, rfl⟩
       | exact ⟨rfl, _, _, _, C2, Q2, hW2, hQ2, inv.cut' _ _ _, rel.cut' inv _ _ _, cuts_len _ _ _ _ _, Nat.le_succ _, rfl⟩
       | exact ⟨rfl, _, _, _, C2, Q2, hW2, hQ2, inv.tick _, hrt, Nat.le_succ _, htl, rfl⟩
      ·refine sr_ ?_
       refine WL.y rfl (Yd.eql rfl rfl) ?_
       refine a_ rfl rfl ?_
       refine nt_ ?_
       refine WC.ite rfl (fun h132 => ?_) (fun h132 => ?_)
       ·refine sr_ ?_
        refine m_ rfl rfl ?_
        refine f_ 14 kr_ rfl rfl ?_
        refine d_ kr_ rfl mem_ (by rfl) rfl ?_
        refine WL.c rfl (Ent.func Try.call20 rfl) (copy_tells p W C hW inv a.at_) (Sp.p sp_) ?_
        rintro x C2 ⟨rfl, hW2⟩
        refine a_ rfl rfl ?_
        refine ntsr_ ?_
        refine m_ rfl rfl ?_
        refine f_ 14 kr_ rfl rfl ?_
        refine d_ kr_ rfl mem_ (by rfl) rfl ?_
        refine WL.c rfl (Ent.func Try.call40 rfl) (rwcopy_tells q W cu ti H Q hQ inv a.at_) (Sp.p sp_) ?_
        rintro x Q2 ⟨rfl, hQ2⟩
        refine a_ rfl rfl ?_
        refine ntsr_ ?_
        refine m_ rfl rfl ?_
        refine m_ rfl rfl ?_
        refine WL.y rfl (Yd.eqlB Try.underlying4 rfl rfl) ?_
        refine WL.renamed (t := 144) (v := .bool true) rfl (congrArg Value.bool (by simp)) ?_
        refine a_ rfl rfl ?_
        refine nt_ ?_
        refine WC.ret ?_
        refine DN.block_ret ?_
        refine DN.then_ret ?_
        refine DN.fit (C := C2 ++ (Q2 ++ H)) sp_ ?_
        refine DN.ret1 Try.results22 rfl ?_
        first
        | exact ⟨rfl, _, _, _, C2, Q2, hW2, hQ2, inv.send _, rel.send _, Nat.le_succ _, Nat.le_succ _, rfl⟩
        | exact ⟨rfl, _, _, _, C2, Q2, hW2, hQ2, inv.out _, rel.out _, Nat.le_succ _, Nat.le_succ _, rfl⟩
        | exact ⟨rfl, _, _, _, C2, Q2, hW2, hQ2, inv.copy _, rel.copy _, Nat.le_succ _, Nat.le_succ _, rfl⟩
        | exact ⟨rfl, _, _, _, C2, Q2, hW2, hQ2, inv.late _, rel.late _, Nat.le_succ _, Nat.le_succ _, rfl⟩
        | exact ⟨rfl, _, _, _, C2, Q2, hW2, hQ2, inv.cut' _ _ _, rel.cut' inv _ _ _, cuts_len _ _ _ _ _, Nat.le_succ _, rfl⟩
        | exact ⟨rfl, _, _, _, C2, Q2, hW2, hQ2, inv.tick _, hrt, Nat.le_succ _, htl, rfl⟩
       ·refine sr_ ?_
        refine WL.y rfl (Yd.eql rfl rfl) ?_
        refine a_ rfl rfl ?_
        refine nt_ ?_
        refine WC.ite rfl (fun h145 => ?_) (fun h145 => ?_)
        ·refine sr_ ?_
         refine m_ rfl rfl ?_
         refine f_ 14 kr_ rfl rfl ?_
         refine d_ kr_ rfl mem_ (by rfl) rfl ?_
         refine WL.c rfl (Ent.func Try.call12 rfl) (late_tells p W C hW inv a.at_) (Sp.p sp_) ?_
         rintro x C2 ⟨rfl, hW2⟩
         refine a_ rfl rfl ?_
         refine ntsr_ ?_
         refine m_ rfl rfl ?_
         refine f_ 14 kr_ rfl rfl ?_
         refine d_ kr_ rfl mem_ (by rfl) rfl ?_
         refine WL.c rfl (Ent.func Try.call41 rfl) (rwlate_tells q W cu ti H Q hQ inv a.at_) (Sp.p sp_) ?_
         rintro x Q2 ⟨rfl, hQ2⟩
         refine a_ rfl rfl ?_
         refine ntsr_ ?_
         refine m_ rfl rfl ?_
         refine m_ rfl rfl ?_
         refine WL.y rfl (Yd.eqlB Try.underlying4 rfl rfl) ?_
         refine WL.renamed (t := 157) (v := .bool true) rfl (congrArg Value.bool (by simp)) ?_
         refine a_ rfl rfl ?_
         refine nt_ ?_
         refine WC.ret ?_
         refine DN.block_ret ?_
         refine DN.then_ret ?_
         refine DN.fit (C := C2 ++ (Q2 ++ H)) sp_ ?_
         refine DN.ret1 Try.results22 rfl ?_
         first
         | exact ⟨rfl, _, _, _, C2, Q2, hW2, hQ2, inv.send _, rel.send _, Nat.le_succ _, Nat.le_succ _, rfl⟩
         | exact ⟨rfl, _, _, _, C2, Q2, hW2, hQ2, inv.out _, rel.out _, Nat.le_succ _, Nat.le_succ _, rfl⟩
         | exact ⟨rfl, _, _, _, C2, Q2, hW2, hQ2, inv.copy _, rel.copy _, Nat.le_succ _, Nat.le_succ _, rfl⟩
         | exact ⟨rfl, _, _, _, C2, Q2, hW2, hQ2, inv.late _, rel.late _, Nat.le_succ _, Nat.le_succ _, rfl⟩
         | exact ⟨rfl, _, _, _, C2, Q2, hW2, hQ2, inv.cut' _ _ _, rel.cut' inv _ _ _, cuts_len _ _ _ _ _, Nat.le_succ _, rfl⟩
         | exact ⟨rfl, _, _, _, C2, Q2, hW2, hQ2, inv.tick _, hrt, Nat.le_succ _, htl, rfl⟩
        ·refine sr_ ?_
         refine WL.y rfl (Yd.eql rfl rfl) ?_
         refine a_ rfl rfl ?_
         refine nt_ ?_
         refine WC.ite rfl (fun h158 => ?_) (fun h158 => ?_)
         ·refine sr_ ?_
          refine m_ rfl rfl ?_
          refine f_ 14 kr_ rfl rfl ?_
          refine d_ kr_ rfl mem_ (by rfl) rfl ?_
          refine f_ 15 kr_ rfl rfl ?_
          refine d_ kr_ rfl mem_ (by rfl) rfl ?_
          refine f_ 16 kr_ rfl rfl ?_
          refine d_ kr_ rfl mem_ (by rfl) rfl ?_
          refine WL.c rfl (Ent.func Try.call16 rfl) (cut_tells p W C hW inv a.at_ a.to a.on) (Sp.p sp_) ?_
          rintro x C2 ⟨rfl, hW2⟩
          refine a_ rfl rfl ?_
          refine ntsr_ ?_
          refine m_ rfl rfl ?_
          refine f_ 14 kr_ rfl rfl ?_
          refine d_ kr_ rfl mem_ (by rfl) rfl ?_
          refine f_ 15 kr_ rfl rfl ?_
          refine d_ kr_ rfl mem_ (by rfl) rfl ?_
          refine f_ 16 kr_ rfl rfl ?_
          refine d_ kr_ rfl mem_ (by rfl) rfl ?_
          refine WL.c rfl (Ent.func Try.call42 rfl) (rwcut_tells q W cu ti H Q hQ inv (by omega) a.at_ a.to a.on) (Sp.p sp_) ?_
          rintro x Q2 ⟨rfl, hQ2⟩
          refine a_ rfl rfl ?_
          refine ntsr_ ?_
          refine m_ rfl rfl ?_
          refine m_ rfl rfl ?_
          refine WL.y rfl (Yd.eql rfl rfl) ?_
          refine WL.renamed (t := 178) (v := .bool true) rfl (congrArg Value.bool (decide_eq_true rfl)) ?_
          refine a_ rfl rfl ?_
          refine nt_ ?_
          refine WC.ret ?_
          refine DN.block_ret ?_
          refine DN.then_ret ?_
          refine DN.fit (C := C2 ++ (Q2 ++ H)) sp_ ?_
          refine DN.ret1 Try.results22 rfl ?_
          first
          | exact ⟨rfl, _, _, _, C2, Q2, hW2, hQ2, inv.send _, rel.send _, Nat.le_succ _, Nat.le_succ _, rfl⟩
          | exact ⟨rfl, _, _, _, C2, Q2, hW2, hQ2, inv.out _, rel.out _, Nat.le_succ _, Nat.le_succ _, rfl⟩
          | exact ⟨rfl, _, _, _, C2, Q2, hW2, hQ2, inv.copy _, rel.copy _, Nat.le_succ _, Nat.le_succ _, rfl⟩
          | exact ⟨rfl, _, _, _, C2, Q2, hW2, hQ2, inv.late _, rel.late _, Nat.le_succ _, Nat.le_succ _, rfl⟩
          | exact ⟨rfl, _, _, _, C2, Q2, hW2, hQ2, inv.cut' _ _ _, rel.cut' inv _ _ _, cuts_len _ _ _ _ _, Nat.le_succ _, rfl⟩
          | exact ⟨rfl, _, _, _, C2, Q2, hW2, hQ2, inv.tick _, hrt, Nat.le_succ _, htl, rfl⟩
         ·refine WC.skip ?_
          refine DN.block_normal ?_
          refine ts_ ?_
          refine WC.region ?_
          refine m_ rfl rfl ?_
          refine f_ 14 kr_ rfl rfl ?_
          refine d_ kr_ rfl mem_ (by rfl) rfl ?_
          refine WL.c rfl (Ent.func Try.call27 rfl) (tick_tells p W C hW inv a.at_) (Sp.p sp_) ?_
          rintro x C2 ⟨rfl, hW2⟩
          refine m_ rfl rfl ?_
          refine x_ rfl rfl rfl ?_
          refine x_ rfl rfl rfl ?_
          refine a_ rfl rfl ?_
          refine a_ rfl rfl ?_
          refine ntsr_ ?_
          refine m_ rfl rfl ?_
          refine f_ 14 kr_ rfl rfl ?_
          refine d_ kr_ rfl mem_ (by rfl) rfl ?_
          refine WL.c rfl (Ent.func Try.call43 rfl) (rwtick_tells q W cu ti H Q hQ inv rel (by omega) (by omega) a.at_) (Sp.p sp_) ?_
          rintro x Q2 ⟨rfl, hQ2⟩
          have hrt := rel.tick inv a.at_
          have htl := ticks_len W ti a.at_
          refine m_ rfl rfl ?_
          refine x_ rfl rfl rfl ?_
          refine x_ rfl rfl rfl ?_
          refine a_ rfl rfl ?_
          refine a_ rfl rfl ?_
          refine nt_ ?_
          refine WC.seq ?_
          refine WC.draw 20 kr_ rfl ?_
          refine WA.float (N := 20) rfl ?_
          refine WAF.add (i := 0) (d := 193) rfl (QF.mk [] [] rfl rfl kr_ rfl (QAt.y Wt.none (Yd.move rfl))) ?_
          refine WAF.add (i := 1) (d := 194) rfl (QF.mk [] [] rfl rfl kr_ rfl (QAt.y Wt.none (Yd.move rfl))) ?_
          refine WAF.add (i := 2) (d := 195) rfl (QF.mk [1, 0] [(194, _), (193, _)] rfl rfl kr_ rfl (QAt.y Wt.none (Yd.eql64 _ _ rfl rfl rfl rfl))) ?_
          refine WAF.ren (v := .bool true) (congrArg Value.bool (decide_eq_true rfl)) ?_
          refine WAF.add (i := 3) (d := 196) rfl (QF.mk [2] [(195, _)] rfl rfl kr_ rfl (QAt.y Wt.none (Yd.move rfl))) ?_
          refine WAF.add (i := 4) (d := 197) rfl (QF.mk [3] [(196, _)] rfl rfl kr_ rfl (QAt.y (Wt.yes (dj := 196) rfl rfl) (Yd.move rfl))) ?_
          refine WAF.add (i := 5) (d := 198) rfl (QF.mk [3] [(196, _)] rfl rfl kr_ rfl (QAt.y (Wt.yes (dj := 196) rfl rfl) (Yd.move rfl))) ?_
          refine WAF.add (i := 6) (d := 199) rfl (QF.mk [5, 4, 3] [(198, _), (197, _), (196, _)] rfl rfl kr_ rfl (QAt.y (Wt.yes (dj := 196) rfl rfl) (Yd.eql rfl rfl))) ?_
          refine WAF.ren (v := .bool true) (congrArg Value.bool (decide_eq_true rfl)) ?_
          refine WAF.add (i := 7) (d := 200) rfl (QF.mk [6, 3] [(199, _), (196, _)] rfl rfl kr_ rfl (QAt.y Wt.none (Yd.pickT rfl rfl))) ?_
          refine WAF.add (i := 8) (d := 201) rfl (QF.mk [7, 3] [(200, _), (196, _)] rfl rfl kr_ rfl (QAt.y Wt.none (Yd.move rfl))) ?_
          refine WAF.add (i := 9) (d := 202) rfl (QF.mk [8] [(201, _)] rfl rfl kr_ rfl (QAt.y (Wt.yes (dj := 201) rfl rfl) (Yd.move rfl))) ?_
          refine WAF.add (i := 10) (d := 203) rfl (QF.mk [8] [(201, _)] rfl rfl kr_ rfl (QAt.y (Wt.yes (dj := 201) rfl rfl) (Yd.fieldAddr (k := 14) kr_ rfl))) ?_
          refine WAF.add (i := 11) (d := 204) rfl (QF.mk [10, 8] [(203, _), (201, _)] rfl rfl kr_ rfl (QAt.rd (Wt.yes (dj := 201) rfl rfl) (Rd.load1 kr_ rfl mem_ (by rfl)))) ?_
          refine WAF.add (i := 12) (d := 205) rfl (QF.mk [11, 9, 8] [(204, _), (202, _), (201, _)] rfl rfl kr_ rfl (QAt.rf (Wt.yes (dj := 201) rfl rfl) (Ent.func Try.call28 rfl) (clock_reads p (tickW W a.at_) C2 hW2 (inv.tick a.at_) a.at_) sp_)) ?_
          refine WAF.add (i := 13) (d := 206) rfl (QF.mk [8] [(201, _)] rfl rfl kr_ rfl (QAt.y (Wt.yes (dj := 201) rfl rfl) (Yd.move rfl))) ?_
          refine WAF.add (i := 14) (d := 207) rfl (QF.mk [8] [(201, _)] rfl rfl kr_ rfl (QAt.y (Wt.yes (dj := 201) rfl rfl) (Yd.fieldAddr (k := 14) kr_ rfl))) ?_
          refine WAF.add (i := 15) (d := 208) rfl (QF.mk [14, 8] [(207, _), (201, _)] rfl rfl kr_ rfl (QAt.rd (Wt.yes (dj := 201) rfl rfl) (Rd.load1 kr_ rfl mem_ (by rfl)))) ?_
          refine WAF.add (i := 16) (d := 209) rfl (QF.mk [15, 13, 12, 8] [(208, _), (206, _), (205, _), (201, _)] rfl rfl kr_ rfl (QAt.rf (Wt.yes (dj := 201) rfl rfl) (Ent.func Try.call44 rfl) (rwclock_reads q (tickW W a.at_) cu (ticksC W ti a.at_) H Q2 hQ2 (inv.tick a.at_) hrt (by omega) (by omega) a.at_) sp_)) ?_
          refine WAF.add (i := 17) (d := 210) rfl (QF.mk [16, 12, 8] [(209, _), (205, _), (201, _)] rfl rfl kr_ rfl (QAt.y (Wt.yes (dj := 201) rfl rfl) (Yd.eql64 _ _ rfl rfl rfl rfl))) ?_
          refine WAF.ren (v := .bool true) (congrArg Value.bool (decide_eq_true rfl)) ?_
          refine WAF.add (i := 18) (d := 211) rfl (QF.mk [17, 8] [(210, _), (201, _)] rfl rfl kr_ rfl (QAt.y Wt.none (Yd.pickT rfl rfl))) ?_
          refine WAF.step (pd := [(18, 211), (17, 210), (16, 209), (15, 208), (14, 207), (13, 206), (12, 205), (11, 204), (10, 203), (9, 202), (8, 201), (7, 200), (6, 199), (5, 198), (4, 197), (3, 196), (2, 195), (1, 194), (0, 193)]) [(19, [18, 17, 16, 15, 14, 13, 12, 11, 10, 9, 8, 7, 6, 5, 4, 3, 2, 1, 0])] rfl kr_ kr_ (all_c rfl (all_c rfl (all_c rfl (all_c rfl (all_c rfl (all_c rfl (all_c rfl (all_c rfl (all_c rfl (all_c rfl (all_c rfl (all_c rfl (all_c rfl (all_c rfl (all_c rfl (all_c rfl (all_c rfl (all_c rfl (all_c rfl (all_n)))))))))))))))))))) (all_c (QF.mk [17, 8] [(210, _), (201, _)] rfl rfl kr_ rfl (QAt.y Wt.none (Yd.pickT rfl rfl))) (all_c (QF.ren (congrArg Value.bool (decide_eq_true rfl)) (QF.mk [16, 12, 8] [(209, _), (205, _), (201, _)] rfl rfl kr_ rfl (QAt.y (Wt.yes (dj := 201) rfl rfl) (Yd.eql64 _ _ rfl rfl rfl rfl)))) (all_c (QF.mk [15, 13, 12, 8] [(208, _), (206, _), (205, _), (201, _)] rfl rfl kr_ rfl (QAt.rf (Wt.yes (dj := 201) rfl rfl) (Ent.func Try.call44 rfl) (rwclock_reads q (tickW W a.at_) cu (ticksC W ti a.at_) H Q2 hQ2 (inv.tick a.at_) hrt (by omega) (by omega) a.at_) sp_)) (all_c (QF.mk [14, 8] [(207, _), (201, _)] rfl rfl kr_ rfl (QAt.rd (Wt.yes (dj := 201) rfl rfl) (Rd.load1 kr_ rfl mem_ (by rfl)))) (all_c (QF.mk [8] [(201, _)] rfl rfl kr_ rfl (QAt.y (Wt.yes (dj := 201) rfl rfl) (Yd.fieldAddr (k := 14) kr_ rfl))) (all_c (QF.mk [8] [(201, _)] rfl rfl kr_ rfl (QAt.y (Wt.yes (dj := 201) rfl rfl) (Yd.move rfl))) (all_c (QF.mk [11, 9, 8] [(204, _), (202, _), (201, _)] rfl rfl kr_ rfl (QAt.rf (Wt.yes (dj := 201) rfl rfl) (Ent.func Try.call28 rfl) (clock_reads p (tickW W a.at_) C2 hW2 (inv.tick a.at_) a.at_) sp_)) (all_c (QF.mk [10, 8] [(203, _), (201, _)] rfl rfl kr_ rfl (QAt.rd (Wt.yes (dj := 201) rfl rfl) (Rd.load1 kr_ rfl mem_ (by rfl)))) (all_c (QF.mk [8] [(201, _)] rfl rfl kr_ rfl (QAt.y (Wt.yes (dj := 201) rfl rfl) (Yd.fieldAddr (k := 14) kr_ rfl))) (all_c (QF.mk [8] [(201, _)] rfl rfl kr_ rfl (QAt.y (Wt.yes (dj := 201) rfl rfl) (Yd.move rfl))) (all_c (QF.mk [7, 3] [(200, _), (196, _)] rfl rfl kr_ rfl (QAt.y Wt.none (Yd.move rfl))) (all_c (QF.mk [6, 3] [(199, _), (196, _)] rfl rfl kr_ rfl (QAt.y Wt.none (Yd.pickT rfl rfl))) (all_c (QF.ren (congrArg Value.bool (decide_eq_true rfl)) (QF.mk [5, 4, 3] [(198, _), (197, _), (196, _)] rfl rfl kr_ rfl (QAt.y (Wt.yes (dj := 196) rfl rfl) (Yd.eql rfl rfl)))) (all_c (QF.mk [3] [(196, _)] rfl rfl kr_ rfl (QAt.y (Wt.yes (dj := 196) rfl rfl) (Yd.move rfl))) (all_c (QF.mk [3] [(196, _)] rfl rfl kr_ rfl (QAt.y (Wt.yes (dj := 196) rfl rfl) (Yd.move rfl))) (all_c (QF.mk [2] [(195, _)] rfl rfl kr_ rfl (QAt.y Wt.none (Yd.move rfl))) (all_c (QF.ren (congrArg Value.bool (decide_eq_true rfl)) (QF.mk [1, 0] [(194, _), (193, _)] rfl rfl kr_ rfl (QAt.y Wt.none (Yd.eql64 _ _ rfl rfl rfl rfl)))) (all_c (QF.mk [] [] rfl rfl kr_ rfl (QAt.y Wt.none (Yd.move rfl))) (all_c (QF.mk [] [] rfl rfl kr_ rfl (QAt.y Wt.none (Yd.move rfl))) (all_n)))))))))))))))))))) (all_c ?_ (all_n))
          ·change SO _ _ _ _ _ _ 19 ([(211, _), (210, _), (209, _), (208, _), (207, _), (206, _), (205, _), (204, _), (203, _), (202, _), (201, _), (200, _), (199, _), (198, _), (197, _), (196, _), (195, _), (194, _), (193, _)] ++ _) _ _
           refine SO.y rfl Wt.none rfl (Yd.assign rfl) ?_
           change WAF _ _ _ _ _ _ [] _ [19, 18, 17, 16, 15, 14, 13, 12, 11, 10, 9, 8, 7, 6, 5, 4, 3, 2, 1, 0] ((6, _) :: ([(211, _), (210, _), (209, _), (208, _), (207, _), (206, _), (205, _), (204, _), (203, _), (202, _), (201, _), (200, _), (199, _), (198, _), (197, _), (196, _), (195, _), (194, _), (193, _)] ++ _)) _
           refine WAF.done (pd := []) rfl kr_ kr_ (all_n) (all_n) ?_
           change DN _ _ _ _ _ _ ([] ++ _) _
           refine DN.then_normal ?_
           refine WC.ret ?_
           refine DN.fit (C := C2 ++ (Q2 ++ H)) sp_ ?_
           refine DN.ret1 Try.results22 rfl ?_
           first
           | exact ⟨rfl, _, _, _, C2, Q2, hW2, hQ2, inv.send _, rel.send _, Nat.le_succ _, Nat.le_succ _, rfl⟩
           | exact ⟨rfl, _, _, _, C2, Q2, hW2, hQ2, inv.out _, rel.out _, Nat.le_succ _, Nat.le_succ _, rfl⟩
           | exact ⟨rfl, _, _, _, C2, Q2, hW2, hQ2, inv.copy _, rel.copy _, Nat.le_succ _, Nat.le_succ _, rfl⟩
           | exact ⟨rfl, _, _, _, C2, Q2, hW2, hQ2, inv.late _, rel.late _, Nat.le_succ _, Nat.le_succ _, rfl⟩
           | exact ⟨rfl, _, _, _, C2, Q2, hW2, hQ2, inv.cut' _ _ _, rel.cut' inv _ _ _, cuts_len _ _ _ _ _, Nat.le_succ _, rfl⟩
           | exact ⟨rfl, _, _, _, C2, Q2, hW2, hQ2, inv.tick _, hrt, Nat.le_succ _, htl, rfl⟩
  ·refine WC.region ?_
   refine WL.y rfl (Yd.eql rfl rfl) ?_
   refine a_ rfl rfl ?_
   refine nt_ ?_
   refine WC.ite rfl (fun h30 => ?_) (fun h30 => ?_)
   ·refine sr_ ?_
    refine f_ 1 kr_ rfl rfl ?_
    refine WL.h rfl (Hd.loadA (n := 13) (vs := ltc a.L (.slice ko a.L.n.key.length kc) (.slice eo a.L.n.data.length ec)) kr_ rfl mem_ (by rfl) (by rfl) ⟨_, rfl, ?_⟩)
    refine WL.h rfl (Hd.alloc (zs := [.int .i64 0, .int .i64 0, .int .i64 0, .int .u32 0, .int .u32 0, .int .u64 0, .int .u64 0, .int .u32 0, .int .i64 0, .bool false, .int .i64 0, .slice none 0 0, .slice none 0 0]) kr_ fun b7 => ⟨_, rfl, ?_⟩)
    refine WL.s (Hd.storeAll (n := 13) (vs := ltc a.L (.slice ko a.L.n.key.length kc) (.slice eo a.L.n.data.length ec)) kr_ rfl rfl (by rfl) (ltc_one9 rfl rfl) fr_ (by rfl) ⟨rfl, ?_⟩)
    refine ntsr_ ?_
    refine f_ 1 kr_ rfl rfl ?_
    refine f_ 2 kr_ rfl rfl ?_
    refine f_ 9 kr_ rfl rfl ?_
    refine d_ kr_ rfl mem_ (by rfl) rfl ?_
    refine WL.c rfl (Ent.func Try.call35 rfl) (lent_spec _ a.L.n.key H hk (by omega)) (Sp.p sp_) ?_
    rintro x H9 ⟨lo1, lc1, CK, rfl, hCK, rfl⟩
    refine f_ 2 kr_ rfl rfl ?_
    refine f_ 9 kr_ rfl rfl ?_
    refine WL.s (Hd.store1s (cs' := ltc a.L (.slice lo1 a.L.n.key.length lc1) (.slice eo a.L.n.data.length ec)) kr_ rfl rfl (by rfl) fr_ (by rfl) (by rfl) ⟨rfl, ?_⟩)
    refine ntsr_ ?_
    refine f_ 1 kr_ rfl rfl ?_
    refine f_ 2 kr_ rfl rfl ?_
    refine f_ 10 kr_ rfl rfl ?_
    refine d_ kr_ rfl mem_ (by rfl) rfl ?_
    refine WL.c rfl (Ent.func Try.call35 rfl) (lent_spec _ a.L.n.data H hd (by omega)) (Sp.p sp_) ?_
    rintro x H9 ⟨lo2, lc2, CD, rfl, hCD, rfl⟩
    refine f_ 2 kr_ rfl rfl ?_
    refine f_ 10 kr_ rfl rfl ?_
    refine WL.s (Hd.store1s (cs' := ltc a.L (.slice lo1 a.L.n.key.length lc1) (.slice lo2 a.L.n.data.length lc2)) kr_ rfl rfl (by rfl) fr_ (by rfl) (by rfl) ⟨rfl, ?_⟩)
    refine ntsr_ ?_
    refine m_ rfl rfl ?_
    refine WL.h rfl (Hd.loadAll (n := 13) kr_ rfl mem_ (by rfl) ⟨_, rfl, ?_⟩)
    refine WL.c rfl (Ent.func Try.call10 rfl) (send_tells p W C (CK ++ CD) hW inv a.L _ _ ((lent_of hCK (by omega)).mono gr_) ((lent_of hCD (by omega)).mono gr_) (by omega) (by omega)) (Sp.p sp_) ?_
    rintro x H9 ⟨C2, rfl, hW2, rfl⟩
    refine a_ rfl rfl ?_
    refine ntsr_ ?_
    refine m_ rfl rfl ?_
    refine f_ 1 kr_ rfl rfl ?_
    refine WL.h rfl (Hd.loadA (n := 13) (vs := ltc a.L (.slice ko a.L.n.key.length kc) (.slice eo a.L.n.data.length ec)) kr_ rfl mem_ (by rfl) (by rfl) ⟨_, rfl, ?_⟩)
    refine WL.c rfl (Ent.func Try.call36 rfl) (rwsend_tells q W cu ti H Q hQ inv rel (by omega) a.L _ _ hk hd hmk hmd) (Sp.p sp_) ?_
    rintro x Q2 ⟨rfl, hQ2⟩
    refine a_ rfl rfl ?_
    refine ntsr_ ?_
    refine f_ 2 kr_ rfl rfl ?_
    refine f_ 9 kr_ rfl rfl ?_
    refine d_ kr_ rfl mem_ (by rfl) rfl ?_
    refine f_ 1 kr_ rfl rfl ?_
    refine f_ 2 kr_ rfl rfl ?_
    refine f_ 9 kr_ rfl rfl ?_
    refine d_ kr_ rfl mem_ (by rfl) rfl ?_
    refine WL.r rfl (Ent.func Try.call37 rfl) (whole_reads lo1 lc1 _ a.L.n.key _ (hCK.bs.mono gr_) (hk.mono gr_) (by omega)) ?_
    refine WL.renamed (t := 64) (v := .bool true) rfl (congrArg Value.bool (rfl)) ?_
    refine m_ rfl rfl ?_
    refine gy_ 65 rfl rfl rfl (Yd.fieldAddr (k := 2) kr_ rfl) ?_
    refine gy_ 65 rfl rfl rfl (Yd.fieldAddr (k := 10) kr_ rfl) ?_
    refine WL.gh (dj := 65) rfl rfl rfl (Hd.load1 kr_ rfl mem_ (by rfl) ⟨_, rfl, ?_⟩)
    refine gy_ 65 rfl rfl rfl (Yd.fieldAddr (k := 1) kr_ rfl) ?_
    refine gy_ 65 rfl rfl rfl (Yd.fieldAddr (k := 2) kr_ rfl) ?_
    refine gy_ 65 rfl rfl rfl (Yd.fieldAddr (k := 10) kr_ rfl) ?_
    refine WL.gh (dj := 65) rfl rfl rfl (Hd.load1 kr_ rfl mem_ (by rfl) ⟨_, rfl, ?_⟩)
    refine WL.gr (dj := 65) rfl rfl rfl (Ent.func Try.call37 rfl) (whole_reads lo2 lc2 _ a.L.n.data _ (hCD.bs.mono gr_) (hd.mono gr_) (by omega)) ?_
    refine WL.renamed (t := 73) (v := .bool true) rfl (congrArg Value.bool (rfl)) ?_
    refine WL.y rfl (Yd.pickT rfl rfl) ?_
    refine a_ rfl rfl ?_
    refine ntsr_ ?_
    refine f_ 2 kr_ rfl rfl ?_
    refine f_ 9 kr_ rfl rfl ?_
    refine d_ kr_ rfl mem_ (by rfl) rfl ?_
    refine WL.c rfl (Ent.func Try.call26 rfl) (spoil_tells lo1 lc1 a.L.n.key.length 2 _ CK hCK (by simp) (by omega)) (Sp.p sp_) ?_
    intro x H9 hH9
    subst hH9
    rw [List.nil_append]
    refine ntsr_ ?_
    refine f_ 2 kr_ rfl rfl ?_
    refine f_ 10 kr_ rfl rfl ?_
    refine d_ kr_ rfl mem_ (by rfl) rfl ?_
    refine WL.c rfl (Ent.func Try.call26 rfl) (spoil_tells lo2 lc2 a.L.n.data.length 2 _ CD hCD (by simp) (by omega)) (Sp.p sp_) ?_
    intro x H9 hH9
    subst hH9
    rw [List.nil_append]
    refine ntsr_ ?_
    refine m_ rfl rfl ?_
    refine m_ rfl rfl ?_
    refine WL.y rfl (Yd.eql rfl rfl) ?_
    refine WL.renamed (t := 85) (v := .bool true) rfl (congrArg Value.bool (decide_eq_true rfl)) ?_
    refine m_ rfl rfl ?_
    refine gy_ 86 rfl rfl rfl (Yd.move rfl) ?_
    refine WL.y rfl (Yd.pickT rfl rfl) ?_
    refine a_ rfl rfl ?_
    refine nt_ ?_
    refine WC.ret ?_
    refine DN.block_ret ?_
    refine DN.then_ret ?_
    refine DN.fit (C := C2 ++ (Q2 ++ H)) sp_ ?_
    refine DN.ret1 Try.results22 rfl ?_
    first
    | exact ⟨rfl, _, _, _, C2, Q2, hW2, hQ2, inv.send _, rel.send _, Nat.le_succ _, Nat.le_succ _, rfl⟩
    | exact ⟨rfl, _, _, _, C2, Q2, hW2, hQ2, inv.out _, rel.out _, Nat.le_succ _, Nat.le_succ _, rfl⟩
    | exact ⟨rfl, _, _, _, C2, Q2, hW2, hQ2, inv.copy _, rel.copy _, Nat.le_succ _, Nat.le_succ _, rfl⟩
    | exact ⟨rfl, _, _, _, C2, Q2, hW2, hQ2, inv.late _, rel.late _, Nat.le_succ _, Nat.le_succ _, rfl⟩
    | exact ⟨rfl, _, _, _, C2, Q2, hW2, hQ2, inv.cut' _ _ _, rel.cut' inv _ _ _, cuts_len _ _ _ _ _, Nat.le_succ _, rfl⟩
    | exact ⟨rfl, _, _, _, C2, Q2, hW2, hQ2, inv.tick _, hrt, Nat.le_succ _, htl, rfl⟩
   ·refine WC.seq ?_
    refine sr_ ?_
    refine WL.y rfl (Yd.eql rfl rfl) ?_
    refine a_ rfl rfl ?_
    refine nt_ ?_
    refine WC.ite rfl (fun h89 => ?_) (fun h89 => ?_)
    ·refine WC.skip ?_
     refine DN.then_normal ?_
     refine WC.ite rfl (fun h89 => ?_) (fun h89 => ?_)
     ·refine sr_ ?_
      refine m_ rfl rfl ?_
      refine f_ 14 kr_ rfl rfl ?_
      refine d_ kr_ rfl mem_ (by rfl) rfl ?_
      refine WL.c rfl (Ent.func Try.call13 rfl) (pick_tells p W C hW inv a.at_) (Sp.p sp_) ?_
      rintro x H9 ⟨uk, ud, A6, B6, C2, rfl, hA6, hB6, hW2, rfl⟩
      obtain ⟨uko, ukc, rfl, _⟩ := hA6.form
      obtain ⟨udo, udc, rfl, _⟩ := hB6.form
      refine m_ rfl rfl ?_
      refine x_ rfl rfl rfl ?_
      refine x_ rfl rfl rfl ?_
      refine WL.h rfl (Hd.alloc (zs := [.int .i64 0, .int .i64 0, .int .i64 0, .int .u32 0, .int .u32 0, .int .u64 0, .int .u64 0, .int .u32 0, .int .i64 0, .bool false, .int .i64 0, .slice none 0 0, .slice none 0 0]) kr_ fun b11 => ⟨_, rfl, ?_⟩)
      refine WL.s (Hd.storeAll (n := 13) (vs := ltc (pickL W a.at_) (.slice uko (pickL W a.at_).n.key.length ukc) (.slice udo (pickL W a.at_).n.data.length udc)) kr_ rfl rfl (by rfl) (ltc_one9 rfl rfl) fr_ (by rfl) ⟨rfl, ?_⟩)
      refine a_ rfl rfl ?_
      refine ntsr_ ?_
      refine m_ rfl rfl ?_
      refine f_ 14 kr_ rfl rfl ?_
      refine d_ kr_ rfl mem_ (by rfl) rfl ?_
      refine WL.c rfl (Ent.func Try.call38 rfl) (rwpick_tells q W cu ti H Q hQ inv rel (by omega) a.at_) (Sp.p sp_) ?_
      rintro x Q2 ⟨wk, wd, rfl, hA7, hB7, hQ2⟩
      obtain ⟨vko, vkc, rfl, _⟩ := hA7.form
      obtain ⟨vdo, vdc, rfl, _⟩ := hB7.form
      refine m_ rfl rfl ?_
      refine x_ rfl rfl rfl ?_
      refine x_ rfl rfl rfl ?_
      refine WL.h rfl (Hd.alloc (zs := [.int .i64 0, .int .i64 0, .int .i64 0, .int .u32 0, .int .u32 0, .int .u64 0, .int .u64 0, .int .u32 0, .int .i64 0, .bool false, .int .i64 0, .slice none 0 0, .slice none 0 0]) kr_ fun b13 => ⟨_, rfl, ?_⟩)
      refine WL.s (Hd.storeAll (n := 13) (vs := ltc (pickL W a.at_) (.slice vko (pickL W a.at_).n.key.length vkc) (.slice vdo (pickL W a.at_).n.data.length vdc)) kr_ rfl rfl (by rfl) (ltc_one9 rfl rfl) fr_ (by rfl) ⟨rfl, ?_⟩)
      refine a_ rfl rfl ?_
      refine ntsr_ ?_
      refine WL.h rfl (Hd.loadAll (n := 13) kr_ rfl mem_ (by rfl) ⟨_, rfl, ?_⟩)
      refine WL.h rfl (Hd.loadAll (n := 13) kr_ rfl mem_ (by rfl) ⟨_, rfl, ?_⟩)
      refine WL.rf rfl (Ent.func Try.call25 rfl) (same18_reads (pickL W a.at_) (pickL W a.at_) _ _ _ _ (A6 ++ (B6 ++ H)) (hA6.bs.mono gr_) (hB6.bs.mono gr_) (hA7.mono gr_) (hB7.mono gr_)) sp_ ?_
      refine WL.renamed (t := 108) (v := .bool true) rfl (congrArg Value.bool (sameL_refl _)) ?_
      refine m_ rfl rfl ?_
      refine gy_ 109 rfl rfl rfl (Yd.move rfl) ?_
      refine gy_ 109 rfl rfl rfl (Yd.move rfl) ?_
      refine gy_ 109 rfl rfl rfl (Yd.eqlB Try.underlying4 rfl rfl) ?_
      refine WL.renamed (t := 112) (v := .bool true) rfl (congrArg Value.bool (by simp)) ?_
      refine WL.y rfl (Yd.pickT rfl rfl) ?_
      refine a_ rfl rfl ?_
      refine ntsr_ ?_
      refine f_ 2 kr_ rfl rfl ?_
      refine f_ 10 kr_ rfl rfl ?_
      refine d_ kr_ rfl mem_ (by rfl) rfl ?_
      refine WL.c rfl (Ent.func Try.call26 rfl) (spoil_own udo udc (pickL W a.at_).n.data B6 hB6 (by omega)) (Sp.p sp_) ?_
      intro x H9 hH9
      subst hH9
      rw [List.nil_append]
      refine ntsr_ ?_
      refine m_ rfl rfl ?_
      refine a_ rfl rfl ?_
      refine nt_ ?_
      refine WC.ret ?_
      refine DN.block_ret ?_
      refine DN.then_ret ?_
      refine DN.fit (C := C2 ++ (Q2 ++ H)) sp_ ?_
      refine DN.ret1 Try.results22 rfl ?_
      first
      | exact ⟨rfl, _, _, _, C2, Q2, hW2, hQ2, inv.send _, rel.send _, Nat.le_succ _, Nat.le_succ _, rfl⟩
      | exact ⟨rfl, _, _, _, C2, Q2, hW2, hQ2, inv.out _, rel.out _, Nat.le_succ _, Nat.le_succ _, rfl⟩
      | exact ⟨rfl, _, _, _, C2, Q2, hW2, hQ2, inv.copy _, rel.copy _, Nat.le_succ _, Nat.le_succ _, rfl⟩
      | exact ⟨rfl, _, _, _, C2, Q2, hW2, hQ2, inv.late _, rel.late _, Nat.le_succ _, Nat.le_succ _, rfl⟩
      | exact ⟨rfl, _, _, _, C2, Q2, hW2, hQ2, inv.cut' _ _ _, rel.cut' inv _ _ _, cuts_len _ _ _ _ _, Nat.le_succ _, rfl⟩
      | exact ⟨rfl, _, _, _, C2, Q2, hW2, hQ2, inv.tick _, hrt, Nat.le_succ _, htl, rfl⟩
     ·refine sr_ ?_
      refine WL.y rfl (Yd.eql rfl rfl) ?_
      refine a_ rfl rfl ?_
      refine nt_ ?_
      refine WC.ite rfl (fun h119 => ?_) (fun h119 => ?_)
      ·refine sr_ ?_
       refine m_ rfl rfl ?_
       refine f_ 14 kr_ rfl rfl ?_
       refine d_ kr_ rfl mem_ (by rfl) rfl ?_
       refine WL.c rfl (Ent.func Try.call19 rfl) (lose_tells p W C hW inv a.at_) (Sp.p sp_) ?_
       rintro x C2 ⟨rfl, hW2⟩
       refine a_ rfl rfl ?_
       refine ntsr_ ?_
       refine m_ rfl rfl ?_
       refine f_ 14 kr_ rfl rfl ?_
       refine d_ kr_ rfl mem_ (by rfl) rfl ?_
       refine WL.c rfl (Ent.func Try.call39 rfl) (rlose_tells q W cu ti H Q hQ (by have := inv.few; omega) a.at_) (Sp.p sp_) ?_
       rintro x Q2 ⟨rfl, hQ2⟩
       refine a_ rfl rfl ?_
       refine ntsr_ ?_
       refine m_ rfl rfl ?_
       refine m_ rfl rfl ?_
       refine WL.y rfl (Yd.eqlB Try.underlying4 rfl rfl) ?_
       refine WL.renamed (t := 131) (v := .bool true) rfl (congrArg Value.bool (by simp)) ?_
       refine a_ rfl rfl ?_
       refine nt_ ?_
       refine WC.ret ?_
       refine DN.block_ret ?_
       refine DN.then_ret ?_
       refine DN.fit (C := C2 ++ (Q2 ++ H)) sp_ ?_
       refine DN.ret1 Try.results22 rfl ?_
       first
       | exact ⟨rfl, _, _, _, C2, Q2, hW2, hQ2, inv.send _, rel.send _, Nat.le_succ _, Nat.le_succ _, rfl⟩
       | exact ⟨rfl, _, _, _, C2, Q2, hW2, hQ2, inv.out _, rel.out _, Nat.le_succ _, Nat.le_succ _, rfl⟩
       | exact ⟨rfl, _, _, _, C2, Q2, hW2, hQ2, inv.copy _, rel.copy _, Nat.le_succ _, Nat.le_succ _, rfl⟩
       | exact ⟨rfl, _, _, _, C2, Q2, hW2, hQ2, inv.late _, rel.late _, Nat.le_succ _, Nat.le_succ _, rfl⟩
       | exact ⟨rfl, _, _, _, C2, Q2, hW2, hQ2, inv.cut' _ _ _, rel.cut' inv _ _ _, cuts_len _ _ _ _ _, Nat.le_succ _, rfl⟩
       | exact ⟨rfl, _, _, _, C2, Q2, hW2, hQ2, inv.tick _, hrt, Nat.le_succ _, htl, rfl⟩
      ·refine sr_ ?_
       refine WL.y rfl (Yd.eql rfl rfl) ?_
       refine a_ rfl rfl ?_
       refine nt_ ?_
       refine WC.ite rfl (fun h132 => ?_) (fun h132 => ?_)
       ·refine sr_ ?_
        refine m_ rfl rfl ?_
        refine f_ 14 kr_ rfl rfl ?_
        refine d_ kr_ rfl mem_ (by rfl) rfl ?_
        refine WL.c rfl (Ent.func Try.call20 rfl) (copy_tells p W C hW inv a.at_) (Sp.p sp_) ?_
        rintro x C2 ⟨rfl, hW2⟩
        refine a_ rfl rfl ?_
        refine ntsr_ ?_
        refine m_ rfl rfl ?_
        refine f_ 14 kr_ rfl rfl ?_
        refine d_ kr_ rfl mem_ (by rfl) rfl ?_
        refine WL.c rfl (Ent.func Try.call40 rfl) (rwcopy_tells q W cu ti H Q hQ inv a.at_) (Sp.p sp_) ?_
        rintro x Q2 ⟨rfl, hQ2⟩
        refine a_ rfl rfl ?_
        refine ntsr_ ?_
        refine m_ rfl rfl ?_
        refine m_ rfl rfl ?_
        refine WL.y rfl (Yd.eqlB Try.underlying4 rfl rfl) ?_
        refine WL.renamed (t := 144) (v := .bool true) rfl (congrArg Value.bool (by simp)) ?_
        refine a_ rfl rfl ?_
        refine nt_ ?_
        refine WC.ret ?_
        refine DN.block_ret ?_
        refine DN.then_ret ?_
        refine DN.fit (C := C2 ++ (Q2 ++ H)) sp_ ?_
        refine DN.ret1 Try.results22 rfl ?_
        first
        | exact ⟨rfl, _, _, _, C2, Q2, hW2, hQ2, inv.send _, rel.send _, Nat.le_succ _, Nat.le_succ _, rfl⟩
        | exact ⟨rfl, _, _, _, C2, Q2, hW2, hQ2, inv.out _, rel.out _, Nat.le_succ _, Nat.le_succ _, rfl⟩
        | exact ⟨rfl, _, _, _, C2, Q2, hW2, hQ2, inv.copy _, rel.copy _, Nat.le_succ _, Nat.le_succ _, rfl⟩
        | exact ⟨rfl, _, _, _, C2, Q2, hW2, hQ2, inv.late _, rel.late _, Nat.le_succ _, Nat.le_succ _, rfl⟩
        | exact ⟨rfl, _, _, _, C2, Q2, hW2, hQ2, inv.cut' _ _ _, rel.cut' inv _ _ _, cuts_len _ _ _ _ _, Nat.le_succ _, rfl⟩
        | exact ⟨rfl, _, _, _, C2, Q2, hW2, hQ2, inv.tick _, hrt, Nat.le_succ _, htl, rfl⟩
       ·refine sr_ ?_
        refine WL.y rfl (Yd.eql rfl rfl) ?_
        refine a_ rfl rfl ?_
        refine nt_ ?_
        refine WC.ite rfl (fun h145 => ?_) (fun h145 => ?_)
        ·refine sr_ ?_
         refine m_ rfl rfl ?_
         refine f_ 14 kr_ rfl rfl ?_
         refine d_ kr_ rfl mem_ (by rfl) rfl ?_
         refine WL.c rfl (Ent.func Try.call12 rfl) (late_tells p W C hW inv a.at_) (Sp.p sp_) ?_
         rintro x C2 ⟨rfl, hW2⟩
         refine a_ rfl rfl ?_
         refine ntsr_ ?_
         refine m_ rfl rfl ?_
         refine f_ 14 kr_ rfl rfl ?_
         refine d_ kr_ rfl mem_ (by rfl) rfl ?_
         refine WL.c rfl (Ent.func Try.call41 rfl) (rwlate_tells q W cu ti H Q hQ inv a.at_) (Sp.p sp_) ?_
         rintro x Q2 ⟨rfl, hQ2⟩
         refine a_ rfl rfl ?_
         refine ntsr_ ?_
         refine m_ rfl rfl ?_
         refine m_ rfl rfl ?_
         refine WL.y rfl (Yd.eqlB Try.underlying4 rfl rfl) ?_
         refine WL.renamed (t := 157) (v := .bool true) rfl (congrArg Value.bool (by simp)) ?_
         refine a_ rfl rfl ?_
         refine nt_ ?_
         refine WC.ret ?_
         refine DN.block_ret ?_
         refine DN.then_ret ?_
         refine DN.fit (C := C2 ++ (Q2 ++ H)) sp_ ?_
         refine DN.ret1 Try.results22 rfl ?_
         first
         | exact ⟨rfl, _, _, _, C2, Q2, hW2, hQ2, inv.send _, rel.send _, Nat.le_succ _, Nat.le_succ _, rfl⟩
         | exact ⟨rfl, _, _, _, C2, Q2, hW2, hQ2, inv.out _, rel.out _, Nat.le_succ _, Nat.le_succ _, rfl⟩
         | exact ⟨rfl, _, _, _, C2, Q2, hW2, hQ2, inv.copy _, rel.copy _, Nat.le_succ _, Nat.le_succ _, rfl⟩
         | exact ⟨rfl, _, _, _, C2, Q2, hW2, hQ2, inv.late _, rel.late _, Nat.le_succ _, Nat.le_succ _, rfl⟩
         | exact ⟨rfl, _, _, _, C2, Q2, hW2, hQ2, inv.cut' _ _ _, rel.cut' inv _ _ _, cuts_len _ _ _ _ _, Nat.le_succ _, rfl⟩
         | exact ⟨rfl, _, _, _, C2, Q2, hW2, hQ2, inv.tick _, hrt, Nat.le_succ _, htl, rfl⟩
        ·refine sr_ ?_
         refine WL.y rfl (Yd.eql rfl rfl) ?_
         refine a_ rfl rfl ?_
         refine nt_ ?_
         refine WC.ite rfl (fun h158 => ?_) (fun h158 => ?_)
         ·refine sr_ ?_
          refine m_ rfl rfl ?_
          refine f_ 14 kr_ rfl rfl ?_
          refine d_ kr_ rfl mem_ (by rfl) rfl ?_
          refine f_ 15 kr_ rfl rfl ?_
          refine d_ kr_ rfl mem_ (by rfl) rfl ?_
          refine f_ 16 kr_ rfl rfl ?_
          refine d_ kr_ rfl mem_ (by rfl) rfl ?_
          refine WL.c rfl (Ent.func Try.call16 rfl) (cut_tells p W C hW inv a.at_ a.to a.on) (Sp.p sp_) ?_
          rintro x C2 ⟨rfl, hW2⟩
          refine a_ rfl rfl ?_
          refine ntsr_ ?_
          refine m_ rfl rfl ?_
          refine f_ 14 kr_ rfl rfl ?_
          refine d_ kr_ rfl mem_ (by rfl) rfl ?_
          refine f_ 15 kr_ rfl rfl ?_
          refine d_ kr_ rfl mem_ (by rfl) rfl ?_
          refine f_ 16 kr_ rfl rfl ?_
          refine d_ kr_ rfl mem_ (by rfl) rfl ?_
          refine WL.c rfl (Ent.func Try.call42 rfl) (rwcut_tells q W cu ti H Q hQ inv (by omega) a.at_ a.to a.on) (Sp.p sp_) ?_
          rintro x Q2 ⟨rfl, hQ2⟩
          refine a_ rfl rfl ?_
          refine ntsr_ ?_
          refine m_ rfl rfl ?_
          refine m_ rfl rfl ?_
          refine WL.y rfl (Yd.eql rfl rfl) ?_
          refine WL.renamed (t := 178) (v := .bool true) rfl (congrArg Value.bool (decide_eq_true rfl)) ?_
          refine a_ rfl rfl ?_
          refine nt_ ?_
          refine WC.ret ?_
          refine DN.block_ret ?_
          refine DN.then_ret ?_
          refine DN.fit (C := C2 ++ (Q2 ++ H)) sp_ ?_
          refine DN.ret1 Try.results22 rfl ?_
          first
          | exact ⟨rfl, _, _, _, C2, Q2, hW2, hQ2, inv.send _, rel.send _, Nat.le_succ _, Nat.le_succ _, rfl⟩
          | exact ⟨rfl, _, _, _, C2, Q2, hW2, hQ2, inv.out _, rel.out _, Nat.le_succ _, Nat.le_succ _, rfl⟩
          | exact ⟨rfl, _, _, _, C2, Q2, hW2, hQ2, inv.copy _, rel.copy _, Nat.le_succ _, Nat.le_succ _, rfl⟩
          | exact ⟨rfl, _, _, _, C2, Q2, hW2, hQ2, inv.late _, rel.late _, Nat.le_succ _, Nat.le_succ _, rfl⟩
          | exact ⟨rfl, _, _, _, C2, Q2, hW2, hQ2, inv.cut' _ _ _, rel.cut' inv _ _ _, cuts_len _ _ _ _ _, Nat.le_succ _, rfl⟩
          | exact ⟨rfl, _, _, _, C2, Q2, hW2, hQ2, inv.tick _, hrt, Nat.le_succ _, htl, rfl⟩
         ·refine WC.skip ?_
          refine DN.block_normal ?_
          refine ts_ ?_
          refine WC.region ?_
          refine m_ rfl rfl ?_
          refine f_ 14 kr_ rfl rfl ?_
          refine d_ kr_ rfl mem_ (by rfl) rfl ?_
          refine WL.c rfl (Ent.func Try.call27 rfl) (tick_tells p W C hW inv a.at_) (Sp.p sp_) ?_
          rintro x C2 ⟨rfl, hW2⟩
          refine m_ rfl rfl ?_
          refine x_ rfl rfl rfl ?_
          refine x_ rfl rfl rfl ?_
          refine a_ rfl rfl ?_
          refine a_ rfl rfl ?_
          refine ntsr_ ?_
          refine m_ rfl rfl ?_
          refine f_ 14 kr_ rfl rfl ?_
          refine d_ kr_ rfl mem_ (by rfl) rfl ?_
          refine WL.c rfl (Ent.func Try.call43 rfl) (rwtick_tells q W cu ti H Q hQ inv rel (by omega) (by omega) a.at_) (Sp.p sp_) ?_
          rintro x Q2 ⟨rfl, hQ2⟩
          have hrt := rel.tick inv a.at_
          have htl := ticks_len W ti a.at_
          refine m_ rfl rfl ?_
          refine x_ rfl rfl rfl ?_
          refine x_ rfl rfl rfl ?_
          refine a_ rfl rfl ?_
          refine a_ rfl rfl ?_
          refine nt_ ?_
          refine WC.seq ?_
          refine WC.draw 20 kr_ rfl ?_
          refine WA.float (N := 20) rfl ?_
          refine WAF.add (i := 0) (d := 193) rfl (QF.mk [] [] rfl rfl kr_ rfl (QAt.y Wt.none (Yd.move rfl))) ?_
          refine WAF.add (i := 1) (d := 194) rfl (QF.mk [] [] rfl rfl kr_ rfl (QAt.y Wt.none (Yd.move rfl))) ?_
          refine WAF.add (i := 2) (d := 195) rfl (QF.mk [1, 0] [(194, _), (193, _)] rfl rfl kr_ rfl (QAt.y Wt.none (Yd.eql64 _ _ rfl rfl rfl rfl))) ?_
          refine WAF.ren (v := .bool true) (congrArg Value.bool (decide_eq_true rfl)) ?_
          refine WAF.add (i := 3) (d := 196) rfl (QF.mk [2] [(195, _)] rfl rfl kr_ rfl (QAt.y Wt.none (Yd.move rfl))) ?_
          refine WAF.add (i := 4) (d := 197) rfl (QF.mk [3] [(196, _)] rfl rfl kr_ rfl (QAt.y (Wt.yes (dj := 196) rfl rfl) (Yd.move rfl))) ?_
          refine WAF.add (i := 5) (d := 198) rfl (QF.mk [3] [(196, _)] rfl rfl kr_ rfl (QAt.y (Wt.yes (dj := 196) rfl rfl) (Yd.move rfl))) ?_
          refine WAF.add (i := 6) (d := 199) rfl (QF.mk [5, 4, 3] [(198, _), (197, _), (196, _)] rfl rfl kr_ rfl (QAt.y (Wt.yes (dj := 196) rfl rfl) (Yd.eql rfl rfl))) ?_
          refine WAF.ren (v := .bool true) (congrArg Value.bool (decide_eq_true rfl)) ?_
          refine WAF.add (i := 7) (d := 200) rfl (QF.mk [6, 3] [(199, _), (196, _)] rfl rfl kr_ rfl (QAt.y Wt.none (Yd.pickT rfl rfl))) ?_
          refine WAF.add (i := 8) (d := 201) rfl (QF.mk [7, 3] [(200, _), (196, _)] rfl rfl kr_ rfl (QAt.y Wt.none (Yd.move rfl))) ?_
          refine WAF.add (i := 9) (d := 202) rfl (QF.mk [8] [(201, _)] rfl rfl kr_ rfl (QAt.y (Wt.yes (dj := 201) rfl rfl) (Yd.move rfl))) ?_
          refine WAF.add (i := 10) (d := 203) rfl (QF.mk [8] [(201, _)] rfl rfl kr_ rfl (QAt.y (Wt.yes (dj := 201) rfl rfl) (Yd.fieldAddr (k := 14) kr_ rfl))) ?_
          refine WAF.add (i := 11) (d := 204) rfl (QF.mk [10, 8] [(203, _), (201, _)] rfl rfl kr_ rfl (QAt.rd (Wt.yes (dj := 201) rfl rfl) (Rd.load1 kr_ rfl mem_ (by rfl)))) ?_
          refine WAF.add (i := 12) (d := 205) rfl (QF.mk [11, 9, 8] [(204, _), (202, _), (201, _)] rfl rfl kr_ rfl (QAt.rf (Wt.yes (dj := 201) rfl rfl) (Ent.func Try.call28 rfl) (clock_reads p (tickW W a.at_) C2 hW2 (inv.tick a.at_) a.at_) sp_)) ?_
          refine WAF.add (i := 13) (d := 206) rfl (QF.mk [8] [(201, _)] rfl rfl kr_ rfl (QAt.y (Wt.yes (dj := 201) rfl rfl) (Yd.move rfl))) ?_
          refine WAF.add (i := 14) (d := 207) rfl (QF.mk [8] [(201, _)] rfl rfl kr_ rfl (QAt.y (Wt.yes (dj := 201) rfl rfl) (Yd.fieldAddr (k := 14) kr_ rfl))) ?_
          refine WAF.add (i := 15) (d := 208) rfl (QF.mk [14, 8] [(207, _), (201, _)] rfl rfl kr_ rfl (QAt.rd (Wt.yes (dj := 201) rfl rfl) (Rd.load1 kr_ rfl mem_ (by rfl)))) ?_
          refine WAF.add (i := 16) (d := 209) rfl (QF.mk [15, 13, 12, 8] [(208, _), (206, _), (205, _), (201, _)] rfl rfl kr_ rfl (QAt.rf (Wt.yes (dj := 201) rfl rfl) (Ent.func Try.call44 rfl) (rwclock_reads q (tickW W a.at_) cu (ticksC W ti a.at_) H Q2 hQ2 (inv.tick a.at_) hrt (by omega) (by omega) a.at_) sp_)) ?_
          refine WAF.add (i := 17) (d := 210) rfl (QF.mk [16, 12, 8] [(209, _), (205, _), (201, _)] rfl rfl kr_ rfl (QAt.y (Wt.yes (dj := 201) rfl rfl) (Yd.eql64 _ _ rfl rfl rfl rfl))) ?_
          refine WAF.ren (v := .bool true) (congrArg Value.bool (decide_eq_true rfl)) ?_
          refine WAF.add (i := 18) (d := 211) rfl (QF.mk [17, 8] [(210, _), (201, _)] rfl rfl kr_ rfl (QAt.y Wt.none (Yd.pickT rfl rfl))) ?_
          refine WAF.step (pd := [(18, 211), (17, 210), (16, 209), (15, 208), (14, 207), (13, 206), (12, 205), (11, 204), (10, 203), (9, 202), (8, 201), (7, 200), (6, 199), (5, 198), (4, 197), (3, 196), (2, 195), (1, 194), (0, 193)]) [(19, [18, 17, 16, 15, 14, 13, 12, 11, 10, 9, 8, 7, 6, 5, 4, 3, 2, 1, 0])] rfl kr_ kr_ (all_c rfl (all_c rfl (all_c rfl (all_c rfl (all_c rfl (all_c rfl (all_c rfl (all_c rfl (all_c rfl (all_c rfl (all_c rfl (all_c rfl (all_c rfl (all_c rfl (all_c rfl (all_c rfl (all_c rfl (all_c rfl (all_c rfl (all_n)))))))))))))))))))) (all_c (QF.mk [17, 8] [(210, _), (201, _)] rfl rfl kr_ rfl (QAt.y Wt.none (Yd.pickT rfl rfl))) (all_c (QF.ren (congrArg Value.bool (decide_eq_true rfl)) (QF.mk [16, 12, 8] [(209, _), (205, _), (201, _)] rfl rfl kr_ rfl (QAt.y (Wt.yes (dj := 201) rfl rfl) (Yd.eql64 _ _ rfl rfl rfl rfl)))) (all_c (QF.mk [15, 13, 12, 8] [(208, _), (206, _), (205, _), (201, _)] rfl rfl kr_ rfl (QAt.rf (Wt.yes (dj := 201) rfl rfl) (Ent.func Try.call44 rfl) (rwclock_reads q (tickW W a.at_) cu (ticksC W ti a.at_) H Q2 hQ2 (inv.tick a.at_) hrt (by omega) (by omega) a.at_) sp_)) (all_c (QF.mk [14, 8] [(207, _), (201, _)] rfl rfl kr_ rfl (QAt.rd (Wt.yes (dj := 201) rfl rfl) (Rd.load1 kr_ rfl mem_ (by rfl)))) (all_c (QF.mk [8] [(201, _)] rfl rfl kr_ rfl (QAt.y (Wt.yes (dj := 201) rfl rfl) (Yd.fieldAddr (k := 14) kr_ rfl))) (all_c (QF.mk [8] [(201, _)] rfl rfl kr_ rfl (QAt.y (Wt.yes (dj := 201) rfl rfl) (Yd.move rfl))) (all_c (QF.mk [11, 9, 8] [(204, _), (202, _), (201, _)] rfl rfl kr_ rfl (QAt.rf (Wt.yes (dj := 201) rfl rfl) (Ent.func Try.call28 rfl) (clock_reads p (tickW W a.at_) C2 hW2 (inv.tick a.at_) a.at_) sp_)) (all_c (QF.mk [10, 8] [(203, _), (201, _)] rfl rfl kr_ rfl (QAt.rd (Wt.yes (dj := 201) rfl rfl) (Rd.load1 kr_ rfl mem_ (by rfl)))) (all_c (QF.mk [8] [(201, _)] rfl rfl kr_ rfl (QAt.y (Wt.yes (dj := 201) rfl rfl) (Yd.fieldAddr (k := 14) kr_ rfl))) (all_c (QF.mk [8] [(201, _)] rfl rfl kr_ rfl (QAt.y (Wt.yes (dj := 201) rfl rfl) (Yd.move rfl))) (all_c (QF.mk [7, 3] [(200, _), (196, _)] rfl rfl kr_ rfl (QAt.y Wt.none (Yd.move rfl))) (all_c (QF.mk [6, 3] [(199, _), (196, _)] rfl rfl kr_ rfl (QAt.y Wt.none (Yd.pickT rfl rfl))) (all_c (QF.ren (congrArg Value.bool (decide_eq_true rfl)) (QF.mk [5, 4, 3] [(198, _), (197, _), (196, _)] rfl rfl kr_ rfl (QAt.y (Wt.yes (dj := 196) rfl rfl) (Yd.eql rfl rfl)))) (all_c (QF.mk [3] [(196, _)] rfl rfl kr_ rfl (QAt.y (Wt.yes (dj := 196) rfl rfl) (Yd.move rfl))) (all_c (QF.mk [3] [(196, _)] rfl rfl kr_ rfl (QAt.y (Wt.yes (dj := 196) rfl rfl) (Yd.move rfl))) (all_c (QF.mk [2] [(195, _)] rfl rfl kr_ rfl (QAt.y Wt.none (Yd.move rfl))) (all_c (QF.ren (congrArg Value.bool (decide_eq_true rfl)) (QF.mk [1, 0] [(194, _), (193, _)] rfl rfl kr_ rfl (QAt.y Wt.none (Yd.eql64 _ _ rfl rfl rfl rfl)))) (all_c (QF.mk [] [] rfl rfl kr_ rfl (QAt.y Wt.none (Yd.move rfl))) (all_c (QF.mk [] [] rfl rfl kr_ rfl (QAt.y Wt.none (Yd.move rfl))) (all_n)))))))))))))))))))) (all_c ?_ (all_n))
          ·change SO _ _ _ _ _ _ 19 ([(211, _), (210, _), (209, _), (208, _), (207, _), (206, _), (205, _), (204, _), (203, _), (202, _), (201, _), (200, _), (199, _), (198, _), (197, _), (196, _), (195, _), (194, _), (193, _)] ++ _) _ _
           refine SO.y rfl Wt.none rfl (Yd.assign rfl) ?_
           change WAF _ _ _ _ _ _ [] _ [19, 18, 17, 16, 15, 14, 13, 12, 11, 10, 9, 8, 7, 6, 5, 4, 3, 2, 1, 0] ((6, _) :: ([(211, _), (210, _), (209, _), (208, _), (207, _), (206, _), (205, _), (204, _), (203, _), (202, _), (201, _), (200, _), (199, _), (198, _), (197, _), (196, _), (195, _), (194, _), (193, _)] ++ _)) _
           refine WAF.done (pd := []) rfl kr_ kr_ (all_n) (all_n) ?_
           change DN _ _ _ _ _ _ ([] ++ _) _
           refine DN.then_normal ?_
           refine WC.ret ?_
           refine DN.fit (C := C2 ++ (Q2 ++ H)) sp_ ?_
           refine DN.ret1 Try.results22 rfl ?_
           first
           | exact ⟨rfl, _, _, _, C2, Q2, hW2, hQ2, inv.send _, rel.send _, Nat.le_succ _, Nat.le_succ _, rfl⟩
           | exact ⟨rfl, _, _, _, C2, Q2, hW2, hQ2, inv.out _, rel.out _, Nat.le_succ _, Nat.le_succ _, rfl⟩
           | exact ⟨rfl, _, _, _, C2, Q2, hW2, hQ2, inv.copy _, rel.copy _, Nat.le_succ _, Nat.le_succ _, rfl⟩
           | exact ⟨rfl, _, _, _, C2, Q2, hW2, hQ2, inv.late _, rel.late _, Nat.le_succ _, Nat.le_succ _, rfl⟩
           | exact ⟨rfl, _, _, _, C2, Q2, hW2, hQ2, inv.cut' _ _ _, rel.cut' inv _ _ _, cuts_len _ _ _ _ _, Nat.le_succ _, rfl⟩
           | exact ⟨rfl, _, _, _, C2, Q2, hW2, hQ2, inv.tick _, hrt, Nat.le_succ _, htl, rfl⟩
    ·refine WC.region ?_
     refine WL.y rfl (Yd.eql rfl rfl) ?_
     refine a_ rfl rfl ?_
     refine nt_ ?_
     refine WC.ite rfl (fun h89 => ?_) (fun h89 => ?_)
     ·refine sr_ ?_
      refine m_ rfl rfl ?_
      refine f_ 14 kr_ rfl rfl ?_
      refine d_ kr_ rfl mem_ (by rfl) rfl ?_
      refine WL.c rfl (Ent.func Try.call13 rfl) (pick_tells p W C hW inv a.at_) (Sp.p sp_) ?_
      rintro x H9 ⟨uk, ud, A6, B6, C2, rfl, hA6, hB6, hW2, rfl⟩
      obtain ⟨uko, ukc, rfl, _⟩ := hA6.form
      obtain ⟨udo, udc, rfl, _⟩ := hB6.form
      refine m_ rfl rfl ?_
      refine x_ rfl rfl rfl ?_
      refine x_ rfl rfl rfl ?_
      refine WL.h rfl (Hd.alloc (zs := [.int .i64 0, .int .i64 0, .int .i64 0, .int .u32 0, .int .u32 0, .int .u64 0, .int .u64 0, .int .u32 0, .int .i64 0, .bool false, .int .i64 0, .slice none 0 0, .slice none 0 0]) kr_ fun b11 => ⟨_, rfl, ?_⟩)
      refine WL.s (Hd.storeAll (n := 13) (vs := ltc (pickL W a.at_) (.slice uko (pickL W a.at_).n.key.length ukc) (.slice udo (pickL W a.at_).n.data.length udc)) kr_ rfl rfl (by rfl) (ltc_one9 rfl rfl) fr_ (by rfl) ⟨rfl, ?_⟩)
      refine a_ rfl rfl ?_
      refine ntsr_ ?_
      refine m_ rfl rfl ?_
      refine f_ 14 kr_ rfl rfl ?_
      refine d_ kr_ rfl mem_ (by rfl) rfl ?_
      refine WL.c rfl (Ent.func Try.call38 rfl) (rwpick_tells q W cu ti H Q hQ inv rel (by omega) a.at_) (Sp.p sp_) ?_
      rintro x Q2 ⟨wk, wd, rfl, hA7, hB7, hQ2⟩
      obtain ⟨vko, vkc, rfl, _⟩ := hA7.form
      obtain ⟨vdo, vdc, rfl, _⟩ := hB7.form
      refine m_ rfl rfl ?_
      refine x_ rfl rfl rfl ?_
      refine x_ rfl rfl rfl ?_
      refine WL.h rfl (Hd.alloc (zs := [.int .i64 0, .int .i64 0, .int .i64 0, .int .u32 0, .int .u32 0, .int .u64 0, .int .u64 0, .int .u32 0, .int .i64 0, .bool false, .int .i64 0, .slice none 0 0, .slice none 0 0]) kr_ fun b13 => ⟨_, rfl, ?_⟩)
      refine WL.s (Hd.storeAll (n := 13) (vs := ltc (pickL W a.at_) (.slice vko (pickL W a.at_).n.key.length vkc) (.slice vdo (pickL W a.at_).n.data.length vdc)) kr_ rfl rfl (by rfl) (ltc_one9 rfl rfl) fr_ (by rfl) ⟨rfl, ?_⟩)
      refine a_ rfl rfl ?_
      refine ntsr_ ?_
      refine WL.h rfl (Hd.loadAll (n := 13) kr_ rfl mem_ (by rfl) ⟨_, rfl, ?_⟩)
      refine WL.h rfl (Hd.loadAll (n := 13) kr_ rfl mem_ (by rfl) ⟨_, rfl, ?_⟩)
      refine WL.rf rfl (Ent.func Try.call25 rfl) (same18_reads (pickL W a.at_) (pickL W a.at_) _ _ _ _ (A6 ++ (B6 ++ H)) (hA6.bs.mono gr_) (hB6.bs.mono gr_) (hA7.mono gr_) (hB7.mono gr_)) sp_ ?_
      refine WL.renamed (t := 108) (v := .bool true) rfl (congrArg Value.bool (sameL_refl _)) ?_
      refine m_ rfl rfl ?_
      refine gy_ 109 rfl rfl rfl (Yd.move rfl) ?_
      refine gy_ 109 rfl rfl rfl (Yd.move rfl) ?_
      refine gy_ 109 rfl rfl rfl (Yd.eqlB Try.underlying4 rfl rfl) ?_
      refine WL.renamed (t := 112) (v := .bool true) rfl (congrArg Value.bool (by simp)) ?_
      refine WL.y rfl (Yd.pickT rfl rfl) ?_
      refine a_ rfl rfl ?_
      refine ntsr_ ?_
      refine f_ 2 kr_ rfl rfl ?_
      refine f_ 10 kr_ rfl rfl ?_
      refine d_ kr_ rfl mem_ (by rfl) rfl ?_
      refine WL.c rfl (Ent.func Try.call26 rfl) (spoil_own udo udc (pickL W a.at_).n.data B6 hB6 (by omega)) (Sp.p sp_) ?_
      intro x H9 hH9
      subst hH9
      rw [List.nil_append]
      refine ntsr_ ?_
      refine m_ rfl rfl ?_
      refine a_ rfl rfl ?_
      refine nt_ ?_
      refine WC.ret ?_
      refine DN.block_ret ?_
      refine DN.then_ret ?_
      refine DN.fit (C := C2 ++ (Q2 ++ H)) sp_ ?_
      refine DN.ret1 Try.results22 rfl ?_
      first
      | exact ⟨rfl, _, _, _, C2, Q2, hW2, hQ2, inv.send _, rel.send _, Nat.le_succ _, Nat.le_succ _, rfl⟩
      | exact ⟨rfl, _, _, _, C2, Q2, hW2, hQ2, inv.out _, rel.out _, Nat.le_succ _, Nat.le_succ _, rfl⟩
      | exact ⟨rfl, _, _, _, C2, Q2, hW2, hQ2, inv.copy _, rel.copy _, Nat.le_succ _, Nat.le_succ _, rfl⟩
      | exact ⟨rfl, _, _, _, C2, Q2, hW2, hQ2, inv.late _, rel.late _, Nat.le_succ _, Nat.le_succ _, rfl⟩
      | exact ⟨rfl, _, _, _, C2, Q2, hW2, hQ2, inv.cut' _ _ _, rel.cut' inv _ _ _, cuts_len _ _ _ _ _, Nat.le_succ _, rfl⟩
      | exact ⟨rfl, _, _, _, C2, Q2, hW2, hQ2, inv.tick _, hrt, Nat.le_succ _, htl, rfl⟩
     ·refine sr_ ?_
      refine WL.y rfl (Yd.eql rfl rfl) ?_
      refine a_ rfl rfl ?_
      refine nt_ ?_
      refine WC.ite rfl (fun h119 => ?_) (fun h119 => ?_)
      ·refine sr_ ?_
       refine m_ rfl rfl ?_
       refine f_ 14 kr_ rfl rfl ?_
       refine d_ kr_ rfl mem_ (by rfl) rfl ?_
       refine WL.c rfl (Ent.func Try.call19 rfl) (lose_tells p W C hW inv a.at_) (Sp.p sp_) ?_
       rintro x C2 ⟨rfl, hW2⟩
       refine a_ rfl rfl ?_
       refine ntsr_ ?_
       refine m_ rfl rfl ?_
       refine f_ 14 kr_ rfl rfl ?_
       refine d_ kr_ rfl mem_ (by rfl) rfl ?_
       refine WL.c rfl (Ent.func Try.call39 rfl) (rlose_tells q W cu ti H Q hQ (by have := inv.few; omega) a.at_) (Sp.p sp_) ?_
       rintro x Q2 ⟨rfl, hQ2⟩
       refine a_ rfl rfl ?_
       refine ntsr_ ?_
       refine m_ rfl rfl ?_
       refine m_ rfl rfl ?_
       refine WL.y rfl (Yd.eqlB Try.underlying4 rfl rfl) ?_
       refine WL.renamed (t := 131) (v := .bool true) rfl (congrArg Value.bool (by simp)) ?_
       refine a_ rfl rfl ?_
       refine nt_ ?_
       refine WC.ret ?_
       refine DN.block_ret ?_
       refine DN.then_ret ?_
       refine DN.fit (C := C2 ++ (Q2 ++ H)) sp_ ?_
       refine DN.ret1 Try.results22 rfl ?_
       first
       | exact ⟨rfl, _, _, _, C2, Q2, hW2, hQ2, inv.send _, rel.send _, Nat.le_succ _, Nat.le_succ _, rfl⟩
       | exact ⟨rfl, _, _, _, C2, Q2, hW2, hQ2, inv.out _, rel.out _, Nat.le_succ _, Nat.le_succ _, rfl⟩
       | exact ⟨rfl, _, _, _, C2, Q2, hW2, hQ2, inv.copy _, rel.copy _, Nat.le_succ _, Nat.le_succ _, rfl⟩
       | exact ⟨rfl, _, _, _, C2, Q2, hW2, hQ2, inv.late _, rel.late _, Nat.le_succ _, Nat.le_succ _, rfl⟩
       | exact ⟨rfl, _, _, _, C2, Q2, hW2, hQ2, inv.cut' _ _ _, rel.cut' inv _ _ _, cuts_len _ _ _ _ _, Nat.le_succ _, rfl⟩
       | exact ⟨rfl, _, _, _, C2, Q2, hW2, hQ2, inv.tick _, hrt, Nat.le_succ _, htl, rfl⟩
      ·refine sr_ ?_
       refine WL.y rfl (Yd.eql rfl rfl) ?_
       refine a_ rfl rfl ?_
       refine nt_ ?_
       refine WC.ite rfl (fun h132 => ?_) (fun h132 => ?_)
       ·refine sr_ ?_
        refine m_ rfl rfl ?_
        refine f_ 14 kr_ rfl rfl ?_
        refine d_ kr_ rfl mem_ (by rfl) rfl ?_
        refine WL.c rfl (Ent.func Try.call20 rfl) (copy_tells p W C hW inv a.at_) (Sp.p sp_) ?_
        rintro x C2 ⟨rfl, hW2⟩
        refine a_ rfl rfl ?_
        refine ntsr_ ?_
        refine m_ rfl rfl ?_
        refine f_ 14 kr_ rfl rfl ?_
        refine d_ kr_ rfl mem_ (by rfl) rfl ?_
        refine WL.c rfl (Ent.func Try.call40 rfl) (rwcopy_tells q W cu ti H Q hQ inv a.at_) (Sp.p sp_) ?_
        rintro x Q2 ⟨rfl, hQ2⟩
        refine a_ rfl rfl ?_
        refine ntsr_ ?_
        refine m_ rfl rfl ?_
        refine m_ rfl rfl ?_
        refine WL.y rfl (Yd.eqlB Try.underlying4 rfl rfl) ?_
        refine WL.renamed (t := 144) (v := .bool true) rfl (congrArg Value.bool (by simp)) ?_
        refine a_ rfl rfl ?_
        refine nt_ ?_
        refine WC.ret ?_
        refine DN.block_ret ?_
        refine DN.then_ret ?_
        refine DN.fit (C := C2 ++ (Q2 ++ H)) sp_ ?_
        refine DN.ret1 Try.results22 rfl ?_
        first
        | exact ⟨rfl, _, _, _, C2, Q2, hW2, hQ2, inv.send _, rel.send _, Nat.le_succ _, Nat.le_succ _, rfl⟩
        | exact ⟨rfl, _, _, _, C2, Q2, hW2, hQ2, inv.out _, rel.out _, Nat.le_succ _, Nat.le_succ _, rfl⟩
        | exact ⟨rfl, _, _, _, C2, Q2, hW2, hQ2, inv.copy _, rel.copy _, Nat.le_succ _, Nat.le_succ _, rfl⟩
        | exact ⟨rfl, _, _, _, C2, Q2, hW2, hQ2, inv.late _, rel.late _, Nat.le_succ _, Nat.le_succ _, rfl⟩
        | exact ⟨rfl, _, _, _, C2, Q2, hW2, hQ2, inv.cut' _ _ _, rel.cut' inv _ _ _, cuts_len _ _ _ _ _, Nat.le_succ _, rfl⟩
        | exact ⟨rfl, _, _, _, C2, Q2, hW2, hQ2, inv.tick _, hrt, Nat.le_succ _, htl, rfl⟩
       ·refine sr_ ?_
        refine WL.y rfl (Yd.eql rfl rfl) ?_
        refine a_ rfl rfl ?_
        refine nt_ ?_
        refine WC.ite rfl (fun h145 => ?_) (fun h145 => ?_)
        ·refine sr_ ?_
         refine m_ rfl rfl ?_
         refine f_ 14 kr_ rfl rfl ?_
         refine d_ kr_ rfl mem_ (by rfl) rfl ?_
         refine WL.c rfl (Ent.func Try.call12 rfl) (late_tells p W C hW inv a.at_) (Sp.p sp_) ?_
         rintro x C2 ⟨rfl, hW2⟩
         refine a_ rfl rfl ?_
         refine ntsr_ ?_
         refine m_ rfl rfl ?_
         refine f_ 14 kr_ rfl rfl ?_
         refine d_ kr_ rfl mem_ (by rfl) rfl ?_
         refine WL.c rfl (Ent.func Try.call41 rfl) (rwlate_tells q W cu ti H Q hQ inv a.at_) (Sp.p sp_) ?_
         rintro x Q2 ⟨rfl, hQ2⟩
         refine a_ rfl rfl ?_
         refine ntsr_ ?_
         refine m_ rfl rfl ?_
         refine m_ rfl rfl ?_
         refine WL.y rfl (Yd.eqlB Try.underlying4 rfl rfl) ?_
         refine WL.renamed (t := 157) (v := .bool true) rfl (congrArg Value.bool (by simp)) ?_
         refine a_ rfl rfl ?_
         refine nt_ ?_
         refine WC.ret ?_
         refine DN.block_ret ?_
         refine DN.then_ret ?_
         refine DN.fit (C := C2 ++ (Q2 ++ H)) sp_ ?_
         refine DN.ret1 Try.results22 rfl ?_
         first
         | exact ⟨rfl, _, _, _, C2, Q2, hW2, hQ2, inv.send _, rel.send _, Nat.le_succ _, Nat.le_succ _, rfl⟩
         | exact ⟨rfl, _, _, _, C2, Q2, hW2, hQ2, inv.out _, rel.out _, Nat.le_succ _, Nat.le_succ _, rfl⟩
         | exact ⟨rfl, _, _, _, C2, Q2, hW2, hQ2, inv.copy _, rel.copy _, Nat.le_succ _, Nat.le_succ _, rfl⟩
         | exact ⟨rfl, _, _, _, C2, Q2, hW2, hQ2, inv.late _, rel.late _, Nat.le_succ _, Nat.le_succ _, rfl⟩
         | exact ⟨rfl, _, _, _, C2, Q2, hW2, hQ2, inv.cut' _ _ _, rel.cut' inv _ _ _, cuts_len _ _ _ _ _, Nat.le_succ _, rfl⟩
         | exact ⟨rfl, _, _, _, C2, Q2, hW2, hQ2, inv.tick _, hrt, Nat.le_succ _, htl, rfl⟩
        ·refine sr_ ?_
         refine WL.y rfl (Yd.eql rfl rfl) ?_
         refine a_ rfl rfl ?_
         refine nt_ ?_
         refine WC.ite rfl (fun h158 => ?_) (fun h158 => ?_)
         ·refine sr_ ?_
          refine m_ rfl rfl ?_
          refine f_ 14 kr_ rfl rfl ?_
          refine d_ kr_ rfl mem_ (by rfl) rfl ?_
          refine f_ 15 kr_ rfl rfl ?_
          refine d_ kr_ rfl mem_ (by rfl) rfl ?_
          refine f_ 16 kr_ rfl rfl ?_
          refine d_ kr_ rfl mem_ (by rfl) rfl ?_
          refine WL.c rfl (Ent.func Try.call16 rfl) (cut_tells p W C hW inv a.at_ a.to a.on) (Sp.p sp_) ?_
          rintro x C2 ⟨rfl, hW2⟩
          refine a_ rfl rfl ?_
          refine ntsr_ ?_
          refine m_ rfl rfl ?_
          refine f_ 14 kr_ rfl rfl ?_
          refine d_ kr_ rfl mem_ (by rfl) rfl ?_
          refine f_ 15 kr_ rfl rfl ?_
          refine d_ kr_ rfl mem_ (by rfl) rfl ?_
          refine f_ 16 kr_ rfl rfl ?_
          refine d_ kr_ rfl mem_ (by rfl) rfl ?_
          refine WL.c rfl (Ent.func Try.call42 rfl) (rwcut_tells q W cu ti H Q hQ inv (by omega) a.at_ a.to a.on) (Sp.p sp_) ?_
          rintro x Q2 ⟨rfl, hQ2⟩
          refine a_ rfl rfl ?_
          refine ntsr_ ?_
          refine m_ rfl rfl ?_
          refine m_ rfl rfl ?_
          refine WL.y rfl (Yd.eql rfl rfl) ?_
          refine WL.renamed (t := 178) (v := .bool true) rfl (congrArg Value.bool (decide_eq_true rfl)) ?_
          refine a_ rfl rfl ?_
          refine nt_ ?_
          refine WC.ret ?_
          refine DN.block_ret ?_
          refine DN.then_ret ?_
          refine DN.fit (C := C2 ++ (Q2 ++ H)) sp_ ?_
          refine DN.ret1 Try.results22 rfl ?_
          first
          | exact ⟨rfl, _, _, _, C2, Q2, hW2, hQ2, inv.send _, rel.send _, Nat.le_succ _, Nat.le_succ _, rfl⟩
          | exact ⟨rfl, _, _, _, C2, Q2, hW2, hQ2, inv.out _, rel.out _, Nat.le_succ _, Nat.le_succ _, rfl⟩
          | exact ⟨rfl, _, _, _, C2, Q2, hW2, hQ2, inv.copy _, rel.copy _, Nat.le_succ _, Nat.le_succ _, rfl⟩
          | exact ⟨rfl, _, _, _, C2, Q2, hW2, hQ2, inv.late _, rel.late _, Nat.le_succ _, Nat.le_succ _, rfl⟩
          | exact ⟨rfl, _, _, _, C2, Q2, hW2, hQ2, inv.cut' _ _ _, rel.cut' inv _ _ _, cuts_len _ _ _ _ _, Nat.le_succ _, rfl⟩
          | exact ⟨rfl, _, _, _, C2, Q2, hW2, hQ2, inv.tick _, hrt, Nat.le_succ _, htl, rfl⟩
         ·refine WC.skip ?_
          refine DN.block_normal ?_
          refine ts_ ?_
          refine WC.region ?_
          refine m_ rfl rfl ?_
          refine f_ 14 kr_ rfl rfl ?_
          refine d_ kr_ rfl mem_ (by rfl) rfl ?_
          refine WL.c rfl (Ent.func Try.call27 rfl) (tick_tells p W C hW inv a.at_) (Sp.p sp_) ?_
          rintro x C2 ⟨rfl, hW2⟩
          refine m_ rfl rfl ?_
          refine x_ rfl rfl rfl ?_
          refine x_ rfl rfl rfl ?_
          refine a_ rfl rfl ?_
          refine a_ rfl rfl ?_
          refine ntsr_ ?_
          refine m_ rfl rfl ?_
          refine f_ 14 kr_ rfl rfl ?_
          refine d_ kr_ rfl mem_ (by rfl) rfl ?_
          refine WL.c rfl (Ent.func Try.call43 rfl) (rwtick_tells q W cu ti H Q hQ inv rel (by omega) (by omega) a.at_) (Sp.p sp_) ?_
          rintro x Q2 ⟨rfl, hQ2⟩
          have hrt := rel.tick inv a.at_
          have htl := ticks_len W ti a.at_
          refine m_ rfl rfl ?_
          refine x_ rfl rfl rfl ?_
          refine x_ rfl rfl rfl ?_
          refine a_ rfl rfl ?_
          refine a_ rfl rfl ?_
          refine nt_ ?_
          refine WC.seq ?_
          refine WC.draw 20 kr_ rfl ?_
          refine WA.float (N := 20) rfl ?_
          refine WAF.add (i := 0) (d := 193) rfl (QF.mk [] [] rfl rfl kr_ rfl (QAt.y Wt.none (Yd.move rfl))) ?_
          refine WAF.add (i := 1) (d := 194) rfl (QF.mk [] [] rfl rfl kr_ rfl (QAt.y Wt.none (Yd.move rfl))) ?_
          refine WAF.add (i := 2) (d := 195) rfl (QF.mk [1, 0] [(194, _), (193, _)] rfl rfl kr_ rfl (QAt.y Wt.none (Yd.eql64 _ _ rfl rfl rfl rfl))) ?_
          refine WAF.ren (v := .bool true) (congrArg Value.bool (decide_eq_true rfl)) ?_
          refine WAF.add (i := 3) (d := 196) rfl (QF.mk [2] [(195, _)] rfl rfl kr_ rfl (QAt.y Wt.none (Yd.move rfl))) ?_
          refine WAF.add (i := 4) (d := 197) rfl (QF.mk [3] [(196, _)] rfl rfl kr_ rfl (QAt.y (Wt.yes (dj := 196) rfl rfl) (Yd.move rfl))) ?_
          refine WAF.add (i := 5) (d := 198) rfl (QF.mk [3] [(196, _)] rfl rfl kr_ rfl (QAt.y (Wt.yes (dj := 196) rfl rfl) (Yd.move rfl))) ?_
          refine WAF.add (i := 6) (d := 199) rfl (QF.mk [5, 4, 3] [(198, _), (197, _), (196, _)] rfl rfl kr_ rfl (QAt.y (Wt.yes (dj := 196) rfl rfl) (Yd.eql rfl rfl))) ?_
          refine WAF.ren (v := .bool true) (congrArg Value.bool (decide_eq_true rfl)) ?_
          refine WAF.add (i := 7) (d := 200) rfl (QF.mk [6, 3] [(199, _), (196, _)] rfl rfl kr_ rfl (QAt.y Wt.none (Yd.pickT rfl rfl))) ?_
          refine WAF.add (i := 8) (d := 201) rfl (QF.mk [7, 3] [(200, _), (196, _)] rfl rfl kr_ rfl (QAt.y Wt.none (Yd.move rfl))) ?_
          refine WAF.add (i := 9) (d := 202) rfl (QF.mk [8] [(201, _)] rfl rfl kr_ rfl (QAt.y (Wt.yes (dj := 201) rfl rfl) (Yd.move rfl))) ?_
          refine WAF.add (i := 10) (d := 203) rfl (QF.mk [8] [(201, _)] rfl rfl kr_ rfl (QAt.y (Wt.yes (dj := 201) rfl rfl) (Yd.fieldAddr (k := 14) kr_ rfl))) ?_
          refine WAF.add (i := 11) (d := 204) rfl (QF.mk [10, 8] [(203, _), (201, _)] rfl rfl kr_ rfl (QAt.rd (Wt.yes (dj := 201) rfl rfl) (Rd.load1 kr_ rfl mem_ (by rfl)))) ?_
          refine WAF.add (i := 12) (d := 205) rfl (QF.mk [11, 9, 8] [(204, _), (202, _), (201, _)] rfl rfl kr_ rfl (QAt.rf (Wt.yes (dj := 201) rfl rfl) (Ent.func Try.call28 rfl) (clock_reads p (tickW W a.at_) C2 hW2 (inv.tick a.at_) a.at_) sp_)) ?_
          refine WAF.add (i := 13) (d := 206) rfl (QF.mk [8] [(201, _)] rfl rfl kr_ rfl (QAt.y (Wt.yes (dj := 201) rfl rfl) (Yd.move rfl))) ?_
          refine WAF.add (i := 14) (d := 207) rfl (QF.mk [8] [(201, _)] rfl rfl kr_ rfl (QAt.y (Wt.yes (dj := 201) rfl rfl) (Yd.fieldAddr (k := 14) kr_ rfl))) ?_
          refine WAF.add (i := 15) (d := 208) rfl (QF.mk [14, 8] [(207, _), (201, _)] rfl rfl kr_ rfl (QAt.rd (Wt.yes (dj := 201) rfl rfl) (Rd.load1 kr_ rfl mem_ (by rfl)))) ?_
          refine WAF.add (i := 16) (d := 209) rfl (QF.mk [15, 13, 12, 8] [(208, _), (206, _), (205, _), (201, _)] rfl rfl kr_ rfl (QAt.rf (Wt.yes (dj := 201) rfl rfl) (Ent.func Try.call44 rfl) (rwclock_reads q (tickW W a.at_) cu (ticksC W ti a.at_) H Q2 hQ2 (inv.tick a.at_) hrt (by omega) (by omega) a.at_) sp_)) ?_
          refine WAF.add (i := 17) (d := 210) rfl (QF.mk [16, 12, 8] [(209, _), (205, _), (201, _)] rfl rfl kr_ rfl (QAt.y (Wt.yes (dj := 201) rfl rfl) (Yd.eql64 _ _ rfl rfl rfl rfl))) ?_
          refine WAF.ren (v := .bool true) (congrArg Value.bool (decide_eq_true rfl)) ?_
          refine WAF.add (i := 18) (d := 211) rfl (QF.mk [17, 8] [(210, _), (201, _)] rfl rfl kr_ rfl (QAt.y Wt.none (Yd.pickT rfl rfl))) ?_
          refine WAF.step (pd := [(18, 211), (17, 210), (16, 209), (15, 208), (14, 207), (13, 206), (12, 205), (11, 204), (10, 203), (9, 202), (8, 201), (7, 200), (6, 199), (5, 198), (4, 197), (3, 196), (2, 195), (1, 194), (0, 193)]) [(19, [18, 17, 16, 15, 14, 13, 12, 11, 10, 9, 8, 7, 6, 5, 4, 3, 2, 1, 0])] rfl kr_ kr_ (all_c rfl (all_c rfl (all_c rfl (all_c rfl (all_c rfl (all_c rfl (all_c rfl (all_c rfl (all_c rfl (all_c rfl (all_c rfl (all_c rfl (all_c rfl (all_c rfl (all_c rfl (all_c rfl (all_c rfl (all_c rfl (all_c rfl (all_n)))))))))))))))))))) (all_c (QF.mk [17, 8] [(210, _), (201, _)] rfl rfl kr_ rfl (QAt.y Wt.none (Yd.pickT rfl rfl))) (all_c (QF.ren (congrArg Value.bool (decide_eq_true rfl)) (QF.mk [16, 12, 8] [(209, _), (205, _), (201, _)] rfl rfl kr_ rfl (QAt.y (Wt.yes (dj := 201) rfl rfl) (Yd.eql64 _ _ rfl rfl rfl rfl)))) (all_c (QF.mk [15, 13, 12, 8] [(208, _), (206, _), (205, _), (201, _)] rfl rfl kr_ rfl (QAt.rf (Wt.yes (dj := 201) rfl rfl) (Ent.func Try.call44 rfl) (rwclock_reads q (tickW W a.at_) cu (ticksC W ti a.at_) H Q2 hQ2 (inv.tick a.at_) hrt (by omega) (by omega) a.at_) sp_)) (all_c (QF.mk [14, 8] [(207, _), (201, _)] rfl rfl kr_ rfl (QAt.rd (Wt.yes (dj := 201) rfl rfl) (Rd.load1 kr_ rfl mem_ (by rfl)))) (all_c (QF.mk [8] [(201, _)] rfl rfl kr_ rfl (QAt.y (Wt.yes (dj := 201) rfl rfl) (Yd.fieldAddr (k := 14) kr_ rfl))) (all_c (QF.mk [8] [(201, _)] rfl rfl kr_ rfl (QAt.y (Wt.yes (dj := 201) rfl rfl) (Yd.move rfl))) (all_c (QF.mk [11, 9, 8] [(204, _), (202, _), (201, _)] rfl rfl kr_ rfl (QAt.rf (Wt.yes (dj := 201) rfl rfl) (Ent.func Try.call28 rfl) (clock_reads p (tickW W a.at_) C2 hW2 (inv.tick a.at_) a.at_) sp_)) (all_c (QF.mk [10, 8] [(203, _), (201, _)] rfl rfl kr_ rfl (QAt.rd (Wt.yes (dj := 201) rfl rfl) (Rd.load1 kr_ rfl mem_ (by rfl)))) (all_c (QF.mk [8] [(201, _)] rfl rfl kr_ rfl (QAt.y (Wt.yes (dj := 201) rfl rfl) (Yd.fieldAddr (k := 14) kr_ rfl))) (all_c (QF.mk [8] [(201, _)] rfl rfl kr_ rfl (QAt.y (Wt.yes (dj := 201) rfl rfl) (Yd.move rfl))) (all_c (QF.mk [7, 3] [(200, _), (196, _)] rfl rfl kr_ rfl (QAt.y Wt.none (Yd.move rfl))) (all_c (QF.mk [6, 3] [(199, _), (196, _)] rfl rfl kr_ rfl (QAt.y Wt.none (Yd.pickT rfl rfl))) (all_c (QF.ren (congrArg Value.bool (decide_eq_true rfl)) (QF.mk [5, 4, 3] [(198, _), (197, _), (196, _)] rfl rfl kr_ rfl (QAt.y (Wt.yes (dj := 196) rfl rfl) (Yd.eql rfl rfl)))) (all_c (QF.mk [3] [(196, _)] rfl rfl kr_ rfl (QAt.y (Wt.yes (dj := 196) rfl rfl) (Yd.move rfl))) (all_c (QF.mk [3] [(196, _)] rfl rfl kr_ rfl (QAt.y (Wt.yes (dj := 196) rfl rfl) (Yd.move rfl))) (all_c (QF.mk [2] [(195, _)] rfl rfl kr_ rfl (QAt.y Wt.none (Yd.move rfl))) (all_c (QF.ren (congrArg Value.bool (decide_eq_true rfl)) (QF.mk [1, 0] [(194, _), (193, _)] rfl rfl kr_ rfl (QAt.y Wt.none (Yd.eql64 _ _ rfl rfl rfl rfl)))) (all_c (QF.mk [] [] rfl rfl kr_ rfl (QAt.y Wt.none (Yd.move rfl))) (all_c (QF.mk [] [] rfl rfl kr_ rfl (QAt.y Wt.none (Yd.move rfl))) (all_n)))))))))))))))))))) (all_c ?_ (all_n))
          ·change SO _ _ _ _ _ _ 19 ([(211, _), (210, _), (209, _), (208, _), (207, _), (206, _), (205, _), (204, _), (203, _), (202, _), (201, _), (200, _), (199, _), (198, _), (197, _), (196, _), (195, _), (194, _), (193, _)] ++ _) _ _
           refine SO.y rfl Wt.none rfl (Yd.assign rfl) ?_
           change WAF _ _ _ _ _ _ [] _ [19, 18, 17, 16, 15, 14, 13, 12, 11, 10, 9, 8, 7, 6, 5, 4, 3, 2, 1, 0] ((6, _) :: ([(211, _), (210, _), (209, _), (208, _), (207, _), (206, _), (205, _), (204, _), (203, _), (202, _), (201, _), (200, _), (199, _), (198, _), (197, _), (196, _), (195, _), (194, _), (193, _)] ++ _)) _
           refine WAF.done (pd := []) rfl kr_ kr_ (all_n) (all_n) ?_
           change DN _ _ _ _ _ _ ([] ++ _) _
           refine DN.then_normal ?_
           refine WC.ret ?_
           refine DN.fit (C := C2 ++ (Q2 ++ H)) sp_ ?_
           refine DN.ret1 Try.results22 rfl ?_
           first
           | exact ⟨rfl, _, _, _, C2, Q2, hW2, hQ2, inv.send _, rel.send _, Nat.le_succ _, Nat.le_succ _, rfl⟩
           | exact ⟨rfl, _, _, _, C2, Q2, hW2, hQ2, inv.out _, rel.out _, Nat.le_succ _, Nat.le_succ _, rfl⟩
           | exact ⟨rfl, _, _, _, C2, Q2, hW2, hQ2, inv.copy _, rel.copy _, Nat.le_succ _, Nat.le_succ _, rfl⟩
           | exact ⟨rfl, _, _, _, C2, Q2, hW2, hQ2, inv.late _, rel.late _, Nat.le_succ _, Nat.le_succ _, rfl⟩
           | exact ⟨rfl, _, _, _, C2, Q2, hW2, hQ2, inv.cut' _ _ _, rel.cut' inv _ _ _, cuts_len _ _ _ _ _, Nat.le_succ _, rfl⟩
           | exact ⟨rfl, _, _, _, C2, Q2, hW2, hQ2, inv.tick _, hrt, Nat.le_succ _, htl, rfl⟩
theorem nw_inv {n : Int} (h : 1 ≤ n ∧ n ≤ 6) : WInv (newW n) := ⟨h, rfl, rfl, Nat.zero_le _, fun L hL => absurd hL List.not_mem_nil, fun L hL => absurd hL List.not_mem_nil⟩
theorem nw_rel {n : Int} (h : 1 ≤ n ∧ n ≤ 6) : WRel (newW n) [] [] := by
  refine ⟨fun f t hf ht => ?_, fun k hk => ?_, fun x hx => absurd hx List.not_mem_nil⟩
  · have hf := isNode_iff.1 hf
    have ht := isNode_iff.1 ht
    have e : cutAt (newW n) f t = 0 := by
      have h1 : (newW n).n = n := rfl
      unfold cutAt newW
      simp only [List.getD_eq_getElem?_getD, List.getElem?_replicate]
      split <;> rfl
    rw [e]
    simp
  · have hk := isNode_iff.1 hk
    unfold newW
    simp only [List.getD_eq_getElem?_getD, List.getElem?_replicate, List.count_nil]
    split <;> rfl
theorem law_WiresPlays (n : Int) (v : Value) (xs : List Value) (aq : List Aw) (H : List Ck) (hv : Rs v aq.length xs H) (hx : xs.length = aq.length * 17) (hl : aq.length ≤ 9223372036854775807) (hA : AwsAt xs aq H) : Reads Try.prog 7 [.int .i64 n, v] H (.bool true) := by
 refine Tells.enter Try.func7 rfl Try.ntmps7 rfl ?_
 intro w0 R
 obtain ⟨vo, vc, rfl, _⟩ := hv.form
 refine sr_ ?_
 refine a_ rfl rfl ?_
 refine nt_ ?_
 refine WC.seq ?_
 refine sr_ ?_
 refine m_ rfl rfl ?_
 refine WL.c rfl (Ent.func Try.call17 rfl) (long_reads _ xs aq H hv hx hl hA) (Sp.p sp_) ?_
 rintro z9 Hq ⟨hHq, b17, rfl, hsm⟩
 rw [hHq]
 refine nt_ ?_
 refine WC.cond rfl (fun h17 => ?_) (fun h17 => ?_)
 ·refine sr_ ?_
  refine WL.r rfl (Ent.func Try.call15 rfl) (known18 _) ?_
  refine a_ rfl rfl ?_
  refine nt_ ?_
  refine WC.ret ?_
  refine DN.then_ret ?_
  refine DN.fit (C := H) sp_ ?_
  refine DN.ret1 Try.results7 rfl ?_
  exact ⟨rfl, rfl⟩
 ·refine WC.skip ?_
  refine ts_ ?_
  rcases Classical.em (1 ≤ n ∧ n ≤ 6) with hn | hn
  ·refine WC.region ?_
   refine m_ rfl rfl ?_
   refine WL.c rfl (Ent.func Try.call9 rfl) (new_tells n) (Sp.p sp_) ?_
   rintro z9 C0 hq
   first | (rw [if_pos hn] at hq; obtain ⟨p, rfl, h0⟩ := hq) | (rw [if_neg hn] at hq; obtain ⟨rfl, rfl⟩ := hq)
   refine m_ rfl rfl ?_
   refine x_ rfl rfl rfl ?_
   refine x_ rfl rfl rfl ?_
   refine a_ rfl rfl ?_
   refine a_ rfl rfl ?_
   refine ntsr_ ?_
   refine m_ rfl rfl ?_
   refine WL.c rfl (Ent.func Try.call21 rfl) (rwnew_tells n H) (Sp.p sp_) ?_
   rintro z9 Q0 hq9
   first | (rw [if_pos hn] at hq9; obtain ⟨q, rfl, hq0⟩ := hq9) | (rw [if_neg hn] at hq9; obtain ⟨rfl, rfl⟩ := hq9)
   refine m_ rfl rfl ?_
   refine x_ rfl rfl rfl ?_
   refine x_ rfl rfl rfl ?_
   refine a_ rfl rfl ?_
   refine a_ rfl rfl ?_
   refine nt_ ?_
   refine WC.seq ?_
   refine sr_ ?_
   refine m_ rfl rfl ?_
   refine WL.y rfl (Yd.neq rfl rfl) ?_
   refine WL.renamed (t := 30) (v := .bool false) rfl (congrArg Value.bool (by decide)) ?_
   refine nt_ ?_
   refine WC.no rfl ?_
   refine WC.skip ?_
   refine ts_ ?_
   refine sr_ ?_
   refine m_ rfl rfl ?_
   refine WL.y rfl (Yd.eqlNil Try.underlying22 rfl rfl) ?_
   refine WL.renamed (t := 42) (v := .bool false) rfl (congrArg Value.bool (rfl)) ?_
   refine m_ rfl rfl ?_
   refine gy_ 43 rfl rfl rfl (Yd.move rfl) ?_
   refine gy_ 43 rfl rfl rfl (Yd.neq rfl rfl) ?_
   refine WL.renamed (t := 45) (v := .bool false) rfl (congrArg Value.bool (by decide)) ?_
   refine WL.y rfl (Yd.pickF rfl rfl) ?_
   refine nt_ ?_
   refine WC.no rfl ?_
   refine WC.skip ?_
   refine ts_ ?_
   refine sr_ ?_
   refine a_ rfl rfl ?_
   refine nt_ ?_
   refine WC.block ?_
   refine WC.loopS (fun z : Nat × Wn × List (Int × Int) × List Int × List Ck × List Ck => z.1 ≤ aq.length ∧ WAt 72 34 5 p z.2.1 z.2.2.2.2.1 ∧ RwAt 59 34 89 3 q z.2.1 z.2.2.1 z.2.2.2.1 H z.2.2.2.2.2 ∧ WInv z.2.1 ∧ WRel z.2.1 z.2.2.1 z.2.2.2.1 ∧ z.2.2.1.length ≤ z.1 ∧ z.2.2.2.1.length ≤ z.1 ∧ z.1 ≤ 150) (fun z : Nat × Wn × List (Int × Int) × List Int × List Ck × List Ck => [(9, .int .i64 (z.1 : Int))]) (fun z : Nat × Wn × List (Int × Int) × List Int × List Ck × List Ck => z.2.2.2.2.1 ++ (z.2.2.2.2.2 ++ H)) (fun z : Nat × Wn × List (Int × Int) × List Int × List Ck × List Ck => aq.length - z.1) (⟨0, newW n, [], [], C0, Q0⟩) (show 0 ≤ aq.length ∧ WAt 72 34 5 p (newW n) C0 ∧ RwAt 59 34 89 3 q (newW n) [] [] H Q0 ∧ WInv (newW n) ∧ WRel (newW n) [] [] ∧ [].length ≤ 0 ∧ [].length ≤ 0 ∧ 0 ≤ 150 from ⟨Nat.zero_le _, h0, hq0, nw_inv hn, nw_rel hn, Nat.le_refl _, Nat.le_refl _, Nat.zero_le _⟩) (Sx.put rfl (sx_)) sp_ ?_
   rintro ⟨i, W, cu, ti, C, Q⟩ hI
   replace hI : i ≤ aq.length ∧ WAt 72 34 5 p W C ∧ RwAt 59 34 89 3 q W cu ti H Q ∧ WInv W ∧ WRel W cu ti ∧ cu.length ≤ i ∧ ti.length ≤ i ∧ i ≤ 150 := hI
   obtain ⟨hi, hW, hQ, inv, rel, hcu, hti, hi150⟩ := hI
   change WC _ _ _ _ _ _ ([(9, .int .i64 (i : Int))] ++ _) (C ++ (Q ++ H))
   refine WC.seq ?_
   refine sr_ ?_
   refine m_ rfl rfl ?_
   refine m_ rfl rfl ?_
   refine WL.y rfl (Yd.len (e := 50) kr_ rfl) ?_
   refine WL.y rfl (Yd.lss rfl rfl) ?_
   refine m_ rfl rfl ?_
   refine WL.partP (t := 51) rfl (fun hg51 => ?_) (fun hg51 => ?_)
   ·refine gy_ 51 rfl rfl rfl (Yd.move rfl) ?_
    refine gy_ 51 rfl rfl rfl (Yd.lss rfl rfl) ?_
    refine WL.y rfl (Yd.pickT rfl rfl) ?_
    refine nt_ ?_
    refine WC.ite rfl (fun h54 => ?_) (fun h54 => ?_)
    ·have hlt : i < aq.length := by omega
     obtain ⟨hs1, hs2⟩ := hsm h17 i hlt (by omega)
     obtain ⟨vk, vd, hcell, hk, hd, _, _⟩ := hA i hlt
     obtain ⟨ko, kc, rfl, _⟩ := hk.form
     obtain ⟨eo, ec, rfl, _⟩ := hd.form
     refine WC.skip ?_
     refine ts_ ?_
     refine WC.block ?_
     refine sr_ ?_
     iterate 4 refine m_ rfl rfl ?_
     refine WL.elemA (e := 50) (s := 17) kr_ kr_ kr_ rfl rfl (rfl) (hv.mono gr_) (hcell) (by rfl) (by omega) (hlt) rfl rfl ?_
     intro p61
     refine WL.c rfl (Ent.func Try.call22 rfl) (both_tells p q W cu ti H C Q hW hQ inv rel (by omega) (by omega) aq[i] _ _ hk hd hs1 hs2) (Sp.p sp_) ?_
     rintro z9 H9 ⟨rfl, W2, cu2, ti2, C2, Q2, hW2, hQ2, inv2, rel2, hc2, ht2, rfl⟩
     have hQ2' := hQ2
     have hfew2 := inv2.few
     obtain ⟨vL, vC, vT, cs, CL, CC, CT, rfl, hL, hV, hC, hT⟩ := hQ2
     obtain ⟨lo, lc, rfl, hlc⟩ := hL.form
     obtain ⟨co, cc, rfl, hcc⟩ := hC.form
     obtain ⟨to, tc, rfl, htc⟩ := hT.form
     refine WL.blocks (C2 ++ (row q [.int .i64 W2.n, .slice lo W2.ls.length lc, .slice co cu2.length cc, .slice to ti2.length tc] 59 :: ((CL ++ (CC ++ CT)) ++ H))) (by rw [List.append_nil]; exact List.Perm.refl _) ?_
     refine a_ rfl rfl ?_
     refine nt_ ?_
     refine WC.seq ?_
     refine WC.seq ?_
     refine WC.draw 12 kr_ rfl ?_
     refine WA.float (N := 12) rfl ?_
     refine WAF.add (i := 0) (d := 64) rfl (QF.mk [] [] rfl rfl kr_ rfl (QAt.y Wt.none (Yd.move rfl))) ?_
     refine WAF.ren (v := .bool true) (congrArg Value.bool (rfl)) ?_
     refine WAF.add (i := 1) (d := 65) rfl (QF.mk [0] [(64, _)] rfl rfl kr_ rfl (QAt.y Wt.none (Yd.notB rfl))) ?_
     refine WAF.add (i := 2) (d := 66) rfl (QF.mk [1] [(65, _)] rfl rfl kr_ rfl (QAt.y Wt.none (Yd.move rfl))) ?_
     refine WAF.add (i := 3) (d := 67) rfl (QF.mk [2] [(66, _)] rfl rfl kr_ rfl (QAt.y (Wt.yes (dj := 66) rfl rfl) (Yd.move rfl))) ?_
     refine WAF.add (i := 4) (d := 68) rfl (QF.mk [3, 2] [(67, _), (66, _)] rfl rfl kr_ rfl (QAt.rf (Wt.yes (dj := 66) rfl rfl) (Ent.func Try.call14 rfl) (len_reads p W2 C2 hW2) sp_)) ?_
     refine WAF.add (i := 5) (d := 69) rfl (QF.mk [2] [(66, _)] rfl rfl kr_ rfl (QAt.y (Wt.yes (dj := 66) rfl rfl) (Yd.move rfl))) ?_
     refine WAF.add (i := 6) (d := 70) rfl (QF.mk [5, 2] [(69, _), (66, _)] rfl rfl kr_ rfl (QAt.y (Wt.yes (dj := 66) rfl rfl) (Yd.notNil rfl))) ?_
     refine WAF.add (i := 7) (d := 71) rfl (QF.mk [6, 2] [(70, _), (66, _)] rfl rfl kr_ rfl (QAt.y (Wt.yes (dj := 66) rfl rfl) (Yd.fieldAddr (k := 1) kr_ rfl))) ?_
     refine WAF.add (i := 8) (d := 72) rfl (QF.mk [7, 2] [(71, _), (66, _)] rfl rfl kr_ rfl (QAt.rd (Wt.yes (dj := 66) rfl rfl) (Rd.load1 kr_ rfl mem_ (by rfl)))) ?_
     refine WAF.add (i := 9) (d := 73) rfl (QF.mk [8, 2] [(72, _), (66, _)] rfl rfl kr_ rfl (QAt.y (Wt.yes (dj := 66) rfl rfl) (Yd.len (e := 34) kr_ rfl))) ?_
     refine WAF.add (i := 10) (d := 74) rfl (QF.mk [9, 4, 2] [(73, _), (68, _), (66, _)] rfl rfl kr_ rfl (QAt.y (Wt.yes (dj := 66) rfl rfl) (Yd.neq rfl rfl))) ?_
     refine WAF.ren (v := .bool false) (congrArg Value.bool (by simp)) ?_
     refine WAF.add (i := 11) (d := 75) rfl (QF.mk [10, 2] [(74, _), (66, _)] rfl rfl kr_ rfl (QAt.y Wt.none (Yd.pickF rfl rfl))) ?_
     refine WAF.done (pd := [(11, 75), (10, 74), (9, 73), (8, 72), (7, 71), (6, 70), (5, 69), (4, 68), (3, 67), (2, 66), (1, 65), (0, 64)]) rfl kr_ kr_ (all_c rfl (all_c rfl (all_c rfl (all_c rfl (all_c rfl (all_c rfl (all_c rfl (all_c rfl (all_c rfl (all_c rfl (all_c rfl (all_c rfl (all_n))))))))))))) (all_c (QF.mk [10, 2] [(74, _), (66, _)] rfl rfl kr_ rfl (QAt.y Wt.none (Yd.pickF rfl rfl))) (all_c (QF.ren (congrArg Value.bool (by simp)) (QF.mk [9, 4, 2] [(73, _), (68, _), (66, _)] rfl rfl kr_ rfl (QAt.y (Wt.yes (dj := 66) rfl rfl) (Yd.neq rfl rfl)))) (all_c (QF.mk [8, 2] [(72, _), (66, _)] rfl rfl kr_ rfl (QAt.y (Wt.yes (dj := 66) rfl rfl) (Yd.len (e := 34) kr_ rfl))) (all_c (QF.mk [7, 2] [(71, _), (66, _)] rfl rfl kr_ rfl (QAt.rd (Wt.yes (dj := 66) rfl rfl) (Rd.load1 kr_ rfl mem_ (by rfl)))) (all_c (QF.mk [6, 2] [(70, _), (66, _)] rfl rfl kr_ rfl (QAt.y (Wt.yes (dj := 66) rfl rfl) (Yd.fieldAddr (k := 1) kr_ rfl))) (all_c (QF.mk [5, 2] [(69, _), (66, _)] rfl rfl kr_ rfl (QAt.y (Wt.yes (dj := 66) rfl rfl) (Yd.notNil rfl))) (all_c (QF.mk [2] [(66, _)] rfl rfl kr_ rfl (QAt.y (Wt.yes (dj := 66) rfl rfl) (Yd.move rfl))) (all_c (QF.mk [3, 2] [(67, _), (66, _)] rfl rfl kr_ rfl (QAt.rf (Wt.yes (dj := 66) rfl rfl) (Ent.func Try.call14 rfl) (len_reads p W2 C2 hW2) sp_)) (all_c (QF.mk [2] [(66, _)] rfl rfl kr_ rfl (QAt.y (Wt.yes (dj := 66) rfl rfl) (Yd.move rfl))) (all_c (QF.mk [1] [(65, _)] rfl rfl kr_ rfl (QAt.y Wt.none (Yd.move rfl))) (all_c (QF.mk [0] [(64, _)] rfl rfl kr_ rfl (QAt.y Wt.none (Yd.notB rfl))) (all_c (QF.ren (congrArg Value.bool (rfl)) (QF.mk [] [] rfl rfl kr_ rfl (QAt.y Wt.none (Yd.move rfl)))) (all_n))))))))))))) ?_
     change DN _ _ _ _ _ _ ([(75, _), (74, _), (73, _), (72, _), (71, _), (70, _), (69, _), (68, _), (67, _), (66, _), (65, _), (64, _)] ++ _) _
     refine DN.then_normal ?_
     refine WC.no rfl ?_
     refine WC.skip ?_
     refine ts_ ?_
     refine WC.region ?_
     refine a_ rfl rfl ?_
     refine nt_ ?_
     refine WC.block ?_
     refine WC.loopS (fun z : Nat => z ≤ W2.ls.length + 2) (fun z : Nat => [(11, .int .i64 ((z : Int) - 1))]) (fun z : Nat => C2 ++ (row q [.int .i64 W2.n, .slice lo W2.ls.length lc, .slice co cu2.length cc, .slice to ti2.length tc] 59 :: ((CL ++ (CC ++ CT)) ++ H))) (fun z : Nat => W2.ls.length + 2 - z) (0) (show 0 ≤ W2.ls.length + 2 from Nat.zero_le _) (Sx.put rfl (sx_)) sp_ ?_
     rintro k hI
     replace hI : k ≤ W2.ls.length + 2 := hI
     obtain hk9 := hI
     change WC _ _ _ _ _ _ ([(11, .int .i64 ((k : Int) - 1))] ++ _) (C2 ++ (row q [.int .i64 W2.n, .slice lo W2.ls.length lc, .slice co cu2.length cc, .slice to ti2.length tc] 59 :: ((CL ++ (CC ++ CT)) ++ H)))
     refine WC.seq ?_
     refine sr_ ?_
     refine m_ rfl rfl ?_
     refine m_ rfl rfl ?_
     refine n_ rfl rfl ?_
     refine f_ 1 kr_ rfl rfl ?_
     refine d_ kr_ rfl mem_ (by rfl) rfl ?_
     refine WL.y rfl (Yd.len (e := 34) kr_ rfl) ?_
     refine WL.y rfl (Yd.leq rfl rfl) ?_
     refine nt_ ?_
     refine WC.ite rfl (fun h82 => ?_) (fun h82 => ?_)
     ·refine WC.skip ?_
      refine ts_ ?_
      refine WC.block ?_
      refine sr_ ?_
      refine m_ rfl rfl ?_
      refine m_ rfl rfl ?_
      refine WL.c rfl (Ent.func Try.call23 rfl) (look_tells p W2 C2 hW2 inv2 ((k : Int) - 1)) (Sp.p sp_) ?_
      rintro z9 H9 ⟨uk, ud, A6, B6, rfl, hA6, hB6, rfl⟩
      obtain ⟨uko, ukc, rfl, _⟩ := hA6.form
      obtain ⟨udo, udc, rfl, _⟩ := hB6.form
      have hls := look_small inv2 ((k : Int) - 1)
      refine m_ rfl rfl ?_
      refine x_ rfl rfl rfl ?_
      refine x_ rfl rfl rfl ?_
      refine WL.h rfl (Hd.alloc (zs := [.int .i64 0, .int .i64 0, .int .i64 0, .int .u32 0, .int .u32 0, .int .u64 0, .int .u64 0, .int .u32 0, .int .i64 0, .bool false, .int .i64 0, .slice none 0 0, .slice none 0 0]) kr_ fun b12 => ⟨_, rfl, ?_⟩)
      refine WL.s (Hd.storeAll (n := 13) (vs := ltc (lookL W2 ((k : Int) - 1)) (.slice uko (lookL W2 ((k : Int) - 1)).n.key.length ukc) (.slice udo (lookL W2 ((k : Int) - 1)).n.data.length udc)) kr_ rfl rfl (by rfl) (ltc_one9 rfl rfl) fr_ (by rfl) ⟨rfl, ?_⟩)
      refine a_ rfl rfl ?_
      refine ntsr_ ?_
      refine m_ rfl rfl ?_
      refine m_ rfl rfl ?_
      refine WL.c rfl (Ent.func Try.call24 rfl) (rlook_tells q W2 cu2 ti2 H _ hQ2' (by omega) ((k : Int) - 1)) (Sp.p sp_) ?_
      rintro z9 H9 ⟨wk, wd, rfl, hA7, hB7, _, _, hH9⟩
      rw [hH9]
      clear hH9 H9
      obtain ⟨vko, vkc, rfl, _⟩ := hA7.form
      obtain ⟨vdo, vdc, rfl, _⟩ := hB7.form
      refine m_ rfl rfl ?_
      refine x_ rfl rfl rfl ?_
      refine x_ rfl rfl rfl ?_
      refine WL.h rfl (Hd.alloc (zs := [.int .i64 0, .int .i64 0, .int .i64 0, .int .u32 0, .int .u32 0, .int .u64 0, .int .u64 0, .int .u32 0, .int .i64 0, .bool false, .int .i64 0, .slice none 0 0, .slice none 0 0]) kr_ fun b14 => ⟨_, rfl, ?_⟩)
      refine WL.s (Hd.storeAll (n := 13) (vs := ltc (lookL W2 ((k : Int) - 1)) (.slice vko (lookL W2 ((k : Int) - 1)).n.key.length vkc) (.slice vdo (lookL W2 ((k : Int) - 1)).n.data.length vdc)) kr_ rfl rfl (by rfl) (ltc_one9 rfl rfl) fr_ (by rfl) ⟨rfl, ?_⟩)
      refine a_ rfl rfl ?_
      refine nt_ ?_
      refine WC.seq ?_
      refine sr_ ?_
      refine WL.h rfl (Hd.loadAll (n := 13) kr_ rfl mem_ (by rfl) ⟨_, rfl, ?_⟩)
      refine WL.h rfl (Hd.loadAll (n := 13) kr_ rfl mem_ (by rfl) ⟨_, rfl, ?_⟩)
      refine WL.rf rfl (Ent.func Try.call25 rfl) (same18_reads (lookL W2 ((k : Int) - 1)) (lookL W2 ((k : Int) - 1)) _ _ _ _ (A6 ++ (B6 ++ H)) (hA6.bs.mono gr_) (hB6.bs.mono gr_) (hA7.mono gr_) (hB7.mono gr_)) sp_ ?_
      refine WL.renamed (t := 99) (v := .bool true) rfl (congrArg Value.bool (sameL_refl _)) ?_
      refine WL.y rfl (Yd.notB rfl) ?_
      refine m_ rfl rfl ?_
      refine gy_ 101 rfl rfl rfl (Yd.move rfl) ?_
      refine gy_ 101 rfl rfl rfl (Yd.move rfl) ?_
      refine gy_ 101 rfl rfl rfl (Yd.neqB Try.underlying4 rfl rfl) ?_
      refine WL.renamed (t := 104) (v := .bool false) rfl (congrArg Value.bool (by simp)) ?_
      refine WL.y rfl (Yd.pickF rfl rfl) ?_
      refine nt_ ?_
      refine WC.no rfl ?_
      refine WC.skip ?_
      refine ts_ ?_
      refine WC.region ?_
      refine f_ 2 kr_ rfl rfl ?_
      refine f_ 10 kr_ rfl rfl ?_
      refine d_ kr_ rfl mem_ (by rfl) rfl ?_
      refine WL.c rfl (Ent.func Try.call26 rfl) (spoil_own udo udc (lookL W2 ((k : Int) - 1)).n.data B6 hB6 (by omega)) (Sp.p sp_) ?_
      intro z9 H9 hH9
      subst hH9
      rw [List.nil_append]
      refine ntr_ ?_
      refine f_ 2 kr_ rfl rfl ?_
      refine f_ 9 kr_ rfl rfl ?_
      refine d_ kr_ rfl mem_ (by rfl) rfl ?_
      refine WL.c rfl (Ent.func Try.call26 rfl) (spoil_own uko ukc (lookL W2 ((k : Int) - 1)).n.key A6 hA6 (by omega)) (Sp.p sp_) ?_
      intro z9 H9 hH9
      subst hH9
      rw [List.nil_append]
      refine WL.nil ?_
      refine DN.block_normal ?_
      refine DN.then_normal ?_
      refine WC.region ?_
      refine m_ rfl rfl ?_
      refine WL.y rfl (Yd.add rfl rfl (by omega) (by omega)) ?_
      refine a_ rfl rfl ?_
      refine WL.nil ?_
      have e18 : (k : Int) - 1 + 1 = ((k + 1 : Nat) : Int) - 1 := by omega
      rw [e18]
      exact DN.againS (k + 1) (show (k + 1) ≤ W2.ls.length + 2 from (by omega)) (show W2.ls.length + 2 - (k + 1) < W2.ls.length + 2 - k by omega) (Sx.put rfl (sx_)) sp_
     ·refine WC.exit ?_
      refine DN.then_exit ?_
      refine DN.then_exit ?_
      refine DN.block_exit ?_
      refine DN.block_normal ?_
      refine DN.then_normal ?_
      refine WC.region ?_
      refine m_ rfl rfl ?_
      refine WL.y rfl (Yd.add rfl rfl (by omega) (by omega)) ?_
      refine a_ rfl rfl ?_
      refine WL.nil ?_
      exact DN.againS ((i + 1, W2, cu2, ti2, C2, (row q [.int .i64 W2.n, .slice lo W2.ls.length lc, .slice co cu2.length cc, .slice to ti2.length tc] 59 :: (CL ++ (CC ++ CT)))) : Nat × Wn × List (Int × Int) × List Int × List Ck × List Ck) ⟨by show i + 1 ≤ aq.length; omega, hW2, hQ2', inv2, rel2, by show cu2.length ≤ i + 1; omega, by show ti2.length ≤ i + 1; omega, by show i + 1 ≤ 150; omega⟩ (by show aq.length - (i + 1) < aq.length - i; omega) (Sx.put rfl (sx_)) sp_
    ·refine WC.exit ?_
     refine DN.then_exit ?_
     refine DN.then_exit ?_
     refine DN.block_exit ?_
     refine ts_ ?_
     refine WC.region ?_
     refine WL.r rfl (Ent.func Try.call15 rfl) (known18 _) ?_
     refine a_ rfl rfl ?_
     refine nt_ ?_
     refine WC.ret ?_
     refine DN.fit (C := H) sp_ ?_
     refine DN.ret1 Try.results7 rfl ?_
     exact ⟨rfl, rfl⟩
   ·refine gn_ 51 rfl rfl rfl rfl ?_
    refine gn_ 51 rfl rfl rfl rfl ?_
    refine WL.y rfl (Yd.pickF rfl rfl) ?_
    refine nt_ ?_
    refine WC.no rfl ?_
    refine WC.exit ?_
    refine DN.then_exit ?_
    refine DN.then_exit ?_
    refine DN.block_exit ?_
    refine ts_ ?_
    refine WC.region ?_
    refine WL.r rfl (Ent.func Try.call15 rfl) (known18 _) ?_
    refine a_ rfl rfl ?_
    refine nt_ ?_
    refine WC.ret ?_
    refine DN.fit (C := H) sp_ ?_
    refine DN.ret1 Try.results7 rfl ?_
    exact ⟨rfl, rfl⟩
  ·refine WC.region ?_
   refine m_ rfl rfl ?_
   refine WL.c rfl (Ent.func Try.call9 rfl) (new_tells n) (Sp.p sp_) ?_
   rintro z9 C0 hq
   first | (rw [if_pos hn] at hq; obtain ⟨p, rfl, h0⟩ := hq) | (rw [if_neg hn] at hq; obtain ⟨rfl, rfl⟩ := hq)
   refine m_ rfl rfl ?_
   refine x_ rfl rfl rfl ?_
   refine x_ rfl rfl rfl ?_
   refine a_ rfl rfl ?_
   refine a_ rfl rfl ?_
   refine ntsr_ ?_
   refine m_ rfl rfl ?_
   refine WL.c rfl (Ent.func Try.call21 rfl) (rwnew_tells n H) (Sp.p sp_) ?_
   rintro z9 Q0 hq9
   first | (rw [if_pos hn] at hq9; obtain ⟨q, rfl, hq0⟩ := hq9) | (rw [if_neg hn] at hq9; obtain ⟨rfl, rfl⟩ := hq9)
   refine m_ rfl rfl ?_
   refine x_ rfl rfl rfl ?_
   refine x_ rfl rfl rfl ?_
   refine a_ rfl rfl ?_
   refine a_ rfl rfl ?_
   refine nt_ ?_
   refine WC.seq ?_
   refine sr_ ?_
   refine m_ rfl rfl ?_
   refine WL.y rfl (Yd.neq rfl rfl) ?_
   refine WL.renamed (t := 30) (v := .bool true) rfl (congrArg Value.bool (by decide)) ?_
   refine nt_ ?_
   refine WC.yes rfl ?_
   refine sr_ ?_
   refine m_ rfl rfl ?_
   refine WL.y rfl (Yd.eqlNil Try.underlying22 rfl rfl) ?_
   refine WL.renamed (t := 32) (v := .bool true) rfl (congrArg Value.bool (rfl)) ?_
   refine m_ rfl rfl ?_
   refine gy_ 33 rfl rfl rfl (Yd.move rfl) ?_
   refine gy_ 33 rfl rfl rfl (Yd.move rfl) ?_
   refine gy_ 33 rfl rfl rfl (Yd.eql rfl rfl) ?_
   refine WL.renamed (t := 36) (v := .bool true) rfl (congrArg Value.bool (by decide)) ?_
   refine WL.y rfl (Yd.pickT rfl rfl) ?_
   refine m_ rfl rfl ?_
   refine WL.gr (dj := 38) rfl rfl rfl (Ent.func Try.call15 rfl) (known18 _) ?_
   refine WL.y rfl (Yd.pickT rfl rfl) ?_
   refine a_ rfl rfl ?_
   refine nt_ ?_
   refine WC.ret ?_
   refine DN.then_ret ?_
   refine DN.fit (C := H) sp_ ?_
   refine DN.ret1 Try.results7 rfl ?_
   exact ⟨rfl, rfl⟩
end Go.Proofs.Ytgpegfmonmdhoaa
