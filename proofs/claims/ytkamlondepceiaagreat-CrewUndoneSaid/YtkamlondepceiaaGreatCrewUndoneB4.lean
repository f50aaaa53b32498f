/-
  Lemmas and walks that CrewUndone stands on (part 4); no condition.
-/
import Derived.Orders
import Derived.Tactics
import Derived.Scope
import Derived.Below
import Derived.WalkKit
import Derived.KernelRfl
import Derived.Laws.RangeString
import Derived.Laws.StructEq
import Derived.Lib.AppendZerosOnto
import Derived.Laws.CopyRow
import Derived.Lib.Overlaps
import Derived.Laws.IdiomStrings
import Derived.Deep.Quiet
import Derived.Lib.Bytealg
import Derived.Shelf.SlSortCmp.NoneTotal
import Derived.ProofKit
import Derived.OpenShut
import Derived.ShutString
import Derived.ChangeOld
import Derived.Test.YtkamlondepceiaaGreatRows
import Derived.Test.YtkamlondepceiaaGreatCrewUndoneB3

set_option linter.unusedVariables false
set_option linter.unusedSimpArgs false
set_option maxHeartbeats 4000000
namespace Go.Proofs.YtkamlondepceiaaGreat
open Go.SL
theorem do_tells (p : Nat) (s : Cw) (C : List Ck) (h : CwAt 189 198 203 3 5 118 111 22 116 p s C) {g0 : List Gd} {u0 : List Au} {r0 : List Int} (hst : SInv g0 s.K s.L) (hpu : PInv u0 s.U s.Y) (hdk : DInv r0 s.rs s.B) (hno : s.no.length ≤ 100000) (n : Nt) (vk vd : Value) (H : List Ck) (hk : IsSl vk n.key.length) (hvd : Bs vd n.data H) (hdl : n.data.length ≤ 1000) : Tells Tryz.prog 58 [.pointer (some ⟨p, 0, none⟩), .agg (ntc n vk vd).toArray] (C ++ H) fun r H' => ∃ C' x A, r = .tuple #[.int .i64 (doV s n), x] ∧ CwAt 189 198 203 3 5 118 111 22 116 p (doS s n) C' ∧ Ob 5 x (doR s n) A ∧ H' = C' ++ (A ++ H) := by
 refine Tells.enter Tryz.func58 rfl Tryz.ntmps58 rfl ?_
 intro w0 R
 have hAt := h
 obtain ⟨pd, ps, pp, vL, vE, vN, CS, CP, CD, CF, CE, cn, CN, DO, rfl, hS, hP, hD, hF, hE, hN, hO⟩ := h
 obtain ⟨lo, lc, rfl⟩ := hF.form
 obtain ⟨eo, ec, rfl, hec⟩ := hE.form
 obtain ⟨no, nc, rfl, hnc⟩ := hN.form
 obtain ⟨ko, kc, rfl⟩ := hk
 obtain ⟨do_, dc, rfl, hdc⟩ := hvd.form
 refine sr_ ?_
 refine WL.h rfl (Hd.boxA rfl fun b3 => ⟨_, rfl, ?_⟩)
 refine a_ rfl rfl ?_
 refine a_ rfl rfl ?_
 refine ntsr_ ?_
 refine f_ 10 kr_ rfl rfl ?_
 refine d_ kr_ rfl mem_ (by rfl) rfl ?_
 refine WL.c rfl (Ent.func Tryz.call13 rfl) (decode_tells _ n.data H hvd (by omega)) (Sp.p sp_) ?_
 rintro x H9 ⟨wv, AW, rfl, hW, rfl⟩
 obtain ⟨wo, wc, rfl, hwc⟩ := hW.form
 have hwn := decW_name n.data
 refine m_ rfl rfl ?_
 refine x_ rfl rfl rfl ?_
 refine x_ rfl rfl rfl ?_
 refine WL.h rfl (Hd.alloc (zs := [.int .i64 0, .int .i64 0, .slice none 0 0]) kr_ fun b6 => ⟨_, rfl, ?_⟩)
 refine WL.s (Hd.storeAll (n := 3) kr_ rfl rfl (by rfl) one_ fr_ (by rfl) ⟨rfl, ?_⟩)
 refine a_ rfl rfl ?_
 refine nt_ ?_
 refine WC.seq ?_
 refine WC.block ?_
 refine sr_ ?_
 refine m_ rfl rfl ?_
 refine WL.y rfl (Yd.neq rfl rfl) ?_
 refine a_ rfl rfl ?_
 refine nt_ ?_
 refine WC.ite rfl (fun h16 => ?_) (fun h16 => ?_)
 ·have hde : decE n.data ≠ 0 := h16
  refine sr_ ?_
  refine a_ rfl rfl ?_
  refine a_ rfl rfl ?_
  refine nt_ ?_
  refine WC.ret ?_
  refine DN.block_ret ?_
  refine DN.then_ret ?_
  refine DN.fit (C := (row p [.pointer (some ⟨pd, 0, none⟩), .pointer (some ⟨ps, 0, none⟩), .pointer (some ⟨pp, 0, none⟩), .int .u32 s.e.toNat, .slice lo s.ks.length lc, .slice eo s.ef.length ec, .slice no s.no.length nc] 116 :: (CS ++ (CP ++ (CD ++ (CF ++ (CE ++ (CN ++ DO))))))) ++ H) sp_ ?_
  refine DN.ret2 Tryz.results58 rfl rfl ?_
  rw [show doV s n = 2 from if_pos hde, show doS s n = s from if_pos hde, show doR s n = [] from if_pos hde]
  exact ⟨_, _, [], rfl, ⟨pd, ps, pp, _, _, _, _, _, _, _, _, _, _, _, rfl, hS, hP, hD, hF, hE, hN, hO⟩, Ob.nil _, rfl⟩
 ·have hde : ¬ decE n.data ≠ 0 := h16
  refine sr_ ?_
  refine f_ 7 kr_ rfl rfl ?_
  refine d_ kr_ rfl mem_ (by rfl) rfl ?_
  refine a_ rfl rfl ?_
  refine nt_ ?_
  refine WC.cond rfl (fun h19 => ?_) (fun h19 => ?_)
  ·refine sr_ ?_
   refine m_ rfl rfl ?_
   refine f_ 5 kr_ rfl rfl ?_
   refine d_ kr_ rfl mem_ (by rfl) rfl ?_
   refine WL.h rfl (Hd.loadAll (n := 3) kr_ rfl mem_ (by rfl) ⟨_, rfl, ?_⟩)
   refine WL.c rfl (Ent.func Tryz.call86 rfl) (undo_tells p s _ hAt hst hpu hdk hno n.order (decW n.data) _ AW hW.bs hwn) (Sp.p sp_) ?_
   rintro x H9 ⟨C9, rfl, h9, rfl⟩
   refine a_ rfl rfl ?_
   refine a_ rfl rfl ?_
   refine nt_ ?_
   refine WC.ret ?_
   refine DN.block_ret ?_
   refine DN.then_ret ?_
   refine DN.fit (C := C9 ++ H) sp_ ?_
   refine DN.ret2 Tryz.results58 rfl rfl ?_
   rw [show doV s n = undoV s n.order (decW n.data) by unfold doV; rw [if_neg hde, if_pos h19], show doS s n = undoS s n.order (decW n.data) by unfold doS; rw [if_neg hde, if_pos h19], show doR s n = [] by unfold doR; rw [if_neg hde, if_pos h19]]
   exact ⟨_, _, [], rfl, h9, Ob.nil _, rfl⟩
  ·have hnu : ¬ n.undo = true := by rw [h19]; decide
   refine WC.skip ?_
   refine DN.block_normal ?_
   refine ts_ ?_
   refine sr_ ?_
   refine f_ 0 kr_ rfl rfl ?_
   refine d_ kr_ rfl mem_ (by rfl) rfl ?_
   refine nt_ ?_
   refine WC.block ?_
   refine sr_ ?_
   refine WL.y rfl (Yd.eql rfl rfl) ?_
   refine a_ rfl rfl ?_
   refine nt_ ?_
   refine WC.ite rfl (fun h29 => ?_) (fun h29 => ?_)
   ·refine WC.seq ?_
    refine WC.draw 14 kr_ rfl ?_
    refine WA.float (N := 14) rfl ?_
    refine WAF.add (i := 0) (d := 31) rfl (QF.mk [] [] rfl rfl kr_ rfl (QAt.y Wt.none (Yd.move rfl))) ?_
    refine WAF.add (i := 1) (d := 32) rfl (QF.mk [0] [(31, _)] rfl rfl kr_ rfl (QAt.y Wt.none (Yd.notNil rfl))) ?_
    refine WAF.add (i := 2) (d := 33) rfl (QF.mk [1] [(32, _)] rfl rfl kr_ rfl (QAt.y Wt.none (Yd.fieldAddr (k := 1) kr_ rfl))) ?_
    refine WAF.add (i := 3) (d := 34) rfl (QF.mk [2] [(33, _)] rfl rfl kr_ rfl (QAt.rd Wt.none (Rd.load1 kr_ rfl mem_ (by rfl)))) ?_
    refine WAF.add (i := 4) (d := 35) rfl (QF.mk [] [] rfl rfl kr_ rfl (QAt.y Wt.none (Yd.fieldAddr (k := 5) kr_ rfl))) ?_
    refine WAF.add (i := 5) (d := 36) rfl (QF.mk [4] [(35, _)] rfl rfl kr_ rfl (QAt.rd Wt.none (Rd.load1 kr_ rfl mem_ (by rfl)))) ?_
    refine WAF.add (i := 6) (d := 37) rfl (QF.mk [] [] rfl rfl kr_ rfl (QAt.y Wt.none (Yd.fieldAddr (k := 2) kr_ rfl))) ?_
    refine WAF.add (i := 7) (d := 38) rfl (QF.mk [6] [(37, _)] rfl rfl kr_ rfl (QAt.rd Wt.none (Rd.load1 kr_ rfl mem_ (by rfl)))) ?_
    refine WAF.add (i := 9) (d := 40) rfl (QF.mk [] [] rfl rfl kr_ rfl (QAt.y Wt.none (Yd.fieldAddr (k := 1) kr_ rfl))) ?_
    refine WAF.add (i := 10) (d := 41) rfl (QF.mk [9] [(40, _)] rfl rfl kr_ rfl (QAt.rd Wt.none (Rd.load1 kr_ rfl mem_ (by rfl)))) ?_
    refine WAF.step (pd := [(10, 41), (9, 40), (7, 38), (6, 37), (5, 36), (4, 35), (3, 34), (2, 33), (1, 32), (0, 31)]) [(8, [7])] rfl kr_ kr_ (all_c rfl (all_c rfl (all_c rfl (all_c rfl (all_c rfl (all_c rfl (all_c rfl (all_c rfl (all_c rfl (all_c rfl (all_n))))))))))) (all_c (QF.mk [9] [(40, _)] rfl rfl kr_ rfl (QAt.rd Wt.none (Rd.load1 kr_ rfl mem_ (by rfl)))) (all_c (QF.mk [] [] rfl rfl kr_ rfl (QAt.y Wt.none (Yd.fieldAddr (k := 1) kr_ rfl))) (all_c (QF.mk [6] [(37, _)] rfl rfl kr_ rfl (QAt.rd Wt.none (Rd.load1 kr_ rfl mem_ (by rfl)))) (all_c (QF.mk [] [] rfl rfl kr_ rfl (QAt.y Wt.none (Yd.fieldAddr (k := 2) kr_ rfl))) (all_c (QF.mk [4] [(35, _)] rfl rfl kr_ rfl (QAt.rd Wt.none (Rd.load1 kr_ rfl mem_ (by rfl)))) (all_c (QF.mk [] [] rfl rfl kr_ rfl (QAt.y Wt.none (Yd.fieldAddr (k := 5) kr_ rfl))) (all_c (QF.mk [2] [(33, _)] rfl rfl kr_ rfl (QAt.rd Wt.none (Rd.load1 kr_ rfl mem_ (by rfl)))) (all_c (QF.mk [1] [(32, _)] rfl rfl kr_ rfl (QAt.y Wt.none (Yd.fieldAddr (k := 1) kr_ rfl))) (all_c (QF.mk [0] [(31, _)] rfl rfl kr_ rfl (QAt.y Wt.none (Yd.notNil rfl))) (all_c (QF.mk [] [] rfl rfl kr_ rfl (QAt.y Wt.none (Yd.move rfl))) (all_n))))))))))) (all_c ?_ (all_n))
    ·change SO _ _ _ _ _ _ 8 ([(38, _)] ++ _) _ _
     refine SO.h rfl Wt.none rfl (Hd.toStr (e := 5) (bs := (decW n.data).name) kr_ kr_ Tryz.underlying9 rfl (hW.bs.mono gr_) ⟨_, rfl, ?_⟩)
     change WAF _ _ _ _ _ _ [(10, 41, _), (9, 40, _), (6, 37, _), (5, 36, _), (4, 35, _), (3, 34, _), (2, 33, _), (1, 32, _), (0, 31, _)] _ [8, 7] ((39, _) :: ([(38, _)] ++ _)) _
     refine WAF.step (pd := [(10, 41), (9, 40), (6, 37), (5, 36), (4, 35), (3, 34), (2, 33), (1, 32), (0, 31)]) [(11, [10, 5, 3])] rfl kr_ kr_ (all_c rfl (all_c rfl (all_c rfl (all_c rfl (all_c rfl (all_c rfl (all_c rfl (all_c rfl (all_c rfl (all_n)))))))))) (all_c (QF.mk [9] [(40, _)] rfl rfl kr_ rfl (QAt.rd Wt.none (Rd.load1 kr_ rfl mem_ (by rfl)))) (all_c (QF.mk [] [] rfl rfl kr_ rfl (QAt.y Wt.none (Yd.fieldAddr (k := 1) kr_ rfl))) (all_c (QF.mk [] [] rfl rfl kr_ rfl (QAt.y Wt.none (Yd.fieldAddr (k := 2) kr_ rfl))) (all_c (QF.mk [4] [(35, _)] rfl rfl kr_ rfl (QAt.rd Wt.none (Rd.load1 kr_ rfl mem_ (by rfl)))) (all_c (QF.mk [] [] rfl rfl kr_ rfl (QAt.y Wt.none (Yd.fieldAddr (k := 5) kr_ rfl))) (all_c (QF.mk [2] [(33, _)] rfl rfl kr_ rfl (QAt.rd Wt.none (Rd.load1 kr_ rfl mem_ (by rfl)))) (all_c (QF.mk [1] [(32, _)] rfl rfl kr_ rfl (QAt.y Wt.none (Yd.fieldAddr (k := 1) kr_ rfl))) (all_c (QF.mk [0] [(31, _)] rfl rfl kr_ rfl (QAt.y Wt.none (Yd.notNil rfl))) (all_c (QF.mk [] [] rfl rfl kr_ rfl (QAt.y Wt.none (Yd.move rfl))) (all_n)))))))))) (all_c ?_ (all_n))
     ·change SO _ _ _ _ _ _ 11 ([(41, _), (36, _), (34, _)] ++ _) _ _
      refine SO.c rfl Wt.none rfl (Ent.func Tryz.call87 rfl) (St.hold_tells ps g0 s.K s.L CS hS hst n.order (str (decW n.data).name) (decW n.data).n) (Sp.p sp_) ?_
      rintro x H9 ⟨rfl, h9⟩
      change WAF _ _ _ _ _ _ [(9, 40, _), (6, 37, _), (4, 35, _), (2, 33, _), (1, 32, _), (0, 31, _)] _ [11, 10, 5, 3, 8, 7] ((42, _) :: ([(41, _), (36, _), (34, _)] ++ _)) _
      refine WAF.step (pd := [(9, 40), (6, 37), (4, 35), (2, 33), (1, 32), (0, 31)]) [(12, [9, 6, 4, 2, 1, 0])] rfl kr_ kr_ (all_c rfl (all_c rfl (all_c rfl (all_c rfl (all_c rfl (all_c rfl (all_n))))))) (all_c (QF.mk [] [] rfl rfl kr_ rfl (QAt.y Wt.none (Yd.fieldAddr (k := 1) kr_ rfl))) (all_c (QF.mk [] [] rfl rfl kr_ rfl (QAt.y Wt.none (Yd.fieldAddr (k := 2) kr_ rfl))) (all_c (QF.mk [] [] rfl rfl kr_ rfl (QAt.y Wt.none (Yd.fieldAddr (k := 5) kr_ rfl))) (all_c (QF.mk [1] [(32, _)] rfl rfl kr_ rfl (QAt.y Wt.none (Yd.fieldAddr (k := 1) kr_ rfl))) (all_c (QF.mk [0] [(31, _)] rfl rfl kr_ rfl (QAt.y Wt.none (Yd.notNil rfl))) (all_c (QF.mk [] [] rfl rfl kr_ rfl (QAt.y Wt.none (Yd.move rfl))) (all_n))))))) (all_c ?_ (all_n))
      ·change SO _ _ _ _ _ _ 12 ([(40, _), (37, _), (35, _), (33, _), (32, _), (31, _)] ++ _) _ _
       refine SO.y rfl Wt.none rfl (Yd.assign rfl) ?_
       change WAF _ _ _ _ _ _ [] _ [12, 9, 6, 4, 2, 1, 0, 11, 10, 5, 3, 8, 7] ((4, _) :: ([(40, _), (37, _), (35, _), (33, _), (32, _), (31, _)] ++ _)) _
       refine WAF.step (pd := []) [(13, [])] rfl kr_ kr_ (all_n) (all_n) (all_c ?_ (all_n))
       ·change SO _ _ _ _ _ _ 13 ([] ++ _) _ _
        refine SO.y rfl Wt.none rfl (Yd.assign rfl) ?_
        change WAF _ _ _ _ _ _ [] _ [13, 12, 9, 6, 4, 2, 1, 0, 11, 10, 5, 3, 8, 7] ((5, _) :: ([] ++ _)) _
        refine WAF.done (pd := []) rfl kr_ kr_ (all_n) (all_n) ?_
        change DN _ _ _ _ _ _ ([] ++ _) _
        refine DN.then_normal ?_
        refine WC.ret ?_
        refine DN.block_ret ?_
        refine DN.then_ret ?_
        refine DN.fit (C := (row p [.pointer (some ⟨pd, 0, none⟩), .pointer (some ⟨ps, 0, none⟩), .pointer (some ⟨pp, 0, none⟩), .int .u32 s.e.toNat, .slice lo s.ks.length lc, .slice eo s.ef.length ec, .slice no s.no.length nc] 116 :: (H9 ++ (CP ++ (CD ++ (CF ++ (CE ++ (CN ++ DO))))))) ++ H) sp_ ?_
        refine DN.ret2 Tryz.results58 rfl rfl ?_
        have e5 : ¬ (decW n.data).what = 5 := by omega
        have g1 : doV s n = vd (holdB s.K s.L n.order (str (decW n.data).name) (decW n.data).n) := by unfold doV; rw [if_neg hde, if_neg hnu]; unfold workV; rw [if_pos (by omega)]
        have g2 : doS s n = { s with K := holdKs s.K s.L n.order (str (decW n.data).name) (decW n.data).n, L := holdLs s.K s.L n.order (str (decW n.data).name) (decW n.data).n } := by unfold doS; rw [if_neg hde, if_neg hnu]; unfold workS; rw [if_pos (by omega)]
        have g3 : doR s n = [] := by unfold doR; rw [if_neg hde, if_neg hnu]; unfold workR; rw [if_neg e5]
        rw [g1, g2, g3]
        exact ⟨_, _, [], rfl, ⟨pd, ps, pp, _, _, _, _, _, _, _, _, _, _, _, rfl, h9, hP, hD, hF, hE, hN, hO⟩, Ob.nil _, rfl⟩
   ·refine sr_ ?_
    refine WL.y rfl (Yd.eql rfl rfl) ?_
    refine a_ rfl rfl ?_
    refine nt_ ?_
    refine WC.ite rfl (fun h43 => ?_) (fun h43 => ?_)
    ·refine WC.seq ?_
     refine WC.draw 9 kr_ rfl ?_
     refine WA.float (N := 9) rfl ?_
     refine WAF.add (i := 0) (d := 45) rfl (QF.mk [] [] rfl rfl kr_ rfl (QAt.y Wt.none (Yd.move rfl))) ?_
     refine WAF.add (i := 1) (d := 46) rfl (QF.mk [0] [(45, _)] rfl rfl kr_ rfl (QAt.y Wt.none (Yd.notNil rfl))) ?_
     refine WAF.add (i := 2) (d := 47) rfl (QF.mk [1] [(46, _)] rfl rfl kr_ rfl (QAt.y Wt.none (Yd.fieldAddr (k := 1) kr_ rfl))) ?_
     refine WAF.add (i := 3) (d := 48) rfl (QF.mk [2] [(47, _)] rfl rfl kr_ rfl (QAt.rd Wt.none (Rd.load1 kr_ rfl mem_ (by rfl)))) ?_
     refine WAF.add (i := 4) (d := 49) rfl (QF.mk [] [] rfl rfl kr_ rfl (QAt.y Wt.none (Yd.fieldAddr (k := 5) kr_ rfl))) ?_
     refine WAF.add (i := 5) (d := 50) rfl (QF.mk [4] [(49, _)] rfl rfl kr_ rfl (QAt.rd Wt.none (Rd.load1 kr_ rfl mem_ (by rfl)))) ?_
     refine WAF.step (pd := [(5, 50), (4, 49), (3, 48), (2, 47), (1, 46), (0, 45)]) [(6, [5, 3])] rfl kr_ kr_ (all_c rfl (all_c rfl (all_c rfl (all_c rfl (all_c rfl (all_c rfl (all_n))))))) (all_c (QF.mk [4] [(49, _)] rfl rfl kr_ rfl (QAt.rd Wt.none (Rd.load1 kr_ rfl mem_ (by rfl)))) (all_c (QF.mk [] [] rfl rfl kr_ rfl (QAt.y Wt.none (Yd.fieldAddr (k := 5) kr_ rfl))) (all_c (QF.mk [2] [(47, _)] rfl rfl kr_ rfl (QAt.rd Wt.none (Rd.load1 kr_ rfl mem_ (by rfl)))) (all_c (QF.mk [1] [(46, _)] rfl rfl kr_ rfl (QAt.y Wt.none (Yd.fieldAddr (k := 1) kr_ rfl))) (all_c (QF.mk [0] [(45, _)] rfl rfl kr_ rfl (QAt.y Wt.none (Yd.notNil rfl))) (all_c (QF.mk [] [] rfl rfl kr_ rfl (QAt.y Wt.none (Yd.move rfl))) (all_n))))))) (all_c ?_ (all_n))
     ·change SO _ _ _ _ _ _ 6 ([(50, _), (48, _)] ++ _) _ _
      refine SO.c rfl Wt.none rfl (Ent.func Tryz.call88 rfl) (St.ship_tells ps g0 s.K s.L CS hS hst n.order) (Sp.p sp_) ?_
      rintro x H9 ⟨rfl, h9⟩
      change WAF _ _ _ _ _ _ [(4, 49, _), (2, 47, _), (1, 46, _), (0, 45, _)] _ [6, 5, 3] ((51, _) :: ([(50, _), (48, _)] ++ _)) _
      refine WAF.step (pd := [(4, 49), (2, 47), (1, 46), (0, 45)]) [(7, [4, 2, 1, 0])] rfl kr_ kr_ (all_c rfl (all_c rfl (all_c rfl (all_c rfl (all_n))))) (all_c (QF.mk [] [] rfl rfl kr_ rfl (QAt.y Wt.none (Yd.fieldAddr (k := 5) kr_ rfl))) (all_c (QF.mk [1] [(46, _)] rfl rfl kr_ rfl (QAt.y Wt.none (Yd.fieldAddr (k := 1) kr_ rfl))) (all_c (QF.mk [0] [(45, _)] rfl rfl kr_ rfl (QAt.y Wt.none (Yd.notNil rfl))) (all_c (QF.mk [] [] rfl rfl kr_ rfl (QAt.y Wt.none (Yd.move rfl))) (all_n))))) (all_c ?_ (all_n))
      ·change SO _ _ _ _ _ _ 7 ([(49, _), (47, _), (46, _), (45, _)] ++ _) _ _
       refine SO.y rfl Wt.none rfl (Yd.assign rfl) ?_
       change WAF _ _ _ _ _ _ [] _ [7, 4, 2, 1, 0, 6, 5, 3] ((4, _) :: ([(49, _), (47, _), (46, _), (45, _)] ++ _)) _
       refine WAF.step (pd := []) [(8, [])] rfl kr_ kr_ (all_n) (all_n) (all_c ?_ (all_n))
       ·change SO _ _ _ _ _ _ 8 ([] ++ _) _ _
        refine SO.y rfl Wt.none rfl (Yd.assign rfl) ?_
        change WAF _ _ _ _ _ _ [] _ [8, 7, 4, 2, 1, 0, 6, 5, 3] ((5, _) :: ([] ++ _)) _
        refine WAF.done (pd := []) rfl kr_ kr_ (all_n) (all_n) ?_
        change DN _ _ _ _ _ _ ([] ++ _) _
        refine DN.then_normal ?_
        refine WC.ret ?_
        refine DN.block_ret ?_
        refine DN.then_ret ?_
        refine DN.fit (C := (row p [.pointer (some ⟨pd, 0, none⟩), .pointer (some ⟨ps, 0, none⟩), .pointer (some ⟨pp, 0, none⟩), .int .u32 s.e.toNat, .slice lo s.ks.length lc, .slice eo s.ef.length ec, .slice no s.no.length nc] 116 :: (H9 ++ (CP ++ (CD ++ (CF ++ (CE ++ (CN ++ DO))))))) ++ H) sp_ ?_
        refine DN.ret2 Tryz.results58 rfl rfl ?_
        have e1 : ¬ (decW n.data).what = 1 := by omega
        have e5 : ¬ (decW n.data).what = 5 := by omega
        have g1 : doV s n = vd (findK Ho.o s.L n.order).isSome := by unfold doV; rw [if_neg hde, if_neg hnu]; unfold workV; rw [if_neg e1, if_pos (by omega)]
        have g2 : doS s n = { s with K := leaveKs s.K s.L n.order true, L := delK Ho.o s.L n.order } := by unfold doS; rw [if_neg hde, if_neg hnu]; unfold workS; rw [if_neg e1, if_pos (by omega)]
        have g3 : doR s n = [] := by unfold doR; rw [if_neg hde, if_neg hnu]; unfold workR; rw [if_neg e5]
        rw [g1, g2, g3]
        exact ⟨_, _, [], rfl, ⟨pd, ps, pp, _, _, _, _, _, _, _, _, _, _, _, rfl, h9, hP, hD, hF, hE, hN, hO⟩, Ob.nil _, rfl⟩
    ·refine sr_ ?_
     refine WL.y rfl (Yd.eql rfl rfl) ?_
     refine a_ rfl rfl ?_
     refine nt_ ?_
     refine WC.ite rfl (fun h52 => ?_) (fun h52 => ?_)
     ·refine WC.seq ?_
      refine WC.draw 14 kr_ rfl ?_
      refine WA.float (N := 14) rfl ?_
      refine WAF.add (i := 0) (d := 54) rfl (QF.mk [] [] rfl rfl kr_ rfl (QAt.y Wt.none (Yd.move rfl))) ?_
      refine WAF.add (i := 1) (d := 55) rfl (QF.mk [0] [(54, _)] rfl rfl kr_ rfl (QAt.y Wt.none (Yd.notNil rfl))) ?_
      refine WAF.add (i := 2) (d := 56) rfl (QF.mk [1] [(55, _)] rfl rfl kr_ rfl (QAt.y Wt.none (Yd.fieldAddr (k := 2) kr_ rfl))) ?_
      refine WAF.add (i := 3) (d := 57) rfl (QF.mk [2] [(56, _)] rfl rfl kr_ rfl (QAt.rd Wt.none (Rd.load1 kr_ rfl mem_ (by rfl)))) ?_
      refine WAF.add (i := 4) (d := 58) rfl (QF.mk [] [] rfl rfl kr_ rfl (QAt.y Wt.none (Yd.fieldAddr (k := 5) kr_ rfl))) ?_
      refine WAF.add (i := 5) (d := 59) rfl (QF.mk [4] [(58, _)] rfl rfl kr_ rfl (QAt.rd Wt.none (Rd.load1 kr_ rfl mem_ (by rfl)))) ?_
      refine WAF.add (i := 6) (d := 60) rfl (QF.mk [] [] rfl rfl kr_ rfl (QAt.y Wt.none (Yd.fieldAddr (k := 2) kr_ rfl))) ?_
      refine WAF.add (i := 7) (d := 61) rfl (QF.mk [6] [(60, _)] rfl rfl kr_ rfl (QAt.rd Wt.none (Rd.load1 kr_ rfl mem_ (by rfl)))) ?_
      refine WAF.add (i := 9) (d := 63) rfl (QF.mk [] [] rfl rfl kr_ rfl (QAt.y Wt.none (Yd.fieldAddr (k := 1) kr_ rfl))) ?_
      refine WAF.add (i := 10) (d := 64) rfl (QF.mk [9] [(63, _)] rfl rfl kr_ rfl (QAt.rd Wt.none (Rd.load1 kr_ rfl mem_ (by rfl)))) ?_
      refine WAF.step (pd := [(10, 64), (9, 63), (7, 61), (6, 60), (5, 59), (4, 58), (3, 57), (2, 56), (1, 55), (0, 54)]) [(8, [7])] rfl kr_ kr_ (all_c rfl (all_c rfl (all_c rfl (all_c rfl (all_c rfl (all_c rfl (all_c rfl (all_c rfl (all_c rfl (all_c rfl (all_n))))))))))) (all_c (QF.mk [9] [(63, _)] rfl rfl kr_ rfl (QAt.rd Wt.none (Rd.load1 kr_ rfl mem_ (by rfl)))) (all_c (QF.mk [] [] rfl rfl kr_ rfl (QAt.y Wt.none (Yd.fieldAddr (k := 1) kr_ rfl))) (all_c (QF.mk [6] [(60, _)] rfl rfl kr_ rfl (QAt.rd Wt.none (Rd.load1 kr_ rfl mem_ (by rfl)))) (all_c (QF.mk [] [] rfl rfl kr_ rfl (QAt.y Wt.none (Yd.fieldAddr (k := 2) kr_ rfl))) (all_c (QF.mk [4] [(58, _)] rfl rfl kr_ rfl (QAt.rd Wt.none (Rd.load1 kr_ rfl mem_ (by rfl)))) (all_c (QF.mk [] [] rfl rfl kr_ rfl (QAt.y Wt.none (Yd.fieldAddr (k := 5) kr_ rfl))) (all_c (QF.mk [2] [(56, _)] rfl rfl kr_ rfl (QAt.rd Wt.none (Rd.load1 kr_ rfl mem_ (by rfl)))) (all_c (QF.mk [1] [(55, _)] rfl rfl kr_ rfl (QAt.y Wt.none (Yd.fieldAddr (k := 2) kr_ rfl))) (all_c (QF.mk [0] [(54, _)] rfl rfl kr_ rfl (QAt.y Wt.none (Yd.notNil rfl))) (all_c (QF.mk [] [] rfl rfl kr_ rfl (QAt.y Wt.none (Yd.move rfl))) (all_n))))))))))) (all_c ?_ (all_n))
      ·change SO _ _ _ _ _ _ 8 ([(61, _)] ++ _) _ _
       refine SO.h rfl Wt.none rfl (Hd.toStr (e := 5) (bs := (decW n.data).name) kr_ kr_ Tryz.underlying9 rfl (hW.bs.mono gr_) ⟨_, rfl, ?_⟩)
       change WAF _ _ _ _ _ _ [(10, 64, _), (9, 63, _), (6, 60, _), (5, 59, _), (4, 58, _), (3, 57, _), (2, 56, _), (1, 55, _), (0, 54, _)] _ [8, 7] ((62, _) :: ([(61, _)] ++ _)) _
       refine WAF.step (pd := [(10, 64), (9, 63), (6, 60), (5, 59), (4, 58), (3, 57), (2, 56), (1, 55), (0, 54)]) [(11, [10, 5, 3])] rfl kr_ kr_ (all_c rfl (all_c rfl (all_c rfl (all_c rfl (all_c rfl (all_c rfl (all_c rfl (all_c rfl (all_c rfl (all_n)))))))))) (all_c (QF.mk [9] [(63, _)] rfl rfl kr_ rfl (QAt.rd Wt.none (Rd.load1 kr_ rfl mem_ (by rfl)))) (all_c (QF.mk [] [] rfl rfl kr_ rfl (QAt.y Wt.none (Yd.fieldAddr (k := 1) kr_ rfl))) (all_c (QF.mk [] [] rfl rfl kr_ rfl (QAt.y Wt.none (Yd.fieldAddr (k := 2) kr_ rfl))) (all_c (QF.mk [4] [(58, _)] rfl rfl kr_ rfl (QAt.rd Wt.none (Rd.load1 kr_ rfl mem_ (by rfl)))) (all_c (QF.mk [] [] rfl rfl kr_ rfl (QAt.y Wt.none (Yd.fieldAddr (k := 5) kr_ rfl))) (all_c (QF.mk [2] [(56, _)] rfl rfl kr_ rfl (QAt.rd Wt.none (Rd.load1 kr_ rfl mem_ (by rfl)))) (all_c (QF.mk [1] [(55, _)] rfl rfl kr_ rfl (QAt.y Wt.none (Yd.fieldAddr (k := 2) kr_ rfl))) (all_c (QF.mk [0] [(54, _)] rfl rfl kr_ rfl (QAt.y Wt.none (Yd.notNil rfl))) (all_c (QF.mk [] [] rfl rfl kr_ rfl (QAt.y Wt.none (Yd.move rfl))) (all_n)))))))))) (all_c ?_ (all_n))
       ·change SO _ _ _ _ _ _ 11 ([(64, _), (59, _), (57, _)] ++ _) _ _
        refine SO.c rfl Wt.none rfl (Ent.func Tryz.call89 rfl) (Pu.auth_tells pp u0 s.U s.Y CP hP hpu n.order (str (decW n.data).name) (decW n.data).n) (Sp.p sp_) ?_
        rintro x H9 ⟨rfl, h9⟩
        change WAF _ _ _ _ _ _ [(9, 63, _), (6, 60, _), (4, 58, _), (2, 56, _), (1, 55, _), (0, 54, _)] _ [11, 10, 5, 3, 8, 7] ((65, _) :: ([(64, _), (59, _), (57, _)] ++ _)) _
        refine WAF.step (pd := [(9, 63), (6, 60), (4, 58), (2, 56), (1, 55), (0, 54)]) [(12, [9, 6, 4, 2, 1, 0])] rfl kr_ kr_ (all_c rfl (all_c rfl (all_c rfl (all_c rfl (all_c rfl (all_c rfl (all_n))))))) (all_c (QF.mk [] [] rfl rfl kr_ rfl (QAt.y Wt.none (Yd.fieldAddr (k := 1) kr_ rfl))) (all_c (QF.mk [] [] rfl rfl kr_ rfl (QAt.y Wt.none (Yd.fieldAddr (k := 2) kr_ rfl))) (all_c (QF.mk [] [] rfl rfl kr_ rfl (QAt.y Wt.none (Yd.fieldAddr (k := 5) kr_ rfl))) (all_c (QF.mk [1] [(55, _)] rfl rfl kr_ rfl (QAt.y Wt.none (Yd.fieldAddr (k := 2) kr_ rfl))) (all_c (QF.mk [0] [(54, _)] rfl rfl kr_ rfl (QAt.y Wt.none (Yd.notNil rfl))) (all_c (QF.mk [] [] rfl rfl kr_ rfl (QAt.y Wt.none (Yd.move rfl))) (all_n))))))) (all_c ?_ (all_n))
        ·change SO _ _ _ _ _ _ 12 ([(63, _), (60, _), (58, _), (56, _), (55, _), (54, _)] ++ _) _ _
         refine SO.y rfl Wt.none rfl (Yd.assign rfl) ?_
         change WAF _ _ _ _ _ _ [] _ [12, 9, 6, 4, 2, 1, 0, 11, 10, 5, 3, 8, 7] ((4, _) :: ([(63, _), (60, _), (58, _), (56, _), (55, _), (54, _)] ++ _)) _
         refine WAF.step (pd := []) [(13, [])] rfl kr_ kr_ (all_n) (all_n) (all_c ?_ (all_n))
         ·change SO _ _ _ _ _ _ 13 ([] ++ _) _ _
          refine SO.y rfl Wt.none rfl (Yd.assign rfl) ?_
          change WAF _ _ _ _ _ _ [] _ [13, 12, 9, 6, 4, 2, 1, 0, 11, 10, 5, 3, 8, 7] ((5, _) :: ([] ++ _)) _
          refine WAF.done (pd := []) rfl kr_ kr_ (all_n) (all_n) ?_
          change DN _ _ _ _ _ _ ([] ++ _) _
          refine DN.then_normal ?_
          refine WC.ret ?_
          refine DN.block_ret ?_
          refine DN.then_ret ?_
          refine DN.fit (C := (row p [.pointer (some ⟨pd, 0, none⟩), .pointer (some ⟨ps, 0, none⟩), .pointer (some ⟨pp, 0, none⟩), .int .u32 s.e.toNat, .slice lo s.ks.length lc, .slice eo s.ef.length ec, .slice no s.no.length nc] 116 :: (CS ++ (H9 ++ (CD ++ (CF ++ (CE ++ (CN ++ DO))))))) ++ H) sp_ ?_
          refine DN.ret2 Tryz.results58 rfl rfl ?_
          have e1 : ¬ (decW n.data).what = 1 := by omega
          have e2 : ¬ (decW n.data).what = 2 := by omega
          have e5 : ¬ (decW n.data).what = 5 := by omega
          have g1 : doV s n = vdP (authB s.U s.Y n.order (str (decW n.data).name) (decW n.data).n) := by unfold doV; rw [if_neg hde, if_neg hnu]; unfold workV; rw [if_neg e1, if_neg e2, if_pos (by omega)]
          have g2 : doS s n = { s with U := authKs s.U s.Y n.order (str (decW n.data).name) (decW n.data).n, Y := authLs s.U s.Y n.order (str (decW n.data).name) (decW n.data).n } := by unfold doS; rw [if_neg hde, if_neg hnu]; unfold workS; rw [if_neg e1, if_neg e2, if_pos (by omega)]
          have g3 : doR s n = [] := by unfold doR; rw [if_neg hde, if_neg hnu]; unfold workR; rw [if_neg e5]
          rw [g1, g2, g3]
          exact ⟨_, _, [], rfl, ⟨pd, ps, pp, _, _, _, _, _, _, _, _, _, _, _, rfl, hS, h9, hD, hF, hE, hN, hO⟩, Ob.nil _, rfl⟩
     ·refine sr_ ?_
      refine WL.y rfl (Yd.eql rfl rfl) ?_
      refine a_ rfl rfl ?_
      refine nt_ ?_
      refine WC.ite rfl (fun h66 => ?_) (fun h66 => ?_)
      ·refine WC.seq ?_
       refine WC.draw 9 kr_ rfl ?_
       refine WA.float (N := 9) rfl ?_
       refine WAF.add (i := 0) (d := 68) rfl (QF.mk [] [] rfl rfl kr_ rfl (QAt.y Wt.none (Yd.move rfl))) ?_
       refine WAF.add (i := 1) (d := 69) rfl (QF.mk [0] [(68, _)] rfl rfl kr_ rfl (QAt.y Wt.none (Yd.notNil rfl))) ?_
       refine WAF.add (i := 2) (d := 70) rfl (QF.mk [1] [(69, _)] rfl rfl kr_ rfl (QAt.y Wt.none (Yd.fieldAddr (k := 2) kr_ rfl))) ?_
       refine WAF.add (i := 3) (d := 71) rfl (QF.mk [2] [(70, _)] rfl rfl kr_ rfl (QAt.rd Wt.none (Rd.load1 kr_ rfl mem_ (by rfl)))) ?_
       refine WAF.add (i := 4) (d := 72) rfl (QF.mk [] [] rfl rfl kr_ rfl (QAt.y Wt.none (Yd.fieldAddr (k := 5) kr_ rfl))) ?_
       refine WAF.add (i := 5) (d := 73) rfl (QF.mk [4] [(72, _)] rfl rfl kr_ rfl (QAt.rd Wt.none (Rd.load1 kr_ rfl mem_ (by rfl)))) ?_
       refine WAF.step (pd := [(5, 73), (4, 72), (3, 71), (2, 70), (1, 69), (0, 68)]) [(6, [5, 3])] rfl kr_ kr_ (all_c rfl (all_c rfl (all_c rfl (all_c rfl (all_c rfl (all_c rfl (all_n))))))) (all_c (QF.mk [4] [(72, _)] rfl rfl kr_ rfl (QAt.rd Wt.none (Rd.load1 kr_ rfl mem_ (by rfl)))) (all_c (QF.mk [] [] rfl rfl kr_ rfl (QAt.y Wt.none (Yd.fieldAddr (k := 5) kr_ rfl))) (all_c (QF.mk [2] [(70, _)] rfl rfl kr_ rfl (QAt.rd Wt.none (Rd.load1 kr_ rfl mem_ (by rfl)))) (all_c (QF.mk [1] [(69, _)] rfl rfl kr_ rfl (QAt.y Wt.none (Yd.fieldAddr (k := 2) kr_ rfl))) (all_c (QF.mk [0] [(68, _)] rfl rfl kr_ rfl (QAt.y Wt.none (Yd.notNil rfl))) (all_c (QF.mk [] [] rfl rfl kr_ rfl (QAt.y Wt.none (Yd.move rfl))) (all_n))))))) (all_c ?_ (all_n))
       ·change SO _ _ _ _ _ _ 6 ([(73, _), (71, _)] ++ _) _ _
        refine SO.c rfl Wt.none rfl (Ent.func Tryz.call90 rfl) (Pu.capture_tells pp u0 s.U s.Y CP hP hpu n.order) (Sp.p sp_) ?_
        rintro x H9 ⟨rfl, h9⟩
        change WAF _ _ _ _ _ _ [(4, 72, _), (2, 70, _), (1, 69, _), (0, 68, _)] _ [6, 5, 3] ((74, _) :: ([(73, _), (71, _)] ++ _)) _
        refine WAF.step (pd := [(4, 72), (2, 70), (1, 69), (0, 68)]) [(7, [4, 2, 1, 0])] rfl kr_ kr_ (all_c rfl (all_c rfl (all_c rfl (all_c rfl (all_n))))) (all_c (QF.mk [] [] rfl rfl kr_ rfl (QAt.y Wt.none (Yd.fieldAddr (k := 5) kr_ rfl))) (all_c (QF.mk [1] [(69, _)] rfl rfl kr_ rfl (QAt.y Wt.none (Yd.fieldAddr (k := 2) kr_ rfl))) (all_c (QF.mk [0] [(68, _)] rfl rfl kr_ rfl (QAt.y Wt.none (Yd.notNil rfl))) (all_c (QF.mk [] [] rfl rfl kr_ rfl (QAt.y Wt.none (Yd.move rfl))) (all_n))))) (all_c ?_ (all_n))
        ·change SO _ _ _ _ _ _ 7 ([(72, _), (70, _), (69, _), (68, _)] ++ _) _ _
         refine SO.y rfl Wt.none rfl (Yd.assign rfl) ?_
         change WAF _ _ _ _ _ _ [] _ [7, 4, 2, 1, 0, 6, 5, 3] ((4, _) :: ([(72, _), (70, _), (69, _), (68, _)] ++ _)) _
         refine WAF.step (pd := []) [(8, [])] rfl kr_ kr_ (all_n) (all_n) (all_c ?_ (all_n))
         ·change SO _ _ _ _ _ _ 8 ([] ++ _) _ _
          refine SO.y rfl Wt.none rfl (Yd.assign rfl) ?_
          change WAF _ _ _ _ _ _ [] _ [8, 7, 4, 2, 1, 0, 6, 5, 3] ((5, _) :: ([] ++ _)) _
          refine WAF.done (pd := []) rfl kr_ kr_ (all_n) (all_n) ?_
          change DN _ _ _ _ _ _ ([] ++ _) _
          refine DN.then_normal ?_
          refine WC.ret ?_
          refine DN.block_ret ?_
          refine DN.then_ret ?_
          refine DN.fit (C := (row p [.pointer (some ⟨pd, 0, none⟩), .pointer (some ⟨ps, 0, none⟩), .pointer (some ⟨pp, 0, none⟩), .int .u32 s.e.toNat, .slice lo s.ks.length lc, .slice eo s.ef.length ec, .slice no s.no.length nc] 116 :: (CS ++ (H9 ++ (CD ++ (CF ++ (CE ++ (CN ++ DO))))))) ++ H) sp_ ?_
          refine DN.ret2 Tryz.results58 rfl rfl ?_
          have e1 : ¬ (decW n.data).what = 1 := by omega
          have e2 : ¬ (decW n.data).what = 2 := by omega
          have e3 : ¬ (decW n.data).what = 3 := by omega
          have e5 : ¬ (decW n.data).what = 5 := by omega
          have g1 : doV s n = vdP (turnB s.Y n.order 1) := by unfold doV; rw [if_neg hde, if_neg hnu]; unfold workV; rw [if_neg e1, if_neg e2, if_neg e3, if_pos (by omega)]
          have g2 : doS s n = { s with U := turnKs s.U s.Y n.order 1 (-1) (-1), Y := turnLs s.Y n.order 1 2 } := by unfold doS; rw [if_neg hde, if_neg hnu]; unfold workS; rw [if_neg e1, if_neg e2, if_neg e3, if_pos (by omega)]
          have g3 : doR s n = [] := by unfold doR; rw [if_neg hde, if_neg hnu]; unfold workR; rw [if_neg e5]
          rw [g1, g2, g3]
          exact ⟨_, _, [], rfl, ⟨pd, ps, pp, _, _, _, _, _, _, _, _, _, _, _, rfl, hS, h9, hD, hF, hE, hN, hO⟩, Ob.nil _, rfl⟩
      ·refine sr_ ?_
       refine WL.y rfl (Yd.eql rfl rfl) ?_
       refine a_ rfl rfl ?_
       refine nt_ ?_
       refine WC.ite rfl (fun h75 => ?_) (fun h75 => ?_)
       ·refine WC.seq ?_
        refine WC.draw 14 kr_ rfl ?_
        refine WA.float (N := 14) rfl ?_
        refine WAF.add (i := 0) (d := 78) rfl (QF.mk [] [] rfl rfl kr_ rfl (QAt.y Wt.none (Yd.move rfl))) ?_
        refine WAF.add (i := 1) (d := 79) rfl (QF.mk [0] [(78, _)] rfl rfl kr_ rfl (QAt.y Wt.none (Yd.notNil rfl))) ?_
        refine WAF.add (i := 2) (d := 80) rfl (QF.mk [1] [(79, _)] rfl rfl kr_ rfl (QAt.y Wt.none (Yd.fieldAddr (k := 0) kr_ rfl))) ?_
        refine WAF.add (i := 3) (d := 81) rfl (QF.mk [2] [(80, _)] rfl rfl kr_ rfl (QAt.rd Wt.none (Rd.load1 kr_ rfl mem_ (by rfl)))) ?_
        refine WAF.add (i := 4) (d := 82) rfl (QF.mk [] [] rfl rfl kr_ rfl (QAt.y Wt.none (Yd.fieldAddr (k := 5) kr_ rfl))) ?_
        refine WAF.add (i := 5) (d := 83) rfl (QF.mk [4] [(82, _)] rfl rfl kr_ rfl (QAt.rd Wt.none (Rd.load1 kr_ rfl mem_ (by rfl)))) ?_
        refine WAF.add (i := 6) (d := 84) rfl (QF.mk [] [] rfl rfl kr_ rfl (QAt.y Wt.none (Yd.fieldAddr (k := 1) kr_ rfl))) ?_
        refine WAF.add (i := 7) (d := 85) rfl (QF.mk [6] [(84, _)] rfl rfl kr_ rfl (QAt.rd Wt.none (Rd.load1 kr_ rfl mem_ (by rfl)))) ?_
        refine WAF.step (pd := [(7, 85), (6, 84), (5, 83), (4, 82), (3, 81), (2, 80), (1, 79), (0, 78)]) [(8, [7, 5, 3])] rfl kr_ kr_ (all_c rfl (all_c rfl (all_c rfl (all_c rfl (all_c rfl (all_c rfl (all_c rfl (all_c rfl (all_n))))))))) (all_c (QF.mk [6] [(84, _)] rfl rfl kr_ rfl (QAt.rd Wt.none (Rd.load1 kr_ rfl mem_ (by rfl)))) (all_c (QF.mk [] [] rfl rfl kr_ rfl (QAt.y Wt.none (Yd.fieldAddr (k := 1) kr_ rfl))) (all_c (QF.mk [4] [(82, _)] rfl rfl kr_ rfl (QAt.rd Wt.none (Rd.load1 kr_ rfl mem_ (by rfl)))) (all_c (QF.mk [] [] rfl rfl kr_ rfl (QAt.y Wt.none (Yd.fieldAddr (k := 5) kr_ rfl))) (all_c (QF.mk [2] [(80, _)] rfl rfl kr_ rfl (QAt.rd Wt.none (Rd.load1 kr_ rfl mem_ (by rfl)))) (all_c (QF.mk [1] [(79, _)] rfl rfl kr_ rfl (QAt.y Wt.none (Yd.fieldAddr (k := 0) kr_ rfl))) (all_c (QF.mk [0] [(78, _)] rfl rfl kr_ rfl (QAt.y Wt.none (Yd.notNil rfl))) (all_c (QF.mk [] [] rfl rfl kr_ rfl (QAt.y Wt.none (Yd.move rfl))) (all_n))))))))) (all_c ?_ (all_n))
        ·change SO _ _ _ _ _ _ 8 ([(85, _), (83, _), (81, _)] ++ _) _ _
         refine SO.c rfl Wt.none rfl (Ent.func Tryz.call91 rfl) (Do.book_tells pd s.rs s.B CD hD hdk.rooms (by have := hdk.few; have := hdk.len; omega) n.order 0 (decW n.data).n) (Sp.p sp_) ?_
         intro x H9 h9
         obtain ⟨bk, hbk⟩ : ∃ q, bookOf s.rs s.B n.order 0 (decW n.data).n = q := ⟨_, rfl⟩
         rw [hbk] at h9
         obtain ⟨rfl, h8⟩ : x = .tuple #[.int .i64 (resOf bk).1, .int .i64 (resOf bk).2] ∧ DockAt 203 3 pd (roomsB s.rs bk (decW n.data).n) (listB s.B bk n.order (decW n.data).n) H9 := by
           cases bk with
           | none => exact ⟨h9.1, by rw [h9.2]; exact hD⟩
           | some d => exact ⟨h9.1, h9.2⟩
         change WAF _ _ _ _ _ _ [(6, 84, _), (4, 82, _), (2, 80, _), (1, 79, _), (0, 78, _)] _ [8, 7, 5, 3] ((86, _) :: ([(85, _), (83, _), (81, _)] ++ _)) _
         refine WAF.add (i := 9) (d := 77) rfl (QF.mk [] [] rfl rfl kr_ rfl (QAt.y Wt.none (Yd.move rfl))) ?_
         refine WAF.add (i := 10) (d := 87) rfl (QF.mk [9] [(77, _)] rfl rfl kr_ rfl (QAt.y Wt.none (Yd.extract rfl rfl))) ?_
         refine WAF.add (i := 11) (d := 88) rfl (QF.mk [9] [(77, _)] rfl rfl kr_ rfl (QAt.y Wt.none (Yd.extract rfl rfl))) ?_
         refine WAF.add (i := 12) (d := 8) rfl (QF.mk [10, 9, 6, 4, 2, 1, 0] [(87, _), (77, _), (84, _), (82, _), (80, _), (79, _), (78, _)] rfl rfl kr_ rfl (QAt.y Wt.none (Yd.assign rfl))) ?_
         refine WAF.add (i := 13) (d := 9) rfl (QF.mk [12, 11, 10, 9, 6, 4, 2, 1, 0] [(8, _), (88, _), (87, _), (77, _), (84, _), (82, _), (80, _), (79, _), (78, _)] rfl rfl kr_ rfl (QAt.y Wt.none (Yd.assign rfl))) ?_
         refine WAF.done (pd := [(13, 9), (12, 8), (11, 88), (10, 87), (9, 77), (6, 84), (4, 82), (2, 80), (1, 79), (0, 78)]) rfl kr_ kr_ (all_c rfl (all_c rfl (all_c rfl (all_c rfl (all_c rfl (all_c rfl (all_c rfl (all_c rfl (all_c rfl (all_c rfl (all_n))))))))))) (all_c (QF.mk [12, 11, 10, 9, 6, 4, 2, 1, 0] [(8, _), (88, _), (87, _), (77, _), (84, _), (82, _), (80, _), (79, _), (78, _)] rfl rfl kr_ rfl (QAt.y Wt.none (Yd.assign rfl))) (all_c (QF.mk [10, 9, 6, 4, 2, 1, 0] [(87, _), (77, _), (84, _), (82, _), (80, _), (79, _), (78, _)] rfl rfl kr_ rfl (QAt.y Wt.none (Yd.assign rfl))) (all_c (QF.mk [9] [(77, _)] rfl rfl kr_ rfl (QAt.y Wt.none (Yd.extract rfl rfl))) (all_c (QF.mk [9] [(77, _)] rfl rfl kr_ rfl (QAt.y Wt.none (Yd.extract rfl rfl))) (all_c (QF.mk [] [] rfl rfl kr_ rfl (QAt.y Wt.none (Yd.move rfl))) (all_c (QF.mk [] [] rfl rfl kr_ rfl (QAt.y Wt.none (Yd.fieldAddr (k := 1) kr_ rfl))) (all_c (QF.mk [] [] rfl rfl kr_ rfl (QAt.y Wt.none (Yd.fieldAddr (k := 5) kr_ rfl))) (all_c (QF.mk [1] [(79, _)] rfl rfl kr_ rfl (QAt.y Wt.none (Yd.fieldAddr (k := 0) kr_ rfl))) (all_c (QF.mk [0] [(78, _)] rfl rfl kr_ rfl (QAt.y Wt.none (Yd.notNil rfl))) (all_c (QF.mk [] [] rfl rfl kr_ rfl (QAt.y Wt.none (Yd.move rfl))) (all_n))))))))))) ?_
         change DN _ _ _ _ _ _ ([(9, _), (8, _), (88, _), (87, _), (77, _), (84, _), (82, _), (80, _), (79, _), (78, _)] ++ _) _
         refine ts_ ?_
         refine sr_ ?_
         refine m_ rfl rfl ?_
         refine WL.y rfl (Yd.neq rfl rfl) ?_
         refine nt_ ?_
         refine WC.ite rfl (fun h90 => ?_) (fun h90 => ?_)
         ·have hbn : bk = none := by
            cases bk with
            | none => rfl
            | some d => exact absurd rfl h90
          refine sr_ ?_
          refine m_ rfl rfl ?_
          refine a_ rfl rfl ?_
          refine a_ rfl rfl ?_
          refine nt_ ?_
          refine WC.ret ?_
          refine DN.then_ret ?_
          refine DN.block_ret ?_
          refine DN.then_ret ?_
          refine DN.fit (C := (row p [.pointer (some ⟨pd, 0, none⟩), .pointer (some ⟨ps, 0, none⟩), .pointer (some ⟨pp, 0, none⟩), .int .u32 s.e.toNat, .slice lo s.ks.length lc, .slice eo s.ef.length ec, .slice no s.no.length nc] 116 :: (CS ++ (CP ++ (H9 ++ (CF ++ (CE ++ (CN ++ DO))))))) ++ H) sp_ ?_
          refine DN.ret2 Tryz.results58 rfl rfl ?_
          subst hbn
          have e1 : ¬ (decW n.data).what = 1 := by omega
          have e2 : ¬ (decW n.data).what = 2 := by omega
          have e3 : ¬ (decW n.data).what = 3 := by omega
          have e4 : ¬ (decW n.data).what = 4 := by omega
          have g1 : doV s n = (resOf none).2 := by unfold doV; rw [if_neg hde, if_neg hnu]; unfold workV; rw [if_neg e1, if_neg e2, if_neg e3, if_neg e4, if_pos (by omega)]; rw [hbk]
          have g2 : doS s n = { s with rs := roomsB s.rs none (decW n.data).n, B := listB s.B none n.order (decW n.data).n } := by unfold doS; rw [if_neg hde, if_neg hnu]; unfold workS; rw [if_neg e1, if_neg e2, if_neg e3, if_neg e4, if_pos (by omega)]; rw [hbk]
          have g3 : doR s n = [] := by unfold doR; rw [if_neg hde, if_neg hnu]; unfold workR; rw [if_pos (by omega)]; rw [hbk]
          rw [g1, g2, g3]
          exact ⟨_, _, [], rfl, ⟨pd, ps, pp, _, _, _, _, _, _, _, _, _, _, _, rfl, hS, hP, h8, hF, hE, hN, hO⟩, Ob.nil _, rfl⟩
         ·obtain ⟨d, rfl⟩ : ∃ d, bk = some d := by
            cases bk with
            | none => exact absurd (by decide) h90
            | some d => exact ⟨d, rfl⟩
          refine WC.skip ?_
          refine ts_ ?_
          refine WC.region ?_
          refine m_ rfl rfl ?_
          refine m_ rfl rfl ?_
          refine WL.y rfl (Yd.to8 _ kr_ kr_ rfl rfl) ?_
          refine WL.h rfl (Hd.build1 (e := 5) (z := .int .u8 0) kr_ kr_ kr_ rfl rfl fun b95 => ⟨_, rfl, ?_⟩)
          refine a_ rfl rfl ?_
          refine a_ rfl rfl ?_
          refine nt_ ?_
          refine WC.ret ?_
          refine DN.block_ret ?_
          refine DN.then_ret ?_
          refine DN.fit (C := (row p [.pointer (some ⟨pd, 0, none⟩), .pointer (some ⟨ps, 0, none⟩), .pointer (some ⟨pp, 0, none⟩), .int .u32 s.e.toNat, .slice lo s.ks.length lc, .slice eo s.ef.length ec, .slice no s.no.length nc] 116 :: (CS ++ (CP ++ (H9 ++ (CF ++ (CE ++ (CN ++ DO))))))) ++ (row b95 (bc [BitVec.ofInt 8 (d : Int)]) 5 :: H)) sp_ ?_
          refine DN.ret2 Tryz.results58 rfl rfl ?_
          have e1 : ¬ (decW n.data).what = 1 := by omega
          have e2 : ¬ (decW n.data).what = 2 := by omega
          have e3 : ¬ (decW n.data).what = 3 := by omega
          have e4 : ¬ (decW n.data).what = 4 := by omega
          have g1 : doV s n = (resOf (some d)).2 := by unfold doV; rw [if_neg hde, if_neg hnu]; unfold workV; rw [if_neg e1, if_neg e2, if_neg e3, if_neg e4, if_pos (by omega)]; rw [hbk]
          have g2 : doS s n = { s with rs := roomsB s.rs (some d) (decW n.data).n, B := listB s.B (some d) n.order (decW n.data).n } := by unfold doS; rw [if_neg hde, if_neg hnu]; unfold workS; rw [if_neg e1, if_neg e2, if_neg e3, if_neg e4, if_pos (by omega)]; rw [hbk]
          have g3 : doR s n = [BitVec.ofInt 8 (d : Int)] := by unfold doR; rw [if_neg hde, if_neg hnu]; unfold workR; rw [if_pos (by omega)]; rw [hbk]
          rw [g1, g2, g3]
          exact ⟨_, _, [_], rfl, ⟨pd, ps, pp, _, _, _, _, _, _, _, _, _, _, _, rfl, hS, hP, h8, hF, hE, hN, hO⟩, Ob.block b95 [BitVec.ofInt 8 (d : Int)] (by simp only [maxLen, List.length_cons, List.length_nil]; omega), rfl⟩
       ·refine WC.skip ?_
        refine DN.block_normal ?_
        refine ts_ ?_
        refine WC.draw 12 kr_ rfl ?_
        refine WA.float (N := 12) rfl ?_
        refine WAF.add (i := 0) (d := 96) rfl (QF.mk [] [] rfl rfl kr_ rfl (QAt.y Wt.none (Yd.move rfl))) ?_
        refine WAF.add (i := 1) (d := 97) rfl (QF.mk [] [] rfl rfl kr_ rfl (QAt.y Wt.none (Yd.move rfl))) ?_
        refine WAF.add (i := 2) (d := 98) rfl (QF.mk [1] [(97, _)] rfl rfl kr_ rfl (QAt.y Wt.none (Yd.notNil rfl))) ?_
        refine WAF.add (i := 3) (d := 99) rfl (QF.mk [2] [(98, _)] rfl rfl kr_ rfl (QAt.y Wt.none (Yd.fieldAddr (k := 6) kr_ rfl))) ?_
        refine WAF.add (i := 4) (d := 100) rfl (QF.mk [3] [(99, _)] rfl rfl kr_ rfl (QAt.rd Wt.none (Rd.load1 kr_ rfl mem_ (by rfl)))) ?_
        refine WAF.add (i := 5) (d := 101) rfl (QF.mk [] [] rfl rfl kr_ rfl (QAt.y Wt.none (Yd.fieldAddr (k := 2) kr_ rfl))) ?_
        refine WAF.add (i := 6) (d := 102) rfl (QF.mk [5] [(101, _)] rfl rfl kr_ rfl (QAt.rd Wt.none (Rd.load1 kr_ rfl mem_ (by rfl)))) ?_
        refine WAF.step (pd := [(6, 102), (5, 101), (4, 100), (3, 99), (2, 98), (1, 97), (0, 96)]) [(7, [6])] rfl kr_ kr_ (all_c rfl (all_c rfl (all_c rfl (all_c rfl (all_c rfl (all_c rfl (all_c rfl (all_n)))))))) (all_c (QF.mk [5] [(101, _)] rfl rfl kr_ rfl (QAt.rd Wt.none (Rd.load1 kr_ rfl mem_ (by rfl)))) (all_c (QF.mk [] [] rfl rfl kr_ rfl (QAt.y Wt.none (Yd.fieldAddr (k := 2) kr_ rfl))) (all_c (QF.mk [3] [(99, _)] rfl rfl kr_ rfl (QAt.rd Wt.none (Rd.load1 kr_ rfl mem_ (by rfl)))) (all_c (QF.mk [2] [(98, _)] rfl rfl kr_ rfl (QAt.y Wt.none (Yd.fieldAddr (k := 6) kr_ rfl))) (all_c (QF.mk [1] [(97, _)] rfl rfl kr_ rfl (QAt.y Wt.none (Yd.notNil rfl))) (all_c (QF.mk [] [] rfl rfl kr_ rfl (QAt.y Wt.none (Yd.move rfl))) (all_c (QF.mk [] [] rfl rfl kr_ rfl (QAt.y Wt.none (Yd.move rfl))) (all_n)))))))) (all_c ?_ (all_n))
        ·change SO _ _ _ _ _ _ 7 ([(102, _)] ++ _) _ _
         refine SO.h rfl Wt.none rfl (Hd.build1 (e := 22) (z := .slice none 0 0) kr_ kr_ kr_ rfl (by rfl) fun b103 => ⟨_, rfl, ?_⟩)
         change WAF _ _ _ _ _ _ [(5, 101, _), (4, 100, _), (3, 99, _), (2, 98, _), (1, 97, _), (0, 96, _)] _ [7, 6] ((103, _) :: ([(102, _)] ++ _)) _
         refine WAF.step (pd := [(5, 101), (4, 100), (3, 99), (2, 98), (1, 97), (0, 96)]) [(8, [4])] rfl kr_ kr_ (all_c rfl (all_c rfl (all_c rfl (all_c rfl (all_c rfl (all_c rfl (all_n))))))) (all_c (QF.mk [] [] rfl rfl kr_ rfl (QAt.y Wt.none (Yd.fieldAddr (k := 2) kr_ rfl))) (all_c (QF.mk [3] [(99, _)] rfl rfl kr_ rfl (QAt.rd Wt.none (Rd.load1 kr_ rfl mem_ (by rfl)))) (all_c (QF.mk [2] [(98, _)] rfl rfl kr_ rfl (QAt.y Wt.none (Yd.fieldAddr (k := 6) kr_ rfl))) (all_c (QF.mk [1] [(97, _)] rfl rfl kr_ rfl (QAt.y Wt.none (Yd.notNil rfl))) (all_c (QF.mk [] [] rfl rfl kr_ rfl (QAt.y Wt.none (Yd.move rfl))) (all_c (QF.mk [] [] rfl rfl kr_ rfl (QAt.y Wt.none (Yd.move rfl))) (all_n))))))) (all_c ?_ (all_n))
         ·change SO _ _ _ _ _ _ 8 ([(100, _)] ++ _) _ _
          refine SO.h rfl Wt.none rfl (Hd.appendMany (e := 22) (sz := 1) (bytes := 24) (zs := [.slice none 0 0]) (m := 1) kr_ kr_ rfl (by omega) rfl rfl hN sp_ mem_ rfl (by intro u hu; rw [List.mem_singleton.1 hu]; rfl) (by simp only [maxLen]; omega) (by omega) fun v2 C2 ho2 => ⟨_, rfl, ?_⟩)
          change WAF _ _ _ _ _ _ [(5, 101, _), (3, 99, _), (2, 98, _), (1, 97, _), (0, 96, _)] _ [8, 4, 7, 6] ((104, _) :: ([(100, _)] ++ _)) _
          obtain ⟨no2, nc2, rfl, _⟩ := ho2.form
          refine WAF.add (i := 9) (d := 105) rfl (QF.mk [5, 3, 2, 1, 0] [(101, _), (99, _), (98, _), (97, _), (96, _)] rfl rfl kr_ rfl (QAt.y Wt.none (Yd.notNil rfl))) ?_
          refine WAF.add (i := 10) (d := 106) rfl (QF.mk [9, 5, 3, 2, 1, 0] [(105, _), (101, _), (99, _), (98, _), (97, _), (96, _)] rfl rfl kr_ rfl (QAt.y Wt.none (Yd.fieldAddr (k := 6) kr_ rfl))) ?_
          refine WAF.step (pd := [(10, 106), (9, 105), (5, 101), (3, 99), (2, 98), (1, 97), (0, 96)]) [(11, [10, 5, 3, 2, 1, 0])] rfl kr_ kr_ (all_c rfl (all_c rfl (all_c rfl (all_c rfl (all_c rfl (all_c rfl (all_c rfl (all_n)))))))) (all_c (QF.mk [9, 5, 3, 2, 1, 0] [(105, _), (101, _), (99, _), (98, _), (97, _), (96, _)] rfl rfl kr_ rfl (QAt.y Wt.none (Yd.fieldAddr (k := 6) kr_ rfl))) (all_c (QF.mk [5, 3, 2, 1, 0] [(101, _), (99, _), (98, _), (97, _), (96, _)] rfl rfl kr_ rfl (QAt.y Wt.none (Yd.notNil rfl))) (all_c (QF.mk [] [] rfl rfl kr_ rfl (QAt.y Wt.none (Yd.fieldAddr (k := 2) kr_ rfl))) (all_c (QF.mk [2] [(98, _)] rfl rfl kr_ rfl (QAt.y Wt.none (Yd.fieldAddr (k := 6) kr_ rfl))) (all_c (QF.mk [1] [(97, _)] rfl rfl kr_ rfl (QAt.y Wt.none (Yd.notNil rfl))) (all_c (QF.mk [] [] rfl rfl kr_ rfl (QAt.y Wt.none (Yd.move rfl))) (all_c (QF.mk [] [] rfl rfl kr_ rfl (QAt.y Wt.none (Yd.move rfl))) (all_n)))))))) (all_c ?_ (all_n))
          ·change SO _ _ _ _ _ _ 11 ([(106, _), (101, _), (99, _), (98, _), (97, _), (96, _)] ++ _) _ _
           refine SO.s rfl Wt.none (Hd.store1s kr_ rfl rfl (by rfl) fr_ (by rfl) (by first | (simp only [List.set_cons_zero, List.set_cons_succ, Nat.zero_add, Nat.add_zero, Nat.reduceAdd]; rfl) | rfl) ⟨rfl, ?_⟩)
           change WAF _ _ _ _ _ _ [(9, 105, _)] _ [11, 10, 5, 3, 2, 1, 0, 8, 4, 7, 6] (([(106, _), (101, _), (99, _), (98, _), (97, _), (96, _)] ++ _)) _
           refine WAF.done (pd := [(9, 105)]) rfl kr_ kr_ (all_c rfl (all_n)) (all_c (QF.mk [] [] rfl rfl kr_ rfl (QAt.y Wt.none (Yd.notNil rfl))) (all_n)) ?_
           change DN _ _ _ _ _ _ ([(105, _)] ++ _) _
           refine ts_ ?_
           refine WC.region ?_
           refine a_ rfl rfl ?_
           refine a_ rfl rfl ?_
           refine nt_ ?_
           refine WC.ret ?_
           refine DN.fit (C := (row p [.pointer (some ⟨pd, 0, none⟩), .pointer (some ⟨ps, 0, none⟩), .pointer (some ⟨pp, 0, none⟩), .int .u32 s.e.toNat, .slice lo s.ks.length lc, .slice eo s.ef.length ec, .slice no2 (s.no.length + 1) nc2] 116 :: (CS ++ (CP ++ (CD ++ (CF ++ (CE ++ (C2 ++ (DO ++ AW)))))))) ++ H) sp_ ?_
           refine DN.ret2 Tryz.results58 rfl rfl ?_
           have e1 : ¬ (decW n.data).what = 1 := by omega
           have e2 : ¬ (decW n.data).what = 2 := by omega
           have e3 : ¬ (decW n.data).what = 3 := by omega
           have e4 : ¬ (decW n.data).what = 4 := by omega
           have e5 : ¬ (decW n.data).what = 5 := by omega
           have g1 : doV s n = 1 := by unfold doV; rw [if_neg hde, if_neg hnu]; unfold workV; rw [if_neg e1, if_neg e2, if_neg e3, if_neg e4, if_neg e5]
           have g2 : doS s n = { s with no := s.no ++ [(decW n.data).name] } := by unfold doS; rw [if_neg hde, if_neg hnu]; unfold workS; rw [if_neg e1, if_neg e2, if_neg e3, if_neg e4, if_neg e5]
           have g3 : doR s n = [] := by unfold doR; rw [if_neg hde, if_neg hnu]; unfold workR; rw [if_neg e5]
           rw [g1, g2, g3]
           exact ⟨_, _, [], rfl, ⟨pd, ps, pp, _, _, _, _, _, _, _, _, _, _, _, rfl, hS, hP, hD, hF, hE, (by rw [List.length_append]; exact ho2), (hO.append (.one hW))⟩, Ob.nil _, rfl⟩
end Go.Proofs.YtkamlondepceiaaGreat

set_option linter.unusedVariables false
set_option linter.unusedSimpArgs false
set_option maxHeartbeats 2000000
namespace Go.Proofs.YtkamlondepceiaaGreat
open Go.SL
theorem names_reads (k : Int) (H : List Ck) : Reads Tryz.prog 118 [.int .i64 k] H (.string (nmS k)) := by
 refine Tells.enter Tryz.func118 rfl Tryz.ntmps118 rfl ?_
 intro w0 R
 refine sr_ ?_
 refine a_ rfl rfl ?_
 refine nt_ ?_
 refine WC.seq ?_
 refine sr_ ?_
 refine m_ rfl rfl ?_
 refine nt_ ?_
 refine WC.block ?_
 refine sr_ ?_
 refine WL.y rfl (Yd.eql rfl rfl) ?_
 refine a_ rfl rfl ?_
 refine nt_ ?_
 refine WC.ite rfl (fun h4 => ?_) (fun h4 => ?_)
 ·refine sr_ ?_
  refine a_ rfl rfl ?_
  refine nt_ ?_
  refine WC.ret ?_
  refine DN.block_ret ?_
  refine DN.then_ret ?_
  refine DN.ret1 Tryz.results118 rfl ?_
  first | (exfalso; omega) | exact ⟨by congr 1; simp [nmS, nm, *], rfl⟩
 ·refine WC.seq ?_
  refine sr_ ?_
  refine WL.y rfl (Yd.eql rfl rfl) ?_
  refine a_ rfl rfl ?_
  refine nt_ ?_
  refine WC.ite rfl (fun h6 => ?_) (fun h6 => ?_)
  ·refine WC.skip ?_
   refine DN.then_normal ?_
   refine WC.ite rfl (fun h6 => ?_) (fun h6 => ?_)
   ·refine sr_ ?_
    refine a_ rfl rfl ?_
    refine nt_ ?_
    refine WC.ret ?_
    refine DN.block_ret ?_
    refine DN.then_ret ?_
    refine DN.ret1 Tryz.results118 rfl ?_
    first | (exfalso; omega) | exact ⟨by congr 1; simp [nmS, nm, *], rfl⟩
   ·refine WC.seq ?_
    refine sr_ ?_
    refine WL.y rfl (Yd.eql rfl rfl) ?_
    refine a_ rfl rfl ?_
    refine nt_ ?_
    refine WC.ite rfl (fun h9 => ?_) (fun h9 => ?_)
    ·refine WC.skip ?_
     refine DN.then_normal ?_
     refine WC.ite rfl (fun h9 => ?_) (fun h9 => ?_)
     ·refine sr_ ?_
      refine a_ rfl rfl ?_
      refine nt_ ?_
      refine WC.ret ?_
      refine DN.block_ret ?_
      refine DN.then_ret ?_
      refine DN.ret1 Tryz.results118 rfl ?_
      first | (exfalso; omega) | exact ⟨by congr 1; simp [nmS, nm, *], rfl⟩
     ·refine sr_ ?_
      refine WL.y rfl (Yd.eql rfl rfl) ?_
      refine a_ rfl rfl ?_
      refine nt_ ?_
      refine WC.ite rfl (fun h12 => ?_) (fun h12 => ?_)
      ·refine sr_ ?_
       refine a_ rfl rfl ?_
       refine nt_ ?_
       refine WC.ret ?_
       refine DN.block_ret ?_
       refine DN.then_ret ?_
       refine DN.ret1 Tryz.results118 rfl ?_
       first | (exfalso; omega) | exact ⟨by congr 1; simp [nmS, nm, *], rfl⟩
      ·refine sr_ ?_
       refine WL.y rfl (Yd.eql rfl rfl) ?_
       refine a_ rfl rfl ?_
       refine nt_ ?_
       refine WC.ite rfl (fun h14 => ?_) (fun h14 => ?_)
       ·refine sr_ ?_
        refine a_ rfl rfl ?_
        refine nt_ ?_
        refine WC.ret ?_
        refine DN.block_ret ?_
        refine DN.then_ret ?_
        refine DN.ret1 Tryz.results118 rfl ?_
        first | (exfalso; omega) | exact ⟨by congr 1; simp [nmS, nm, *], rfl⟩
       ·refine sr_ ?_
        refine WL.y rfl (Yd.eql rfl rfl) ?_
        refine a_ rfl rfl ?_
        refine nt_ ?_
        refine WC.ite rfl (fun h16 => ?_) (fun h16 => ?_)
        ·refine sr_ ?_
         refine a_ rfl rfl ?_
         refine nt_ ?_
         refine WC.ret ?_
         refine DN.block_ret ?_
         refine DN.then_ret ?_
         refine DN.ret1 Tryz.results118 rfl ?_
         first | (exfalso; omega) | exact ⟨by congr 1; simp [nmS, nm, *], rfl⟩
        ·refine sr_ ?_
         refine WL.y rfl (Yd.eql rfl rfl) ?_
         refine a_ rfl rfl ?_
         refine nt_ ?_
         refine WC.ite rfl (fun h18 => ?_) (fun h18 => ?_)
         ·refine sr_ ?_
          refine a_ rfl rfl ?_
          refine nt_ ?_
          refine WC.ret ?_
          refine DN.block_ret ?_
          refine DN.then_ret ?_
          refine DN.ret1 Tryz.results118 rfl ?_
          first | (exfalso; omega) | exact ⟨by congr 1; simp [nmS, nm, *], rfl⟩
         ·refine sr_ ?_
          refine WL.y rfl (Yd.eql rfl rfl) ?_
          refine a_ rfl rfl ?_
          refine nt_ ?_
          refine WC.ite rfl (fun h20 => ?_) (fun h20 => ?_)
          ·refine sr_ ?_
           refine a_ rfl rfl ?_
           refine nt_ ?_
           refine WC.ret ?_
           refine DN.block_ret ?_
           refine DN.then_ret ?_
           refine DN.ret1 Tryz.results118 rfl ?_
           first | (exfalso; omega) | exact ⟨by congr 1; simp [nmS, nm, *], rfl⟩
          ·refine WC.seq ?_
           refine sr_ ?_
           refine WL.y rfl (Yd.eql rfl rfl) ?_
           refine a_ rfl rfl ?_
           refine nt_ ?_
           refine WC.ite rfl (fun h22 => ?_) (fun h22 => ?_)
           ·refine WC.skip ?_
            refine DN.then_normal ?_
            refine WC.ite rfl (fun h22 => ?_) (fun h22 => ?_)
            ·refine sr_ ?_
             refine a_ rfl rfl ?_
             refine nt_ ?_
             refine WC.ret ?_
             refine DN.block_ret ?_
             refine DN.then_ret ?_
             refine DN.ret1 Tryz.results118 rfl ?_
             first | (exfalso; omega) | exact ⟨by congr 1; simp [nmS, nm, *], rfl⟩
            ·refine sr_ ?_
             refine WL.y rfl (Yd.eql rfl rfl) ?_
             refine a_ rfl rfl ?_
             refine nt_ ?_
             refine WC.ite rfl (fun h25 => ?_) (fun h25 => ?_)
             ·refine sr_ ?_
              refine a_ rfl rfl ?_
              refine nt_ ?_
              refine WC.ret ?_
              refine DN.block_ret ?_
              refine DN.then_ret ?_
              refine DN.ret1 Tryz.results118 rfl ?_
              first | (exfalso; omega) | exact ⟨by congr 1; simp [nmS, nm, *], rfl⟩
             ·refine WC.skip ?_
              refine DN.block_normal ?_
              refine ts_ ?_
              refine WC.region ?_
              refine a_ rfl rfl ?_
              refine nt_ ?_
              refine WC.ret ?_
              refine DN.ret1 Tryz.results118 rfl ?_
              first | (exfalso; omega) | exact ⟨by congr 1; simp [nmS, nm, *], rfl⟩
           ·refine WC.region ?_
            refine WL.y rfl (Yd.eql rfl rfl) ?_
            refine a_ rfl rfl ?_
            refine nt_ ?_
            refine WC.ite rfl (fun h22 => ?_) (fun h22 => ?_)
            ·refine sr_ ?_
             refine a_ rfl rfl ?_
             refine nt_ ?_
             refine WC.ret ?_
             refine DN.block_ret ?_
             refine DN.then_ret ?_
             refine DN.ret1 Tryz.results118 rfl ?_
             first | (exfalso; omega) | exact ⟨by congr 1; simp [nmS, nm, *], rfl⟩
            ·refine sr_ ?_
             refine WL.y rfl (Yd.eql rfl rfl) ?_
             refine a_ rfl rfl ?_
             refine nt_ ?_
             refine WC.ite rfl (fun h25 => ?_) (fun h25 => ?_)
             ·refine sr_ ?_
              refine a_ rfl rfl ?_
              refine nt_ ?_
              refine WC.ret ?_
              refine DN.block_ret ?_
              refine DN.then_ret ?_
              refine DN.ret1 Tryz.results118 rfl ?_
              first | (exfalso; omega) | exact ⟨by congr 1; simp [nmS, nm, *], rfl⟩
             ·refine WC.skip ?_
              refine DN.block_normal ?_
              refine ts_ ?_
              refine WC.region ?_
              refine a_ rfl rfl ?_
              refine nt_ ?_
              refine WC.ret ?_
              refine DN.ret1 Tryz.results118 rfl ?_
              first | (exfalso; omega) | exact ⟨by congr 1; simp [nmS, nm, *], rfl⟩
    ·refine WC.region ?_
     refine WL.y rfl (Yd.eql rfl rfl) ?_
     refine a_ rfl rfl ?_
     refine nt_ ?_
     refine WC.ite rfl (fun h9 => ?_) (fun h9 => ?_)
     ·refine sr_ ?_
      refine a_ rfl rfl ?_
      refine nt_ ?_
      refine WC.ret ?_
      refine DN.block_ret ?_
      refine DN.then_ret ?_
      refine DN.ret1 Tryz.results118 rfl ?_
      first | (exfalso; omega) | exact ⟨by congr 1; simp [nmS, nm, *], rfl⟩
     ·refine sr_ ?_
      refine WL.y rfl (Yd.eql rfl rfl) ?_
      refine a_ rfl rfl ?_
      refine nt_ ?_
      refine WC.ite rfl (fun h12 => ?_) (fun h12 => ?_)
      ·refine sr_ ?_
       refine a_ rfl rfl ?_
       refine nt_ ?_
       refine WC.ret ?_
       refine DN.block_ret ?_
       refine DN.then_ret ?_
       refine DN.ret1 Tryz.results118 rfl ?_
       first | (exfalso; omega) | exact ⟨by congr 1; simp [nmS, nm, *], rfl⟩
      ·refine sr_ ?_
       refine WL.y rfl (Yd.eql rfl rfl) ?_
       refine a_ rfl rfl ?_
       refine nt_ ?_
       refine WC.ite rfl (fun h14 => ?_) (fun h14 => ?_)
       ·refine sr_ ?_
        refine a_ rfl rfl ?_
        refine nt_ ?_
        refine WC.ret ?_
        refine DN.block_ret ?_
        refine DN.then_ret ?_
        refine DN.ret1 Tryz.results118 rfl ?_
        first | (exfalso; omega) | exact ⟨by congr 1; simp [nmS, nm, *], rfl⟩
       ·refine sr_ ?_
        refine WL.y rfl (Yd.eql rfl rfl) ?_
        refine a_ rfl rfl ?_
        refine nt_ ?_
        refine WC.ite rfl (fun h16 => ?_) (fun h16 => ?_)
        ·refine sr_ ?_
         refine a_ rfl rfl ?_
         refine nt_ ?_
         refine WC.ret ?_
         refine DN.block_ret ?_
         refine DN.then_ret ?_
         refine DN.ret1 Tryz.results118 rfl ?_
         first | (exfalso; omega) | exact ⟨by congr 1; simp [nmS, nm, *], rfl⟩
        ·refine sr_ ?_
         refine WL.y rfl (Yd.eql rfl rfl) ?_
         refine a_ rfl rfl ?_
         refine nt_ ?_
         refine WC.ite rfl (fun h18 => ?_) (fun h18 => ?_)
         ·refine sr_ ?_
          refine a_ rfl rfl ?_
          refine nt_ ?_
          refine WC.ret ?_
          refine DN.block_ret ?_
          refine DN.then_ret ?_
          refine DN.ret1 Tryz.results118 rfl ?_
          first | (exfalso; omega) | exact ⟨by congr 1; simp [nmS, nm, *], rfl⟩
         ·refine sr_ ?_
          refine WL.y rfl (Yd.eql rfl rfl) ?_
          refine a_ rfl rfl ?_
          refine nt_ ?_
          refine WC.ite rfl (fun h20 => ?_) (fun h20 => ?_)
          ·refine sr_ ?_
           refine a_ rfl rfl ?_
           refine nt_ ?_
           refine WC.ret ?_
           refine DN.block_ret ?_
           refine DN.then_ret ?_
           refine DN.ret1 Tryz.results118 rfl ?_
           first | (exfalso; omega) | exact ⟨by congr 1; simp [nmS, nm, *], rfl⟩
          ·refine WC.seq ?_
           refine sr_ ?_
           refine WL.y rfl (Yd.eql rfl rfl) ?_
           refine a_ rfl rfl ?_
           refine nt_ ?_
           refine WC.ite rfl (fun h22 => ?_) (fun h22 => ?_)
           ·refine WC.skip ?_
            refine DN.then_normal ?_
            refine WC.ite rfl (fun h22 => ?_) (fun h22 => ?_)
            ·refine sr_ ?_
             refine a_ rfl rfl ?_
             refine nt_ ?_
             refine WC.ret ?_
             refine DN.block_ret ?_
             refine DN.then_ret ?_
             refine DN.ret1 Tryz.results118 rfl ?_
             first | (exfalso; omega) | exact ⟨by congr 1; simp [nmS, nm, *], rfl⟩
            ·refine sr_ ?_
             refine WL.y rfl (Yd.eql rfl rfl) ?_
             refine a_ rfl rfl ?_
             refine nt_ ?_
             refine WC.ite rfl (fun h25 => ?_) (fun h25 => ?_)
             ·refine sr_ ?_
              refine a_ rfl rfl ?_
              refine nt_ ?_
              refine WC.ret ?_
              refine DN.block_ret ?_
              refine DN.then_ret ?_
              refine DN.ret1 Tryz.results118 rfl ?_
              first | (exfalso; omega) | exact ⟨by congr 1; simp [nmS, nm, *], rfl⟩
             ·refine WC.skip ?_
              refine DN.block_normal ?_
              refine ts_ ?_
              refine WC.region ?_
              refine a_ rfl rfl ?_
              refine nt_ ?_
              refine WC.ret ?_
              refine DN.ret1 Tryz.results118 rfl ?_
              first | (exfalso; omega) | exact ⟨by congr 1; simp [nmS, nm, *], rfl⟩
           ·refine WC.region ?_
            refine WL.y rfl (Yd.eql rfl rfl) ?_
            refine a_ rfl rfl ?_
            refine nt_ ?_
            refine WC.ite rfl (fun h22 => ?_) (fun h22 => ?_)
            ·refine sr_ ?_
             refine a_ rfl rfl ?_
             refine nt_ ?_
             refine WC.ret ?_
             refine DN.block_ret ?_
             refine DN.then_ret ?_
             refine DN.ret1 Tryz.results118 rfl ?_
             first | (exfalso; omega) | exact ⟨by congr 1; simp [nmS, nm, *], rfl⟩
            ·refine sr_ ?_
             refine WL.y rfl (Yd.eql rfl rfl) ?_
             refine a_ rfl rfl ?_
             refine nt_ ?_
             refine WC.ite rfl (fun h25 => ?_) (fun h25 => ?_)
             ·refine sr_ ?_
              refine a_ rfl rfl ?_
              refine nt_ ?_
              refine WC.ret ?_
              refine DN.block_ret ?_
              refine DN.then_ret ?_
              refine DN.ret1 Tryz.results118 rfl ?_
              first | (exfalso; omega) | exact ⟨by congr 1; simp [nmS, nm, *], rfl⟩
             ·refine WC.skip ?_
              refine DN.block_normal ?_
              refine ts_ ?_
              refine WC.region ?_
              refine a_ rfl rfl ?_
              refine nt_ ?_
              refine WC.ret ?_
              refine DN.ret1 Tryz.results118 rfl ?_
              first | (exfalso; omega) | exact ⟨by congr 1; simp [nmS, nm, *], rfl⟩
  ·refine WC.region ?_
   refine WL.y rfl (Yd.eql rfl rfl) ?_
   refine a_ rfl rfl ?_
   refine nt_ ?_
   refine WC.ite rfl (fun h6 => ?_) (fun h6 => ?_)
   ·refine sr_ ?_
    refine a_ rfl rfl ?_
    refine nt_ ?_
    refine WC.ret ?_
    refine DN.block_ret ?_
    refine DN.then_ret ?_
    refine DN.ret1 Tryz.results118 rfl ?_
    first | (exfalso; omega) | exact ⟨by congr 1; simp [nmS, nm, *], rfl⟩
   ·refine WC.seq ?_
    refine sr_ ?_
    refine WL.y rfl (Yd.eql rfl rfl) ?_
    refine a_ rfl rfl ?_
    refine nt_ ?_
    refine WC.ite rfl (fun h9 => ?_) (fun h9 => ?_)
    ·refine WC.skip ?_
     refine DN.then_normal ?_
     refine WC.ite rfl (fun h9 => ?_) (fun h9 => ?_)
     ·refine sr_ ?_
      refine a_ rfl rfl ?_
      refine nt_ ?_
      refine WC.ret ?_
      refine DN.block_ret ?_
      refine DN.then_ret ?_
      refine DN.ret1 Tryz.results118 rfl ?_
      first | (exfalso; omega) | exact ⟨by congr 1; simp [nmS, nm, *], rfl⟩
     ·refine sr_ ?_
      refine WL.y rfl (Yd.eql rfl rfl) ?_
      refine a_ rfl rfl ?_
      refine nt_ ?_
      refine WC.ite rfl (fun h12 => ?_) (fun h12 => ?_)
      ·refine sr_ ?_
       refine a_ rfl rfl ?_
       refine nt_ ?_
       refine WC.ret ?_
       refine DN.block_ret ?_
       refine DN.then_ret ?_
       refine DN.ret1 Tryz.results118 rfl ?_
       first | (exfalso; omega) | exact ⟨by congr 1; simp [nmS, nm, *], rfl⟩
      ·refine sr_ ?_
       refine WL.y rfl (Yd.eql rfl rfl) ?_
       refine a_ rfl rfl ?_
       refine nt_ ?_
       refine WC.ite rfl (fun h14 => ?_) (fun h14 => ?_)
       ·refine sr_ ?_
        refine a_ rfl rfl ?_
        refine nt_ ?_
        refine WC.ret ?_
        refine DN.block_ret ?_
        refine DN.then_ret ?_
        refine DN.ret1 Tryz.results118 rfl ?_
        first | (exfalso; omega) | exact ⟨by congr 1; simp [nmS, nm, *], rfl⟩
       ·refine sr_ ?_
        refine WL.y rfl (Yd.eql rfl rfl) ?_
        refine a_ rfl rfl ?_
        refine nt_ ?_
        refine WC.ite rfl (fun h16 => ?_) (fun h16 => ?_)
        ·refine sr_ ?_
         refine a_ rfl rfl ?_
         refine nt_ ?_
         refine WC.ret ?_
         refine DN.block_ret ?_
         refine DN.then_ret ?_
         refine DN.ret1 Tryz.results118 rfl ?_
         first | (exfalso; omega) | exact ⟨by congr 1; simp [nmS, nm, *], rfl⟩
        ·refine sr_ ?_
         refine WL.y rfl (Yd.eql rfl rfl) ?_
         refine a_ rfl rfl ?_
         refine nt_ ?_
         refine WC.ite rfl (fun h18 => ?_) (fun h18 => ?_)
         ·refine sr_ ?_
          refine a_ rfl rfl ?_
          refine nt_ ?_
          refine WC.ret ?_
          refine DN.block_ret ?_
          refine DN.then_ret ?_
          refine DN.ret1 Tryz.results118 rfl ?_
          first | (exfalso; omega) | exact ⟨by congr 1; simp [nmS, nm, *], rfl⟩
         ·refine sr_ ?_
          refine WL.y rfl (Yd.eql rfl rfl) ?_
          refine a_ rfl rfl ?_
          refine nt_ ?_
          refine WC.ite rfl (fun h20 => ?_) (fun h20 => ?_)
          ·refine sr_ ?_
           refine a_ rfl rfl ?_
           refine nt_ ?_
           refine WC.ret ?_
           refine DN.block_ret ?_
           refine DN.then_ret ?_
           refine DN.ret1 Tryz.results118 rfl ?_
           first | (exfalso; omega) | exact ⟨by congr 1; simp [nmS, nm, *], rfl⟩
          ·refine WC.seq ?_
           refine sr_ ?_
           refine WL.y rfl (Yd.eql rfl rfl) ?_
           refine a_ rfl rfl ?_
           refine nt_ ?_
           refine WC.ite rfl (fun h22 => ?_) (fun h22 => ?_)
           ·refine WC.skip ?_
            refine DN.then_normal ?_
            refine WC.ite rfl (fun h22 => ?_) (fun h22 => ?_)
            ·refine sr_ ?_
             refine a_ rfl rfl ?_
             refine nt_ ?_
             refine WC.ret ?_
             refine DN.block_ret ?_
             refine DN.then_ret ?_
             refine DN.ret1 Tryz.results118 rfl ?_
             first | (exfalso; omega) | exact ⟨by congr 1; simp [nmS, nm, *], rfl⟩
            ·refine sr_ ?_
             refine WL.y rfl (Yd.eql rfl rfl) ?_
             refine a_ rfl rfl ?_
             refine nt_ ?_
             refine WC.ite rfl (fun h25 => ?_) (fun h25 => ?_)
             ·refine sr_ ?_
              refine a_ rfl rfl ?_
              refine nt_ ?_
              refine WC.ret ?_
              refine DN.block_ret ?_
              refine DN.then_ret ?_
              refine DN.ret1 Tryz.results118 rfl ?_
              first | (exfalso; omega) | exact ⟨by congr 1; simp [nmS, nm, *], rfl⟩
             ·refine WC.skip ?_
              refine DN.block_normal ?_
              refine ts_ ?_
              refine WC.region ?_
              refine a_ rfl rfl ?_
              refine nt_ ?_
              refine WC.ret ?_
              refine DN.ret1 Tryz.results118 rfl ?_
              first | (exfalso; omega) | exact ⟨by congr 1; simp [nmS, nm, *], rfl⟩
           ·refine WC.region ?_
            refine WL.y rfl (Yd.eql rfl rfl) ?_
            refine a_ rfl rfl ?_
            refine nt_ ?_
            refine WC.ite rfl (fun h22 => ?_) (fun h22 => ?_)
            ·refine sr_ ?_
             refine a_ rfl rfl ?_
             refine nt_ ?_
             refine WC.ret ?_
             refine DN.block_ret ?_
             refine DN.then_ret ?_
             refine DN.ret1 Tryz.results118 rfl ?_
             first | (exfalso; omega) | exact ⟨by congr 1; simp [nmS, nm, *], rfl⟩
            ·refine sr_ ?_
             refine WL.y rfl (Yd.eql rfl rfl) ?_
             refine a_ rfl rfl ?_
             refine nt_ ?_
             refine WC.ite rfl (fun h25 => ?_) (fun h25 => ?_)
             ·refine sr_ ?_
              refine a_ rfl rfl ?_
              refine nt_ ?_
              refine WC.ret ?_
              refine DN.block_ret ?_
              refine DN.then_ret ?_
              refine DN.ret1 Tryz.results118 rfl ?_
              first | (exfalso; omega) | exact ⟨by congr 1; simp [nmS, nm, *], rfl⟩
             ·refine WC.skip ?_
              refine DN.block_normal ?_
              refine ts_ ?_
              refine WC.region ?_
              refine a_ rfl rfl ?_
              refine nt_ ?_
              refine WC.ret ?_
              refine DN.ret1 Tryz.results118 rfl ?_
              first | (exfalso; omega) | exact ⟨by congr 1; simp [nmS, nm, *], rfl⟩
    ·refine WC.region ?_
     refine WL.y rfl (Yd.eql rfl rfl) ?_
     refine a_ rfl rfl ?_
     refine nt_ ?_
     refine WC.ite rfl (fun h9 => ?_) (fun h9 => ?_)
     ·refine sr_ ?_
      refine a_ rfl rfl ?_
      refine nt_ ?_
      refine WC.ret ?_
      refine DN.block_ret ?_
      refine DN.then_ret ?_
      refine DN.ret1 Tryz.results118 rfl ?_
      first | (exfalso; omega) | exact ⟨by congr 1; simp [nmS, nm, *], rfl⟩
     ·refine sr_ ?_
      refine WL.y rfl (Yd.eql rfl rfl) ?_
      refine a_ rfl rfl ?_
      refine nt_ ?_
      refine WC.ite rfl (fun h12 => ?_) (fun h12 => ?_)
      ·refine sr_ ?_
       refine a_ rfl rfl ?_
       refine nt_ ?_
       refine WC.ret ?_
       refine DN.block_ret ?_
       refine DN.then_ret ?_
       refine DN.ret1 Tryz.results118 rfl ?_
       first | (exfalso; omega) | exact ⟨by congr 1; simp [nmS, nm, *], rfl⟩
      ·refine sr_ ?_
       refine WL.y rfl (Yd.eql rfl rfl) ?_
       refine a_ rfl rfl ?_
       refine nt_ ?_
       refine WC.ite rfl (fun h14 => ?_) (fun h14 => ?_)
       ·refine sr_ ?_
        refine a_ rfl rfl ?_
        refine nt_ ?_
        refine WC.ret ?_
        refine DN.block_ret ?_
        refine DN.then_ret ?_
        refine DN.ret1 Tryz.results118 rfl ?_
        first | (exfalso; omega) | exact ⟨by congr 1; simp [nmS, nm, *], rfl⟩
       ·refine sr_ ?_
        refine WL.y rfl (Yd.eql rfl rfl) ?_
        refine a_ rfl rfl ?_
        refine nt_ ?_
        refine WC.ite rfl (fun h16 => ?_) (fun h16 => ?_)
        ·refine sr_ ?_
         refine a_ rfl rfl ?_
         refine nt_ ?_
         refine WC.ret ?_
         refine DN.block_ret ?_
         refine DN.then_ret ?_
         refine DN.ret1 Tryz.results118 rfl ?_
         first | (exfalso; omega) | exact ⟨by congr 1; simp [nmS, nm, *], rfl⟩
        ·refine sr_ ?_
         refine WL.y rfl (Yd.eql rfl rfl) ?_
         refine a_ rfl rfl ?_
         refine nt_ ?_
         refine WC.ite rfl (fun h18 => ?_) (fun h18 => ?_)
         ·refine sr_ ?_
          refine a_ rfl rfl ?_
          refine nt_ ?_
          refine WC.ret ?_
          refine DN.block_ret ?_
          refine DN.then_ret ?_
          refine DN.ret1 Tryz.results118 rfl ?_
          first | (exfalso; omega) | exact ⟨by congr 1; simp [nmS, nm, *], rfl⟩
         ·refine sr_ ?_
          refine WL.y rfl (Yd.eql rfl rfl) ?_
          refine a_ rfl rfl ?_
          refine nt_ ?_
          refine WC.ite rfl (fun h20 => ?_) (fun h20 => ?_)
          ·refine sr_ ?_
           refine a_ rfl rfl ?_
           refine nt_ ?_
           refine WC.ret ?_
           refine DN.block_ret ?_
           refine DN.then_ret ?_
           refine DN.ret1 Tryz.results118 rfl ?_
           first | (exfalso; omega) | exact ⟨by congr 1; simp [nmS, nm, *], rfl⟩
          ·refine WC.seq ?_
           refine sr_ ?_
           refine WL.y rfl (Yd.eql rfl rfl) ?_
           refine a_ rfl rfl ?_
           refine nt_ ?_
           refine WC.ite rfl (fun h22 => ?_) (fun h22 => ?_)
           ·refine WC.skip ?_
            refine DN.then_normal ?_
            refine WC.ite rfl (fun h22 => ?_) (fun h22 => ?_)
            ·refine sr_ ?_
             refine a_ rfl rfl ?_
             refine nt_ ?_
             refine WC.ret ?_
             refine DN.block_ret ?_
             refine DN.then_ret ?_
             refine DN.ret1 Tryz.results118 rfl ?_
             first | (exfalso; omega) | exact ⟨by congr 1; simp [nmS, nm, *], rfl⟩
            ·refine sr_ ?_
             refine WL.y rfl (Yd.eql rfl rfl) ?_
             refine a_ rfl rfl ?_
             refine nt_ ?_
             refine WC.ite rfl (fun h25 => ?_) (fun h25 => ?_)
             ·refine sr_ ?_
              refine a_ rfl rfl ?_
              refine nt_ ?_
              refine WC.ret ?_
              refine DN.block_ret ?_
              refine DN.then_ret ?_
              refine DN.ret1 Tryz.results118 rfl ?_
              first | (exfalso; omega) | exact ⟨by congr 1; simp [nmS, nm, *], rfl⟩
             ·refine WC.skip ?_
              refine DN.block_normal ?_
              refine ts_ ?_
              refine WC.region ?_
              refine a_ rfl rfl ?_
              refine nt_ ?_
              refine WC.ret ?_
              refine DN.ret1 Tryz.results118 rfl ?_
              first | (exfalso; omega) | exact ⟨by congr 1; simp [nmS, nm, *], rfl⟩
           ·refine WC.region ?_
            refine WL.y rfl (Yd.eql rfl rfl) ?_
            refine a_ rfl rfl ?_
            refine nt_ ?_
            refine WC.ite rfl (fun h22 => ?_) (fun h22 => ?_)
            ·refine sr_ ?_
             refine a_ rfl rfl ?_
             refine nt_ ?_
             refine WC.ret ?_
             refine DN.block_ret ?_
             refine DN.then_ret ?_
             refine DN.ret1 Tryz.results118 rfl ?_
             first | (exfalso; omega) | exact ⟨by congr 1; simp [nmS, nm, *], rfl⟩
            ·refine sr_ ?_
             refine WL.y rfl (Yd.eql rfl rfl) ?_
             refine a_ rfl rfl ?_
             refine nt_ ?_
             refine WC.ite rfl (fun h25 => ?_) (fun h25 => ?_)
             ·refine sr_ ?_
              refine a_ rfl rfl ?_
              refine nt_ ?_
              refine WC.ret ?_
              refine DN.block_ret ?_
              refine DN.then_ret ?_
              refine DN.ret1 Tryz.results118 rfl ?_
              first | (exfalso; omega) | exact ⟨by congr 1; simp [nmS, nm, *], rfl⟩
             ·refine WC.skip ?_
              refine DN.block_normal ?_
              refine ts_ ?_
              refine WC.region ?_
              refine a_ rfl rfl ?_
              refine nt_ ?_
              refine WC.ret ?_
              refine DN.ret1 Tryz.results118 rfl ?_
              first | (exfalso; omega) | exact ⟨by congr 1; simp [nmS, nm, *], rfl⟩
theorem without_reads (n : Nt) (vk vd : Value) (c : Int) (h1 : vk.oneCell' = true) (h2 : vd.oneCell' = true) (H : List Ck) : Reads Tryz.prog 119 [.agg (ntc n vk vd).toArray, .int .i32 c] H (.agg (ntc (wo n c) (woK vk c) (woD vd c)).toArray) := by
 refine Tells.enter Tryz.func119 rfl Tryz.ntmps119 rfl ?_
 intro w0 R
 refine sr_ ?_
 refine WL.h rfl (Hd.boxA rfl fun b2 => ⟨_, rfl, ?_⟩)
 refine WL.h rfl (Hd.alloc (zs := [.int .i64 0, .int .u32 0, .int .u32 0, .int .u64 0, .int .u64 0, .int .u32 0, .int .i64 0, .bool false, .int .i64 0, .slice none 0 0, .slice none 0 0]) kr_ fun b4 => ⟨_, rfl, ?_⟩)
 refine nt_ ?_
 refine WC.seq ?_
 refine sr_ ?_
 refine m_ rfl rfl ?_
 refine nt_ ?_
 refine WC.block ?_
 refine sr_ ?_
 refine WL.y rfl (Yd.eql rfl rfl) ?_
 refine a_ rfl rfl ?_
 refine nt_ ?_
 refine WC.ite rfl (fun h6 => ?_) (fun h6 => ?_)
 ·refine WC.region ?_
  refine f_ 1 kr_ rfl rfl ?_
  refine WL.s (Hd.store1s kr_ rfl rfl (by rfl) fr_ (by rfl) (by first | (simp only [List.set_cons_zero, List.set_cons_succ, Nat.zero_add, Nat.add_zero, Nat.reduceAdd]; rfl) | rfl) ⟨rfl, ?_⟩)
  refine WL.nil ?_
  refine DN.block_normal ?_
  refine ts_ ?_
  refine WC.region ?_
  refine WL.h rfl (Hd.loadAll (n := 11) kr_ rfl mem_ (by rfl) ⟨_, rfl, ?_⟩)
  refine WL.s (Hd.storeAll (n := 11) kr_ rfl rfl (by rfl) one_ fr_ (by rfl) ⟨rfl, ?_⟩)
  refine nt_ ?_
  refine WC.ret ?_
  refine DN.retCF (s := 11) H Tryz.results119 kr_ rfl List.mem_cons_self (by rfl) ((List.sublist_cons_self _ _).trans (List.sublist_cons_self _ _)) ?_
  exact ⟨by simp [wo, woK, woD, ntc, *], rfl⟩
 ·refine sr_ ?_
  refine WL.y rfl (Yd.eql rfl rfl) ?_
  refine a_ rfl rfl ?_
  refine nt_ ?_
  refine WC.ite rfl (fun h9 => ?_) (fun h9 => ?_)
  ·refine WC.region ?_
   refine f_ 2 kr_ rfl rfl ?_
   refine WL.s (Hd.store1s kr_ rfl rfl (by rfl) fr_ (by rfl) (by first | (simp only [List.set_cons_zero, List.set_cons_succ, Nat.zero_add, Nat.add_zero, Nat.reduceAdd]; rfl) | rfl) ⟨rfl, ?_⟩)
   refine WL.nil ?_
   refine DN.block_normal ?_
   refine ts_ ?_
   refine WC.region ?_
   refine WL.h rfl (Hd.loadAll (n := 11) kr_ rfl mem_ (by rfl) ⟨_, rfl, ?_⟩)
   refine WL.s (Hd.storeAll (n := 11) kr_ rfl rfl (by rfl) one_ fr_ (by rfl) ⟨rfl, ?_⟩)
   refine nt_ ?_
   refine WC.ret ?_
   refine DN.retCF (s := 11) H Tryz.results119 kr_ rfl List.mem_cons_self (by rfl) ((List.sublist_cons_self _ _).trans (List.sublist_cons_self _ _)) ?_
   exact ⟨by simp [wo, woK, woD, ntc, *], rfl⟩
  ·refine sr_ ?_
   refine WL.y rfl (Yd.eql rfl rfl) ?_
   refine a_ rfl rfl ?_
   refine nt_ ?_
   refine WC.ite rfl (fun h12 => ?_) (fun h12 => ?_)
   ·refine WC.region ?_
    refine f_ 3 kr_ rfl rfl ?_
    refine WL.s (Hd.store1s kr_ rfl rfl (by rfl) fr_ (by rfl) (by first | (simp only [List.set_cons_zero, List.set_cons_succ, Nat.zero_add, Nat.add_zero, Nat.reduceAdd]; rfl) | rfl) ⟨rfl, ?_⟩)
    refine WL.nil ?_
    refine DN.block_normal ?_
    refine ts_ ?_
    refine WC.region ?_
    refine WL.h rfl (Hd.loadAll (n := 11) kr_ rfl mem_ (by rfl) ⟨_, rfl, ?_⟩)
    refine WL.s (Hd.storeAll (n := 11) kr_ rfl rfl (by rfl) one_ fr_ (by rfl) ⟨rfl, ?_⟩)
    refine nt_ ?_
    refine WC.ret ?_
    refine DN.retCF (s := 11) H Tryz.results119 kr_ rfl List.mem_cons_self (by rfl) ((List.sublist_cons_self _ _).trans (List.sublist_cons_self _ _)) ?_
    exact ⟨by simp [wo, woK, woD, ntc, *], rfl⟩
   ·refine sr_ ?_
    refine WL.y rfl (Yd.eql rfl rfl) ?_
    refine a_ rfl rfl ?_
    refine nt_ ?_
    refine WC.ite rfl (fun h15 => ?_) (fun h15 => ?_)
    ·refine WC.region ?_
     refine f_ 4 kr_ rfl rfl ?_
     refine WL.s (Hd.store1s kr_ rfl rfl (by rfl) fr_ (by rfl) (by first | (simp only [List.set_cons_zero, List.set_cons_succ, Nat.zero_add, Nat.add_zero, Nat.reduceAdd]; rfl) | rfl) ⟨rfl, ?_⟩)
     refine WL.nil ?_
     refine DN.block_normal ?_
     refine ts_ ?_
     refine WC.region ?_
     refine WL.h rfl (Hd.loadAll (n := 11) kr_ rfl mem_ (by rfl) ⟨_, rfl, ?_⟩)
     refine WL.s (Hd.storeAll (n := 11) kr_ rfl rfl (by rfl) one_ fr_ (by rfl) ⟨rfl, ?_⟩)
     refine nt_ ?_
     refine WC.ret ?_
     refine DN.retCF (s := 11) H Tryz.results119 kr_ rfl List.mem_cons_self (by rfl) ((List.sublist_cons_self _ _).trans (List.sublist_cons_self _ _)) ?_
     exact ⟨by simp [wo, woK, woD, ntc, *], rfl⟩
    ·refine sr_ ?_
     refine WL.y rfl (Yd.eql rfl rfl) ?_
     refine a_ rfl rfl ?_
     refine nt_ ?_
     refine WC.ite rfl (fun h18 => ?_) (fun h18 => ?_)
     ·refine WC.region ?_
      refine f_ 5 kr_ rfl rfl ?_
      refine WL.s (Hd.store1s kr_ rfl rfl (by rfl) fr_ (by rfl) (by first | (simp only [List.set_cons_zero, List.set_cons_succ, Nat.zero_add, Nat.add_zero, Nat.reduceAdd]; rfl) | rfl) ⟨rfl, ?_⟩)
      refine WL.nil ?_
      refine DN.block_normal ?_
      refine ts_ ?_
      refine WC.region ?_
      refine WL.h rfl (Hd.loadAll (n := 11) kr_ rfl mem_ (by rfl) ⟨_, rfl, ?_⟩)
      refine WL.s (Hd.storeAll (n := 11) kr_ rfl rfl (by rfl) one_ fr_ (by rfl) ⟨rfl, ?_⟩)
      refine nt_ ?_
      refine WC.ret ?_
      refine DN.retCF (s := 11) H Tryz.results119 kr_ rfl List.mem_cons_self (by rfl) ((List.sublist_cons_self _ _).trans (List.sublist_cons_self _ _)) ?_
      exact ⟨by simp [wo, woK, woD, ntc, *], rfl⟩
     ·refine sr_ ?_
      refine WL.y rfl (Yd.eql rfl rfl) ?_
      refine a_ rfl rfl ?_
      refine nt_ ?_
      refine WC.ite rfl (fun h21 => ?_) (fun h21 => ?_)
      ·refine WC.region ?_
       refine f_ 6 kr_ rfl rfl ?_
       refine WL.s (Hd.store1s kr_ rfl rfl (by rfl) fr_ (by rfl) (by first | (simp only [List.set_cons_zero, List.set_cons_succ, Nat.zero_add, Nat.add_zero, Nat.reduceAdd]; rfl) | rfl) ⟨rfl, ?_⟩)
       refine WL.nil ?_
       refine DN.block_normal ?_
       refine ts_ ?_
       refine WC.region ?_
       refine WL.h rfl (Hd.loadAll (n := 11) kr_ rfl mem_ (by rfl) ⟨_, rfl, ?_⟩)
       refine WL.s (Hd.storeAll (n := 11) kr_ rfl rfl (by rfl) one_ fr_ (by rfl) ⟨rfl, ?_⟩)
       refine nt_ ?_
       refine WC.ret ?_
       refine DN.retCF (s := 11) H Tryz.results119 kr_ rfl List.mem_cons_self (by rfl) ((List.sublist_cons_self _ _).trans (List.sublist_cons_self _ _)) ?_
       exact ⟨by simp [wo, woK, woD, ntc, *], rfl⟩
      ·refine sr_ ?_
       refine WL.y rfl (Yd.eql rfl rfl) ?_
       refine a_ rfl rfl ?_
       refine nt_ ?_
       refine WC.ite rfl (fun h24 => ?_) (fun h24 => ?_)
       ·refine WC.region ?_
        refine f_ 7 kr_ rfl rfl ?_
        refine WL.s (Hd.store1s kr_ rfl rfl (by rfl) fr_ (by rfl) (by first | (simp only [List.set_cons_zero, List.set_cons_succ, Nat.zero_add, Nat.add_zero, Nat.reduceAdd]; rfl) | rfl) ⟨rfl, ?_⟩)
        refine WL.nil ?_
        refine DN.block_normal ?_
        refine ts_ ?_
        refine WC.region ?_
        refine WL.h rfl (Hd.loadAll (n := 11) kr_ rfl mem_ (by rfl) ⟨_, rfl, ?_⟩)
        refine WL.s (Hd.storeAll (n := 11) kr_ rfl rfl (by rfl) one_ fr_ (by rfl) ⟨rfl, ?_⟩)
        refine nt_ ?_
        refine WC.ret ?_
        refine DN.retCF (s := 11) H Tryz.results119 kr_ rfl List.mem_cons_self (by rfl) ((List.sublist_cons_self _ _).trans (List.sublist_cons_self _ _)) ?_
        exact ⟨by simp [wo, woK, woD, ntc, *], rfl⟩
       ·refine sr_ ?_
        refine WL.y rfl (Yd.eql rfl rfl) ?_
        refine a_ rfl rfl ?_
        refine nt_ ?_
        refine WC.ite rfl (fun h27 => ?_) (fun h27 => ?_)
        ·refine WC.region ?_
         refine f_ 8 kr_ rfl rfl ?_
         refine WL.s (Hd.store1s kr_ rfl rfl (by rfl) fr_ (by rfl) (by first | (simp only [List.set_cons_zero, List.set_cons_succ, Nat.zero_add, Nat.add_zero, Nat.reduceAdd]; rfl) | rfl) ⟨rfl, ?_⟩)
         refine WL.nil ?_
         refine DN.block_normal ?_
         refine ts_ ?_
         refine WC.region ?_
         refine WL.h rfl (Hd.loadAll (n := 11) kr_ rfl mem_ (by rfl) ⟨_, rfl, ?_⟩)
         refine WL.s (Hd.storeAll (n := 11) kr_ rfl rfl (by rfl) one_ fr_ (by rfl) ⟨rfl, ?_⟩)
         refine nt_ ?_
         refine WC.ret ?_
         refine DN.retCF (s := 11) H Tryz.results119 kr_ rfl List.mem_cons_self (by rfl) ((List.sublist_cons_self _ _).trans (List.sublist_cons_self _ _)) ?_
         exact ⟨by simp [wo, woK, woD, ntc, *], rfl⟩
        ·refine sr_ ?_
         refine WL.y rfl (Yd.eql rfl rfl) ?_
         refine a_ rfl rfl ?_
         refine nt_ ?_
         refine WC.ite rfl (fun h30 => ?_) (fun h30 => ?_)
         ·refine WC.region ?_
          refine f_ 9 kr_ rfl rfl ?_
          refine WL.s (Hd.store1s kr_ rfl rfl (by rfl) fr_ (by rfl) (by first | (simp only [List.set_cons_zero, List.set_cons_succ, Nat.zero_add, Nat.add_zero, Nat.reduceAdd]; rfl) | rfl) ⟨rfl, ?_⟩)
          refine WL.nil ?_
          refine DN.block_normal ?_
          refine ts_ ?_
          refine WC.region ?_
          refine WL.h rfl (Hd.loadAll (n := 11) kr_ rfl mem_ (by rfl) ⟨_, rfl, ?_⟩)
          refine WL.s (Hd.storeAll (n := 11) kr_ rfl rfl (by rfl) one_ fr_ (by rfl) ⟨rfl, ?_⟩)
          refine nt_ ?_
          refine WC.ret ?_
          refine DN.retCF (s := 11) H Tryz.results119 kr_ rfl List.mem_cons_self (by rfl) ((List.sublist_cons_self _ _).trans (List.sublist_cons_self _ _)) ?_
          exact ⟨by simp [wo, woK, woD, ntc, *], rfl⟩
         ·refine sr_ ?_
          refine WL.y rfl (Yd.eql rfl rfl) ?_
          refine a_ rfl rfl ?_
          refine nt_ ?_
          refine WC.ite rfl (fun h33 => ?_) (fun h33 => ?_)
          ·refine WC.region ?_
           refine f_ 10 kr_ rfl rfl ?_
           refine WL.s (Hd.store1s kr_ rfl rfl (by rfl) fr_ (by rfl) (by first | (simp only [List.set_cons_zero, List.set_cons_succ, Nat.zero_add, Nat.add_zero, Nat.reduceAdd]; rfl) | rfl) ⟨rfl, ?_⟩)
           refine WL.nil ?_
           refine DN.block_normal ?_
           refine ts_ ?_
           refine WC.region ?_
           refine WL.h rfl (Hd.loadAll (n := 11) kr_ rfl mem_ (by rfl) ⟨_, rfl, ?_⟩)
           refine WL.s (Hd.storeAll (n := 11) kr_ rfl rfl (by rfl) one_ fr_ (by rfl) ⟨rfl, ?_⟩)
           refine nt_ ?_
           refine WC.ret ?_
           refine DN.retCF (s := 11) H Tryz.results119 kr_ rfl List.mem_cons_self (by rfl) ((List.sublist_cons_self _ _).trans (List.sublist_cons_self _ _)) ?_
           exact ⟨by simp [wo, woK, woD, ntc, *], rfl⟩
          ·refine WC.skip ?_
           refine DN.block_normal ?_
           refine ts_ ?_
           refine WC.region ?_
           refine WL.h rfl (Hd.loadAll (n := 11) kr_ rfl mem_ (by rfl) ⟨_, rfl, ?_⟩)
           refine WL.s (Hd.storeAll (n := 11) kr_ rfl rfl (by rfl) one_ fr_ (by rfl) ⟨rfl, ?_⟩)
           refine nt_ ?_
           refine WC.ret ?_
           refine DN.retCF (s := 11) H Tryz.results119 kr_ rfl List.mem_cons_self (by rfl) ((List.sublist_cons_self _ _).trans (List.sublist_cons_self _ _)) ?_
           exact ⟨by simp [wo, woK, woD, ntc, *], rfl⟩
theorem check_reads (n : Nt) (vk vd : Value) (hk : IsSl vk n.key.length) (hd : IsSl vd n.data.length) (H : List Ck) : Reads Tryz.prog 83 [.agg (ntc n vk vd).toArray] H (.int .i64 (if noteBad n then 50 else 0)) := by
 refine Tells.enter Tryz.func83 rfl Tryz.ntmps83 rfl ?_
 intro w0 R
 obtain ⟨ko, kc, rfl⟩ := hk
 obtain ⟨eo, ec, rfl⟩ := hd
 refine sr_ ?_
 refine WL.h rfl (Hd.boxA rfl fun b1 => ⟨_, rfl, ?_⟩)
 refine a_ rfl rfl ?_
 refine ntsr_ ?_
 refine f_ 0 kr_ rfl rfl ?_
 refine d_ kr_ rfl mem_ (by rfl) rfl ?_
 refine WL.r rfl (Ent.func Tryz.call118 rfl) (names_reads n.kind _) ?_
 refine a_ rfl rfl ?_
 refine ntsr_ ?_
 refine WL.h rfl (Hd.loadAll (n := 11) kr_ rfl mem_ (by rfl) ⟨_, rfl, ?_⟩)
 refine WL.h rfl (Hd.alloc (zs := [.int .i64 0, .int .u32 0, .int .u32 0, .int .u64 0, .int .u64 0, .int .u32 0, .int .i64 0, .bool false, .int .i64 0, .slice none 0 0, .slice none 0 0]) kr_ fun b4 => ⟨_, rfl, ?_⟩)
 refine WL.s (Hd.storeAll (n := 11) kr_ rfl rfl (by rfl) one_ fr_ (by rfl) ⟨rfl, ?_⟩)
 refine nt_ ?_
 refine WC.seq ?_
 refine sr_ ?_
 refine m_ rfl rfl ?_
 refine WL.h rfl (Hd.rangeS kr_ rfl fun b14 => ⟨_, rfl, ?_⟩)
 refine nt_ ?_
 refine WC.block ?_
 refine WC.loopK (fun z : Nat × Value × Value => z.1 ≤ (nm n.kind).length ∧ IsSl z.2.1 (restTo n z.1).key.length ∧ IsSl z.2.2 (restTo n z.1).data.length) (fun z : Nat × Value × Value => []) (fun z : Nat × Value × Value => row b4 (ntc (restTo n z.1) z.2.1 z.2.2) 52 :: ⟨b14, .stringIter (nmS n.kind) z.1, true⟩ :: row b1 (ntc n (.slice ko n.key.length kc) (.slice eo n.data.length ec)) 52 :: H) (fun z : Nat × Value × Value => (nm n.kind).length - z.1) ((0, .slice ko n.key.length kc, .slice eo n.data.length ec)) (⟨Nat.zero_le _, ⟨_, _, rfl⟩, ⟨_, _, rfl⟩⟩) (sx_) (Sp.all sp_) ?_
 rintro ⟨i, vk, vd⟩ ⟨hi, hs1, hs2⟩
 simp only at hi hs1 hs2
 obtain ⟨mo, mc, rfl⟩ := hs1
 obtain ⟨oo, oc, rfl⟩ := hs2
 refine sr_ ?_
 refine WL.h rfl (Hd.nextS rfl fr_ (fun hlt => ⟨nmS_small n.kind i hlt, ⟨_, rfl, ?_⟩⟩) (fun hge => ⟨_, rfl, ?_⟩))
 ·rw [nmS_at _ _ hlt]
  rw [nmS_size] at hlt
  refine x_ rfl rfl rfl ?_
  refine nt_ ?_
  refine WC.seq ?_
  refine WC.yes rfl ?_
  refine WC.skip ?_
  refine DN.then_normal ?_
  refine WC.block ?_
  refine sr_ ?_
  refine x_ rfl rfl rfl ?_
  refine a_ rfl rfl ?_
  refine ntr_ ?_
  refine WL.h rfl (Hd.loadAll (n := 11) kr_ rfl mem_ (by rfl) ⟨_, rfl, ?_⟩)
  refine m_ rfl rfl ?_
  refine WL.r rfl (Ent.func Tryz.call119 rfl) (without_reads (restTo n i) (.slice mo _ mc) (.slice oo _ oc) _ rfl rfl _) ?_
  refine WL.s (Hd.storeAll (n := 11) kr_ rfl rfl (by rfl) (ntc_one (IsSl.woK (v := .slice mo (restTo n i).key.length mc) (n := restTo n i) ⟨_, _, rfl⟩ _).one (IsSl.woD (v := .slice oo (restTo n i).data.length oc) (n := restTo n i) ⟨_, _, rfl⟩ _).one) fr_ (by rfl) ⟨rfl, ?_⟩)
  refine WL.nil ?_
  refine DN.block_normal ?_
  have en := restTo_next n i hlt
  have hsl1 := IsSl.woK (v := .slice mo (restTo n i).key.length mc) (n := restTo n i) ⟨_, _, rfl⟩ ((nm n.kind).getD i 0 : Nat)
  have hsl2 := IsSl.woD (v := .slice oo (restTo n i).data.length oc) (n := restTo n i) ⟨_, _, rfl⟩ ((nm n.kind).getD i 0 : Nat)
  rw [← en] at hsl1 hsl2 ⊢
  exact DN.againK ((i + 1, _, _)) (⟨by show i + 1 ≤ (nm n.kind).length; omega, hsl1, hsl2⟩) (show (nm n.kind).length - (i + 1) < (nm n.kind).length - i by omega) (sx_) (Sp.all sp_)
 ·rw [nmS_size] at hge
  obtain rfl : i = (nm n.kind).length := by omega
  rw [show restTo n (nm n.kind).length = rest n from rfl]
  refine x_ rfl rfl rfl ?_
  refine nt_ ?_
  refine WC.seq ?_
  refine WC.no rfl ?_
  refine WC.exit ?_
  refine DN.then_exit ?_
  refine DN.then_exit ?_
  refine DN.block_exit ?_
  refine DN.then_normal ?_
  refine WC.cutK (fun z : Bool => z = moreB (rest n)) (fun z : Bool => [(7, .bool z)]) (fun z : Bool => row b4 (ntc (rest n) (.slice mo (rest n).key.length mc) (.slice oo (rest n).data.length oc)) 52 :: ⟨b14, .stringIter (nmS n.kind) (nm n.kind).length, true⟩ :: row b1 (ntc n (.slice ko n.key.length kc) (.slice eo n.data.length ec)) 52 :: H) ?_ ?_
  ·refine WC.region ?_
   refine f_ 1 kr_ rfl rfl ?_
   refine d_ kr_ rfl mem_ (by rfl) rfl ?_
   refine WL.y rfl (Yd.gtr rfl rfl) ?_
   refine m_ rfl rfl ?_
   refine WL.partP (t := 24) rfl (fun hg24 => ?_) (fun hg24 => ?_)
   ·iterate 3 refine gn_ 24 rfl rfl rfl rfl ?_
    refine WL.y rfl (Yd.pickT rfl rfl) ?_
    refine m_ rfl rfl ?_
    iterate 3 refine gn_ 29 rfl rfl rfl rfl ?_
    refine WL.y rfl (Yd.pickT rfl rfl) ?_
    refine m_ rfl rfl ?_
    iterate 3 refine gn_ 34 rfl rfl rfl rfl ?_
    refine WL.y rfl (Yd.pickT rfl rfl) ?_
    refine m_ rfl rfl ?_
    iterate 3 refine gn_ 39 rfl rfl rfl rfl ?_
    refine WL.y rfl (Yd.pickT rfl rfl) ?_
    refine m_ rfl rfl ?_
    iterate 3 refine gn_ 44 rfl rfl rfl rfl ?_
    refine WL.y rfl (Yd.pickT rfl rfl) ?_
    refine m_ rfl rfl ?_
    refine gn_ 49 rfl rfl rfl rfl ?_
    refine gn_ 49 rfl rfl rfl rfl ?_
    refine WL.y rfl (Yd.pickT rfl rfl) ?_
    refine m_ rfl rfl ?_
    iterate 3 refine gn_ 53 rfl rfl rfl rfl ?_
    refine WL.y rfl (Yd.pickT rfl rfl) ?_
    refine m_ rfl rfl ?_
    iterate 4 refine gn_ 58 rfl rfl rfl rfl ?_
    refine WL.y rfl (Yd.pickT rfl rfl) ?_
    refine m_ rfl rfl ?_
    iterate 4 refine gn_ 64 rfl rfl rfl rfl ?_
    refine WL.y rfl (Yd.pickT rfl rfl) ?_
    refine a_ rfl rfl ?_
    refine WL.nil ?_
    exact DN.reachK (_) (by rw [Bool.eq_iff_iff]; simp only [moreB, Bool.or_eq_true, decide_eq_true_eq, true_iff]; first | omega | (simp only [*, Bool.false_eq_true, false_or, true_or, or_true]; omega) | (simp [*]; done) | (simp [*]; omega)) (Sx.put rfl (sx_)) (Sp.all sp_)
   ·refine gy_ 24 rfl rfl rfl (Yd.fieldAddr (k := 2) kr_ rfl) ?_
    refine WL.gh (dj := 24) rfl rfl rfl (Hd.load1 kr_ rfl mem_ (by rfl) ⟨_, rfl, ?_⟩)
    refine gy_ 24 rfl rfl rfl (Yd.gtr rfl rfl) ?_
    refine WL.y rfl (Yd.pickF rfl rfl) ?_
    refine m_ rfl rfl ?_
    refine WL.partP (t := 29) rfl (fun hg29 => ?_) (fun hg29 => ?_)
    ·iterate 3 refine gn_ 29 rfl rfl rfl rfl ?_
     refine WL.y rfl (Yd.pickT rfl rfl) ?_
     refine m_ rfl rfl ?_
     iterate 3 refine gn_ 34 rfl rfl rfl rfl ?_
     refine WL.y rfl (Yd.pickT rfl rfl) ?_
     refine m_ rfl rfl ?_
     iterate 3 refine gn_ 39 rfl rfl rfl rfl ?_
     refine WL.y rfl (Yd.pickT rfl rfl) ?_
     refine m_ rfl rfl ?_
     iterate 3 refine gn_ 44 rfl rfl rfl rfl ?_
     refine WL.y rfl (Yd.pickT rfl rfl) ?_
     refine m_ rfl rfl ?_
     refine gn_ 49 rfl rfl rfl rfl ?_
     refine gn_ 49 rfl rfl rfl rfl ?_
     refine WL.y rfl (Yd.pickT rfl rfl) ?_
     refine m_ rfl rfl ?_
     iterate 3 refine gn_ 53 rfl rfl rfl rfl ?_
     refine WL.y rfl (Yd.pickT rfl rfl) ?_
     refine m_ rfl rfl ?_
     iterate 4 refine gn_ 58 rfl rfl rfl rfl ?_
     refine WL.y rfl (Yd.pickT rfl rfl) ?_
     refine m_ rfl rfl ?_
     iterate 4 refine gn_ 64 rfl rfl rfl rfl ?_
     refine WL.y rfl (Yd.pickT rfl rfl) ?_
     refine a_ rfl rfl ?_
     refine WL.nil ?_
     exact DN.reachK (_) (by rw [Bool.eq_iff_iff]; simp only [moreB, Bool.or_eq_true, decide_eq_true_eq, true_iff]; first | omega | (simp only [*, Bool.false_eq_true, false_or, true_or, or_true]; omega) | (simp [*]; done) | (simp [*]; omega)) (Sx.put rfl (sx_)) (Sp.all sp_)
    ·refine gy_ 29 rfl rfl rfl (Yd.fieldAddr (k := 3) kr_ rfl) ?_
     refine WL.gh (dj := 29) rfl rfl rfl (Hd.load1 kr_ rfl mem_ (by rfl) ⟨_, rfl, ?_⟩)
     refine gy_ 29 rfl rfl rfl (Yd.gtr rfl rfl) ?_
     refine WL.y rfl (Yd.pickF rfl rfl) ?_
     refine m_ rfl rfl ?_
     refine WL.partP (t := 34) rfl (fun hg34 => ?_) (fun hg34 => ?_)
     ·iterate 3 refine gn_ 34 rfl rfl rfl rfl ?_
      refine WL.y rfl (Yd.pickT rfl rfl) ?_
      refine m_ rfl rfl ?_
      iterate 3 refine gn_ 39 rfl rfl rfl rfl ?_
      refine WL.y rfl (Yd.pickT rfl rfl) ?_
      refine m_ rfl rfl ?_
      iterate 3 refine gn_ 44 rfl rfl rfl rfl ?_
      refine WL.y rfl (Yd.pickT rfl rfl) ?_
      refine m_ rfl rfl ?_
      refine gn_ 49 rfl rfl rfl rfl ?_
      refine gn_ 49 rfl rfl rfl rfl ?_
      refine WL.y rfl (Yd.pickT rfl rfl) ?_
      refine m_ rfl rfl ?_
      iterate 3 refine gn_ 53 rfl rfl rfl rfl ?_
      refine WL.y rfl (Yd.pickT rfl rfl) ?_
      refine m_ rfl rfl ?_
      iterate 4 refine gn_ 58 rfl rfl rfl rfl ?_
      refine WL.y rfl (Yd.pickT rfl rfl) ?_
      refine m_ rfl rfl ?_
      iterate 4 refine gn_ 64 rfl rfl rfl rfl ?_
      refine WL.y rfl (Yd.pickT rfl rfl) ?_
      refine a_ rfl rfl ?_
      refine WL.nil ?_
      exact DN.reachK (_) (by rw [Bool.eq_iff_iff]; simp only [moreB, Bool.or_eq_true, decide_eq_true_eq, true_iff]; first | omega | (simp only [*, Bool.false_eq_true, false_or, true_or, or_true]; omega) | (simp [*]; done) | (simp [*]; omega)) (Sx.put rfl (sx_)) (Sp.all sp_)
     ·refine gy_ 34 rfl rfl rfl (Yd.fieldAddr (k := 4) kr_ rfl) ?_
      refine WL.gh (dj := 34) rfl rfl rfl (Hd.load1 kr_ rfl mem_ (by rfl) ⟨_, rfl, ?_⟩)
      refine gy_ 34 rfl rfl rfl (Yd.gtr rfl rfl) ?_
      refine WL.y rfl (Yd.pickF rfl rfl) ?_
      refine m_ rfl rfl ?_
      refine WL.partP (t := 39) rfl (fun hg39 => ?_) (fun hg39 => ?_)
      ·iterate 3 refine gn_ 39 rfl rfl rfl rfl ?_
       refine WL.y rfl (Yd.pickT rfl rfl) ?_
       refine m_ rfl rfl ?_
       iterate 3 refine gn_ 44 rfl rfl rfl rfl ?_
       refine WL.y rfl (Yd.pickT rfl rfl) ?_
       refine m_ rfl rfl ?_
       refine gn_ 49 rfl rfl rfl rfl ?_
       refine gn_ 49 rfl rfl rfl rfl ?_
       refine WL.y rfl (Yd.pickT rfl rfl) ?_
       refine m_ rfl rfl ?_
       iterate 3 refine gn_ 53 rfl rfl rfl rfl ?_
       refine WL.y rfl (Yd.pickT rfl rfl) ?_
       refine m_ rfl rfl ?_
       iterate 4 refine gn_ 58 rfl rfl rfl rfl ?_
       refine WL.y rfl (Yd.pickT rfl rfl) ?_
       refine m_ rfl rfl ?_
       iterate 4 refine gn_ 64 rfl rfl rfl rfl ?_
       refine WL.y rfl (Yd.pickT rfl rfl) ?_
       refine a_ rfl rfl ?_
       refine WL.nil ?_
       exact DN.reachK (_) (by rw [Bool.eq_iff_iff]; simp only [moreB, Bool.or_eq_true, decide_eq_true_eq, true_iff]; first | omega | (simp only [*, Bool.false_eq_true, false_or, true_or, or_true]; omega) | (simp [*]; done) | (simp [*]; omega)) (Sx.put rfl (sx_)) (Sp.all sp_)
      ·refine gy_ 39 rfl rfl rfl (Yd.fieldAddr (k := 5) kr_ rfl) ?_
       refine WL.gh (dj := 39) rfl rfl rfl (Hd.load1 kr_ rfl mem_ (by rfl) ⟨_, rfl, ?_⟩)
       refine gy_ 39 rfl rfl rfl (Yd.gtr rfl rfl) ?_
       refine WL.y rfl (Yd.pickF rfl rfl) ?_
       refine m_ rfl rfl ?_
       refine WL.partP (t := 44) rfl (fun hg44 => ?_) (fun hg44 => ?_)
       ·iterate 3 refine gn_ 44 rfl rfl rfl rfl ?_
        refine WL.y rfl (Yd.pickT rfl rfl) ?_
        refine m_ rfl rfl ?_
        refine gn_ 49 rfl rfl rfl rfl ?_
        refine gn_ 49 rfl rfl rfl rfl ?_
        refine WL.y rfl (Yd.pickT rfl rfl) ?_
        refine m_ rfl rfl ?_
        iterate 3 refine gn_ 53 rfl rfl rfl rfl ?_
        refine WL.y rfl (Yd.pickT rfl rfl) ?_
        refine m_ rfl rfl ?_
        iterate 4 refine gn_ 58 rfl rfl rfl rfl ?_
        refine WL.y rfl (Yd.pickT rfl rfl) ?_
        refine m_ rfl rfl ?_
        iterate 4 refine gn_ 64 rfl rfl rfl rfl ?_
        refine WL.y rfl (Yd.pickT rfl rfl) ?_
        refine a_ rfl rfl ?_
        refine WL.nil ?_
        exact DN.reachK (_) (by rw [Bool.eq_iff_iff]; simp only [moreB, Bool.or_eq_true, decide_eq_true_eq, true_iff]; first | omega | (simp only [*, Bool.false_eq_true, false_or, true_or, or_true]; omega) | (simp [*]; done) | (simp [*]; omega)) (Sx.put rfl (sx_)) (Sp.all sp_)
       ·refine gy_ 44 rfl rfl rfl (Yd.fieldAddr (k := 6) kr_ rfl) ?_
        refine WL.gh (dj := 44) rfl rfl rfl (Hd.load1 kr_ rfl mem_ (by rfl) ⟨_, rfl, ?_⟩)
        refine gy_ 44 rfl rfl rfl (Yd.neq rfl rfl) ?_
        refine WL.y rfl (Yd.pickF rfl rfl) ?_
        refine m_ rfl rfl ?_
        refine WL.partP (t := 49) rfl (fun hg49 => ?_) (fun hg49 => ?_)
        ·refine gn_ 49 rfl rfl rfl rfl ?_
         refine gn_ 49 rfl rfl rfl rfl ?_
         refine WL.y rfl (Yd.pickT rfl rfl) ?_
         refine m_ rfl rfl ?_
         iterate 3 refine gn_ 53 rfl rfl rfl rfl ?_
         refine WL.y rfl (Yd.pickT rfl rfl) ?_
         refine m_ rfl rfl ?_
         iterate 4 refine gn_ 58 rfl rfl rfl rfl ?_
         refine WL.y rfl (Yd.pickT rfl rfl) ?_
         refine m_ rfl rfl ?_
         iterate 4 refine gn_ 64 rfl rfl rfl rfl ?_
         refine WL.y rfl (Yd.pickT rfl rfl) ?_
         refine a_ rfl rfl ?_
         refine WL.nil ?_
         exact DN.reachK (_) (by rw [Bool.eq_iff_iff]; simp only [moreB, Bool.or_eq_true, decide_eq_true_eq, true_iff]; first | omega | (simp only [*, Bool.false_eq_true, false_or, true_or, or_true]; omega) | (simp [*]; done) | (simp [*]; omega)) (Sx.put rfl (sx_)) (Sp.all sp_)
        ·refine gy_ 49 rfl rfl rfl (Yd.fieldAddr (k := 7) kr_ rfl) ?_
         refine WL.gh (dj := 49) rfl rfl rfl (Hd.load1 kr_ rfl mem_ (by rfl) ⟨_, rfl, ?_⟩)
         refine WL.y rfl (Yd.pickF rfl rfl) ?_
         refine m_ rfl rfl ?_
         refine WL.part (t := 53) rfl (fun hg53 => ?_) (fun hg53 => ?_)
         ·iterate 3 refine gn_ 53 rfl rfl rfl rfl ?_
          refine WL.y rfl (Yd.pickT rfl rfl) ?_
          refine m_ rfl rfl ?_
          iterate 4 refine gn_ 58 rfl rfl rfl rfl ?_
          refine WL.y rfl (Yd.pickT rfl rfl) ?_
          refine m_ rfl rfl ?_
          iterate 4 refine gn_ 64 rfl rfl rfl rfl ?_
          refine WL.y rfl (Yd.pickT rfl rfl) ?_
          refine a_ rfl rfl ?_
          refine WL.nil ?_
          exact DN.reachK (_) (by rw [Bool.eq_iff_iff]; simp only [moreB, Bool.or_eq_true, decide_eq_true_eq, true_iff]; first | omega | (simp only [*, Bool.false_eq_true, false_or, true_or, or_true]; omega) | (simp [*]; done) | (simp [*]; omega)) (Sx.put rfl (sx_)) (Sp.all sp_)
         ·refine gy_ 53 rfl rfl rfl (Yd.fieldAddr (k := 8) kr_ rfl) ?_
          refine WL.gh (dj := 53) rfl rfl rfl (Hd.load1 kr_ rfl mem_ (by rfl) ⟨_, rfl, ?_⟩)
          refine gy_ 53 rfl rfl rfl (Yd.neq rfl rfl) ?_
          refine WL.y rfl (Yd.pickF rfl rfl) ?_
          refine m_ rfl rfl ?_
          refine WL.partP (t := 58) rfl (fun hg58 => ?_) (fun hg58 => ?_)
          ·iterate 4 refine gn_ 58 rfl rfl rfl rfl ?_
           refine WL.y rfl (Yd.pickT rfl rfl) ?_
           refine m_ rfl rfl ?_
           iterate 4 refine gn_ 64 rfl rfl rfl rfl ?_
           refine WL.y rfl (Yd.pickT rfl rfl) ?_
           refine a_ rfl rfl ?_
           refine WL.nil ?_
           exact DN.reachK (_) (by rw [Bool.eq_iff_iff]; simp only [moreB, Bool.or_eq_true, decide_eq_true_eq, true_iff]; first | omega | (simp only [*, Bool.false_eq_true, false_or, true_or, or_true]; omega) | (simp [*]; done) | (simp [*]; omega)) (Sx.put rfl (sx_)) (Sp.all sp_)
          ·refine gy_ 58 rfl rfl rfl (Yd.fieldAddr (k := 9) kr_ rfl) ?_
           refine WL.gh (dj := 58) rfl rfl rfl (Hd.load1 kr_ rfl mem_ (by rfl) ⟨_, rfl, ?_⟩)
           refine gy_ 58 rfl rfl rfl (Yd.len (e := 5) kr_ rfl) ?_
           refine gy_ 58 rfl rfl rfl (Yd.gtr rfl rfl) ?_
           refine WL.y rfl (Yd.pickF rfl rfl) ?_
           refine m_ rfl rfl ?_
           refine WL.partP (t := 64) rfl (fun hg64 => ?_) (fun hg64 => ?_)
           ·iterate 4 refine gn_ 64 rfl rfl rfl rfl ?_
            refine WL.y rfl (Yd.pickT rfl rfl) ?_
            refine a_ rfl rfl ?_
            refine WL.nil ?_
            exact DN.reachK (_) (by rw [Bool.eq_iff_iff]; simp only [moreB, Bool.or_eq_true, decide_eq_true_eq, true_iff]; first | omega | (simp only [*, Bool.false_eq_true, false_or, true_or, or_true]; omega) | (simp [*]; done) | (simp [*]; omega)) (Sx.put rfl (sx_)) (Sp.all sp_)
           ·refine gy_ 64 rfl rfl rfl (Yd.fieldAddr (k := 10) kr_ rfl) ?_
            refine WL.gh (dj := 64) rfl rfl rfl (Hd.load1 kr_ rfl mem_ (by rfl) ⟨_, rfl, ?_⟩)
            refine gy_ 64 rfl rfl rfl (Yd.len (e := 5) kr_ rfl) ?_
            refine gy_ 64 rfl rfl rfl (Yd.gtr rfl rfl) ?_
            refine WL.y rfl (Yd.pickF rfl rfl) ?_
            refine a_ rfl rfl ?_
            refine WL.nil ?_
            exact DN.reachK (_) (by rw [Bool.eq_iff_iff]; simp only [moreB, Bool.or_eq_true, decide_eq_true_eq, true_iff]; first | omega | (simp only [*, Bool.false_eq_true, false_or, true_or, or_true]; omega) | (simp [*]; done) | (simp [*]; omega)) (Sx.put rfl (sx_)) (Sp.all sp_)
  ·intro z7 hz7
   refine WC.cutK (fun z : Bool => z = farB n) (fun z : Bool => [(8, .bool z)]) (fun z : Bool => row b4 (ntc (rest n) (.slice mo (rest n).key.length mc) (.slice oo (rest n).data.length oc)) 52 :: ⟨b14, .stringIter (nmS n.kind) (nm n.kind).length, true⟩ :: row b1 (ntc n (.slice ko n.key.length kc) (.slice eo n.data.length ec)) 52 :: H) ?_ ?_
   ·refine WC.region ?_
    refine f_ 6 kr_ rfl rfl ?_
    refine d_ kr_ rfl mem_ (by rfl) rfl ?_
    refine WL.y rfl (Yd.lss rfl rfl) ?_
    refine m_ rfl rfl ?_
    refine WL.partP (t := 73) rfl (fun hg73 => ?_) (fun hg73 => ?_)
    ·iterate 3 refine gn_ 73 rfl rfl rfl rfl ?_
     refine WL.y rfl (Yd.pickT rfl rfl) ?_
     refine m_ rfl rfl ?_
     iterate 3 refine gn_ 78 rfl rfl rfl rfl ?_
     refine WL.y rfl (Yd.pickT rfl rfl) ?_
     refine m_ rfl rfl ?_
     iterate 3 refine gn_ 83 rfl rfl rfl rfl ?_
     refine WL.y rfl (Yd.pickT rfl rfl) ?_
     refine m_ rfl rfl ?_
     iterate 4 refine gn_ 88 rfl rfl rfl rfl ?_
     refine WL.y rfl (Yd.pickT rfl rfl) ?_
     refine m_ rfl rfl ?_
     iterate 4 refine gn_ 94 rfl rfl rfl rfl ?_
     refine WL.y rfl (Yd.pickT rfl rfl) ?_
     refine a_ rfl rfl ?_
     refine WL.nil ?_
     exact DN.reachK (_) (by rw [Bool.eq_iff_iff]; simp only [farB, Bool.or_eq_true, decide_eq_true_eq, true_iff]; omega) (Sx.put rfl (sx_)) (Sp.all sp_)
    ·refine gy_ 73 rfl rfl rfl (Yd.fieldAddr (k := 6) kr_ rfl) ?_
     refine WL.gh (dj := 73) rfl rfl rfl (Hd.load1 kr_ rfl mem_ (by rfl) ⟨_, rfl, ?_⟩)
     refine gy_ 73 rfl rfl rfl (Yd.geq rfl rfl) ?_
     refine WL.y rfl (Yd.pickF rfl rfl) ?_
     refine m_ rfl rfl ?_
     refine WL.partP (t := 78) rfl (fun hg78 => ?_) (fun hg78 => ?_)
     ·iterate 3 refine gn_ 78 rfl rfl rfl rfl ?_
      refine WL.y rfl (Yd.pickT rfl rfl) ?_
      refine m_ rfl rfl ?_
      iterate 3 refine gn_ 83 rfl rfl rfl rfl ?_
      refine WL.y rfl (Yd.pickT rfl rfl) ?_
      refine m_ rfl rfl ?_
      iterate 4 refine gn_ 88 rfl rfl rfl rfl ?_
      refine WL.y rfl (Yd.pickT rfl rfl) ?_
      refine m_ rfl rfl ?_
      iterate 4 refine gn_ 94 rfl rfl rfl rfl ?_
      refine WL.y rfl (Yd.pickT rfl rfl) ?_
      refine a_ rfl rfl ?_
      refine WL.nil ?_
      exact DN.reachK (_) (by rw [Bool.eq_iff_iff]; simp only [farB, Bool.or_eq_true, decide_eq_true_eq, true_iff]; omega) (Sx.put rfl (sx_)) (Sp.all sp_)
     ·refine gy_ 78 rfl rfl rfl (Yd.fieldAddr (k := 8) kr_ rfl) ?_
      refine WL.gh (dj := 78) rfl rfl rfl (Hd.load1 kr_ rfl mem_ (by rfl) ⟨_, rfl, ?_⟩)
      refine gy_ 78 rfl rfl rfl (Yd.lss rfl rfl) ?_
      refine WL.y rfl (Yd.pickF rfl rfl) ?_
      refine m_ rfl rfl ?_
      refine WL.partP (t := 83) rfl (fun hg83 => ?_) (fun hg83 => ?_)
      ·iterate 3 refine gn_ 83 rfl rfl rfl rfl ?_
       refine WL.y rfl (Yd.pickT rfl rfl) ?_
       refine m_ rfl rfl ?_
       iterate 4 refine gn_ 88 rfl rfl rfl rfl ?_
       refine WL.y rfl (Yd.pickT rfl rfl) ?_
       refine m_ rfl rfl ?_
       iterate 4 refine gn_ 94 rfl rfl rfl rfl ?_
       refine WL.y rfl (Yd.pickT rfl rfl) ?_
       refine a_ rfl rfl ?_
       refine WL.nil ?_
       exact DN.reachK (_) (by rw [Bool.eq_iff_iff]; simp only [farB, Bool.or_eq_true, decide_eq_true_eq, true_iff]; omega) (Sx.put rfl (sx_)) (Sp.all sp_)
      ·refine gy_ 83 rfl rfl rfl (Yd.fieldAddr (k := 8) kr_ rfl) ?_
       refine WL.gh (dj := 83) rfl rfl rfl (Hd.load1 kr_ rfl mem_ (by rfl) ⟨_, rfl, ?_⟩)
       refine gy_ 83 rfl rfl rfl (Yd.gtr rfl rfl) ?_
       refine WL.y rfl (Yd.pickF rfl rfl) ?_
       refine m_ rfl rfl ?_
       refine WL.partP (t := 88) rfl (fun hg88 => ?_) (fun hg88 => ?_)
       ·iterate 4 refine gn_ 88 rfl rfl rfl rfl ?_
        refine WL.y rfl (Yd.pickT rfl rfl) ?_
        refine m_ rfl rfl ?_
        iterate 4 refine gn_ 94 rfl rfl rfl rfl ?_
        refine WL.y rfl (Yd.pickT rfl rfl) ?_
        refine a_ rfl rfl ?_
        refine WL.nil ?_
        exact DN.reachK (_) (by rw [Bool.eq_iff_iff]; simp only [farB, Bool.or_eq_true, decide_eq_true_eq, true_iff]; omega) (Sx.put rfl (sx_)) (Sp.all sp_)
       ·refine gy_ 88 rfl rfl rfl (Yd.fieldAddr (k := 9) kr_ rfl) ?_
        refine WL.gh (dj := 88) rfl rfl rfl (Hd.load1 kr_ rfl mem_ (by rfl) ⟨_, rfl, ?_⟩)
        refine gy_ 88 rfl rfl rfl (Yd.len (e := 5) kr_ rfl) ?_
        refine gy_ 88 rfl rfl rfl (Yd.gtr rfl rfl) ?_
        refine WL.y rfl (Yd.pickF rfl rfl) ?_
        refine m_ rfl rfl ?_
        refine WL.partP (t := 94) rfl (fun hg94 => ?_) (fun hg94 => ?_)
        ·iterate 4 refine gn_ 94 rfl rfl rfl rfl ?_
         refine WL.y rfl (Yd.pickT rfl rfl) ?_
         refine a_ rfl rfl ?_
         refine WL.nil ?_
         exact DN.reachK (_) (by rw [Bool.eq_iff_iff]; simp only [farB, Bool.or_eq_true, decide_eq_true_eq, true_iff]; omega) (Sx.put rfl (sx_)) (Sp.all sp_)
        ·refine gy_ 94 rfl rfl rfl (Yd.fieldAddr (k := 10) kr_ rfl) ?_
         refine WL.gh (dj := 94) rfl rfl rfl (Hd.load1 kr_ rfl mem_ (by rfl) ⟨_, rfl, ?_⟩)
         refine gy_ 94 rfl rfl rfl (Yd.len (e := 5) kr_ rfl) ?_
         refine gy_ 94 rfl rfl rfl (Yd.gtr rfl rfl) ?_
         refine WL.y rfl (Yd.pickF rfl rfl) ?_
         refine a_ rfl rfl ?_
         refine WL.nil ?_
         exact DN.reachK (_) (by rw [Bool.eq_iff_iff]; simp only [farB, Bool.or_eq_true, decide_eq_true_eq, true_iff]; omega) (Sx.put rfl (sx_)) (Sp.all sp_)
   ·intro z8 hz8
    refine WC.seq ?_
    refine sr_ ?_
    refine m_ rfl rfl ?_
    refine WL.y rfl (Yd.eqlS rfl rfl) ?_
    refine m_ rfl rfl ?_
    refine WL.partP (t := 102) rfl (fun hg102 => ?_) (fun hg102 => ?_)
    ·refine gn_ 102 rfl rfl rfl rfl ?_
     refine WL.y rfl (Yd.pickT rfl rfl) ?_
     refine m_ rfl rfl ?_
     refine gn_ 105 rfl rfl rfl rfl ?_
     refine WL.y rfl (Yd.pickT rfl rfl) ?_
     refine m_ rfl rfl ?_
     iterate 4 refine gn_ 108 rfl rfl rfl rfl ?_
     iterate 3 refine gu_ 112 rfl rfl rfl ?_
     refine gn_ 108 rfl rfl rfl rfl ?_
     refine gn_ 108 rfl rfl rfl rfl ?_
     iterate 4 refine gu_ 117 rfl rfl rfl ?_
     refine gn_ 108 rfl rfl rfl rfl ?_
     refine WL.y rfl (Yd.pickT rfl rfl) ?_
     refine nt_ ?_
     refine WC.yes rfl ?_
     refine sr_ ?_
     refine a_ rfl rfl ?_
     refine nt_ ?_
     refine WC.ret ?_
     refine DN.then_ret ?_
     refine DN.fit (C := H) sp_ ?_
     refine DN.ret1 Tryz.results83 rfl ?_
     first
       | (have e : noteBad n = true := by
           simp only [noteBad, Bool.or_eq_true, Bool.and_eq_true, decide_eq_true_eq, ← hz7, ← hz8, ← nmS_empty]
           first | exact .inl hg102 | exact .inr (.inl hg105) | exact .inr (.inr (.inl hg108)) | exact .inr (.inr (.inr ⟨hg112, hg117, h123⟩))
          exact ⟨by rw [e]; rfl, rfl⟩)
       | (have e : noteBad n = false := by
           rw [Bool.eq_false_iff]
           intro h
           simp only [noteBad, Bool.or_eq_true, Bool.and_eq_true, decide_eq_true_eq, ← hz7, ← hz8, ← nmS_empty] at h
           rcases h with h | h | h | ⟨h1, h2, h3⟩
           · exact hg102 h
           · rw [hg105] at h; cases h
           · rw [hg108] at h; cases h
           · omega
          exact ⟨by rw [e]; rfl, rfl⟩)
    ·refine gy_ 102 rfl rfl rfl (Yd.move rfl) ?_
     refine WL.y rfl (Yd.pickF rfl rfl) ?_
     refine m_ rfl rfl ?_
     refine WL.part (t := 105) rfl (fun hg105 => ?_) (fun hg105 => ?_)
     ·refine gn_ 105 rfl rfl rfl rfl ?_
      refine WL.y rfl (Yd.pickT rfl rfl) ?_
      refine m_ rfl rfl ?_
      iterate 4 refine gn_ 108 rfl rfl rfl rfl ?_
      iterate 3 refine gu_ 112 rfl rfl rfl ?_
      refine gn_ 108 rfl rfl rfl rfl ?_
      refine gn_ 108 rfl rfl rfl rfl ?_
      iterate 4 refine gu_ 117 rfl rfl rfl ?_
      refine gn_ 108 rfl rfl rfl rfl ?_
      refine WL.y rfl (Yd.pickT rfl rfl) ?_
      refine nt_ ?_
      refine WC.yes rfl ?_
      refine sr_ ?_
      refine a_ rfl rfl ?_
      refine nt_ ?_
      refine WC.ret ?_
      refine DN.then_ret ?_
      refine DN.fit (C := H) sp_ ?_
      refine DN.ret1 Tryz.results83 rfl ?_
      first
        | (have e : noteBad n = true := by
            simp only [noteBad, Bool.or_eq_true, Bool.and_eq_true, decide_eq_true_eq, ← hz7, ← hz8, ← nmS_empty]
            first | exact .inl hg102 | exact .inr (.inl hg105) | exact .inr (.inr (.inl hg108)) | exact .inr (.inr (.inr ⟨hg112, hg117, h123⟩))
           exact ⟨by rw [e]; rfl, rfl⟩)
        | (have e : noteBad n = false := by
            rw [Bool.eq_false_iff]
            intro h
            simp only [noteBad, Bool.or_eq_true, Bool.and_eq_true, decide_eq_true_eq, ← hz7, ← hz8, ← nmS_empty] at h
            rcases h with h | h | h | ⟨h1, h2, h3⟩
            · exact hg102 h
            · rw [hg105] at h; cases h
            · rw [hg108] at h; cases h
            · omega
           exact ⟨by rw [e]; rfl, rfl⟩)
     ·refine gy_ 105 rfl rfl rfl (Yd.move rfl) ?_
      refine WL.y rfl (Yd.pickF rfl rfl) ?_
      refine m_ rfl rfl ?_
      refine WL.part (t := 108) rfl (fun hg108 => ?_) (fun hg108 => ?_)
      ·iterate 4 refine gn_ 108 rfl rfl rfl rfl ?_
       iterate 3 refine gu_ 112 rfl rfl rfl ?_
       refine gn_ 108 rfl rfl rfl rfl ?_
       refine gn_ 108 rfl rfl rfl rfl ?_
       iterate 4 refine gu_ 117 rfl rfl rfl ?_
       refine gn_ 108 rfl rfl rfl rfl ?_
       refine WL.y rfl (Yd.pickT rfl rfl) ?_
       refine nt_ ?_
       refine WC.yes rfl ?_
       refine sr_ ?_
       refine a_ rfl rfl ?_
       refine nt_ ?_
       refine WC.ret ?_
       refine DN.then_ret ?_
       refine DN.fit (C := H) sp_ ?_
       refine DN.ret1 Tryz.results83 rfl ?_
       first
         | (have e : noteBad n = true := by
             simp only [noteBad, Bool.or_eq_true, Bool.and_eq_true, decide_eq_true_eq, ← hz7, ← hz8, ← nmS_empty]
             first | exact .inl hg102 | exact .inr (.inl hg105) | exact .inr (.inr (.inl hg108)) | exact .inr (.inr (.inr ⟨hg112, hg117, h123⟩))
            exact ⟨by rw [e]; rfl, rfl⟩)
         | (have e : noteBad n = false := by
             rw [Bool.eq_false_iff]
             intro h
             simp only [noteBad, Bool.or_eq_true, Bool.and_eq_true, decide_eq_true_eq, ← hz7, ← hz8, ← nmS_empty] at h
             rcases h with h | h | h | ⟨h1, h2, h3⟩
             · exact hg102 h
             · rw [hg105] at h; cases h
             · rw [hg108] at h; cases h
             · omega
            exact ⟨by rw [e]; rfl, rfl⟩)
      ·refine gy_ 108 rfl rfl rfl (Yd.fieldAddr (k := 0) kr_ rfl) ?_
       refine WL.gh (dj := 108) rfl rfl rfl (Hd.load1 kr_ rfl mem_ (by rfl) ⟨_, rfl, ?_⟩)
       refine gy_ 108 rfl rfl rfl (Yd.geq rfl rfl) ?_
       refine gy_ 108 rfl rfl rfl (Yd.move rfl) ?_
       refine WL.partP (t := 112) rfl (fun hg112 => ?_) (fun hg112 => ?_)
       ·refine gy_ 112 rfl rfl rfl (Yd.fieldAddr (k := 0) kr_ rfl) ?_
        refine WL.gh (dj := 112) rfl rfl rfl (Hd.load1 kr_ rfl mem_ (by rfl) ⟨_, rfl, ?_⟩)
        refine gy_ 112 rfl rfl rfl (Yd.leq rfl rfl) ?_
        refine gy_ 108 rfl rfl rfl (Yd.pickT rfl rfl) ?_
        refine gy_ 108 rfl rfl rfl (Yd.move rfl) ?_
        refine WL.partP (t := 117) rfl (fun hg117 => ?_) (fun hg117 => ?_)
        ·refine gy_ 117 rfl rfl rfl (Yd.fieldAddr (k := 9) kr_ rfl) ?_
         refine WL.gh (dj := 117) rfl rfl rfl (Hd.load1 kr_ rfl mem_ (by rfl) ⟨_, rfl, ?_⟩)
         refine gy_ 117 rfl rfl rfl (Yd.len (e := 5) kr_ rfl) ?_
         refine gy_ 117 rfl rfl rfl (Yd.eql rfl rfl) ?_
         refine gy_ 108 rfl rfl rfl (Yd.pickT rfl rfl) ?_
         refine WL.y rfl (Yd.pickF rfl rfl) ?_
         refine nt_ ?_
         refine WC.ite rfl (fun h123 => ?_) (fun h123 => ?_)
         ·refine sr_ ?_
          refine a_ rfl rfl ?_
          refine nt_ ?_
          refine WC.ret ?_
          refine DN.then_ret ?_
          refine DN.fit (C := H) sp_ ?_
          refine DN.ret1 Tryz.results83 rfl ?_
          first
            | (have e : noteBad n = true := by
                simp only [noteBad, Bool.or_eq_true, Bool.and_eq_true, decide_eq_true_eq, ← hz7, ← hz8, ← nmS_empty]
                first | exact .inl hg102 | exact .inr (.inl hg105) | exact .inr (.inr (.inl hg108)) | exact .inr (.inr (.inr ⟨hg112, hg117, h123⟩))
               exact ⟨by rw [e]; rfl, rfl⟩)
            | (have e : noteBad n = false := by
                rw [Bool.eq_false_iff]
                intro h
                simp only [noteBad, Bool.or_eq_true, Bool.and_eq_true, decide_eq_true_eq, ← hz7, ← hz8, ← nmS_empty] at h
                rcases h with h | h | h | ⟨h1, h2, h3⟩
                · exact hg102 h
                · rw [hg105] at h; cases h
                · rw [hg108] at h; cases h
                · omega
               exact ⟨by rw [e]; rfl, rfl⟩)
         ·refine WC.skip ?_
          refine ts_ ?_
          refine WC.region ?_
          refine a_ rfl rfl ?_
          refine nt_ ?_
          refine WC.ret ?_
          refine DN.fit (C := H) sp_ ?_
          refine DN.ret1 Tryz.results83 rfl ?_
          first
            | (have e : noteBad n = true := by
                simp only [noteBad, Bool.or_eq_true, Bool.and_eq_true, decide_eq_true_eq, ← hz7, ← hz8, ← nmS_empty]
                first | exact .inl hg102 | exact .inr (.inl hg105) | exact .inr (.inr (.inl hg108)) | exact .inr (.inr (.inr ⟨hg112, hg117, h123⟩))
               exact ⟨by rw [e]; rfl, rfl⟩)
            | (have e : noteBad n = false := by
                rw [Bool.eq_false_iff]
                intro h
                simp only [noteBad, Bool.or_eq_true, Bool.and_eq_true, decide_eq_true_eq, ← hz7, ← hz8, ← nmS_empty] at h
                rcases h with h | h | h | ⟨h1, h2, h3⟩
                · exact hg102 h
                · rw [hg105] at h; cases h
                · rw [hg108] at h; cases h
                · omega
               exact ⟨by rw [e]; rfl, rfl⟩)
        ·iterate 4 refine gn_ 117 rfl rfl rfl rfl ?_
         refine gy_ 108 rfl rfl rfl (Yd.pickF rfl rfl) ?_
         refine WL.y rfl (Yd.pickF rfl rfl) ?_
         refine nt_ ?_
         refine WC.no rfl ?_
         refine WC.skip ?_
         refine ts_ ?_
         refine WC.region ?_
         refine a_ rfl rfl ?_
         refine nt_ ?_
         refine WC.ret ?_
         refine DN.fit (C := H) sp_ ?_
         refine DN.ret1 Tryz.results83 rfl ?_
         first
           | (have e : noteBad n = true := by
               simp only [noteBad, Bool.or_eq_true, Bool.and_eq_true, decide_eq_true_eq, ← hz7, ← hz8, ← nmS_empty]
               first | exact .inl hg102 | exact .inr (.inl hg105) | exact .inr (.inr (.inl hg108)) | exact .inr (.inr (.inr ⟨hg112, hg117, h123⟩))
              exact ⟨by rw [e]; rfl, rfl⟩)
           | (have e : noteBad n = false := by
               rw [Bool.eq_false_iff]
               intro h
               simp only [noteBad, Bool.or_eq_true, Bool.and_eq_true, decide_eq_true_eq, ← hz7, ← hz8, ← nmS_empty] at h
               rcases h with h | h | h | ⟨h1, h2, h3⟩
               · exact hg102 h
               · rw [hg105] at h; cases h
               · rw [hg108] at h; cases h
               · omega
              exact ⟨by rw [e]; rfl, rfl⟩)
       ·iterate 3 refine gn_ 112 rfl rfl rfl rfl ?_
        refine gy_ 108 rfl rfl rfl (Yd.pickF rfl rfl) ?_
        refine gy_ 108 rfl rfl rfl (Yd.move rfl) ?_
        iterate 4 refine gn_ 117 rfl rfl rfl rfl ?_
        refine gy_ 108 rfl rfl rfl (Yd.pickF rfl rfl) ?_
        refine WL.y rfl (Yd.pickF rfl rfl) ?_
        refine nt_ ?_
        refine WC.no rfl ?_
        refine WC.skip ?_
        refine ts_ ?_
        refine WC.region ?_
        refine a_ rfl rfl ?_
        refine nt_ ?_
        refine WC.ret ?_
        refine DN.fit (C := H) sp_ ?_
        refine DN.ret1 Tryz.results83 rfl ?_
        first
          | (have e : noteBad n = true := by
              simp only [noteBad, Bool.or_eq_true, Bool.and_eq_true, decide_eq_true_eq, ← hz7, ← hz8, ← nmS_empty]
              first | exact .inl hg102 | exact .inr (.inl hg105) | exact .inr (.inr (.inl hg108)) | exact .inr (.inr (.inr ⟨hg112, hg117, h123⟩))
             exact ⟨by rw [e]; rfl, rfl⟩)
          | (have e : noteBad n = false := by
              rw [Bool.eq_false_iff]
              intro h
              simp only [noteBad, Bool.or_eq_true, Bool.and_eq_true, decide_eq_true_eq, ← hz7, ← hz8, ← nmS_empty] at h
              rcases h with h | h | h | ⟨h1, h2, h3⟩
              · exact hg102 h
              · rw [hg105] at h; cases h
              · rw [hg108] at h; cases h
              · omega
             exact ⟨by rw [e]; rfl, rfl⟩)
end Go.Proofs.YtkamlondepceiaaGreat

set_option linter.unusedVariables false
set_option linter.unusedSimpArgs false
set_option maxHeartbeats 2000000
namespace Go.Proofs.YtkamlondepceiaaGreat
open Go.SL
theorem right_reads (k : Kp) (va vr : Value) (ha : IsSl va k.asked.length) (hr : IsSl vr k.reply.length) (H : List Ck) : Reads Tryz.prog 92 [.agg (kc k va vr).toArray] H (.bool (decide (rightP k))) := by
 refine Tells.enter Tryz.func92 rfl Tryz.ntmps92 rfl ?_
 intro w0 R
 obtain ⟨ao, ac, rfl⟩ := ha
 obtain ⟨ro, rc, rfl⟩ := hr
 refine sr_ ?_
 refine WL.h rfl (Hd.boxA rfl fun b1 => ⟨_, rfl, ?_⟩)
 refine a_ rfl rfl ?_
 refine ntsr_ ?_
 refine f_ 0 kr_ rfl rfl ?_
 refine d_ kr_ rfl mem_ (by rfl) rfl ?_
 refine WL.y rfl (Yd.gtr rfl rfl) ?_
 refine m_ rfl rfl ?_
 refine WL.partP (t := 6) rfl (fun hg6 => ?_) (fun hg6 => ?_)
 ·refine gy_ 6 rfl rfl rfl (Yd.fieldAddr (k := 1) kr_ rfl) ?_
  refine WL.gh (dj := 6) rfl rfl rfl (Hd.load1 kr_ rfl mem_ (by rfl) ⟨_, rfl, ?_⟩)
  refine gy_ 6 rfl rfl rfl (Yd.geq rfl rfl) ?_
  refine WL.y rfl (Yd.pickT rfl rfl) ?_
  refine m_ rfl rfl ?_
  refine WL.part (t := 11) rfl (fun hg11 => ?_) (fun hg11 => ?_)
  ·refine gy_ 11 rfl rfl rfl (Yd.fieldAddr (k := 1) kr_ rfl) ?_
   refine WL.gh (dj := 11) rfl rfl rfl (Hd.load1 kr_ rfl mem_ (by rfl) ⟨_, rfl, ?_⟩)
   refine gy_ 11 rfl rfl rfl (Yd.lss rfl rfl) ?_
   refine WL.y rfl (Yd.pickT rfl rfl) ?_
   refine m_ rfl rfl ?_
   refine WL.part (t := 16) rfl (fun hg16 => ?_) (fun hg16 => ?_)
   ·refine gy_ 16 rfl rfl rfl (Yd.fieldAddr (k := 3) kr_ rfl) ?_
    refine WL.gh (dj := 16) rfl rfl rfl (Hd.load1 kr_ rfl mem_ (by rfl) ⟨_, rfl, ?_⟩)
    refine gy_ 16 rfl rfl rfl (Yd.len (e := 5) kr_ rfl) ?_
    refine gy_ 16 rfl rfl rfl (Yd.leq rfl rfl) ?_
    refine WL.y rfl (Yd.pickT rfl rfl) ?_
    refine m_ rfl rfl ?_
    refine WL.part (t := 22) rfl (fun hg22 => ?_) (fun hg22 => ?_)
    ·refine gy_ 22 rfl rfl rfl (Yd.fieldAddr (k := 5) kr_ rfl) ?_
     refine WL.gh (dj := 22) rfl rfl rfl (Hd.load1 kr_ rfl mem_ (by rfl) ⟨_, rfl, ?_⟩)
     refine gy_ 22 rfl rfl rfl (Yd.len (e := 5) kr_ rfl) ?_
     refine gy_ 22 rfl rfl rfl (Yd.leq rfl rfl) ?_
     refine WL.y rfl (Yd.pickT rfl rfl) ?_
     refine m_ rfl rfl ?_
     refine WL.part (t := 28) rfl (fun hg28 => ?_) (fun hg28 => ?_)
     ·refine gy_ 28 rfl rfl rfl (Yd.fieldAddr (k := 4) kr_ rfl) ?_
      refine WL.gh (dj := 28) rfl rfl rfl (Hd.load1 kr_ rfl mem_ (by rfl) ⟨_, rfl, ?_⟩)
      refine gy_ 28 rfl rfl rfl (Yd.eql rfl rfl) ?_
      refine gy_ 28 rfl rfl rfl (Yd.move rfl) ?_
      refine WL.partP (t := 32) rfl (fun hg32 => ?_) (fun hg32 => ?_)
      ·iterate 3 refine gn_ 32 rfl rfl rfl rfl ?_
       refine gy_ 28 rfl rfl rfl (Yd.pickT rfl rfl) ?_
       refine WL.y rfl (Yd.pickT rfl rfl) ?_
       refine a_ rfl rfl ?_
       refine nt_ ?_
       refine WC.ret ?_
       refine DN.fit (C := H) sp_ ?_
       refine DN.ret1 Tryz.results92 rfl ?_
       refine ⟨?_, rfl⟩
       congr 1
       rw [Bool.eq_iff_iff]
       simp only [decide_eq_true_eq, decide_eq_false_iff_not, eq_self, Bool.false_eq_true, false_iff, true_iff] at *
       simp only [rightP]
       omega
      ·refine gy_ 32 rfl rfl rfl (Yd.fieldAddr (k := 4) kr_ rfl) ?_
       refine WL.gh (dj := 32) rfl rfl rfl (Hd.load1 kr_ rfl mem_ (by rfl) ⟨_, rfl, ?_⟩)
       refine gy_ 32 rfl rfl rfl (Yd.eql rfl rfl) ?_
       refine gy_ 28 rfl rfl rfl (Yd.pickF rfl rfl) ?_
       refine WL.y rfl (Yd.pickT rfl rfl) ?_
       refine a_ rfl rfl ?_
       refine nt_ ?_
       refine WC.ret ?_
       refine DN.fit (C := H) sp_ ?_
       refine DN.ret1 Tryz.results92 rfl ?_
       refine ⟨?_, rfl⟩
       congr 1
       rw [Bool.eq_iff_iff]
       simp only [decide_eq_true_eq, decide_eq_false_iff_not, eq_self, Bool.false_eq_true, false_iff, true_iff] at *
       simp only [rightP]
       omega
     ·iterate 4 refine gn_ 28 rfl rfl rfl rfl ?_
      iterate 3 refine gu_ 32 rfl rfl rfl ?_
      refine gn_ 28 rfl rfl rfl rfl ?_
      refine WL.y rfl (Yd.pickF rfl rfl) ?_
      refine a_ rfl rfl ?_
      refine nt_ ?_
      refine WC.ret ?_
      refine DN.fit (C := H) sp_ ?_
      refine DN.ret1 Tryz.results92 rfl ?_
      refine ⟨?_, rfl⟩
      congr 1
      rw [Bool.eq_iff_iff]
      simp only [decide_eq_true_eq, decide_eq_false_iff_not, eq_self, Bool.false_eq_true, false_iff, true_iff] at *
      simp only [rightP]
      omega
    ·iterate 4 refine gn_ 22 rfl rfl rfl rfl ?_
     refine WL.y rfl (Yd.pickF rfl rfl) ?_
     refine m_ rfl rfl ?_
     iterate 4 refine gn_ 28 rfl rfl rfl rfl ?_
     iterate 3 refine gu_ 32 rfl rfl rfl ?_
     refine gn_ 28 rfl rfl rfl rfl ?_
     refine WL.y rfl (Yd.pickF rfl rfl) ?_
     refine a_ rfl rfl ?_
     refine nt_ ?_
     refine WC.ret ?_
     refine DN.fit (C := H) sp_ ?_
     refine DN.ret1 Tryz.results92 rfl ?_
     refine ⟨?_, rfl⟩
     congr 1
     rw [Bool.eq_iff_iff]
     simp only [decide_eq_true_eq, decide_eq_false_iff_not, eq_self, Bool.false_eq_true, false_iff, true_iff] at *
     simp only [rightP]
     omega
   ·iterate 4 refine gn_ 16 rfl rfl rfl rfl ?_
    refine WL.y rfl (Yd.pickF rfl rfl) ?_
    refine m_ rfl rfl ?_
    iterate 4 refine gn_ 22 rfl rfl rfl rfl ?_
    refine WL.y rfl (Yd.pickF rfl rfl) ?_
    refine m_ rfl rfl ?_
    iterate 4 refine gn_ 28 rfl rfl rfl rfl ?_
    iterate 3 refine gu_ 32 rfl rfl rfl ?_
    refine gn_ 28 rfl rfl rfl rfl ?_
    refine WL.y rfl (Yd.pickF rfl rfl) ?_
    refine a_ rfl rfl ?_
    refine nt_ ?_
    refine WC.ret ?_
    refine DN.fit (C := H) sp_ ?_
    refine DN.ret1 Tryz.results92 rfl ?_
    refine ⟨?_, rfl⟩
    congr 1
    rw [Bool.eq_iff_iff]
    simp only [decide_eq_true_eq, decide_eq_false_iff_not, eq_self, Bool.false_eq_true, false_iff, true_iff] at *
    simp only [rightP]
    omega
  ·iterate 3 refine gn_ 11 rfl rfl rfl rfl ?_
   refine WL.y rfl (Yd.pickF rfl rfl) ?_
   refine m_ rfl rfl ?_
   iterate 4 refine gn_ 16 rfl rfl rfl rfl ?_
   refine WL.y rfl (Yd.pickF rfl rfl) ?_
   refine m_ rfl rfl ?_
   iterate 4 refine gn_ 22 rfl rfl rfl rfl ?_
   refine WL.y rfl (Yd.pickF rfl rfl) ?_
   refine m_ rfl rfl ?_
   iterate 4 refine gn_ 28 rfl rfl rfl rfl ?_
   iterate 3 refine gu_ 32 rfl rfl rfl ?_
   refine gn_ 28 rfl rfl rfl rfl ?_
   refine WL.y rfl (Yd.pickF rfl rfl) ?_
   refine a_ rfl rfl ?_
   refine nt_ ?_
   refine WC.ret ?_
   refine DN.fit (C := H) sp_ ?_
   refine DN.ret1 Tryz.results92 rfl ?_
   refine ⟨?_, rfl⟩
   congr 1
   rw [Bool.eq_iff_iff]
   simp only [decide_eq_true_eq, decide_eq_false_iff_not, eq_self, Bool.false_eq_true, false_iff, true_iff] at *
   simp only [rightP]
   omega
 ·iterate 3 refine gn_ 6 rfl rfl rfl rfl ?_
  refine WL.y rfl (Yd.pickF rfl rfl) ?_
  refine m_ rfl rfl ?_
  iterate 3 refine gn_ 11 rfl rfl rfl rfl ?_
  refine WL.y rfl (Yd.pickF rfl rfl) ?_
  refine m_ rfl rfl ?_
  iterate 4 refine gn_ 16 rfl rfl rfl rfl ?_
  refine WL.y rfl (Yd.pickF rfl rfl) ?_
  refine m_ rfl rfl ?_
  iterate 4 refine gn_ 22 rfl rfl rfl rfl ?_
  refine WL.y rfl (Yd.pickF rfl rfl) ?_
  refine m_ rfl rfl ?_
  iterate 4 refine gn_ 28 rfl rfl rfl rfl ?_
  iterate 3 refine gu_ 32 rfl rfl rfl ?_
  refine gn_ 28 rfl rfl rfl rfl ?_
  refine WL.y rfl (Yd.pickF rfl rfl) ?_
  refine a_ rfl rfl ?_
  refine nt_ ?_
  refine WC.ret ?_
  refine DN.fit (C := H) sp_ ?_
  refine DN.ret1 Tryz.results92 rfl ?_
  refine ⟨?_, rfl⟩
  congr 1
  rw [Bool.eq_iff_iff]
  simp only [decide_eq_true_eq, decide_eq_false_iff_not, eq_self, Bool.false_eq_true, false_iff, true_iff] at *
  simp only [rightP]
  omega
theorem of_reads (k : Kp) (va vr : Value) (h1 : va.oneCell' = true) (h2 : vr.oneCell' = true) (H : List Ck) : Reads Tryz.prog 94 [.agg (kc k va vr).toArray] H (.agg (keyc k.order k.step k.undo).toArray) := by
 refine Tells.enter Tryz.func94 rfl Tryz.ntmps94 rfl ?_
 intro w0 R
 refine sr_ ?_
 refine WL.h rfl (Hd.boxA rfl fun b1 => ⟨_, rfl, ?_⟩)
 refine WL.h rfl (Hd.alloc (zs := [.int .u32 0, .int .i64 0, .bool false]) kr_ fun b2 => ⟨_, rfl, ?_⟩)
 refine ntsr_ ?_
 refine f_ 0 kr_ rfl rfl ?_
 refine d_ kr_ rfl mem_ (by rfl) rfl ?_
 refine f_ 1 kr_ rfl rfl ?_
 refine d_ kr_ rfl mem_ (by rfl) rfl ?_
 refine f_ 2 kr_ rfl rfl ?_
 refine d_ kr_ rfl mem_ (by rfl) rfl ?_
 refine WL.y rfl (Yd.buildL (pl := [(0, 1), (1, 1), (2, 1)]) (zs := [.int .u32 0, .int .i64 0, .bool false]) (parts := [(0, .tmp 4), (1, .tmp 6), (2, .tmp 8)]) (vs := [(0, _), (1, _), (2, _)]) (cells := [_, _, _]) kr_ kr_ rfl rfl) ?_
 refine WL.s (Hd.storeAll (n := 3) kr_ rfl rfl (by rfl) one_ fr_ (by rfl) ⟨rfl, ?_⟩)
 refine nt_ ?_
 refine WC.ret ?_
 refine DN.retCF (s := 3) H Tryz.results94 kr_ rfl List.mem_cons_self (by rfl) ((List.sublist_cons_self _ _).trans (List.sublist_cons_self _ _)) ?_
 exact ⟨rfl, rfl⟩
theorem number_reads (o : BitVec 32) (s : Int) (u : Bool) (h0 : 0 ≤ s) (h : s < 16) (H : List Ck) : Reads Tryz.prog 117 [.agg (keyc o s u).toArray] H (.int .u64 (numb o s u : Nat)) := by
 refine Tells.enter Tryz.func117 rfl Tryz.ntmps117 rfl ?_
 intro w0 R
 refine sr_ ?_
 refine WL.h rfl (Hd.boxA rfl fun b1 => ⟨_, rfl, ?_⟩)
 refine WL.y rfl (Yd.assign (v := .int .u64 ((0#64).toNat : Int)) rfl) ?_
 refine ntsr_ ?_
 refine f_ 0 kr_ rfl rfl ?_
 refine d_ kr_ rfl mem_ (by rfl) rfl ?_
 refine WL.y rfl (Yd.conv32_64 _ kr_ kr_ rfl rfl) ?_
 refine WL.y rfl (Yd.shl64 _ 8 rfl rfl rfl rfl) ?_
 refine f_ 1 kr_ rfl rfl ?_
 refine d_ kr_ rfl mem_ (by rfl) rfl ?_
 refine WL.y rfl (Yd.to64 _ kr_ kr_ rfl rfl) ?_
 refine WL.y rfl (Yd.shl64 _ 1 rfl rfl rfl rfl) ?_
 refine WL.y rfl (Yd.or64 _ _ rfl rfl rfl rfl) ?_
 refine a_ rfl rfl ?_
 refine nt_ ?_
 refine WC.seq ?_
 refine sr_ ?_
 refine f_ 2 kr_ rfl rfl ?_
 refine d_ kr_ rfl mem_ (by rfl) rfl ?_
 refine nt_ ?_
 refine WC.cond rfl (fun h14 => ?_) (fun h14 => ?_)
 ·refine WC.region ?_
  refine m_ rfl rfl ?_
  refine WL.y rfl (Yd.or64 _ (1#64) rfl rfl rfl rfl) ?_
  refine a_ rfl rfl ?_
  refine ntsr_ ?_
  refine m_ rfl rfl ?_
  refine a_ rfl rfl ?_
  refine nt_ ?_
  refine WC.ret ?_
  refine DN.fit (C := H) sp_ ?_
  refine DN.ret1 Tryz.results117 rfl ?_
  refine ⟨?_, rfl⟩
  subst h14
  rw [numB_u h0 h]
  simp [numb]
 ·refine WC.skip ?_
  refine ts_ ?_
  refine WC.region ?_
  refine m_ rfl rfl ?_
  refine a_ rfl rfl ?_
  refine nt_ ?_
  refine WC.ret ?_
  refine DN.fit (C := H) sp_ ?_
  refine DN.ret1 Tryz.results117 rfl ?_
  refine ⟨?_, rfl⟩
  subst h14
  rw [numB_of h0 h]
  simp [numb]
end Go.Proofs.YtkamlondepceiaaGreat

set_option linter.unusedVariables false
set_option linter.unusedSimpArgs false
set_option maxHeartbeats 2000000
namespace Go.Proofs.YtkamlondepceiaaGreat
open Go.SL
theorem check2_reads (e : BitVec 32) (v : Value) (ks : List Kp) (H : List Ck) (hv : KV v ks H) (hl : ks.length ≤ 9223372036854775807) : Reads Tryz.prog 82 [.agg #[.int .u32 e.toNat, v]] H (.int .i64 (if chk ks then 0 else 2)) := by
 refine Tells.enter Tryz.func82 rfl Tryz.ntmps82 rfl ?_
 intro w0 R
 obtain ⟨cs, hr, hk⟩ := hv
 obtain ⟨ao, c, rfl, hc⟩ := hr.form
 refine sr_ ?_
 refine WL.h rfl (Hd.boxA rfl fun b1 => ⟨_, rfl, ?_⟩)
 refine a_ rfl rfl ?_
 refine nt_ ?_
 refine WC.seq ?_
 refine sr_ ?_
 refine f_ 1 kr_ rfl rfl ?_
 refine d_ kr_ rfl mem_ (by rfl) rfl ?_
 refine WL.y rfl (Yd.len (e := 118) kr_ rfl) ?_
 refine WL.y rfl (Yd.gtr rfl rfl) ?_
 refine nt_ ?_
 refine WC.ite rfl (fun h8 => ?_) (fun h8 => ?_)
 ·refine sr_ ?_
  refine a_ rfl rfl ?_
  refine nt_ ?_
  refine WC.ret ?_
  refine DN.then_ret ?_
  refine DN.fit (C := H) sp_ ?_
  refine DN.ret1 Tryz.results82 rfl ?_
  first
    | exact ⟨by rw [if_pos hck], rfl⟩
    | exact ⟨by rw [if_neg hbad], rfl⟩
    | exact ⟨by rw [if_neg (fun h9 => by have := h9.1; omega)], rfl⟩
 ·refine WC.skip ?_
  refine ts_ ?_
  refine sr_ ?_
  refine f_ 1 kr_ rfl rfl ?_
  refine d_ kr_ rfl mem_ (by rfl) rfl ?_
  refine WL.y rfl (Yd.len (e := 118) kr_ rfl) ?_
  refine m_ rfl rfl ?_
  refine nt_ ?_
  refine WC.block ?_
  refine WC.loopS (fun z : Nat => z ≤ ks.length ∧ chk (ks.take z)) (fun z : Nat => [(12, .int .i64 (z : Int))]) (fun z : Nat => row b1 [.int .u32 e.toNat, .slice ao ks.length c] 82 :: H) (fun z : Nat => ks.length - z) (0) (show 0 ≤ ks.length ∧ chk (ks.take 0) from ⟨Nat.zero_le _, chk_take0 ks⟩) (Sx.put rfl (sx_)) sp_ ?_
  rintro i hI
  replace hI : i ≤ ks.length ∧ chk (ks.take i) := hI
  obtain ⟨hi, hck⟩ := hI
  change WC _ _ _ _ _ _ ([(12, .int .i64 (i : Int))] ++ _) (row b1 [.int .u32 e.toNat, .slice ao ks.length c] 82 :: H)
  refine sr_ ?_
  refine WL.y rfl (Yd.lss rfl rfl) ?_
  refine nt_ ?_
  refine WC.seq ?_
  refine WC.ite rfl (fun h13 => ?_) (fun h13 => ?_)
  ·have hlt : i < ks.length := by omega
   obtain ⟨va, vr, hg, hva, hvr⟩ := hk.at i hlt
   refine WC.skip ?_
   refine ts_ ?_
   refine WC.block ?_
   refine sr_ ?_
   refine m_ rfl rfl ?_
   refine WL.elemA (e := 118) (s := 6) kr_ kr_ kr_ rfl rfl (rfl) (hr.mono gr_) (hg) (by rfl) (by omega) (hlt) rfl rfl ?_
   intro p15
   refine WL.h rfl (Hd.alloc (zs := [.int .u32 0, .int .i64 0, .bool false, .slice none 0 0, .int .i64 0, .slice none 0 0]) kr_ fun b4 => ⟨_, rfl, ?_⟩)
   refine a_ rfl rfl ?_
   refine WL.s (Hd.storeAll (n := 6) kr_ rfl rfl (by rfl) (kc_one (IsSl.of hva).one (IsSl.of hvr).one) fr_ (by rfl) ⟨rfl, ?_⟩)
   refine nt_ ?_
   refine WC.cutK (fun z : Bool => (z = true → ¬ chk ks) ∧ (z = true ∨ chk (ks.take (i + 1)))) (fun z : Bool => [(37, .bool z)]) (fun z : Bool => row b4 (kc ks[i] va vr) 118 :: (row b1 [.int .u32 e.toNat, .slice ao ks.length c] 82 :: H)) ?_ ?_
   ·refine WC.draw 21 kr_ rfl ?_
    refine WA.quiet 21 0 rfl rfl kr_ kr_ kr_ rfl ?_
    refine WQ.rd rfl Wt.none (Rd.loadAll (n := 6) kr_ rfl mem_ (by rfl)) ?_
    refine WQ.rf rfl Wt.none (Ent.func Tryz.call92 rfl) (right_reads ks[i] va vr (IsSl.of hva) (IsSl.of hvr) _) Sp.sn ?_
    refine WQ.y rfl (Yd.notB rfl) ?_
    refine WQ.y rfl (Yd.move rfl) ?_
    refine WQ.part (t := 20) rfl (fun hg20 => ?_) (fun hg20 => ?_)
    ·refine WQ.gn (dj := 20) rfl rfl rfl rfl ?_
     refine WQ.gn (dj := 20) rfl rfl rfl rfl ?_
     refine WQ.gn (dj := 20) rfl rfl rfl rfl ?_
     refine WQ.gu (dj := 23) rfl rfl rfl ?_
     refine WQ.gu (dj := 23) rfl rfl rfl ?_
     refine WQ.gu (dj := 23) rfl rfl rfl ?_
     refine WQ.gu (dj := 23) rfl rfl rfl ?_
     refine WQ.gu (dj := 23) rfl rfl rfl ?_
     refine WQ.gu (dj := 23) rfl rfl rfl ?_
     refine WQ.gu (dj := 23) rfl rfl rfl ?_
     refine WQ.gu (dj := 23) rfl rfl rfl ?_
     refine WQ.gu (dj := 23) rfl rfl rfl ?_
     refine WQ.gu (dj := 23) rfl rfl rfl ?_
     refine WQ.gu (dj := 23) rfl rfl rfl ?_
     refine WQ.gu (dj := 23) rfl rfl rfl ?_
     refine WQ.gn (dj := 20) rfl rfl rfl rfl ?_
     refine WQ.y rfl (Yd.pickT rfl rfl) ?_
     refine WQ.nil ?_
     refine WA.done kr_ ?_
     exact DN.reachK (_) (⟨fun h => by
         first
         | (intro hc9; have hr9 := chk_right hc9 hlt; simp [hr9] at hg20; done)
         | (intro hc9; have h8 := chk_adj hc9 (by omega) hlt; simp only [decide_eq_true_eq, Kp.num] at h h8; omega)
         | (cases h; done), by
         first
         | exact .inl rfl
         | exact .inr (chk_step hck (by omega) hlt (by simpa using hg20) (.inl (by omega)))
         | (by_cases h9 : (ks[i - 1]'(by omega)).num < ks[i].num
            · exact .inr (chk_step hck (by omega) hlt (by simpa using hg20) (.inr h9))
            · exact .inl (by simp only [decide_eq_true_eq, Kp.num] at h9 ⊢; omega))⟩) (Sx.put rfl (sx_)) (Sp.all sp_)
    ·refine WQ.gy (dj := 20) rfl rfl rfl (Yd.move rfl) ?_
     refine WQ.gy (dj := 20) rfl rfl rfl (Yd.gtr rfl rfl) ?_
     refine WQ.gy (dj := 20) rfl rfl rfl (Yd.move rfl) ?_
     refine WQ.partP (t := 23) rfl (fun hg23 => ?_) (fun hg23 => ?_)
     ·refine WQ.gy (dj := 23) rfl rfl rfl (Yd.fieldAddr (k := 1) kr_ rfl) ?_
      refine WQ.rd rfl (Wt.yes (dj := 23) rfl rfl) (Rd.load1 kr_ rfl mem_ (by rfl)) ?_
      refine WQ.gy (dj := 23) rfl rfl rfl (Yd.move rfl) ?_
      refine WQ.gy (dj := 23) rfl rfl rfl (Yd.sub rfl rfl (by omega) (by omega)) ?_
      obtain ⟨lb, lf, lcs, lT, lfr, lex, elo, _, hlm, hlcs⟩ := hr.lies (by omega)
      obtain ⟨va0, vr0, hg0, hva0, hvr0⟩ := hk.at (i - 1) (by omega)
      have hr0 : rightP (ks[i - 1]'(by omega)) := hck.2.1 _ (List.mem_take_iff_getElem.2 ⟨i - 1, by omega, rfl⟩)
      have hr1 : rightP ks[i] := by simpa using hg20
      refine WQ.gy (dj := 23) rfl rfl rfl (Yd.indexAddr (e := 118) (s := 6) (b := lb) (o := lf) (n := ks.length) (c := c) kr_ kr_ (congrArg (fun q => some (Value.slice q ks.length c)) elo) rfl (by omega) (by omega)) ?_
      refine WQ.rd rfl (Wt.yes (dj := 23) rfl rfl) (Rd.loadA (n := 6) (b := lb) (o := lf + ((i : Int) - 1).toNat * 6) (cs := lcs) (vs := kc (ks[i - 1]'(by omega)) va0 vr0) kr_ rfl (Gr.get gr_ hlm) rfl (by rw [show ((i : Int) - 1).toNat = ((i - 1 : Nat) : Int).toNat by omega]; exact rs_cell hlcs (by rw [hk.len]; omega) hg0)) ?_
      refine WQ.rf rfl (Wt.yes (dj := 23) rfl rfl) (Ent.func Tryz.call94 rfl) (of_reads ks[i - 1] va0 vr0 (IsSl.of hva0).one (IsSl.of hvr0).one _) Sp.sn ?_
      refine WQ.rf rfl (Wt.yes (dj := 23) rfl rfl) (Ent.func Tryz.call117 rfl) (number_reads _ _ _ hr0.2.1 hr0.2.2.1 _) Sp.sn ?_
      refine WQ.rd rfl (Wt.yes (dj := 23) rfl rfl) (Rd.loadAll (n := 6) kr_ rfl mem_ (by rfl)) ?_
      refine WQ.rf rfl (Wt.yes (dj := 23) rfl rfl) (Ent.func Tryz.call94 rfl) (of_reads ks[i] va vr (IsSl.of hva).one (IsSl.of hvr).one _) Sp.sn ?_
      refine WQ.rf rfl (Wt.yes (dj := 23) rfl rfl) (Ent.func Tryz.call117 rfl) (number_reads _ _ _ hr1.2.1 hr1.2.2.1 _) Sp.sn ?_
      refine WQ.gy (dj := 23) rfl rfl rfl (Yd.geq rfl rfl) ?_
      refine WQ.gy (dj := 20) rfl rfl rfl (Yd.pickT rfl rfl) ?_
      refine WQ.y rfl (Yd.pickF rfl rfl) ?_
      refine WQ.nil ?_
      refine WA.done kr_ ?_
      exact DN.reachK (_) (⟨fun h => by
          first
          | (intro hc9; have hr9 := chk_right hc9 hlt; simp [hr9] at hg20; done)
          | (intro hc9; have h8 := chk_adj hc9 (by omega) hlt; simp only [decide_eq_true_eq, Kp.num] at h h8; omega)
          | (cases h; done), by
          first
          | exact .inl rfl
          | exact .inr (chk_step hck (by omega) hlt (by simpa using hg20) (.inl (by omega)))
          | (by_cases h9 : (ks[i - 1]'(by omega)).num < ks[i].num
             · exact .inr (chk_step hck (by omega) hlt (by simpa using hg20) (.inr h9))
             · exact .inl (by simp only [decide_eq_true_eq, Kp.num] at h9 ⊢; omega))⟩) (Sx.put rfl (sx_)) (Sp.all sp_)
     ·refine WQ.gn (dj := 23) rfl rfl rfl rfl ?_
      refine WQ.gn (dj := 23) rfl rfl rfl rfl ?_
      refine WQ.gn (dj := 23) rfl rfl rfl rfl ?_
      refine WQ.gn (dj := 23) rfl rfl rfl rfl ?_
      refine WQ.gn (dj := 23) rfl rfl rfl rfl ?_
      refine WQ.gn (dj := 23) rfl rfl rfl rfl ?_
      refine WQ.gn (dj := 23) rfl rfl rfl rfl ?_
      refine WQ.gn (dj := 23) rfl rfl rfl rfl ?_
      refine WQ.gn (dj := 23) rfl rfl rfl rfl ?_
      refine WQ.gn (dj := 23) rfl rfl rfl rfl ?_
      refine WQ.gn (dj := 23) rfl rfl rfl rfl ?_
      refine WQ.gn (dj := 23) rfl rfl rfl rfl ?_
      refine WQ.gy (dj := 20) rfl rfl rfl (Yd.pickF rfl rfl) ?_
      refine WQ.y rfl (Yd.pickF rfl rfl) ?_
      refine WQ.nil ?_
      refine WA.done kr_ ?_
      exact DN.reachK (_) (⟨fun h => by
          first
          | (intro hc9; have hr9 := chk_right hc9 hlt; simp [hr9] at hg20; done)
          | (intro hc9; have h8 := chk_adj hc9 (by omega) hlt; simp only [decide_eq_true_eq, Kp.num] at h h8; omega)
          | (cases h; done), by
          first
          | exact .inl rfl
          | exact .inr (chk_step hck (by omega) hlt (by simpa using hg20) (.inl (by omega)))
          | (by_cases h9 : (ks[i - 1]'(by omega)).num < ks[i].num
             · exact .inr (chk_step hck (by omega) hlt (by simpa using hg20) (.inr h9))
             · exact .inl (by simp only [decide_eq_true_eq, Kp.num] at h9 ⊢; omega))⟩) (Sx.put rfl (sx_)) (Sp.all sp_)
   ·intro z37 hz37
    refine WC.cond rfl (fun h37 => ?_) (fun h37 => ?_)
    ·have hbad : ¬ chk ks := hz37.1 h37
     refine sr_ ?_
     refine a_ rfl rfl ?_
     refine nt_ ?_
     refine WC.ret ?_
     refine DN.block_ret ?_
     refine DN.then_ret ?_
     refine DN.then_ret ?_
     refine DN.block_ret ?_
     refine DN.then_ret ?_
     refine DN.fit (C := H) sp_ ?_
     refine DN.ret1 Tryz.results82 rfl ?_
     first
       | exact ⟨by rw [if_pos hck], rfl⟩
       | exact ⟨by rw [if_neg hbad], rfl⟩
       | exact ⟨by rw [if_neg (fun h9 => by have := h9.1; omega)], rfl⟩
    ·have hnext : chk (ks.take (i + 1)) := by
       rcases hz37.2 with h | h
       · rw [h] at h37; cases h37
       · exact h
     refine WC.skip ?_
     refine DN.block_normal ?_
     refine DN.then_normal ?_
     refine WC.region ?_
     refine WL.y rfl (Yd.add rfl rfl (by omega) (by omega)) ?_
     refine m_ rfl rfl ?_
     refine WL.nil ?_
     exact DN.againS (i + 1) (show (i + 1) ≤ ks.length ∧ chk (ks.take (i + 1)) from ⟨by omega, hnext⟩) (show ks.length - (i + 1) < ks.length - i by omega) (Sx.put rfl (sx_)) sp_
  ·obtain rfl : i = ks.length := by omega
   rw [List.take_length] at hck
   refine WC.exit ?_
   refine DN.then_exit ?_
   refine DN.then_exit ?_
   refine DN.block_exit ?_
   refine ts_ ?_
   refine WC.region ?_
   refine a_ rfl rfl ?_
   refine nt_ ?_
   refine WC.ret ?_
   refine DN.fit (C := H) sp_ ?_
   refine DN.ret1 Tryz.results82 rfl ?_
   first
     | exact ⟨by rw [if_pos hck], rfl⟩
     | exact ⟨by rw [if_neg hbad], rfl⟩
     | exact ⟨by rw [if_neg (fun h9 => by have := h9.1; omega)], rfl⟩
theorem against_reads (k : Kp) (va vr : Value) (h1 : va.oneCell' = true) (h2 : vr.oneCell' = true) (n : Nat) (h0 : 0 ≤ k.step) (h : k.step < 16) (H : List Ck) : Reads Tryz.prog 127 [.agg (kc k va vr).toArray, .int .u64 (n : Int)] H (.int .i64 (if k.num < n then -1 else if n < k.num then 1 else 0)) := by
 refine Tells.enter Tryz.func127 rfl Tryz.ntmps127 rfl ?_
 intro w0 R
 refine sr_ ?_
 refine WL.h rfl (Hd.boxA rfl fun b2 => ⟨_, rfl, ?_⟩)
 refine a_ rfl rfl ?_
 refine ntsr_ ?_
 refine WL.h rfl (Hd.loadAll (n := 6) kr_ rfl mem_ (by rfl) ⟨_, rfl, ?_⟩)
 refine WL.r rfl (Ent.func Tryz.call94 rfl) (of_reads k va vr h1 h2 _) ?_
 refine WL.r rfl (Ent.func Tryz.call117 rfl) (number_reads _ _ _ h0 h _) ?_
 refine a_ rfl rfl ?_
 refine nt_ ?_
 refine WC.seq ?_
 refine WC.block ?_
 refine sr_ ?_
 refine m_ rfl rfl ?_
 refine m_ rfl rfl ?_
 refine WL.y rfl (Yd.lss rfl rfl) ?_
 refine a_ rfl rfl ?_
 refine nt_ ?_
 refine WC.ite rfl (fun h9 => ?_) (fun h9 => ?_)
 ·refine sr_ ?_
  refine a_ rfl rfl ?_
  refine nt_ ?_
  refine WC.ret ?_
  refine DN.block_ret ?_
  refine DN.then_ret ?_
  refine DN.fit (C := H) sp_ ?_
  refine DN.ret1 Tryz.results127 rfl ?_
  refine ⟨?_, rfl⟩
  first
    | rw [if_pos (show k.num < n by unfold Kp.num; omega)]
    | rw [if_neg (show ¬ k.num < n by unfold Kp.num; omega), if_pos (show n < k.num by unfold Kp.num; omega)]
    | rw [if_neg (show ¬ k.num < n by unfold Kp.num; omega), if_neg (show ¬ n < k.num by unfold Kp.num; omega)]
 ·refine sr_ ?_
  refine m_ rfl rfl ?_
  refine m_ rfl rfl ?_
  refine WL.y rfl (Yd.gtr rfl rfl) ?_
  refine a_ rfl rfl ?_
  refine nt_ ?_
  refine WC.ite rfl (fun h13 => ?_) (fun h13 => ?_)
  ·refine sr_ ?_
   refine a_ rfl rfl ?_
   refine nt_ ?_
   refine WC.ret ?_
   refine DN.block_ret ?_
   refine DN.then_ret ?_
   refine DN.fit (C := H) sp_ ?_
   refine DN.ret1 Tryz.results127 rfl ?_
   refine ⟨?_, rfl⟩
   first
     | rw [if_pos (show k.num < n by unfold Kp.num; omega)]
     | rw [if_neg (show ¬ k.num < n by unfold Kp.num; omega), if_pos (show n < k.num by unfold Kp.num; omega)]
     | rw [if_neg (show ¬ k.num < n by unfold Kp.num; omega), if_neg (show ¬ n < k.num by unfold Kp.num; omega)]
  ·refine WC.skip ?_
   refine DN.block_normal ?_
   refine ts_ ?_
   refine WC.region ?_
   refine a_ rfl rfl ?_
   refine nt_ ?_
   refine WC.ret ?_
   refine DN.fit (C := H) sp_ ?_
   refine DN.ret1 Tryz.results127 rfl ?_
   refine ⟨?_, rfl⟩
   first
     | rw [if_pos (show k.num < n by unfold Kp.num; omega)]
     | rw [if_neg (show ¬ k.num < n by unfold Kp.num; omega), if_pos (show n < k.num by unfold Kp.num; omega)]
     | rw [if_neg (show ¬ k.num < n by unfold Kp.num; omega), if_neg (show ¬ n < k.num by unfold Kp.num; omega)]
theorem bsf_reads (v : Value) (ks : List Kp) (H : List Ck) (hv : KV v ks H) (hck : chk ks) (n : Nat) : Reads Tryz.prog 126 [v, .int .u64 (n : Int), .func (.func 127) #[] #[]] H (.tuple #[.int .i64 (pos ks n : Nat), .bool (getK ks n).isSome]) := by
 refine Tells.enter Tryz.func126 rfl Tryz.ntmps126 rfl ?_
 intro w0 R
 obtain ⟨cs, hr, hk⟩ := hv
 obtain ⟨ao, c, rfl, hc⟩ := hr.form
 have h200 := hck.1
 refine sr_ ?_
 refine a_ rfl rfl ?_
 refine a_ rfl rfl ?_
 refine ntsr_ ?_
 refine m_ rfl rfl ?_
 refine WL.y rfl (Yd.len (e := 118) kr_ rfl) ?_
 refine a_ rfl rfl ?_
 refine ntsr_ ?_
 refine m_ rfl rfl ?_
 refine a_ rfl rfl ?_
 refine a_ rfl rfl ?_
 refine nt_ ?_
 refine WC.seq ?_
 refine WC.block ?_
 refine WC.loopS (fun z : Nat × Nat => z.1 ≤ z.2 ∧ z.2 ≤ ks.length ∧ (∀ t (ht : t < ks.length), t < z.1 → ks[t].num < n) ∧ (∀ t (ht : t < ks.length), z.2 ≤ t → n ≤ ks[t].num)) (fun z : Nat × Nat => [(9, .int .i64 (z.1 : Int)), (10, .int .i64 (z.2 : Int))]) (fun z : Nat × Nat => H) (fun z : Nat × Nat => z.2 - z.1) (⟨0, ks.length⟩) (show 0 ≤ ks.length ∧ ks.length ≤ ks.length ∧ (∀ t (ht : t < ks.length), t < 0 → ks[t].num < n) ∧ (∀ t (ht : t < ks.length), ks.length ≤ t → n ≤ ks[t].num) from ⟨Nat.zero_le _, Nat.le_refl _, fun t ht h => by omega, fun t ht h => by omega⟩) (Sx.put rfl (Sx.put rfl (sx_))) sp_ ?_
 rintro ⟨i, j⟩ hI
 replace hI : i ≤ j ∧ j ≤ ks.length ∧ (∀ t (ht : t < ks.length), t < i → ks[t].num < n) ∧ (∀ t (ht : t < ks.length), j ≤ t → n ≤ ks[t].num) := hI
 obtain ⟨hij, hj, hlo, hhi⟩ := hI
 change WC _ _ _ _ _ _ ([(9, .int .i64 (i : Int)), (10, .int .i64 (j : Int))] ++ _) (H)
 refine WC.seq ?_
 refine sr_ ?_
 refine m_ rfl rfl ?_
 refine m_ rfl rfl ?_
 refine WL.y rfl (Yd.lss rfl rfl) ?_
 refine nt_ ?_
 refine WC.ite rfl (fun h17 => ?_) (fun h17 => ?_)
 ·have hm : (i + j) / 2 < ks.length := by omega
  obtain ⟨va, vr, hg, hva, hvr⟩ := hk.at ((i + j) / 2) hm
  have hrt := chk_right hck hm
  refine WC.skip ?_
  refine DN.then_normal ?_
  refine WC.block ?_
  refine sr_ ?_
  refine m_ rfl rfl ?_
  refine m_ rfl rfl ?_
  refine WL.y rfl (Yd.add rfl rfl (by omega) (by omega)) ?_
  refine WL.y rfl (Yd.to64 _ kr_ kr_ rfl rfl) ?_
  refine WL.y rfl (Yd.shr64 _ 1 rfl rfl rfl rfl) ?_
  refine WL.renamed (t := 22) (v := .int .u64 (((i + j) / 2 : Nat) : Int)) rfl (congrArg (Value.int .u64) (by rw [BitVec.toNat_ushiftRight, BitVec.toNat_ofInt, Nat.shiftRight_eq_div_pow]; omega)) ?_
  refine WL.y rfl (Yd.toInt kr_ kr_ rfl (by omega) (by omega)) ?_
  refine a_ rfl rfl ?_
  refine ntsr_ ?_
  iterate 3 refine m_ rfl rfl ?_
  refine WL.elemA (e := 118) (s := 6) kr_ kr_ kr_ rfl rfl (rfl) (hr.mono gr_) (hg) (by rfl) (by omega) (hm) rfl rfl ?_
  intro p27
  refine m_ rfl rfl ?_
  refine WL.r rfl (Ent.val Tryz.call127 rfl rfl) (against_reads _ va vr (IsSl.of hva).one (IsSl.of hvr).one n hrt.2.1 hrt.2.2.1 _) ?_
  refine WL.y rfl (Yd.lss rfl rfl) ?_
  refine nt_ ?_
  refine WC.ite rfl (fun h31 => ?_) (fun h31 => ?_)
  ·have hm2 : ks[(i + j) / 2].num < n := by
     revert h31
     split
     · intro _; assumption
     · split <;> omega
   refine WC.region ?_
   refine m_ rfl rfl ?_
   refine WL.y rfl (Yd.add rfl rfl (by omega) (by omega)) ?_
   refine a_ rfl rfl ?_
   refine WL.nil ?_
   refine DN.block_normal ?_
   exact DN.againS (⟨(i + j) / 2 + 1, j⟩) (show ((i + j) / 2 + 1) ≤ j ∧ j ≤ ks.length ∧ (∀ t (ht : t < ks.length), t < ((i + j) / 2 + 1) → ks[t].num < n) ∧ (∀ t (ht : t < ks.length), j ≤ t → n ≤ ks[t].num) from ⟨by omega, by omega, fun t ht h => by
       rcases Nat.lt_or_ge t ((i + j) / 2) with h5 | h5
       · have := chk_lt hck h5 hm; omega
       · obtain rfl : t = (i + j) / 2 := by omega
         exact hm2, hhi⟩) (show j - ((i + j) / 2 + 1) < j - i by omega) (Sx.put rfl (Sx.put rfl (sx_))) sp_
  ·have hm2 : ¬ ks[(i + j) / 2].num < n := by
     revert h31
     split
     · omega
     · intro _; assumption
   refine WC.region ?_
   refine m_ rfl rfl ?_
   refine a_ rfl rfl ?_
   refine WL.nil ?_
   refine DN.block_normal ?_
   exact DN.againS (⟨i, (i + j) / 2⟩) (show i ≤ ((i + j) / 2) ∧ ((i + j) / 2) ≤ ks.length ∧ (∀ t (ht : t < ks.length), t < i → ks[t].num < n) ∧ (∀ t (ht : t < ks.length), ((i + j) / 2) ≤ t → n ≤ ks[t].num) from ⟨by omega, by omega, hlo, fun t ht h => by
       rcases Nat.lt_or_ge ((i + j) / 2) t with h5 | h5
       · have := chk_lt hck h5 ht; omega
       · obtain rfl : t = (i + j) / 2 := by omega
         omega⟩) (show ((i + j) / 2) - i < j - i by omega) (Sx.put rfl (Sx.put rfl (sx_))) sp_
 ·obtain rfl : i = j := by omega
  have hpos : pos ks n = i := pos_eq hj hlo fun h => hhi i h (Nat.le_refl _)
  refine WC.exit ?_
  refine DN.then_exit ?_
  refine DN.then_exit ?_
  refine DN.block_exit ?_
  refine ts_ ?_
  refine WC.region ?_
  iterate 3 refine m_ rfl rfl ?_
  refine WL.y rfl (Yd.lss rfl rfl) ?_
  refine m_ rfl rfl ?_
  refine WL.partP (t := 39) rfl (fun hg39 => ?_) (fun hg39 => ?_)
  ·refine gy_ 39 rfl rfl rfl (Yd.move rfl) ?_
   refine gy_ 39 rfl rfl rfl (Yd.move rfl) ?_
   refine gy_ 39 rfl rfl rfl (Yd.move rfl) ?_
   have hm : i < ks.length := by omega
   obtain ⟨va, vr, hg, hva, hvr⟩ := hk.at i hm
   have hrt := chk_right hck hm
   obtain ⟨lb, lf, lcs, lT, lfr, lex, elo, _, hlm, hlcs⟩ := hr.lies (by omega)
   refine gy_ 39 rfl rfl rfl (Yd.indexAddr (e := 118) (s := 6) (b := lb) (o := lf) (n := ks.length) (c := c) kr_ kr_ (congrArg (fun q => some (Value.slice q ks.length c)) elo) rfl (by omega) (by omega)) ?_
   refine WL.gh (dj := 39) rfl rfl rfl (Hd.loadA (n := 6) (b := lb) (o := lf + (i : Int).toNat * 6) (cs := lcs) (vs := kc ks[i] va vr) kr_ rfl hlm rfl (rs_cell hlcs (by rw [hk.len]; omega) hg) ⟨_, rfl, ?_⟩)
   refine gy_ 39 rfl rfl rfl (Yd.move rfl) ?_
   refine WL.gr (dj := 39) rfl rfl rfl (Ent.val Tryz.call127 rfl rfl) (against_reads _ va vr (IsSl.of hva).one (IsSl.of hvr).one n hrt.2.1 hrt.2.2.1 _) ?_
   refine gy_ 39 rfl rfl rfl (Yd.eql rfl rfl) ?_
   refine WL.y rfl (Yd.pickT rfl rfl) ?_
   refine a_ rfl rfl ?_
   refine a_ rfl rfl ?_
   refine nt_ ?_
   refine WC.ret ?_
   refine DN.ret2 Tryz.results126 rfl rfl ?_
   refine ⟨?_, rfl⟩
   subst hpos
   refine congrArg (fun q => Value.tuple #[Value.int IntKind.i64 (pos ks n : Nat), Value.bool q]) ?_
   rcases getK_pos hck (n := n) with ⟨e1, e2⟩ | ⟨hi9, e1, e2⟩
   · rw [e1, Option.isSome_none]
     all_goals first
     | rfl
     | (have e3 := e2 (by omega)
        refine decide_eq_false fun h9 => ?_
        by_cases h5 : ks[pos ks n].num < n
        · rw [if_pos h5] at h9; omega
        · rw [if_neg h5] at h9
          by_cases h6 : n < ks[pos ks n].num
          · rw [if_pos h6] at h9; omega
          · omega)
   · rw [e2, Option.isSome_some]
     first
     | (rw [decide_eq_true_eq, if_neg (by omega), if_neg (by omega)])
     | omega
  ·iterate 8 refine gn_ 39 rfl rfl rfl rfl ?_
   refine WL.y rfl (Yd.pickF rfl rfl) ?_
   refine a_ rfl rfl ?_
   refine a_ rfl rfl ?_
   refine nt_ ?_
   refine WC.ret ?_
   refine DN.ret2 Tryz.results126 rfl rfl ?_
   refine ⟨?_, rfl⟩
   subst hpos
   refine congrArg (fun q => Value.tuple #[Value.int IntKind.i64 (pos ks n : Nat), Value.bool q]) ?_
   rcases getK_pos hck (n := n) with ⟨e1, e2⟩ | ⟨hi9, e1, e2⟩
   · rw [e1, Option.isSome_none]
     all_goals first
     | rfl
     | (have e3 := e2 (by omega)
        refine decide_eq_false fun h9 => ?_
        by_cases h5 : ks[pos ks n].num < n
        · rw [if_pos h5] at h9; omega
        · rw [if_neg h5] at h9
          by_cases h6 : n < ks[pos ks n].num
          · rw [if_pos h6] at h9; omega
          · omega)
   · rw [e2, Option.isSome_some]
     first
     | (rw [decide_eq_true_eq, if_neg (by omega), if_neg (by omega)])
     | omega
end Go.Proofs.YtkamlondepceiaaGreat

set_option linter.unusedVariables false
set_option linter.unusedSimpArgs false
set_option maxHeartbeats 2000000
namespace Go.Proofs.YtkamlondepceiaaGreat
open Go.SL
theorem find_reads (e : BitVec 32) (v : Value) (ks : List Kp) (H : List Ck) (hv : KV v ks H) (hck : chk ks) (o : BitVec 32) (s : Int) (u : Bool) (h0 : 0 ≤ s) (h : s < 16) : Reads Tryz.prog 93 [.agg #[.int .u32 e.toNat, v], .agg (keyc o s u).toArray] H (.tuple #[.int .i64 (pos ks (numb o s u) : Nat), .bool (getK ks (numb o s u)).isSome]) := by
 refine Tells.enter Tryz.func93 rfl Tryz.ntmps93 rfl ?_
 intro w0 R
 refine sr_ ?_
 refine WL.h rfl (Hd.boxA rfl fun b2 => ⟨_, rfl, ?_⟩)
 refine WL.h rfl (Hd.boxA rfl fun b3 => ⟨_, rfl, ?_⟩)
 refine a_ rfl rfl ?_
 refine a_ rfl rfl ?_
 refine nt_ ?_
 refine WC.seq ?_
 refine WC.draw 9 kr_ rfl ?_
 refine WA.quiet 9 0 rfl rfl kr_ kr_ kr_ rfl ?_
 refine WQ.y rfl (Yd.fieldAddr (k := 1) kr_ rfl) ?_
 refine WQ.rd rfl Wt.none (Rd.load1 kr_ rfl mem_ (by rfl)) ?_
 refine WQ.rd rfl Wt.none (Rd.loadAll (n := 3) kr_ rfl mem_ (by rfl)) ?_
 refine WQ.rf rfl Wt.none (Ent.func Tryz.call117 rfl) (number_reads o s u h0 h _) Sp.sn ?_
 refine WQ.rf rfl Wt.none (Ent.func Tryz.call126 rfl) (bsf_reads v ks _ (hv.mono gr_) hck (numb o s u)) Sp.sn ?_
 refine WQ.y rfl (Yd.extract rfl rfl) ?_
 refine WQ.y rfl (Yd.extract rfl rfl) ?_
 refine WQ.y rfl (Yd.assign rfl) ?_
 refine WQ.y rfl (Yd.assign rfl) ?_
 refine WQ.nil ?_
 refine WA.done kr_ ?_
 refine DN.then_normal ?_
 refine WC.ret ?_
 refine DN.fit (C := H) sp_ ?_
 refine DN.ret2 Tryz.results93 rfl rfl ?_
 exact ⟨rfl, rfl⟩
theorem own_tells (k : Kp) (va vr : Value) (H : List Ck) (hva : Bs va k.asked H) (hvr : Bs vr k.reply H) (hla : k.asked.length ≤ 1000000) (hlr : k.reply.length ≤ 1000000) : Tells Tryz.prog 96 [.agg (kc k va vr).toArray] H fun r H' => ∃ wa wr A B, r = .agg (kc k wa wr).toArray ∧ Ob 5 wa k.asked A ∧ Ob 5 wr k.reply B ∧ H' = A ++ (B ++ H) := by
 refine Tells.enter Tryz.func96 rfl Tryz.ntmps96 rfl ?_
 intro w0 R
 obtain ⟨ao, ac, rfl, hac⟩ := hva.form
 obtain ⟨ro, rc, rfl, hrc⟩ := hvr.form
 refine sr_ ?_
 refine WL.h rfl (Hd.boxA rfl fun b1 => ⟨_, rfl, ?_⟩)
 refine WL.h rfl (Hd.alloc (zs := [.int .u32 0, .int .i64 0, .bool false, .slice none 0 0, .int .i64 0, .slice none 0 0]) kr_ fun b2 => ⟨_, rfl, ?_⟩)
 refine ntsr_ ?_
 refine WL.h rfl (Hd.buildBytes (e := 5) [] kr_ kr_ kr_ rfl rfl kr_ fun b => ⟨_, rfl, ?_⟩)
 refine f_ 3 kr_ rfl rfl ?_
 refine d_ kr_ rfl mem_ (by rfl) rfl ?_
 refine WL.h rfl (Hd.appendBs (e := 5) (zs := [.int .u8 0]) kr_ kr_ rfl rfl rfl (Ob.block b [] (by simp)) sp_ (hva.mono gr_) (by simp; omega) fun wa A hA => ⟨_, rfl, ?_⟩)
 rw [List.nil_append] at hA
 obtain ⟨o1, c1, rfl, hc1⟩ := hA.form
 refine f_ 3 kr_ rfl rfl ?_
 refine WL.s (Hd.store1s kr_ rfl rfl (by rfl) fr_ (by rfl) (by first | (simp only [List.set_cons_zero, List.set_cons_succ, Nat.zero_add, Nat.add_zero, Nat.reduceAdd]; rfl) | rfl) ⟨rfl, ?_⟩)
 refine ntsr_ ?_
 refine WL.h rfl (Hd.buildBytes (e := 5) [] kr_ kr_ kr_ rfl rfl kr_ fun b => ⟨_, rfl, ?_⟩)
 refine f_ 5 kr_ rfl rfl ?_
 refine d_ kr_ rfl mem_ (by rfl) rfl ?_
 refine WL.h rfl (Hd.appendBs (e := 5) (zs := [.int .u8 0]) kr_ kr_ rfl rfl rfl (Ob.block b [] (by simp)) sp_ (hvr.mono gr_) (by simp; omega) fun wr B hB => ⟨_, rfl, ?_⟩)
 rw [List.nil_append] at hB
 obtain ⟨o2, c2, rfl, hc2⟩ := hB.form
 refine f_ 5 kr_ rfl rfl ?_
 refine WL.s (Hd.store1s kr_ rfl rfl (by rfl) fr_ (by rfl) (by first | (simp only [List.set_cons_zero, List.set_cons_succ, Nat.zero_add, Nat.add_zero, Nat.reduceAdd]; rfl) | rfl) ⟨rfl, ?_⟩)
 refine ntsr_ ?_
 refine WL.h rfl (Hd.loadAll (n := 6) kr_ rfl mem_ (by rfl) ⟨_, rfl, ?_⟩)
 refine WL.s (Hd.storeAll (n := 6) kr_ rfl rfl (by rfl) one_ fr_ (by rfl) ⟨rfl, ?_⟩)
 refine nt_ ?_
 refine WC.ret ?_
 refine DN.retCS (s := 6) (A ++ (B ++ H)) Tryz.results96 kr_ rfl mem_ (by rfl) sp_ ?_
 exact ⟨_, _, A, B, rfl, hA, hB, rfl⟩
theorem all_tells (e : BitVec 32) (v : Value) (ks : List Kp) (H : List Ck) (hv : KV v ks H) (hck : chk ks) : Tells Tryz.prog 85 [.agg #[.int .u32 e.toNat, v]] H fun r H' => ∃ w D, r = .agg #[.int .u32 e.toNat, w] ∧ FAt 5 118 w ks D ∧ H' = D ++ H := by
 refine Tells.enter Tryz.func85 rfl Tryz.ntmps85 rfl ?_
 intro w0 R
 obtain ⟨cs, hr, hk⟩ := hv
 obtain ⟨ao, c, rfl, hc⟩ := hr.form
 have h200 := hck.1
 refine sr_ ?_
 refine WL.h rfl (Hd.boxA rfl fun b1 => ⟨_, rfl, ?_⟩)
 refine WL.h rfl (Hd.alloc (zs := [.int .u32 0, .slice none 0 0]) kr_ fun b2 => ⟨_, rfl, ?_⟩)
 refine ntsr_ ?_
 refine a_ rfl rfl ?_
 refine nt_ ?_
 refine WC.seq ?_
 refine sr_ ?_
 refine f_ 1 kr_ rfl rfl ?_
 refine d_ kr_ rfl mem_ (by rfl) rfl ?_
 refine WL.y rfl (Yd.len (e := 118) kr_ rfl) ?_
 refine m_ rfl rfl ?_
 refine nt_ ?_
 refine WC.block ?_
 refine WC.loopS (fun z : Nat × Value × List Value × List Ck × List Ck => z.1 ≤ ks.length ∧ Own z.2.1 z.1 z.2.2.1 118 6 z.2.2.2.1 ∧ Kts 5 z.2.2.1 (ks.take z.1) z.2.2.2.2) (fun z : Nat × Value × List Value × List Ck × List Ck => [(9, .int .i64 (z.1 : Int)), (3, z.2.1)]) (fun z : Nat × Value × List Value × List Ck × List Ck => z.2.2.2.1 ++ (z.2.2.2.2 ++ (row b2 [.int .u32 0, .slice none 0 0] 82 :: row b1 [.int .u32 e.toNat, .slice ao ks.length c] 82 :: H))) (fun z : Nat × Value × List Value × List Ck × List Ck => ks.length - z.1) (⟨0, .slice none 0 0, [], [], []⟩) (show 0 ≤ ks.length ∧ Own (.slice none 0 0) 0 [] 118 6 [] ∧ Kts 5 [] (ks.take 0) [] from ⟨Nat.zero_le _, Own.nil _ _, by rw [List.take_zero]; exact .nil⟩) (Sx.put rfl (Sx.put rfl (sx_))) sp_ ?_
 rintro ⟨i, vl, cl, Cl, Dl⟩ hI
 replace hI : i ≤ ks.length ∧ Own vl i cl 118 6 Cl ∧ Kts 5 cl (ks.take i) Dl := hI
 obtain ⟨hi, hOl, hKt⟩ := hI
 change WC _ _ _ _ _ _ ([(9, .int .i64 (i : Int)), (3, vl)] ++ _) (Cl ++ (Dl ++ (row b2 [.int .u32 0, .slice none 0 0] 82 :: row b1 [.int .u32 e.toNat, .slice ao ks.length c] 82 :: H)))
 obtain ⟨lo, lc, rfl, hlc⟩ := hOl.form
 refine sr_ ?_
 refine WL.y rfl (Yd.lss rfl rfl) ?_
 refine nt_ ?_
 refine WC.seq ?_
 refine WC.ite rfl (fun h10 => ?_) (fun h10 => ?_)
 ·have hlt : i < ks.length := by omega
  obtain ⟨va, vr, hg, hva, hvr⟩ := hk.at i hlt
  have hrt := chk_right hck hlt
  refine WC.skip ?_
  refine ts_ ?_
  refine WC.block ?_
  refine sr_ ?_
  refine WL.elemA (e := 118) (s := 6) kr_ kr_ kr_ rfl rfl (rfl) (hr.mono gr_) (hg) (by rfl) (by omega) (hlt) rfl rfl ?_
  intro p11
  refine WL.h rfl (Hd.alloc (zs := [.int .u32 0, .int .i64 0, .bool false, .slice none 0 0, .int .i64 0, .slice none 0 0]) kr_ fun b5 => ⟨_, rfl, ?_⟩)
  refine WL.s (Hd.storeAll (n := 6) kr_ rfl rfl (by rfl) (kc_one (IsSl.of hva).one (IsSl.of hvr).one) fr_ (by rfl) ⟨rfl, ?_⟩)
  refine ntr_ ?_
  refine m_ rfl rfl ?_
  refine WL.h rfl (Hd.loadAll (n := 6) kr_ rfl mem_ (by rfl) ⟨_, rfl, ?_⟩)
  refine WL.c rfl (Ent.func Tryz.call96 rfl) (own_tells ks[i] va vr H hva hvr (by have := hrt.2.2.2.1; omega) (by have := hrt.2.2.2.2.1; omega)) (Sp.p sp_) ?_
  rintro x H1 ⟨wa, wr, A, B, rfl, hA, hB, rfl⟩
  obtain ⟨o1, c1, rfl, hc1⟩ := hA.form
  obtain ⟨o2, c2, rfl, hc2⟩ := hB.form
  refine WL.h rfl (Hd.buildA (e := 118) (sz := 6) (zs := [.int .u32 0, .int .i64 0, .bool false, .slice none 0 0, .int .i64 0, .slice none 0 0]) kr_ kr_ kr_ rfl rfl (by rfl) kr_ fun b16 => ⟨_, rfl, ?_⟩)
  refine WL.h rfl (Hd.appendRow (e := 118) (sz := 6) (bytes := 80) (zs := [.int .u32 0, .int .i64 0, .bool false, .slice none 0 0, .int .i64 0, .slice none 0 0]) kr_ kr_ rfl (by omega) rfl rfl (hOl) sp_ mem_ (by rfl) (kc_one (by rfl) (by rfl)) (by simp only [maxLen]; omega) (by omega) fun v2 C2 h2 => ⟨_, rfl, ?_⟩)
  refine a_ rfl rfl ?_
  refine WL.nil ?_
  refine DN.block_normal ?_
  refine DN.then_normal ?_
  refine WC.region ?_
  refine WL.y rfl (Yd.add rfl rfl (by omega) (by omega)) ?_
  refine m_ rfl rfl ?_
  refine WL.nil ?_
  exact DN.againS (⟨i + 1, v2, cl ++ kc ks[i] (.slice o1 ks[i].asked.length c1) (.slice o2 ks[i].reply.length c2), C2, Dl ++ (A ++ B)⟩) (show (i + 1) ≤ ks.length ∧ Own v2 (i + 1) (cl ++ kc ks[i] (.slice o1 ks[i].asked.length c1) (.slice o2 ks[i].reply.length c2)) 118 6 C2 ∧ Kts 5 (cl ++ kc ks[i] (.slice o1 ks[i].asked.length c1) (.slice o2 ks[i].reply.length c2)) (ks.take (i + 1)) (Dl ++ (A ++ B)) from ⟨by omega, h2, by rw [List.take_succ_eq_append_getElem hlt]; exact hKt.append (Kts.one' hA hB)⟩) (show ks.length - (i + 1) < ks.length - i by omega) (Sx.put rfl (Sx.put rfl (sx_))) sp_
 ·obtain rfl : i = ks.length := by omega
  rw [List.take_length] at hKt
  refine WC.exit ?_
  refine DN.then_exit ?_
  refine DN.then_exit ?_
  refine DN.block_exit ?_
  refine ts_ ?_
  refine WC.region ?_
  refine m_ rfl rfl ?_
  refine f_ 1 kr_ rfl rfl ?_
  refine WL.s (Hd.store1s kr_ rfl rfl (by rfl) fr_ (by rfl) (by first | (simp only [List.set_cons_zero, List.set_cons_succ, Nat.zero_add, Nat.add_zero, Nat.reduceAdd]; rfl) | rfl) ⟨rfl, ?_⟩)
  refine ntsr_ ?_
  refine WL.h rfl (Hd.loadAll (n := 2) kr_ rfl mem_ (by rfl) ⟨_, rfl, ?_⟩)
  refine WL.s (Hd.storeAll (n := 2) kr_ rfl rfl (by rfl) one_ fr_ (by rfl) ⟨rfl, ?_⟩)
  refine nt_ ?_
  refine WC.ret ?_
  refine DN.retCS (s := 2) (Cl ++ (Dl ++ H)) Tryz.results85 kr_ rfl mem_ (by rfl) sp_ ?_
  exact ⟨_, Cl ++ Dl, rfl, ⟨cl, Cl, Dl, hOl, hKt, rfl⟩, by rw [List.append_assoc]⟩
theorem see_tells (e : BitVec 32) (v : Value) (ks : List Kp) (H : List Ck) (hv : KV v ks H) (hl : ks.length ≤ 9223372036854775807) (x : BitVec 32) : Tells Tryz.prog 56 [.agg #[.int .u32 e.toNat, v], .int .u32 x.toNat] H fun r H' => ∃ w D, r = .tuple #[.agg #[.int .u32 (seeK e ks x).1.toNat, w], .int .i64 (seeK e ks x).2.2] ∧ FAt 5 118 w (seeK e ks x).2.1 D ∧ H' = D ++ H := by
 refine Tells.enter Tryz.func56 rfl Tryz.ntmps56 rfl ?_
 intro w0 R
 obtain ⟨ao, c, rfl, hc⟩ := hv.form
 refine sr_ ?_
 refine WL.h rfl (Hd.boxA rfl fun b2 => ⟨_, rfl, ?_⟩)
 refine WL.h rfl (Hd.alloc (zs := [.int .u32 0, .slice none 0 0]) kr_ fun b4 => ⟨_, rfl, ?_⟩)
 refine a_ rfl rfl ?_
 refine nt_ ?_
 refine WC.seq ?_
 refine WC.block ?_
 refine sr_ ?_
 refine WL.h rfl (Hd.loadAll (n := 2) kr_ rfl mem_ (by rfl) ⟨_, rfl, ?_⟩)
 refine WL.r rfl (Ent.func Tryz.call82 rfl) (check2_reads e _ ks _ (hv.mono gr_) hl) ?_
 refine WL.y rfl (Yd.neq rfl rfl) ?_
 refine a_ rfl rfl ?_
 refine nt_ ?_
 refine WC.ite rfl (fun h9 => ?_) (fun h9 => ?_)
 ·have hn : ¬ chk ks := fun h => by rw [if_pos h] at h9; exact h9 rfl
  refine sr_ ?_
  refine WL.y rfl (Yd.buildL (pl := [(0, 1), (1, 1)]) (zs := [.int .u32 0, .slice none 0 0]) (parts := []) (vs := []) (cells := [.int .u32 0, .slice none 0 0]) kr_ kr_ rfl rfl) ?_
  refine WL.s (Hd.storeAll (n := 2) kr_ rfl rfl (by rfl) one_ fr_ (by rfl) ⟨rfl, ?_⟩)
  refine a_ rfl rfl ?_
  refine nt_ ?_
  refine WC.ret ?_
  refine DN.block_ret ?_
  refine DN.then_ret ?_
  refine DN.retCT (s := 2) H Tryz.results56 kr_ rfl rfl mem_ (by rfl) sp_ ?_
  rw [show seeK e ks x = (0#32, [], 2) from if_pos hn]
  exact ⟨_, [], rfl, FAt.nil _ _, rfl⟩
 ·have hy : chk ks := Classical.byContradiction fun h => by rw [if_neg h] at h9; exact h9 (by decide)
  refine sr_ ?_
  refine m_ rfl rfl ?_
  refine f_ 0 kr_ rfl rfl ?_
  refine d_ kr_ rfl mem_ (by rfl) rfl ?_
  refine WL.y rfl (Yd.lss rfl rfl) ?_
  refine a_ rfl rfl ?_
  refine nt_ ?_
  refine WC.ite rfl (fun h11 => ?_) (fun h11 => ?_)
  ·refine sr_ ?_
   refine WL.y rfl (Yd.buildL (pl := [(0, 1), (1, 1)]) (zs := [.int .u32 0, .slice none 0 0]) (parts := []) (vs := []) (cells := [.int .u32 0, .slice none 0 0]) kr_ kr_ rfl rfl) ?_
   refine WL.s (Hd.storeAll (n := 2) kr_ rfl rfl (by rfl) one_ fr_ (by rfl) ⟨rfl, ?_⟩)
   refine a_ rfl rfl ?_
   refine nt_ ?_
   refine WC.ret ?_
   refine DN.block_ret ?_
   refine DN.then_ret ?_
   refine DN.retCT (s := 2) H Tryz.results56 kr_ rfl rfl mem_ (by rfl) sp_ ?_
   rw [show seeK e ks x = (0#32, [], 72) by unfold seeK; rw [if_neg (not_not_intro hy), if_pos (by omega)]]
   exact ⟨_, [], rfl, FAt.nil _ _, rfl⟩
  ·refine WC.skip ?_
   refine DN.block_normal ?_
   refine ts_ ?_
   refine WC.region ?_
   refine WL.h rfl (Hd.loadAll (n := 2) kr_ rfl mem_ (by rfl) ⟨_, rfl, ?_⟩)
   refine WL.c rfl (Ent.func Tryz.call85 rfl) (all_tells e _ ks H hv (by first | assumption | exact Classical.byContradiction fun h => (by rw [if_neg h] at h9; exact h9 (by decide)))) (Sp.p sp_) ?_
   rintro r2 H1 ⟨w, D, rfl, hF, rfl⟩
   obtain ⟨wo, wc, rfl⟩ := hF.form
   refine WL.s (Hd.storeAll (n := 2) kr_ rfl rfl (by rfl) one_ fr_ (by rfl) ⟨rfl, ?_⟩)
   refine ntsr_ ?_
   refine m_ rfl rfl ?_
   refine f_ 0 kr_ rfl rfl ?_
   refine WL.s (Hd.store1s kr_ rfl rfl (by rfl) fr_ (by rfl) (by first | (simp only [List.set_cons_zero, List.set_cons_succ, Nat.zero_add, Nat.add_zero, Nat.reduceAdd]; rfl) | rfl) ⟨rfl, ?_⟩)
   refine ntsr_ ?_
   refine WL.h rfl (Hd.loadAll (n := 2) kr_ rfl mem_ (by rfl) ⟨_, rfl, ?_⟩)
   refine WL.s (Hd.storeAll (n := 2) kr_ rfl rfl (by rfl) one_ fr_ (by rfl) ⟨rfl, ?_⟩)
   refine a_ rfl rfl ?_
   refine nt_ ?_
   refine WC.ret ?_
   refine DN.retCT (s := 2) (D ++ H) Tryz.results56 kr_ rfl rfl mem_ (by rfl) sp_ ?_
   rw [show seeK e ks x = (x, ks, 0) by unfold seeK; rw [if_neg (not_not_intro hy), if_neg (by omega)]]
   exact ⟨_, D, rfl, hF, rfl⟩
theorem find2_tells (e : BitVec 32) (v : Value) (ks : List Kp) (H : List Ck) (hv : KV v ks H) (hl : ks.length ≤ 9223372036854775807) (o : BitVec 32) (s : Int) (u : Bool) : Tells Tryz.prog 84 [.agg #[.int .u32 e.toNat, v], .int .u32 o.toNat, .int .i64 s, .bool u] H fun r H' => ∃ wa wr A B, r = .tuple #[.agg (kc ((findF ks o s u).getD Kp.z) wa wr).toArray, .bool (findF ks o s u).isSome] ∧ Ob 5 wa ((findF ks o s u).getD Kp.z).asked A ∧ Ob 5 wr ((findF ks o s u).getD Kp.z).reply B ∧ H' = A ++ (B ++ H) := by
 refine Tells.enter Tryz.func84 rfl Tryz.ntmps84 rfl ?_
 intro w0 R
 have hv9 := hv
 obtain ⟨cs, hr, hk⟩ := hv9
 obtain ⟨ao, c, rfl, hc⟩ := hr.form
 refine sr_ ?_
 refine WL.h rfl (Hd.boxA rfl fun b4 => ⟨_, rfl, ?_⟩)
 refine WL.h rfl (Hd.alloc (zs := [.int .u32 0, .int .i64 0, .bool false, .slice none 0 0, .int .i64 0, .slice none 0 0]) kr_ fun b8 => ⟨_, rfl, ?_⟩)
 refine a_ rfl rfl ?_
 refine nt_ ?_
 refine WC.seq ?_
 refine sr_ ?_
 refine WL.h rfl (Hd.loadAll (n := 2) kr_ rfl mem_ (by rfl) ⟨_, rfl, ?_⟩)
 refine WL.r rfl (Ent.func Tryz.call82 rfl) (check2_reads e _ ks _ (hv.mono gr_) hl) ?_
 refine WL.y rfl (Yd.neq rfl rfl) ?_
 refine m_ rfl rfl ?_
 refine WL.partP (t := 15) rfl (fun hg15 => ?_) (fun hg15 => ?_)
 ·refine gn_ 15 rfl rfl rfl rfl ?_
  refine gn_ 15 rfl rfl rfl rfl ?_
  refine WL.y rfl (Yd.pickT rfl rfl) ?_
  refine m_ rfl rfl ?_
  refine gn_ 19 rfl rfl rfl rfl ?_
  refine gn_ 19 rfl rfl rfl rfl ?_
  refine WL.y rfl (Yd.pickT rfl rfl) ?_
  refine nt_ ?_
  refine WC.yes rfl ?_
  refine sr_ ?_
  refine WL.y rfl (Yd.buildL (pl := [(0, 1), (1, 1), (2, 1), (3, 1), (4, 1), (5, 1)]) (zs := [.int .u32 0, .int .i64 0, .bool false, .slice none 0 0, .int .i64 0, .slice none 0 0]) (parts := []) (vs := []) (cells := [.int .u32 0, .int .i64 0, .bool false, .slice none 0 0, .int .i64 0, .slice none 0 0]) kr_ kr_ rfl rfl) ?_
  refine WL.s (Hd.storeAll (n := 6) kr_ rfl rfl (by rfl) one_ fr_ (by rfl) ⟨rfl, ?_⟩)
  refine a_ rfl rfl ?_
  refine nt_ ?_
  refine WC.ret ?_
  refine DN.then_ret ?_
  first | refine DN.retCT (s := 6) (A ++ (B ++ H)) Tryz.results84 kr_ rfl rfl mem_ (by rfl) sp_ ?_ | refine DN.retCT (s := 6) H Tryz.results84 kr_ rfl rfl mem_ (by rfl) sp_ ?_
  first
    | (have e9 : findF ks o s u = some ks[pos ks (numb o s u)] := by rw [hfb, hgk]
       rw [e9]
       exact ⟨_, _, A, B, rfl, hA, hB, rfl⟩)
    | (rw [hno]
       exact ⟨_, _, [], [], rfl, Ob.nil _, Ob.nil _, rfl⟩)
    | (have e9 : findF ks o s u = none := findF_no fun ⟨g1, g2, g3⟩ => by
         first
         | (simp only [if_pos g1] at hg15; revert hg15; decide)
         | (simp only [decide_eq_true_eq, decide_eq_false_iff_not] at *; omega)
       rw [e9]
       exact ⟨_, _, [], [], rfl, Ob.nil _, Ob.nil _, rfl⟩)
 ·refine gy_ 15 rfl rfl rfl (Yd.move rfl) ?_
  refine gy_ 15 rfl rfl rfl (Yd.lss rfl rfl) ?_
  refine WL.y rfl (Yd.pickF rfl rfl) ?_
  refine m_ rfl rfl ?_
  refine WL.part (t := 19) rfl (fun hg19 => ?_) (fun hg19 => ?_)
  ·refine gn_ 19 rfl rfl rfl rfl ?_
   refine gn_ 19 rfl rfl rfl rfl ?_
   refine WL.y rfl (Yd.pickT rfl rfl) ?_
   refine nt_ ?_
   refine WC.yes rfl ?_
   refine sr_ ?_
   refine WL.y rfl (Yd.buildL (pl := [(0, 1), (1, 1), (2, 1), (3, 1), (4, 1), (5, 1)]) (zs := [.int .u32 0, .int .i64 0, .bool false, .slice none 0 0, .int .i64 0, .slice none 0 0]) (parts := []) (vs := []) (cells := [.int .u32 0, .int .i64 0, .bool false, .slice none 0 0, .int .i64 0, .slice none 0 0]) kr_ kr_ rfl rfl) ?_
   refine WL.s (Hd.storeAll (n := 6) kr_ rfl rfl (by rfl) one_ fr_ (by rfl) ⟨rfl, ?_⟩)
   refine a_ rfl rfl ?_
   refine nt_ ?_
   refine WC.ret ?_
   refine DN.then_ret ?_
   first | refine DN.retCT (s := 6) (A ++ (B ++ H)) Tryz.results84 kr_ rfl rfl mem_ (by rfl) sp_ ?_ | refine DN.retCT (s := 6) H Tryz.results84 kr_ rfl rfl mem_ (by rfl) sp_ ?_
   first
     | (have e9 : findF ks o s u = some ks[pos ks (numb o s u)] := by rw [hfb, hgk]
        rw [e9]
        exact ⟨_, _, A, B, rfl, hA, hB, rfl⟩)
     | (rw [hno]
        exact ⟨_, _, [], [], rfl, Ob.nil _, Ob.nil _, rfl⟩)
     | (have e9 : findF ks o s u = none := findF_no fun ⟨g1, g2, g3⟩ => by
          first
          | (simp only [if_pos g1] at hg15; revert hg15; decide)
          | (simp only [decide_eq_true_eq, decide_eq_false_iff_not] at *; omega)
        rw [e9]
        exact ⟨_, _, [], [], rfl, Ob.nil _, Ob.nil _, rfl⟩)
  ·refine gy_ 19 rfl rfl rfl (Yd.move rfl) ?_
   refine gy_ 19 rfl rfl rfl (Yd.geq rfl rfl) ?_
   refine WL.y rfl (Yd.pickF rfl rfl) ?_
   refine nt_ ?_
   refine WC.cond rfl (fun h22 => ?_) (fun h22 => ?_)
   ·refine sr_ ?_
    refine WL.y rfl (Yd.buildL (pl := [(0, 1), (1, 1), (2, 1), (3, 1), (4, 1), (5, 1)]) (zs := [.int .u32 0, .int .i64 0, .bool false, .slice none 0 0, .int .i64 0, .slice none 0 0]) (parts := []) (vs := []) (cells := [.int .u32 0, .int .i64 0, .bool false, .slice none 0 0, .int .i64 0, .slice none 0 0]) kr_ kr_ rfl rfl) ?_
    refine WL.s (Hd.storeAll (n := 6) kr_ rfl rfl (by rfl) one_ fr_ (by rfl) ⟨rfl, ?_⟩)
    refine a_ rfl rfl ?_
    refine nt_ ?_
    refine WC.ret ?_
    refine DN.then_ret ?_
    first | refine DN.retCT (s := 6) (A ++ (B ++ H)) Tryz.results84 kr_ rfl rfl mem_ (by rfl) sp_ ?_ | refine DN.retCT (s := 6) H Tryz.results84 kr_ rfl rfl mem_ (by rfl) sp_ ?_
    first
      | (have e9 : findF ks o s u = some ks[pos ks (numb o s u)] := by rw [hfb, hgk]
         rw [e9]
         exact ⟨_, _, A, B, rfl, hA, hB, rfl⟩)
      | (rw [hno]
         exact ⟨_, _, [], [], rfl, Ob.nil _, Ob.nil _, rfl⟩)
      | (have e9 : findF ks o s u = none := findF_no fun ⟨g1, g2, g3⟩ => by
           first
           | (simp only [if_pos g1] at hg15; revert hg15; decide)
           | (simp only [decide_eq_true_eq, decide_eq_false_iff_not] at *; omega)
         rw [e9]
         exact ⟨_, _, [], [], rfl, Ob.nil _, Ob.nil _, rfl⟩)
   ·refine WC.skip ?_
    refine ts_ ?_
    refine WC.region ?_
    refine WL.h rfl (Hd.loadAll (n := 2) kr_ rfl mem_ (by rfl) ⟨_, rfl, ?_⟩)
    have hok : chk ks ∧ 0 ≤ s ∧ s < 16 := ⟨Classical.byContradiction fun h => (by simp only [if_neg h] at hg15; revert hg15; decide), by simp only [decide_eq_true_eq, decide_eq_false_iff_not] at *; omega, by simp only [decide_eq_true_eq, decide_eq_false_iff_not] at *; omega⟩
    have hfb := findF_ok (o := o) (u := u) hok.1 hok.2.1 hok.2.2
    iterate 3 refine m_ rfl rfl ?_
    refine WL.y rfl (Yd.buildL (pl := [(0, 1), (1, 1), (2, 1)]) (zs := [.int .u32 0, .int .i64 0, .bool false]) (parts := [(0, .tmp 26), (1, .tmp 27), (2, .tmp 28)]) (vs := [(0, _), (1, _), (2, _)]) (cells := [_, _, _]) kr_ kr_ rfl rfl) ?_
    refine WL.r rfl (Ent.func Tryz.call93 rfl) (find_reads e _ ks _ (hv.mono gr_) hok.1 o s u hok.2.1 hok.2.2) ?_
    refine m_ rfl rfl ?_
    refine x_ rfl rfl rfl ?_
    refine x_ rfl rfl rfl ?_
    refine a_ rfl rfl ?_
    refine a_ rfl rfl ?_
    refine nt_ ?_
    refine WC.seq ?_
    refine sr_ ?_
    refine m_ rfl rfl ?_
    refine WL.y rfl (Yd.notB rfl) ?_
    refine nt_ ?_
    refine WC.cond rfl (fun h34 => ?_) (fun h34 => ?_)
    ·have hno : findF ks o s u = none := by
       rw [hfb]
       simpa using h34
     refine sr_ ?_
     refine WL.y rfl (Yd.buildL (pl := [(0, 1), (1, 1), (2, 1), (3, 1), (4, 1), (5, 1)]) (zs := [.int .u32 0, .int .i64 0, .bool false, .slice none 0 0, .int .i64 0, .slice none 0 0]) (parts := []) (vs := []) (cells := [.int .u32 0, .int .i64 0, .bool false, .slice none 0 0, .int .i64 0, .slice none 0 0]) kr_ kr_ rfl rfl) ?_
     refine WL.s (Hd.storeAll (n := 6) kr_ rfl rfl (by rfl) one_ fr_ (by rfl) ⟨rfl, ?_⟩)
     refine a_ rfl rfl ?_
     refine nt_ ?_
     refine WC.ret ?_
     refine DN.then_ret ?_
     first | refine DN.retCT (s := 6) (A ++ (B ++ H)) Tryz.results84 kr_ rfl rfl mem_ (by rfl) sp_ ?_ | refine DN.retCT (s := 6) H Tryz.results84 kr_ rfl rfl mem_ (by rfl) sp_ ?_
     first
       | (have e9 : findF ks o s u = some ks[pos ks (numb o s u)] := by rw [hfb, hgk]
          rw [e9]
          exact ⟨_, _, A, B, rfl, hA, hB, rfl⟩)
       | (rw [hno]
          exact ⟨_, _, [], [], rfl, Ob.nil _, Ob.nil _, rfl⟩)
       | (have e9 : findF ks o s u = none := findF_no fun ⟨g1, g2, g3⟩ => by
            first
            | (simp only [if_pos g1] at hg15; revert hg15; decide)
            | (simp only [decide_eq_true_eq, decide_eq_false_iff_not] at *; omega)
          rw [e9]
          exact ⟨_, _, [], [], rfl, Ob.nil _, Ob.nil _, rfl⟩)
    ·have hso : (getK ks (numb o s u)).isSome = true := by simpa using h34
     obtain ⟨hlt, hnum, hgk⟩ : ∃ hi : pos ks (numb o s u) < ks.length, ks[pos ks (numb o s u)].num = numb o s u ∧ getK ks (numb o s u) = some ks[pos ks (numb o s u)] := by
       rcases getK_pos hok.1 (n := numb o s u) with ⟨e1, e2⟩ | h9
       · rw [e1] at hso; cases hso
       · exact h9
     refine WC.skip ?_
     refine ts_ ?_
     refine WC.region ?_
     refine f_ 1 kr_ rfl rfl ?_
     refine d_ kr_ rfl mem_ (by rfl) rfl ?_
     refine m_ rfl rfl ?_
     obtain ⟨va, vr, hg, hva, hvr⟩ := hk.at (pos ks (numb o s u)) hlt
     have hrt := chk_right hok.1 hlt
     refine WL.elemA (e := 118) (s := 6) kr_ kr_ kr_ rfl rfl (rfl) (hr.mono gr_) (hg) (by rfl) (by omega) (hlt) rfl rfl ?_
     intro p39
     refine WL.c rfl (Ent.func Tryz.call96 rfl) (own_tells ks[pos ks (numb o s u)] va vr H hva hvr (by have := hrt.2.2.2.1; omega) (by have := hrt.2.2.2.2.1; omega)) (Sp.p sp_) ?_
     rintro x H1 ⟨wa, wr, A, B, rfl, hA, hB, rfl⟩
     obtain ⟨o1, c1, rfl, hc1⟩ := hA.form
     obtain ⟨o2, c2, rfl, hc2⟩ := hB.form
     refine WL.s (Hd.storeAll (n := 6) kr_ rfl rfl (by rfl) one_ fr_ (by rfl) ⟨rfl, ?_⟩)
     refine a_ rfl rfl ?_
     refine nt_ ?_
     refine WC.ret ?_
     first | refine DN.retCT (s := 6) (A ++ (B ++ H)) Tryz.results84 kr_ rfl rfl mem_ (by rfl) sp_ ?_ | refine DN.retCT (s := 6) H Tryz.results84 kr_ rfl rfl mem_ (by rfl) sp_ ?_
     first
       | (have e9 : findF ks o s u = some ks[pos ks (numb o s u)] := by rw [hfb, hgk]
          rw [e9]
          exact ⟨_, _, A, B, rfl, hA, hB, rfl⟩)
       | (rw [hno]
          exact ⟨_, _, [], [], rfl, Ob.nil _, Ob.nil _, rfl⟩)
       | (have e9 : findF ks o s u = none := findF_no fun ⟨g1, g2, g3⟩ => by
            first
            | (simp only [if_pos g1] at hg15; revert hg15; decide)
            | (simp only [decide_eq_true_eq, decide_eq_false_iff_not] at *; omega)
          rw [e9]
          exact ⟨_, _, [], [], rfl, Ob.nil _, Ob.nil _, rfl⟩)
end Go.Proofs.YtkamlondepceiaaGreat

set_option linter.unusedVariables false
set_option linter.unusedSimpArgs false
set_option maxHeartbeats 2000000
namespace Go.Proofs.YtkamlondepceiaaGreat
open Go.SL
theorem insert_tells (v : Value) (n : Nat) (cells : List Value) (C : List Ck) (own : Own v n cells 118 6 C) (h1 : ∀ u ∈ cells, u.oneCell' = true) (hn : n ≤ 1000000) (i : Nat) (hi : i ≤ n) (rb : Nat) (x : List Value) (hx : x.length = 6) (hx1 : ∀ u ∈ x, u.oneCell' = true) : Tells Tryz.prog 95 [v, .int .i64 (i : Int), .slice (some ⟨rb, 0, none⟩) 1 1] (C ++ [row rb x 118]) fun r H' => Own r (n + 1) (cells.take (i * 6) ++ (x ++ cells.drop (i * 6))) 118 6 H' := by
 refine Tells.enter Tryz.func95 rfl Tryz.ntmps95 rfl ?_
 intro w0 R
 obtain ⟨ao, cap, rfl, hcap⟩ := own.form
 have hcl := own.len
 refine sr_ ?_
 refine a_ rfl rfl ?_
 refine ntsr_ ?_
 refine m_ rfl rfl ?_
 refine m_ rfl rfl ?_
 refine WL.y rfl (Yd.slice (i := i) (j := n) (e := 118) (s := 6) kr_ kr_ rfl ⟨_, _, rfl, rfl⟩ rfl hi hcap) ?_
 refine ntsr_ ?_
 refine m_ rfl rfl ?_
 refine WL.y rfl (Yd.len (e := 118) kr_ rfl) ?_
 refine a_ rfl rfl ?_
 refine nt_ ?_
 refine WC.seq ?_
 refine sr_ ?_
 refine m_ rfl rfl ?_
 refine WL.y rfl (Yd.eql rfl rfl) ?_
 refine WL.renamed (t := 16) (v := .bool false) rfl (congrArg Value.bool (by simp)) ?_
 refine nt_ ?_
 refine WC.no rfl ?_
 refine WC.skip ?_
 refine ts_ ?_
 refine WC.region ?_
 refine m_ rfl rfl ?_
 refine WL.y rfl (Yd.len (e := 118) kr_ rfl) ?_
 refine a_ rfl rfl ?_
 refine nt_ ?_
 refine WC.seq ?_
 refine sr_ ?_
 refine m_ rfl rfl ?_
 refine m_ rfl rfl ?_
 refine WL.y rfl (Yd.eql rfl rfl) ?_
 refine nt_ ?_
 refine WC.ite rfl (fun h22 => ?_) (fun h22 => ?_)
 ·obtain rfl : i = n := by omega
  refine sr_ ?_
  refine m_ rfl rfl ?_
  refine m_ rfl rfl ?_
  refine WL.h rfl (Hd.appendF (e := 118) (sz := 6) (bytes := 80) (zs := [.int .u32 0, .int .i64 0, .bool false, .slice none 0 0, .int .i64 0, .slice none 0 0]) kr_ kr_ rfl (by omega) rfl rfl own sp_ (.inr ⟨rb, 0, 1, x, 118, (0, 0), true, rfl, Nat.le_refl _, mem_, by simp⟩) (by omega) hx1 (by simp only [maxLen]; omega) (by omega) fun v2 C2 h2 => ⟨_, rfl, ?_⟩)
  refine a_ rfl rfl ?_
  refine nt_ ?_
  refine WC.ret ?_
  refine DN.then_ret ?_
  refine DN.fit (C := C2) sp_ ?_
  refine DN.ret1 Tryz.results95 rfl ?_
  rw [List.take_of_length_le (by omega), List.drop_of_length_le (by omega), List.append_nil]
  exact h2
 ·obtain ⟨b, cap', extra, e1, h2, h3, h4, h5, rfl⟩ : ∃ (b cap' : Nat) (extra : List Value), Value.slice ao n cap = .slice (some ⟨b, 0, none⟩) n cap' ∧ n ≤ cap' ∧ cap' ≤ maxLen ∧ cells.length = n * 6 ∧ extra.length = (cap' - n) * 6 ∧ C = [row b (cells ++ extra) 118] := by
    rcases own with ⟨_, h, _⟩ | h
    · omega
    · exact h
  simp only [Value.slice.injEq, true_and] at e1
  obtain ⟨rfl, rfl⟩ := e1
  simp only [maxLen] at h3
  have htl : (cells.take (i * 6)).length = i * 6 := by rw [List.length_take]; omega
  have hdl : (cells.drop (i * 6)).length = (n - i) * 6 := by rw [List.length_drop]; omega
  refine WC.skip ?_
  refine ts_ ?_
  refine sr_ ?_
  refine m_ rfl rfl ?_
  refine m_ rfl rfl ?_
  refine WL.y rfl (Yd.add rfl rfl (by omega) (by omega)) ?_
  refine m_ rfl rfl ?_
  refine WL.y rfl (Yd.capS (e := 118) kr_ rfl) ?_
  refine WL.y rfl (Yd.gtr rfl rfl) ?_
  refine nt_ ?_
  refine WC.ite rfl (fun h31 => ?_) (fun h31 => ?_)
  ·refine sr_ ?_
   refine m_ rfl rfl ?_
   refine m_ rfl rfl ?_
   refine WL.y rfl (Yd.sliceTo (j := i) (e := 118) (s := 6) kr_ kr_ rfl rfl rfl (by omega)) ?_
   refine m_ rfl rfl ?_
   refine m_ rfl rfl ?_
   refine WL.y rfl (Yd.add rfl rfl (by omega) (by omega)) ?_
   refine m_ rfl rfl ?_
   refine WL.y rfl (Yd.sub rfl rfl (by omega) (by omega)) ?_
   refine WL.h rfl (Hd.appendZ (i := i) (k := n + 1 - i) (olds := cells.take (i * 6)) (e := 118) (sz := 6) (bytes := 80) (zs := [.int .u32 0, .int .i64 0, .bool false, .slice none 0 0, .int .i64 0, .slice none 0 0]) kr_ Tryz.underlying3 kr_ rfl (by omega) rfl (by exact congrArg (fun q => some (Value.int .i64 q)) (by omega)) ((own.rs.upto hcl hi).mono gr_) htl (by omega) (by omega) (by simp only [maxLen]; omega) (by omega) fun b2 c2 ex2 g1 g2 g3 => ⟨_, rfl, ?_⟩)
   refine a_ rfl rfl ?_
   refine ntsr_ ?_
   refine m_ rfl rfl ?_
   refine m_ rfl rfl ?_
   refine WL.y rfl (Yd.slFrom (i := i) (e := 118) (s := 6) kr_ kr_ rfl rfl (by omega) (by omega) (by omega) (by omega)) ?_
   refine m_ rfl rfl ?_
   refine WL.h rfl (Hd.copyR (cells' := cells.take (i * 6) ++ (x ++ ex2.drop x.length)) (q := 1) (e := 118) (sz := 6) (bytes := 80) (zs := [.int .u32 0, .int .i64 0, .bool false, .slice none 0 0, .int .i64 0, .slice none 0 0]) kr_ kr_ rfl rfl fr_ (.inr ⟨rb, 0, 1, x, 118, (0, 0), true, rfl, Nat.le_refl _, mem_, by simp⟩) (by show min _ _ = _; omega) (by omega) hx1 (by rw [List.length_append]; omega) (ins_a _ _ _ _ htl) ⟨_, rfl, ?_⟩)
   refine nt_ ?_
   refine WC.seq ?_
   refine WC.draw 9 kr_ rfl ?_
   refine WA.y (i := 0) (NoPanic.then (NoPanic.then (NoPanic.body))) rfl kr_ kr_ kr_ rfl (Yd.move rfl) ?_
   refine WA.y (i := 1) (NoPanic.then (NoPanic.then (NoPanic.body))) rfl kr_ kr_ kr_ rfl (Yd.move rfl) ?_
   refine WA.y (i := 2) (NoPanic.then (NoPanic.then (NoPanic.body))) rfl kr_ kr_ kr_ rfl (Yd.move rfl) ?_
   refine WA.y (i := 3) (NoPanic.then (NoPanic.then (NoPanic.body))) rfl kr_ kr_ kr_ rfl (Yd.add rfl rfl (by omega) (by omega)) ?_
   refine WA.y (i := 4) (NoPanic.then (NoPanic.then (NoPanic.body))) rfl kr_ kr_ kr_ rfl (Yd.slFrom (i := i + 1) (e := 118) (s := 6) kr_ kr_ rfl rfl (by omega) (by omega) (by omega) (by omega)) ?_
   refine WA.y (i := 5) (NoPanic.then (NoPanic.then (NoPanic.body))) rfl kr_ kr_ kr_ rfl (Yd.move rfl) ?_
   refine WA.y (i := 6) (NoPanic.then (NoPanic.then (NoPanic.body))) rfl kr_ kr_ kr_ rfl (Yd.move rfl) ?_
   refine WA.y (i := 7) (NoPanic.then (NoPanic.then (NoPanic.body))) rfl kr_ kr_ kr_ rfl (Yd.slFrom (i := i) (e := 118) (s := 6) kr_ kr_ rfl rfl (by omega) (by omega) (by omega) (by omega)) ?_
   refine WA.one (i := 8) kr_ ?_
   refine WO.h rfl Wt.none rfl (Hd.copyR (cells' := cells.take (i * 6) ++ (x ++ (cells.drop (i * 6) ++ (ex2.drop x.length).drop (cells.drop (i * 6)).length))) (q := n - i) (news := cells.drop (i * 6)) (e := 118) (sz := 6) (bytes := 80) (zs := [.int .u32 0, .int .i64 0, .bool false, .slice none 0 0, .int .i64 0, .slice none 0 0]) kr_ kr_ rfl rfl fr_ (.inr ⟨b, i * 6, cap - i, cells ++ extra, 118, (0, 0), true, rfl, by omega, mem_, by
       rw [List.drop_append_of_le_length (by omega), List.take_append_of_le_length (by omega), List.take_of_length_le (by omega)]⟩) (by show min _ _ = _; omega) hdl (fun u hu => h1 u (List.mem_of_mem_drop hu)) (by simp only [List.length_append, List.length_drop]; omega) (ins_b _ _ _ _ _ (by omega)) ⟨_, rfl, ?_⟩)
   refine WA.done kr_ ?_
   refine ts_ ?_
   refine WC.region ?_
   refine m_ rfl rfl ?_
   refine a_ rfl rfl ?_
   refine nt_ ?_
   refine WC.ret ?_
   refine DN.then_ret ?_
   refine DN.fit (C := [row b2 (cells.take (i * 6) ++ (x ++ (cells.drop (i * 6) ++ (ex2.drop x.length).drop (cells.drop (i * 6)).length))) 118]) sp_ ?_
   refine DN.ret1 Tryz.results95 rfl ?_
   exact .inr ⟨b2, c2, (ex2.drop x.length).drop (cells.drop (i * 6)).length, by rw [show i + (n + 1 - i) = n + 1 by omega], by omega, g2, by simp only [List.length_append]; omega, by simp only [List.length_drop]; omega, by simp only [List.append_assoc]⟩
  ·refine WC.skip ?_
   refine ts_ ?_
   refine WC.region ?_
   iterate 3 refine m_ rfl rfl ?_
   refine WL.y rfl (Yd.add rfl rfl (by omega) (by omega)) ?_
   refine WL.y rfl (Yd.sliceTo (j := n + 1) (e := 118) (s := 6) kr_ kr_ rfl rfl (by omega) (by omega)) ?_
   refine a_ rfl rfl ?_
   refine nt_ ?_
   refine WC.seq ?_
   refine sr_ ?_
   iterate 4 refine m_ rfl rfl ?_
   refine WL.y rfl (Yd.add rfl rfl (by omega) (by omega)) ?_
   refine WL.y rfl (Yd.slFrom (i := i + 1) (e := 118) (s := 6) kr_ kr_ rfl rfl (by omega) (by omega) (by omega) (by omega)) ?_
   refine WL.h rfl (Hd.overF (tS := 80) (tR := 4) (e := 118) (sz := 6) Tryz.func128 kr_ kr_ kr_ kr_ kr_ kr_ rfl rfl fr_ fr_ (by intro h0; have := congrArg List.length h0; rw [List.length_append, List.length_nil] at this; omega) ⟨_, rfl, ?_⟩)
   refine WL.y rfl (Yd.notB rfl) ?_
   refine WL.renamed (t := 68) (v := .bool true) rfl (congrArg Value.bool (by rfl)) ?_
   refine nt_ ?_
   refine WC.yes rfl ?_
   refine WC.seq ?_
   refine WC.draw 9 kr_ rfl ?_
   refine WA.y (i := 0) (NoPanic.then (NoPanic.then (NoPanic.body))) rfl kr_ kr_ kr_ rfl (Yd.move rfl) ?_
   refine WA.y (i := 1) (NoPanic.then (NoPanic.then (NoPanic.body))) rfl kr_ kr_ kr_ rfl (Yd.move rfl) ?_
   refine WA.y (i := 2) (NoPanic.then (NoPanic.then (NoPanic.body))) rfl kr_ kr_ kr_ rfl (Yd.move rfl) ?_
   refine WA.y (i := 3) (NoPanic.then (NoPanic.then (NoPanic.body))) rfl kr_ kr_ kr_ rfl (Yd.add rfl rfl (by omega) (by omega)) ?_
   refine WA.y (i := 4) (NoPanic.then (NoPanic.then (NoPanic.body))) rfl kr_ kr_ kr_ rfl (Yd.slFrom (i := i + 1) (e := 118) (s := 6) kr_ kr_ rfl rfl (by omega) (by omega) (by omega) (by omega)) ?_
   refine WA.y (i := 5) (NoPanic.then (NoPanic.then (NoPanic.body))) rfl kr_ kr_ kr_ rfl (Yd.move rfl) ?_
   refine WA.y (i := 6) (NoPanic.then (NoPanic.then (NoPanic.body))) rfl kr_ kr_ kr_ rfl (Yd.move rfl) ?_
   refine WA.y (i := 7) (NoPanic.then (NoPanic.then (NoPanic.body))) rfl kr_ kr_ kr_ rfl (Yd.slFrom (i := i) (e := 118) (s := 6) kr_ kr_ rfl rfl (by omega) (by omega) (by omega) (by omega)) ?_
   refine WA.one (i := 8) kr_ ?_
   refine WO.h rfl Wt.none rfl (Hd.copyR (q := n - i) (news := cells.drop (i * 6)) (e := 118) (sz := 6) (bytes := 80) (zs := [.int .u32 0, .int .i64 0, .bool false, .slice none 0 0, .int .i64 0, .slice none 0 0]) kr_ kr_ rfl rfl fr_ (.inr ⟨b, i * 6, cap - i, cells ++ extra, 118, (0, 0), true, rfl, by omega, mem_, by
       rw [List.drop_append_of_le_length (by omega), List.take_append_of_le_length (by omega), List.take_of_length_le (by omega)]⟩) (by show min _ _ = _; omega) hdl (fun u hu => h1 u (List.mem_of_mem_drop hu)) (by simp only [List.length_append, List.length_drop]; omega) rfl ⟨_, rfl, ?_⟩)
   refine WA.done kr_ ?_
   refine ts_ ?_
   refine WC.region ?_
   refine m_ rfl rfl ?_
   refine m_ rfl rfl ?_
   refine WL.y rfl (Yd.slFrom (i := i) (e := 118) (s := 6) kr_ kr_ rfl rfl (by omega) (by omega) (by omega) (by omega)) ?_
   refine m_ rfl rfl ?_
   have hfit := show i * 6 + x.length ≤ (List.take ((i + 1) * 6) (cells ++ extra) ++ (List.drop (i * 6) cells ++ List.drop ((i + 1) * 6 + (List.drop (i * 6) cells).length) (cells ++ extra))).length by
     rw [List.length_append, List.length_take, List.length_append, hcl, h5]; omega
   have hE : (i + 1) * 6 + (cells.drop (i * 6)).length ≤ (cells.take (i * 6)).length + ((cells.drop (i * 6)).length + extra.length) := by
     rw [htl, hdl, h5]; omega
   have ho : i * 6 + x.length = (i + 1) * 6 := by rw [hx]; omega
   have hcp := ins_c (cells.take (i * 6)) x extra (cells.drop (i * 6)) (i * 6) ((i + 1) * 6) htl ho hE
   rw [← List.append_assoc (cells.take (i * 6)) (cells.drop (i * 6)) extra, List.take_append_drop] at hcp
   refine WL.h rfl (Hd.copyR (cells' := cells.take (i * 6) ++ (x ++ (cells.drop (i * 6) ++ extra.drop x.length))) (q := 1) (e := 118) (sz := 6) (bytes := 80) (zs := [.int .u32 0, .int .i64 0, .bool false, .slice none 0 0, .int .i64 0, .slice none 0 0]) kr_ kr_ rfl rfl fr_ (.inr ⟨rb, 0, 1, x, 118, (0, 0), true, rfl, Nat.le_refl _, mem_, by simp⟩) (by show min _ _ = _; omega) (by omega) hx1 hfit hcp ⟨_, rfl, ?_⟩)
   refine ntsr_ ?_
   refine m_ rfl rfl ?_
   refine a_ rfl rfl ?_
   refine nt_ ?_
   refine WC.ret ?_
   refine DN.then_ret ?_
   refine DN.fit (C := [row b (cells.take (i * 6) ++ (x ++ (cells.drop (i * 6) ++ extra.drop x.length))) 118]) sp_ ?_
   refine DN.ret1 Tryz.results95 rfl ?_
   exact .inr ⟨b, cap, extra.drop x.length, rfl, by omega, by simp only [maxLen]; omega, by simp only [List.length_append]; omega, by simp only [List.length_drop]; omega, by simp only [List.append_assoc]⟩
end Go.Proofs.YtkamlondepceiaaGreat

set_option linter.unusedVariables false
set_option linter.unusedSimpArgs false
set_option maxHeartbeats 2000000
namespace Go.Proofs.YtkamlondepceiaaGreat
open Go.SL
theorem noteBad_of {n : Nt} (h : decide ((if noteBad n then (50 : Int) else 0) ≠ 0) = true) : noteBad n = true := by
  cases e : noteBad n with
  | true => rfl
  | false => rw [e] at h; exact absurd h (by decide)
theorem ask_tells (e : BitVec 32) (v : Value) (ks : List Kp) (H : List Ck) (hv : KV v ks H) (hl : ks.length ≤ 9223372036854775807) (n : Nt) (vk vd : Value) (hvk : Bs vk n.key H) (hvd : Bs vd n.data H) : Tells Tryz.prog 55 [.agg #[.int .u32 e.toNat, v], .agg (ntc n vk vd).toArray] H fun r H' => ∃ wa wr A B, r = .tuple #[.int .i64 (askK e ks n).1, .agg (kc (askK e ks n).2.1 wa wr).toArray, .int .i64 (askK e ks n).2.2] ∧ Ob 5 wa (askK e ks n).2.1.asked A ∧ Ob 5 wr (askK e ks n).2.1.reply B ∧ H' = A ++ (B ++ H) := by
 refine Tells.enter Tryz.func55 rfl Tryz.ntmps55 rfl ?_
 intro w0 R
 obtain ⟨ao, c, rfl, hc⟩ := hv.form
 obtain ⟨ko, kcap, rfl, hkc⟩ := hvk.form
 obtain ⟨do_, dc, rfl, hdc⟩ := hvd.form
 refine sr_ ?_
 refine WL.h rfl (Hd.boxA rfl fun b2 => ⟨_, rfl, ?_⟩)
 refine WL.h rfl (Hd.boxA rfl fun b3 => ⟨_, rfl, ?_⟩)
 refine a_ rfl rfl ?_
 refine WL.h rfl (Hd.alloc (zs := [.int .u32 0, .int .i64 0, .bool false, .slice none 0 0, .int .i64 0, .slice none 0 0]) kr_ fun b5 => ⟨_, rfl, ?_⟩)
 refine a_ rfl rfl ?_
 refine nt_ ?_
 refine WC.seq ?_
 refine WC.block ?_
 refine sr_ ?_
 refine WL.h rfl (Hd.loadAll (n := 2) kr_ rfl mem_ (by rfl) ⟨_, rfl, ?_⟩)
 refine WL.r rfl (Ent.func Tryz.call82 rfl) (check2_reads e _ ks _ (hv.mono gr_) hl) ?_
 refine WL.y rfl (Yd.neq rfl rfl) ?_
 refine m_ rfl rfl ?_
 refine WL.partP (t := 15) rfl (fun hg15 => ?_) (fun hg15 => ?_)
 ·iterate 3 refine gn_ 15 rfl rfl rfl rfl ?_
  refine WL.y rfl (Yd.pickT rfl rfl) ?_
  refine m_ rfl rfl ?_
  iterate 3 refine gn_ 20 rfl rfl rfl rfl ?_
  refine WL.y rfl (Yd.pickT rfl rfl) ?_
  refine m_ rfl rfl ?_
  iterate 3 refine gn_ 25 rfl rfl rfl rfl ?_
  refine WL.y rfl (Yd.pickT rfl rfl) ?_
  refine m_ rfl rfl ?_
  iterate 3 refine gn_ 30 rfl rfl rfl rfl ?_
  refine WL.y rfl (Yd.pickT rfl rfl) ?_
  refine a_ rfl rfl ?_
  refine nt_ ?_
  refine WC.yes rfl ?_
  refine sr_ ?_
  refine WL.y rfl (Yd.buildL (pl := [(0, 1), (1, 1), (2, 1), (3, 1), (4, 1), (5, 1)]) (zs := [.int .u32 0, .int .i64 0, .bool false, .slice none 0 0, .int .i64 0, .slice none 0 0]) (parts := []) (vs := []) (cells := [.int .u32 0, .int .i64 0, .bool false, .slice none 0 0, .int .i64 0, .slice none 0 0]) kr_ kr_ rfl rfl) ?_
  refine a_ rfl rfl ?_
  refine WL.s (Hd.storeAll (n := 6) kr_ rfl rfl (by rfl) one_ fr_ (by rfl) ⟨rfl, ?_⟩)
  refine a_ rfl rfl ?_
  refine nt_ ?_
  refine WC.ret ?_
  refine DN.block_ret ?_
  refine DN.then_ret ?_
  refine DN.retTCT (s := 6) (H) Tryz.results55 kr_ rfl rfl rfl mem_ (by rfl) sp_ ?_
  have hb : askBad ks n := by
    unfold askBad
    first
    | exact .inl (fun h => by simp only [if_pos h] at hg15; exact hg15 rfl)
    | exact .inr (.inl (by simpa using hg20))
    | exact .inr (.inr (.inl (noteBad_of hg25)))
    | exact .inr (.inr (.inr (.inl (by simpa using hg30))))
    | exact .inr (.inr (.inr (.inr (by simpa using h11))))
  rw [askK_arg hb]
  exact ⟨_, _, [], [], rfl, Ob.nil _, Ob.nil _, rfl⟩
 ·refine gy_ 15 rfl rfl rfl (Yd.fieldAddr (k := 0) kr_ rfl) ?_
  refine WL.gh (dj := 15) rfl rfl rfl (Hd.load1 kr_ rfl mem_ (by rfl) ⟨_, rfl, ?_⟩)
  refine gy_ 15 rfl rfl rfl (Yd.neq rfl rfl) ?_
  refine WL.y rfl (Yd.pickF rfl rfl) ?_
  refine m_ rfl rfl ?_
  refine WL.part (t := 20) rfl (fun hg20 => ?_) (fun hg20 => ?_)
  ·iterate 3 refine gn_ 20 rfl rfl rfl rfl ?_
   refine WL.y rfl (Yd.pickT rfl rfl) ?_
   refine m_ rfl rfl ?_
   iterate 3 refine gn_ 25 rfl rfl rfl rfl ?_
   refine WL.y rfl (Yd.pickT rfl rfl) ?_
   refine m_ rfl rfl ?_
   iterate 3 refine gn_ 30 rfl rfl rfl rfl ?_
   refine WL.y rfl (Yd.pickT rfl rfl) ?_
   refine a_ rfl rfl ?_
   refine nt_ ?_
   refine WC.yes rfl ?_
   refine sr_ ?_
   refine WL.y rfl (Yd.buildL (pl := [(0, 1), (1, 1), (2, 1), (3, 1), (4, 1), (5, 1)]) (zs := [.int .u32 0, .int .i64 0, .bool false, .slice none 0 0, .int .i64 0, .slice none 0 0]) (parts := []) (vs := []) (cells := [.int .u32 0, .int .i64 0, .bool false, .slice none 0 0, .int .i64 0, .slice none 0 0]) kr_ kr_ rfl rfl) ?_
   refine a_ rfl rfl ?_
   refine WL.s (Hd.storeAll (n := 6) kr_ rfl rfl (by rfl) one_ fr_ (by rfl) ⟨rfl, ?_⟩)
   refine a_ rfl rfl ?_
   refine nt_ ?_
   refine WC.ret ?_
   refine DN.block_ret ?_
   refine DN.then_ret ?_
   refine DN.retTCT (s := 6) (H) Tryz.results55 kr_ rfl rfl rfl mem_ (by rfl) sp_ ?_
   have hb : askBad ks n := by
     unfold askBad
     first
     | exact .inl (fun h => by simp only [if_pos h] at hg15; exact hg15 rfl)
     | exact .inr (.inl (by simpa using hg20))
     | exact .inr (.inr (.inl (noteBad_of hg25)))
     | exact .inr (.inr (.inr (.inl (by simpa using hg30))))
     | exact .inr (.inr (.inr (.inr (by simpa using h11))))
   rw [askK_arg hb]
   exact ⟨_, _, [], [], rfl, Ob.nil _, Ob.nil _, rfl⟩
  ·refine WL.gh (dj := 20) rfl rfl rfl (Hd.loadAll (n := 11) kr_ rfl mem_ (by rfl) ⟨_, rfl, ?_⟩)
   refine WL.gr (dj := 20) rfl rfl rfl (Ent.func Tryz.call83 rfl) (check_reads n (.slice ko _ kcap) (.slice do_ _ dc) ⟨_, _, rfl⟩ ⟨_, _, rfl⟩ _) ?_
   refine gy_ 20 rfl rfl rfl (Yd.neq rfl rfl) ?_
   refine WL.y rfl (Yd.pickF rfl rfl) ?_
   refine m_ rfl rfl ?_
   refine WL.part (t := 25) rfl (fun hg25 => ?_) (fun hg25 => ?_)
   ·iterate 3 refine gn_ 25 rfl rfl rfl rfl ?_
    refine WL.y rfl (Yd.pickT rfl rfl) ?_
    refine m_ rfl rfl ?_
    iterate 3 refine gn_ 30 rfl rfl rfl rfl ?_
    refine WL.y rfl (Yd.pickT rfl rfl) ?_
    refine a_ rfl rfl ?_
    refine nt_ ?_
    refine WC.yes rfl ?_
    refine sr_ ?_
    refine WL.y rfl (Yd.buildL (pl := [(0, 1), (1, 1), (2, 1), (3, 1), (4, 1), (5, 1)]) (zs := [.int .u32 0, .int .i64 0, .bool false, .slice none 0 0, .int .i64 0, .slice none 0 0]) (parts := []) (vs := []) (cells := [.int .u32 0, .int .i64 0, .bool false, .slice none 0 0, .int .i64 0, .slice none 0 0]) kr_ kr_ rfl rfl) ?_
    refine a_ rfl rfl ?_
    refine WL.s (Hd.storeAll (n := 6) kr_ rfl rfl (by rfl) one_ fr_ (by rfl) ⟨rfl, ?_⟩)
    refine a_ rfl rfl ?_
    refine nt_ ?_
    refine WC.ret ?_
    refine DN.block_ret ?_
    refine DN.then_ret ?_
    refine DN.retTCT (s := 6) (H) Tryz.results55 kr_ rfl rfl rfl mem_ (by rfl) sp_ ?_
    have hb : askBad ks n := by
      unfold askBad
      first
      | exact .inl (fun h => by simp only [if_pos h] at hg15; exact hg15 rfl)
      | exact .inr (.inl (by simpa using hg20))
      | exact .inr (.inr (.inl (noteBad_of hg25)))
      | exact .inr (.inr (.inr (.inl (by simpa using hg30))))
      | exact .inr (.inr (.inr (.inr (by simpa using h11))))
    rw [askK_arg hb]
    exact ⟨_, _, [], [], rfl, Ob.nil _, Ob.nil _, rfl⟩
   ·refine gy_ 25 rfl rfl rfl (Yd.fieldAddr (k := 1) kr_ rfl) ?_
    refine WL.gh (dj := 25) rfl rfl rfl (Hd.load1 kr_ rfl mem_ (by rfl) ⟨_, rfl, ?_⟩)
    refine gy_ 25 rfl rfl rfl (Yd.eql32 _ (0#32) rfl rfl rfl rfl) ?_
    refine WL.y rfl (Yd.pickF rfl rfl) ?_
    refine m_ rfl rfl ?_
    refine WL.part (t := 30) rfl (fun hg30 => ?_) (fun hg30 => ?_)
    ·iterate 3 refine gn_ 30 rfl rfl rfl rfl ?_
     refine WL.y rfl (Yd.pickT rfl rfl) ?_
     refine a_ rfl rfl ?_
     refine nt_ ?_
     refine WC.yes rfl ?_
     refine sr_ ?_
     refine WL.y rfl (Yd.buildL (pl := [(0, 1), (1, 1), (2, 1), (3, 1), (4, 1), (5, 1)]) (zs := [.int .u32 0, .int .i64 0, .bool false, .slice none 0 0, .int .i64 0, .slice none 0 0]) (parts := []) (vs := []) (cells := [.int .u32 0, .int .i64 0, .bool false, .slice none 0 0, .int .i64 0, .slice none 0 0]) kr_ kr_ rfl rfl) ?_
     refine a_ rfl rfl ?_
     refine WL.s (Hd.storeAll (n := 6) kr_ rfl rfl (by rfl) one_ fr_ (by rfl) ⟨rfl, ?_⟩)
     refine a_ rfl rfl ?_
     refine nt_ ?_
     refine WC.ret ?_
     refine DN.block_ret ?_
     refine DN.then_ret ?_
     refine DN.retTCT (s := 6) (H) Tryz.results55 kr_ rfl rfl rfl mem_ (by rfl) sp_ ?_
     have hb : askBad ks n := by
       unfold askBad
       first
       | exact .inl (fun h => by simp only [if_pos h] at hg15; exact hg15 rfl)
       | exact .inr (.inl (by simpa using hg20))
       | exact .inr (.inr (.inl (noteBad_of hg25)))
       | exact .inr (.inr (.inr (.inl (by simpa using hg30))))
       | exact .inr (.inr (.inr (.inr (by simpa using h11))))
     rw [askK_arg hb]
     exact ⟨_, _, [], [], rfl, Ob.nil _, Ob.nil _, rfl⟩
    ·refine gy_ 30 rfl rfl rfl (Yd.fieldAddr (k := 5) kr_ rfl) ?_
     refine WL.gh (dj := 30) rfl rfl rfl (Hd.load1 kr_ rfl mem_ (by rfl) ⟨_, rfl, ?_⟩)
     refine gy_ 30 rfl rfl rfl (Yd.eql32 _ (0#32) rfl rfl rfl rfl) ?_
     refine WL.y rfl (Yd.pickF rfl rfl) ?_
     refine a_ rfl rfl ?_
     refine nt_ ?_
     refine WC.cond rfl (fun h11 => ?_) (fun h11 => ?_)
     ·refine sr_ ?_
      refine WL.y rfl (Yd.buildL (pl := [(0, 1), (1, 1), (2, 1), (3, 1), (4, 1), (5, 1)]) (zs := [.int .u32 0, .int .i64 0, .bool false, .slice none 0 0, .int .i64 0, .slice none 0 0]) (parts := []) (vs := []) (cells := [.int .u32 0, .int .i64 0, .bool false, .slice none 0 0, .int .i64 0, .slice none 0 0]) kr_ kr_ rfl rfl) ?_
      refine a_ rfl rfl ?_
      refine WL.s (Hd.storeAll (n := 6) kr_ rfl rfl (by rfl) one_ fr_ (by rfl) ⟨rfl, ?_⟩)
      refine a_ rfl rfl ?_
      refine nt_ ?_
      refine WC.ret ?_
      refine DN.block_ret ?_
      refine DN.then_ret ?_
      refine DN.retTCT (s := 6) (H) Tryz.results55 kr_ rfl rfl rfl mem_ (by rfl) sp_ ?_
      have hb : askBad ks n := by
        unfold askBad
        first
        | exact .inl (fun h => by simp only [if_pos h] at hg15; exact hg15 rfl)
        | exact .inr (.inl (by simpa using hg20))
        | exact .inr (.inr (.inl (noteBad_of hg25)))
        | exact .inr (.inr (.inr (.inl (by simpa using hg30))))
        | exact .inr (.inr (.inr (.inr (by simpa using h11))))
      rw [askK_arg hb]
      exact ⟨_, _, [], [], rfl, Ob.nil _, Ob.nil _, rfl⟩
     ·refine sr_ ?_
      have hgood : ¬ askBad ks n := by
        rintro (h | h | h | h | h)
        · simp only [if_neg h] at hg15; revert hg15; decide
        · simp [h] at hg20
        · simp [h] at hg25
        · simp [h] at hg30
        · simp [h] at h11
      have hck : chk ks := Classical.byContradiction fun h => hgood (.inl h)
      have hst := noteBad_step (n := n) (by
        cases e9 : noteBad n
        · rfl
        · exact absurd (.inr (.inr (.inl e9))) hgood)
      refine f_ 1 kr_ rfl rfl ?_
      refine d_ kr_ rfl mem_ (by rfl) rfl ?_
      refine f_ 0 kr_ rfl rfl ?_
      refine d_ kr_ rfl mem_ (by rfl) rfl ?_
      refine WL.y rfl (Yd.lss rfl rfl) ?_
      refine a_ rfl rfl ?_
      refine nt_ ?_
      refine WC.ite rfl (fun h36 => ?_) (fun h36 => ?_)
      ·refine sr_ ?_
       refine WL.y rfl (Yd.buildL (pl := [(0, 1), (1, 1), (2, 1), (3, 1), (4, 1), (5, 1)]) (zs := [.int .u32 0, .int .i64 0, .bool false, .slice none 0 0, .int .i64 0, .slice none 0 0]) (parts := []) (vs := []) (cells := [.int .u32 0, .int .i64 0, .bool false, .slice none 0 0, .int .i64 0, .slice none 0 0]) kr_ kr_ rfl rfl) ?_
       refine a_ rfl rfl ?_
       refine WL.s (Hd.storeAll (n := 6) kr_ rfl rfl (by rfl) one_ fr_ (by rfl) ⟨rfl, ?_⟩)
       refine a_ rfl rfl ?_
       refine nt_ ?_
       refine WC.ret ?_
       refine DN.block_ret ?_
       refine DN.then_ret ?_
       refine DN.retTCT (s := 6) (H) Tryz.results55 kr_ rfl rfl rfl mem_ (by rfl) sp_ ?_
       rw [askK_old hgood (by omega)]
       exact ⟨_, _, [], [], rfl, Ob.nil _, Ob.nil _, rfl⟩
      ·refine WC.skip ?_
       refine DN.block_normal ?_
       refine ts_ ?_
       refine sr_ ?_
       refine WL.h rfl (Hd.loadAll (n := 2) kr_ rfl mem_ (by rfl) ⟨_, rfl, ?_⟩)
       refine f_ 5 kr_ rfl rfl ?_
       refine d_ kr_ rfl mem_ (by rfl) rfl ?_
       refine f_ 6 kr_ rfl rfl ?_
       refine d_ kr_ rfl mem_ (by rfl) rfl ?_
       refine f_ 7 kr_ rfl rfl ?_
       refine d_ kr_ rfl mem_ (by rfl) rfl ?_
       refine WL.c rfl (Ent.func Tryz.call84 rfl) (find2_tells e _ ks H hv hl n.order n.step n.undo) (Sp.p sp_) ?_
       rintro x H1 ⟨wa, wr, A, B, rfl, hA, hB, rfl⟩
       obtain ⟨fk, hfk⟩ : ∃ q, q = findF ks n.order n.step n.undo := ⟨_, rfl⟩
       rw [← hfk] at hA hB ⊢
       rw [findF_ok hck hst.1 hst.2.1] at hfk
       obtain ⟨oa, ca, rfl, _⟩ := hA.form
       obtain ⟨or, cr, rfl, _⟩ := hB.form
       refine m_ rfl rfl ?_
       refine x_ rfl rfl rfl ?_
       refine x_ rfl rfl rfl ?_
       refine WL.h rfl (Hd.alloc (zs := [.int .u32 0, .int .i64 0, .bool false, .slice none 0 0, .int .i64 0, .slice none 0 0]) kr_ fun b7 => ⟨_, rfl, ?_⟩)
       refine WL.s (Hd.storeAll (n := 6) kr_ rfl rfl (by rfl) (kc_one rfl rfl) fr_ (by rfl) ⟨rfl, ?_⟩)
       refine a_ rfl rfl ?_
       refine ntsr_ ?_
       refine m_ rfl rfl ?_
       refine nt_ ?_
       refine WC.cond rfl (fun h54 => ?_) (fun h54 => ?_)
       ·obtain ⟨k1, rfl⟩ := Option.isSome_iff_exists.1 h54
        refine WC.seq ?_
        refine sr_ ?_
        refine f_ 3 kr_ rfl rfl ?_
        refine d_ kr_ rfl mem_ (by rfl) rfl ?_
        refine WL.h rfl (Hd.toStr (e := 5) (bs := ((some k1).getD Kp.z).asked) kr_ kr_ Tryz.underlying9 rfl (hA.bs.mono gr_) ⟨_, rfl, ?_⟩)
        refine f_ 10 kr_ rfl rfl ?_
        refine d_ kr_ rfl mem_ (by rfl) rfl ?_
        refine WL.h rfl (Hd.toStr (e := 5) (bs := n.data) kr_ kr_ Tryz.underlying9 rfl (hvd.mono gr_) ⟨_, rfl, ?_⟩)
        refine WL.y rfl (Yd.neqS rfl rfl) ?_
        refine nt_ ?_
        refine WC.ite rfl (fun h61 => ?_) (fun h61 => ?_)
        ·refine sr_ ?_
         refine WL.y rfl (Yd.buildL (pl := [(0, 1), (1, 1), (2, 1), (3, 1), (4, 1), (5, 1)]) (zs := [.int .u32 0, .int .i64 0, .bool false, .slice none 0 0, .int .i64 0, .slice none 0 0]) (parts := []) (vs := []) (cells := [.int .u32 0, .int .i64 0, .bool false, .slice none 0 0, .int .i64 0, .slice none 0 0]) kr_ kr_ rfl rfl) ?_
         refine a_ rfl rfl ?_
         refine WL.s (Hd.storeAll (n := 6) kr_ rfl rfl (by rfl) one_ fr_ (by rfl) ⟨rfl, ?_⟩)
         refine a_ rfl rfl ?_
         refine nt_ ?_
         refine WC.ret ?_
         refine DN.then_ret ?_
         refine DN.then_ret ?_
         refine DN.retTCT (s := 6) (H) Tryz.results55 kr_ rfl rfl rfl mem_ (by rfl) sp_ ?_
         rw [askK_clash hgood (by omega) hfk.symm (fun h => h61 (congrArg str h))]
         exact ⟨_, _, [], [], rfl, Ob.nil _, Ob.nil _, rfl⟩
        ·refine WC.skip ?_
         refine ts_ ?_
         refine WC.draw 4 kr_ rfl ?_
         refine WA.y (i := 1) (NoPanic.then (NoPanic.then (NoPanic.body))) rfl kr_ kr_ kr_ rfl (Yd.assign rfl) ?_
         refine WA.one (i := 0) kr_ ?_
         refine WO.h rfl Wt.none rfl (Hd.loadAll (n := 6) kr_ rfl mem_ (by rfl) ⟨_, rfl, ?_⟩)
         refine WA.one (i := 2) kr_ ?_
         refine WO.s rfl Wt.none (Hd.storeAll (n := 6) kr_ rfl rfl (by rfl) (kc_one rfl rfl) fr_ (by rfl) ⟨rfl, ?_⟩)
         refine WA.y (i := 3) (NoPanic.then (NoPanic.then (NoPanic.body))) rfl kr_ kr_ kr_ rfl (Yd.assign rfl) ?_
         refine WA.done kr_ ?_
         refine DN.then_normal ?_
         refine WC.ret ?_
         refine DN.then_ret ?_
         refine DN.retTCT (s := 6) (A ++ (B ++ H)) Tryz.results55 kr_ rfl rfl rfl mem_ (by rfl) sp_ ?_
         rw [askK_again hgood (by omega) hfk.symm (Classical.byContradiction fun h => h61 fun h9 => h (str_inj.1 h9))]
         exact ⟨_, _, A, B, rfl, hA, hB, rfl⟩
       ·obtain rfl : fk = none := by simpa using h54
        refine WC.skip ?_
        refine ts_ ?_
        refine WC.region ?_
        refine WL.h rfl (Hd.loadAll (n := 2) kr_ rfl mem_ (by rfl) ⟨_, rfl, ?_⟩)
        refine f_ 5 kr_ rfl rfl ?_
        refine d_ kr_ rfl mem_ (by rfl) rfl ?_
        refine f_ 6 kr_ rfl rfl ?_
        refine d_ kr_ rfl mem_ (by rfl) rfl ?_
        refine f_ 7 kr_ rfl rfl ?_
        refine d_ kr_ rfl mem_ (by rfl) rfl ?_
        refine WL.y rfl (Yd.notB rfl) ?_
        refine WL.c rfl (Ent.func Tryz.call84 rfl) (find2_tells e _ ks H hv hl n.order n.step (!n.undo)) (Sp.p sp_) ?_
        rintro x H1 ⟨wa2, wr2, A2, B2, rfl, hA2, hB2, rfl⟩
        obtain ⟨gk, hgk⟩ : ∃ q, q = findF ks n.order n.step (!n.undo) := ⟨_, rfl⟩
        rw [← hgk] at hA2 hB2 ⊢
        rw [findF_ok hck hst.1 hst.2.1] at hgk
        obtain ⟨oa2, ca2, rfl, _⟩ := hA2.form
        obtain ⟨or2, cr2, rfl, _⟩ := hB2.form
        refine m_ rfl rfl ?_
        refine x_ rfl rfl rfl ?_
        refine x_ rfl rfl rfl ?_
        refine WL.h rfl (Hd.alloc (zs := [.int .u32 0, .int .i64 0, .bool false, .slice none 0 0, .int .i64 0, .slice none 0 0]) kr_ fun b9 => ⟨_, rfl, ?_⟩)
        refine WL.s (Hd.storeAll (n := 6) kr_ rfl rfl (by rfl) (kc_one rfl rfl) fr_ (by rfl) ⟨rfl, ?_⟩)
        refine a_ rfl rfl ?_
        refine nt_ ?_
        refine WC.seq ?_
        refine WC.block ?_
        refine sr_ ?_
        refine f_ 7 kr_ rfl rfl ?_
        refine d_ kr_ rfl mem_ (by rfl) rfl ?_
        refine WL.y rfl (Yd.notB rfl) ?_
        refine m_ rfl rfl ?_
        refine WL.part (t := 80) rfl (fun hg80 => ?_) (fun hg80 => ?_)
        ·refine gy_ 80 rfl rfl rfl (Yd.move rfl) ?_
         refine WL.y rfl (Yd.pickT rfl rfl) ?_
         refine a_ rfl rfl ?_
         refine nt_ ?_
         refine WC.cond rfl (fun h76 => ?_) (fun h76 => ?_)
         ·refine sr_ ?_
          refine WL.y rfl (Yd.buildL (pl := [(0, 1), (1, 1), (2, 1), (3, 1), (4, 1), (5, 1)]) (zs := [.int .u32 0, .int .i64 0, .bool false, .slice none 0 0, .int .i64 0, .slice none 0 0]) (parts := []) (vs := []) (cells := [.int .u32 0, .int .i64 0, .bool false, .slice none 0 0, .int .i64 0, .slice none 0 0]) kr_ kr_ rfl rfl) ?_
          refine a_ rfl rfl ?_
          refine WL.s (Hd.storeAll (n := 6) kr_ rfl rfl (by rfl) one_ fr_ (by rfl) ⟨rfl, ?_⟩)
          refine a_ rfl rfl ?_
          refine nt_ ?_
          refine WC.ret ?_
          refine DN.block_ret ?_
          refine DN.then_ret ?_
          refine DN.retTCT (s := 6) (H) Tryz.results55 kr_ rfl rfl rfl mem_ (by rfl) sp_ ?_
          first
          | (have e9 : askK e ks n = (3, Kp.z, 0) := by rw [askK_two hgood (by omega) hfk.symm hgk]; exact if_pos ⟨by simpa using hg80, h76⟩
             rw [e9]
             exact ⟨_, _, [], [], rfl, Ob.nil _, Ob.nil _, rfl⟩)
          | (have e9 : askK e ks n = (4, Kp.z, 0) := by
               rw [askK_two hgood (by omega) hfk.symm hgk, if_neg (by rintro ⟨h5, h6⟩; rw [hg87] at h5; cases h5)]
               first
               | exact if_pos ⟨hg87, .inl (by simpa using hg90)⟩
               | exact if_pos ⟨hg87, .inr (by simpa using h84)⟩
             rw [e9]
             exact ⟨_, _, [], [], rfl, Ob.nil _, Ob.nil _, rfl⟩)
          | (have e9 : askK e ks n = (1, Kp.z, 0) := by
               rw [askK_two hgood (by omega) hfk.symm hgk]
               first
               | rw [if_neg (by rintro ⟨h5, h6⟩; rw [hg87] at h5; cases h5), if_neg (by
                   rintro ⟨h5, h6⟩
                   exact h6.elim (fun h6 => by rw [h6] at hg90; exact absurd hg90 (by decide)) (fun h6 => absurd h6 (by simpa using h84)))]
               | rw [if_neg (by
                   rintro ⟨h5, h6⟩
                   first
                   | (rw [h6] at h76; exact absurd h76 (by decide))
                   | (rw [h5] at hg80; exact absurd hg80 (by decide))), if_neg (by rintro ⟨h5, h6⟩; rw [hg87] at h5; cases h5)]
             rw [e9]
             exact ⟨_, _, [], [], rfl, Ob.nil _, Ob.nil _, rfl⟩)
         ·refine sr_ ?_
          refine f_ 7 kr_ rfl rfl ?_
          refine d_ kr_ rfl mem_ (by rfl) rfl ?_
          refine m_ rfl rfl ?_
          refine WL.part (t := 87) rfl (fun hg87 => ?_) (fun hg87 => ?_)
          ·refine gy_ 87 rfl rfl rfl (Yd.move rfl) ?_
           refine gy_ 87 rfl rfl rfl (Yd.notB rfl) ?_
           refine gy_ 87 rfl rfl rfl (Yd.move rfl) ?_
           refine WL.part (t := 90) rfl (fun hg90 => ?_) (fun hg90 => ?_)
           ·iterate 3 refine gn_ 90 rfl rfl rfl rfl ?_
            refine gy_ 87 rfl rfl rfl (Yd.pickT rfl rfl) ?_
            refine WL.y rfl (Yd.pickT rfl rfl) ?_
            refine a_ rfl rfl ?_
            refine nt_ ?_
            refine WC.yes rfl ?_
            refine sr_ ?_
            refine WL.y rfl (Yd.buildL (pl := [(0, 1), (1, 1), (2, 1), (3, 1), (4, 1), (5, 1)]) (zs := [.int .u32 0, .int .i64 0, .bool false, .slice none 0 0, .int .i64 0, .slice none 0 0]) (parts := []) (vs := []) (cells := [.int .u32 0, .int .i64 0, .bool false, .slice none 0 0, .int .i64 0, .slice none 0 0]) kr_ kr_ rfl rfl) ?_
            refine a_ rfl rfl ?_
            refine WL.s (Hd.storeAll (n := 6) kr_ rfl rfl (by rfl) one_ fr_ (by rfl) ⟨rfl, ?_⟩)
            refine a_ rfl rfl ?_
            refine nt_ ?_
            refine WC.ret ?_
            refine DN.block_ret ?_
            refine DN.then_ret ?_
            refine DN.retTCT (s := 6) (H) Tryz.results55 kr_ rfl rfl rfl mem_ (by rfl) sp_ ?_
            first
            | (have e9 : askK e ks n = (3, Kp.z, 0) := by rw [askK_two hgood (by omega) hfk.symm hgk]; exact if_pos ⟨by simpa using hg80, h76⟩
               rw [e9]
               exact ⟨_, _, [], [], rfl, Ob.nil _, Ob.nil _, rfl⟩)
            | (have e9 : askK e ks n = (4, Kp.z, 0) := by
                 rw [askK_two hgood (by omega) hfk.symm hgk, if_neg (by rintro ⟨h5, h6⟩; rw [hg87] at h5; cases h5)]
                 first
                 | exact if_pos ⟨hg87, .inl (by simpa using hg90)⟩
                 | exact if_pos ⟨hg87, .inr (by simpa using h84)⟩
               rw [e9]
               exact ⟨_, _, [], [], rfl, Ob.nil _, Ob.nil _, rfl⟩)
            | (have e9 : askK e ks n = (1, Kp.z, 0) := by
                 rw [askK_two hgood (by omega) hfk.symm hgk]
                 first
                 | rw [if_neg (by rintro ⟨h5, h6⟩; rw [hg87] at h5; cases h5), if_neg (by
                     rintro ⟨h5, h6⟩
                     exact h6.elim (fun h6 => by rw [h6] at hg90; exact absurd hg90 (by decide)) (fun h6 => absurd h6 (by simpa using h84)))]
                 | rw [if_neg (by
                     rintro ⟨h5, h6⟩
                     first
                     | (rw [h6] at h76; exact absurd h76 (by decide))
                     | (rw [h5] at hg80; exact absurd hg80 (by decide))), if_neg (by rintro ⟨h5, h6⟩; rw [hg87] at h5; cases h5)]
               rw [e9]
               exact ⟨_, _, [], [], rfl, Ob.nil _, Ob.nil _, rfl⟩)
           ·refine gy_ 90 rfl rfl rfl (Yd.fieldAddr (k := 4) kr_ rfl) ?_
            refine WL.gh (dj := 90) rfl rfl rfl (Hd.load1 kr_ rfl mem_ (by rfl) ⟨_, rfl, ?_⟩)
            refine gy_ 90 rfl rfl rfl (Yd.eql rfl rfl) ?_
            refine gy_ 87 rfl rfl rfl (Yd.pickF rfl rfl) ?_
            refine WL.y rfl (Yd.pickT rfl rfl) ?_
            refine a_ rfl rfl ?_
            refine nt_ ?_
            refine WC.cond rfl (fun h84 => ?_) (fun h84 => ?_)
            ·refine sr_ ?_
             refine WL.y rfl (Yd.buildL (pl := [(0, 1), (1, 1), (2, 1), (3, 1), (4, 1), (5, 1)]) (zs := [.int .u32 0, .int .i64 0, .bool false, .slice none 0 0, .int .i64 0, .slice none 0 0]) (parts := []) (vs := []) (cells := [.int .u32 0, .int .i64 0, .bool false, .slice none 0 0, .int .i64 0, .slice none 0 0]) kr_ kr_ rfl rfl) ?_
             refine a_ rfl rfl ?_
             refine WL.s (Hd.storeAll (n := 6) kr_ rfl rfl (by rfl) one_ fr_ (by rfl) ⟨rfl, ?_⟩)
             refine a_ rfl rfl ?_
             refine nt_ ?_
             refine WC.ret ?_
             refine DN.block_ret ?_
             refine DN.then_ret ?_
             refine DN.retTCT (s := 6) (H) Tryz.results55 kr_ rfl rfl rfl mem_ (by rfl) sp_ ?_
             first
             | (have e9 : askK e ks n = (3, Kp.z, 0) := by rw [askK_two hgood (by omega) hfk.symm hgk]; exact if_pos ⟨by simpa using hg80, h76⟩
                rw [e9]
                exact ⟨_, _, [], [], rfl, Ob.nil _, Ob.nil _, rfl⟩)
             | (have e9 : askK e ks n = (4, Kp.z, 0) := by
                  rw [askK_two hgood (by omega) hfk.symm hgk, if_neg (by rintro ⟨h5, h6⟩; rw [hg87] at h5; cases h5)]
                  first
                  | exact if_pos ⟨hg87, .inl (by simpa using hg90)⟩
                  | exact if_pos ⟨hg87, .inr (by simpa using h84)⟩
                rw [e9]
                exact ⟨_, _, [], [], rfl, Ob.nil _, Ob.nil _, rfl⟩)
             | (have e9 : askK e ks n = (1, Kp.z, 0) := by
                  rw [askK_two hgood (by omega) hfk.symm hgk]
                  first
                  | rw [if_neg (by rintro ⟨h5, h6⟩; rw [hg87] at h5; cases h5), if_neg (by
                      rintro ⟨h5, h6⟩
                      exact h6.elim (fun h6 => by rw [h6] at hg90; exact absurd hg90 (by decide)) (fun h6 => absurd h6 (by simpa using h84)))]
                  | rw [if_neg (by
                      rintro ⟨h5, h6⟩
                      first
                      | (rw [h6] at h76; exact absurd h76 (by decide))
                      | (rw [h5] at hg80; exact absurd hg80 (by decide))), if_neg (by rintro ⟨h5, h6⟩; rw [hg87] at h5; cases h5)]
                rw [e9]
                exact ⟨_, _, [], [], rfl, Ob.nil _, Ob.nil _, rfl⟩)
            ·refine WC.skip ?_
             refine DN.block_normal ?_
             refine ts_ ?_
             refine WC.region ?_
             refine WL.y rfl (Yd.buildL (pl := [(0, 1), (1, 1), (2, 1), (3, 1), (4, 1), (5, 1)]) (zs := [.int .u32 0, .int .i64 0, .bool false, .slice none 0 0, .int .i64 0, .slice none 0 0]) (parts := []) (vs := []) (cells := [.int .u32 0, .int .i64 0, .bool false, .slice none 0 0, .int .i64 0, .slice none 0 0]) kr_ kr_ rfl rfl) ?_
             refine a_ rfl rfl ?_
             refine WL.s (Hd.storeAll (n := 6) kr_ rfl rfl (by rfl) one_ fr_ (by rfl) ⟨rfl, ?_⟩)
             refine a_ rfl rfl ?_
             refine nt_ ?_
             refine WC.ret ?_
             refine DN.retTCT (s := 6) (H) Tryz.results55 kr_ rfl rfl rfl mem_ (by rfl) sp_ ?_
             first
             | (have e9 : askK e ks n = (3, Kp.z, 0) := by rw [askK_two hgood (by omega) hfk.symm hgk]; exact if_pos ⟨by simpa using hg80, h76⟩
                rw [e9]
                exact ⟨_, _, [], [], rfl, Ob.nil _, Ob.nil _, rfl⟩)
             | (have e9 : askK e ks n = (4, Kp.z, 0) := by
                  rw [askK_two hgood (by omega) hfk.symm hgk, if_neg (by rintro ⟨h5, h6⟩; rw [hg87] at h5; cases h5)]
                  first
                  | exact if_pos ⟨hg87, .inl (by simpa using hg90)⟩
                  | exact if_pos ⟨hg87, .inr (by simpa using h84)⟩
                rw [e9]
                exact ⟨_, _, [], [], rfl, Ob.nil _, Ob.nil _, rfl⟩)
             | (have e9 : askK e ks n = (1, Kp.z, 0) := by
                  rw [askK_two hgood (by omega) hfk.symm hgk]
                  first
                  | rw [if_neg (by rintro ⟨h5, h6⟩; rw [hg87] at h5; cases h5), if_neg (by
                      rintro ⟨h5, h6⟩
                      exact h6.elim (fun h6 => by rw [h6] at hg90; exact absurd hg90 (by decide)) (fun h6 => absurd h6 (by simpa using h84)))]
                  | rw [if_neg (by
                      rintro ⟨h5, h6⟩
                      first
                      | (rw [h6] at h76; exact absurd h76 (by decide))
                      | (rw [h5] at hg80; exact absurd hg80 (by decide))), if_neg (by rintro ⟨h5, h6⟩; rw [hg87] at h5; cases h5)]
                rw [e9]
                exact ⟨_, _, [], [], rfl, Ob.nil _, Ob.nil _, rfl⟩)
          ·iterate 3 refine gn_ 87 rfl rfl rfl rfl ?_
           iterate 3 refine gu_ 90 rfl rfl rfl ?_
           refine gn_ 87 rfl rfl rfl rfl ?_
           refine WL.y rfl (Yd.pickF rfl rfl) ?_
           refine a_ rfl rfl ?_
           refine nt_ ?_
           refine WC.no rfl ?_
           refine WC.skip ?_
           refine DN.block_normal ?_
           refine ts_ ?_
           refine WC.region ?_
           refine WL.y rfl (Yd.buildL (pl := [(0, 1), (1, 1), (2, 1), (3, 1), (4, 1), (5, 1)]) (zs := [.int .u32 0, .int .i64 0, .bool false, .slice none 0 0, .int .i64 0, .slice none 0 0]) (parts := []) (vs := []) (cells := [.int .u32 0, .int .i64 0, .bool false, .slice none 0 0, .int .i64 0, .slice none 0 0]) kr_ kr_ rfl rfl) ?_
           refine a_ rfl rfl ?_
           refine WL.s (Hd.storeAll (n := 6) kr_ rfl rfl (by rfl) one_ fr_ (by rfl) ⟨rfl, ?_⟩)
           refine a_ rfl rfl ?_
           refine nt_ ?_
           refine WC.ret ?_
           refine DN.retTCT (s := 6) (H) Tryz.results55 kr_ rfl rfl rfl mem_ (by rfl) sp_ ?_
           first
           | (have e9 : askK e ks n = (3, Kp.z, 0) := by rw [askK_two hgood (by omega) hfk.symm hgk]; exact if_pos ⟨by simpa using hg80, h76⟩
              rw [e9]
              exact ⟨_, _, [], [], rfl, Ob.nil _, Ob.nil _, rfl⟩)
           | (have e9 : askK e ks n = (4, Kp.z, 0) := by
                rw [askK_two hgood (by omega) hfk.symm hgk, if_neg (by rintro ⟨h5, h6⟩; rw [hg87] at h5; cases h5)]
                first
                | exact if_pos ⟨hg87, .inl (by simpa using hg90)⟩
                | exact if_pos ⟨hg87, .inr (by simpa using h84)⟩
              rw [e9]
              exact ⟨_, _, [], [], rfl, Ob.nil _, Ob.nil _, rfl⟩)
           | (have e9 : askK e ks n = (1, Kp.z, 0) := by
                rw [askK_two hgood (by omega) hfk.symm hgk]
                first
                | rw [if_neg (by rintro ⟨h5, h6⟩; rw [hg87] at h5; cases h5), if_neg (by
                    rintro ⟨h5, h6⟩
                    exact h6.elim (fun h6 => by rw [h6] at hg90; exact absurd hg90 (by decide)) (fun h6 => absurd h6 (by simpa using h84)))]
                | rw [if_neg (by
                    rintro ⟨h5, h6⟩
                    first
                    | (rw [h6] at h76; exact absurd h76 (by decide))
                    | (rw [h5] at hg80; exact absurd hg80 (by decide))), if_neg (by rintro ⟨h5, h6⟩; rw [hg87] at h5; cases h5)]
              rw [e9]
              exact ⟨_, _, [], [], rfl, Ob.nil _, Ob.nil _, rfl⟩)
        ·refine gn_ 80 rfl rfl rfl rfl ?_
         refine WL.y rfl (Yd.pickF rfl rfl) ?_
         refine a_ rfl rfl ?_
         refine nt_ ?_
         refine WC.no rfl ?_
         refine sr_ ?_
         refine f_ 7 kr_ rfl rfl ?_
         refine d_ kr_ rfl mem_ (by rfl) rfl ?_
         refine m_ rfl rfl ?_
         refine WL.part (t := 87) rfl (fun hg87 => ?_) (fun hg87 => ?_)
         ·refine gy_ 87 rfl rfl rfl (Yd.move rfl) ?_
          refine gy_ 87 rfl rfl rfl (Yd.notB rfl) ?_
          refine gy_ 87 rfl rfl rfl (Yd.move rfl) ?_
          refine WL.part (t := 90) rfl (fun hg90 => ?_) (fun hg90 => ?_)
          ·iterate 3 refine gn_ 90 rfl rfl rfl rfl ?_
           refine gy_ 87 rfl rfl rfl (Yd.pickT rfl rfl) ?_
           refine WL.y rfl (Yd.pickT rfl rfl) ?_
           refine a_ rfl rfl ?_
           refine nt_ ?_
           refine WC.yes rfl ?_
           refine sr_ ?_
           refine WL.y rfl (Yd.buildL (pl := [(0, 1), (1, 1), (2, 1), (3, 1), (4, 1), (5, 1)]) (zs := [.int .u32 0, .int .i64 0, .bool false, .slice none 0 0, .int .i64 0, .slice none 0 0]) (parts := []) (vs := []) (cells := [.int .u32 0, .int .i64 0, .bool false, .slice none 0 0, .int .i64 0, .slice none 0 0]) kr_ kr_ rfl rfl) ?_
           refine a_ rfl rfl ?_
           refine WL.s (Hd.storeAll (n := 6) kr_ rfl rfl (by rfl) one_ fr_ (by rfl) ⟨rfl, ?_⟩)
           refine a_ rfl rfl ?_
           refine nt_ ?_
           refine WC.ret ?_
           refine DN.block_ret ?_
           refine DN.then_ret ?_
           refine DN.retTCT (s := 6) (H) Tryz.results55 kr_ rfl rfl rfl mem_ (by rfl) sp_ ?_
           first
           | (have e9 : askK e ks n = (3, Kp.z, 0) := by rw [askK_two hgood (by omega) hfk.symm hgk]; exact if_pos ⟨by simpa using hg80, h76⟩
              rw [e9]
              exact ⟨_, _, [], [], rfl, Ob.nil _, Ob.nil _, rfl⟩)
           | (have e9 : askK e ks n = (4, Kp.z, 0) := by
                rw [askK_two hgood (by omega) hfk.symm hgk, if_neg (by rintro ⟨h5, h6⟩; rw [hg87] at h5; cases h5)]
                first
                | exact if_pos ⟨hg87, .inl (by simpa using hg90)⟩
                | exact if_pos ⟨hg87, .inr (by simpa using h84)⟩
              rw [e9]
              exact ⟨_, _, [], [], rfl, Ob.nil _, Ob.nil _, rfl⟩)
           | (have e9 : askK e ks n = (1, Kp.z, 0) := by
                rw [askK_two hgood (by omega) hfk.symm hgk]
                first
                | rw [if_neg (by rintro ⟨h5, h6⟩; rw [hg87] at h5; cases h5), if_neg (by
                    rintro ⟨h5, h6⟩
                    exact h6.elim (fun h6 => by rw [h6] at hg90; exact absurd hg90 (by decide)) (fun h6 => absurd h6 (by simpa using h84)))]
                | rw [if_neg (by
                    rintro ⟨h5, h6⟩
                    first
                    | (rw [h6] at h76; exact absurd h76 (by decide))
                    | (rw [h5] at hg80; exact absurd hg80 (by decide))), if_neg (by rintro ⟨h5, h6⟩; rw [hg87] at h5; cases h5)]
              rw [e9]
              exact ⟨_, _, [], [], rfl, Ob.nil _, Ob.nil _, rfl⟩)
          ·refine gy_ 90 rfl rfl rfl (Yd.fieldAddr (k := 4) kr_ rfl) ?_
           refine WL.gh (dj := 90) rfl rfl rfl (Hd.load1 kr_ rfl mem_ (by rfl) ⟨_, rfl, ?_⟩)
           refine gy_ 90 rfl rfl rfl (Yd.eql rfl rfl) ?_
           refine gy_ 87 rfl rfl rfl (Yd.pickF rfl rfl) ?_
           refine WL.y rfl (Yd.pickT rfl rfl) ?_
           refine a_ rfl rfl ?_
           refine nt_ ?_
           refine WC.cond rfl (fun h84 => ?_) (fun h84 => ?_)
           ·refine sr_ ?_
            refine WL.y rfl (Yd.buildL (pl := [(0, 1), (1, 1), (2, 1), (3, 1), (4, 1), (5, 1)]) (zs := [.int .u32 0, .int .i64 0, .bool false, .slice none 0 0, .int .i64 0, .slice none 0 0]) (parts := []) (vs := []) (cells := [.int .u32 0, .int .i64 0, .bool false, .slice none 0 0, .int .i64 0, .slice none 0 0]) kr_ kr_ rfl rfl) ?_
            refine a_ rfl rfl ?_
            refine WL.s (Hd.storeAll (n := 6) kr_ rfl rfl (by rfl) one_ fr_ (by rfl) ⟨rfl, ?_⟩)
            refine a_ rfl rfl ?_
            refine nt_ ?_
            refine WC.ret ?_
            refine DN.block_ret ?_
            refine DN.then_ret ?_
            refine DN.retTCT (s := 6) (H) Tryz.results55 kr_ rfl rfl rfl mem_ (by rfl) sp_ ?_
            first
            | (have e9 : askK e ks n = (3, Kp.z, 0) := by rw [askK_two hgood (by omega) hfk.symm hgk]; exact if_pos ⟨by simpa using hg80, h76⟩
               rw [e9]
               exact ⟨_, _, [], [], rfl, Ob.nil _, Ob.nil _, rfl⟩)
            | (have e9 : askK e ks n = (4, Kp.z, 0) := by
                 rw [askK_two hgood (by omega) hfk.symm hgk, if_neg (by rintro ⟨h5, h6⟩; rw [hg87] at h5; cases h5)]
                 first
                 | exact if_pos ⟨hg87, .inl (by simpa using hg90)⟩
                 | exact if_pos ⟨hg87, .inr (by simpa using h84)⟩
               rw [e9]
               exact ⟨_, _, [], [], rfl, Ob.nil _, Ob.nil _, rfl⟩)
            | (have e9 : askK e ks n = (1, Kp.z, 0) := by
                 rw [askK_two hgood (by omega) hfk.symm hgk]
                 first
                 | rw [if_neg (by rintro ⟨h5, h6⟩; rw [hg87] at h5; cases h5), if_neg (by
                     rintro ⟨h5, h6⟩
                     exact h6.elim (fun h6 => by rw [h6] at hg90; exact absurd hg90 (by decide)) (fun h6 => absurd h6 (by simpa using h84)))]
                 | rw [if_neg (by
                     rintro ⟨h5, h6⟩
                     first
                     | (rw [h6] at h76; exact absurd h76 (by decide))
                     | (rw [h5] at hg80; exact absurd hg80 (by decide))), if_neg (by rintro ⟨h5, h6⟩; rw [hg87] at h5; cases h5)]
               rw [e9]
               exact ⟨_, _, [], [], rfl, Ob.nil _, Ob.nil _, rfl⟩)
           ·refine WC.skip ?_
            refine DN.block_normal ?_
            refine ts_ ?_
            refine WC.region ?_
            refine WL.y rfl (Yd.buildL (pl := [(0, 1), (1, 1), (2, 1), (3, 1), (4, 1), (5, 1)]) (zs := [.int .u32 0, .int .i64 0, .bool false, .slice none 0 0, .int .i64 0, .slice none 0 0]) (parts := []) (vs := []) (cells := [.int .u32 0, .int .i64 0, .bool false, .slice none 0 0, .int .i64 0, .slice none 0 0]) kr_ kr_ rfl rfl) ?_
            refine a_ rfl rfl ?_
            refine WL.s (Hd.storeAll (n := 6) kr_ rfl rfl (by rfl) one_ fr_ (by rfl) ⟨rfl, ?_⟩)
            refine a_ rfl rfl ?_
            refine nt_ ?_
            refine WC.ret ?_
            refine DN.retTCT (s := 6) (H) Tryz.results55 kr_ rfl rfl rfl mem_ (by rfl) sp_ ?_
            first
            | (have e9 : askK e ks n = (3, Kp.z, 0) := by rw [askK_two hgood (by omega) hfk.symm hgk]; exact if_pos ⟨by simpa using hg80, h76⟩
               rw [e9]
               exact ⟨_, _, [], [], rfl, Ob.nil _, Ob.nil _, rfl⟩)
            | (have e9 : askK e ks n = (4, Kp.z, 0) := by
                 rw [askK_two hgood (by omega) hfk.symm hgk, if_neg (by rintro ⟨h5, h6⟩; rw [hg87] at h5; cases h5)]
                 first
                 | exact if_pos ⟨hg87, .inl (by simpa using hg90)⟩
                 | exact if_pos ⟨hg87, .inr (by simpa using h84)⟩
               rw [e9]
               exact ⟨_, _, [], [], rfl, Ob.nil _, Ob.nil _, rfl⟩)
            | (have e9 : askK e ks n = (1, Kp.z, 0) := by
                 rw [askK_two hgood (by omega) hfk.symm hgk]
                 first
                 | rw [if_neg (by rintro ⟨h5, h6⟩; rw [hg87] at h5; cases h5), if_neg (by
                     rintro ⟨h5, h6⟩
                     exact h6.elim (fun h6 => by rw [h6] at hg90; exact absurd hg90 (by decide)) (fun h6 => absurd h6 (by simpa using h84)))]
                 | rw [if_neg (by
                     rintro ⟨h5, h6⟩
                     first
                     | (rw [h6] at h76; exact absurd h76 (by decide))
                     | (rw [h5] at hg80; exact absurd hg80 (by decide))), if_neg (by rintro ⟨h5, h6⟩; rw [hg87] at h5; cases h5)]
               rw [e9]
               exact ⟨_, _, [], [], rfl, Ob.nil _, Ob.nil _, rfl⟩)
         ·iterate 3 refine gn_ 87 rfl rfl rfl rfl ?_
          iterate 3 refine gu_ 90 rfl rfl rfl ?_
          refine gn_ 87 rfl rfl rfl rfl ?_
          refine WL.y rfl (Yd.pickF rfl rfl) ?_
          refine a_ rfl rfl ?_
          refine nt_ ?_
          refine WC.no rfl ?_
          refine WC.skip ?_
          refine DN.block_normal ?_
          refine ts_ ?_
          refine WC.region ?_
          refine WL.y rfl (Yd.buildL (pl := [(0, 1), (1, 1), (2, 1), (3, 1), (4, 1), (5, 1)]) (zs := [.int .u32 0, .int .i64 0, .bool false, .slice none 0 0, .int .i64 0, .slice none 0 0]) (parts := []) (vs := []) (cells := [.int .u32 0, .int .i64 0, .bool false, .slice none 0 0, .int .i64 0, .slice none 0 0]) kr_ kr_ rfl rfl) ?_
          refine a_ rfl rfl ?_
          refine WL.s (Hd.storeAll (n := 6) kr_ rfl rfl (by rfl) one_ fr_ (by rfl) ⟨rfl, ?_⟩)
          refine a_ rfl rfl ?_
          refine nt_ ?_
          refine WC.ret ?_
          refine DN.retTCT (s := 6) (H) Tryz.results55 kr_ rfl rfl rfl mem_ (by rfl) sp_ ?_
          first
          | (have e9 : askK e ks n = (3, Kp.z, 0) := by rw [askK_two hgood (by omega) hfk.symm hgk]; exact if_pos ⟨by simpa using hg80, h76⟩
             rw [e9]
             exact ⟨_, _, [], [], rfl, Ob.nil _, Ob.nil _, rfl⟩)
          | (have e9 : askK e ks n = (4, Kp.z, 0) := by
               rw [askK_two hgood (by omega) hfk.symm hgk, if_neg (by rintro ⟨h5, h6⟩; rw [hg87] at h5; cases h5)]
               first
               | exact if_pos ⟨hg87, .inl (by simpa using hg90)⟩
               | exact if_pos ⟨hg87, .inr (by simpa using h84)⟩
             rw [e9]
             exact ⟨_, _, [], [], rfl, Ob.nil _, Ob.nil _, rfl⟩)
          | (have e9 : askK e ks n = (1, Kp.z, 0) := by
               rw [askK_two hgood (by omega) hfk.symm hgk]
               first
               | rw [if_neg (by rintro ⟨h5, h6⟩; rw [hg87] at h5; cases h5), if_neg (by
                   rintro ⟨h5, h6⟩
                   exact h6.elim (fun h6 => by rw [h6] at hg90; exact absurd hg90 (by decide)) (fun h6 => absurd h6 (by simpa using h84)))]
               | rw [if_neg (by
                   rintro ⟨h5, h6⟩
                   first
                   | (rw [h6] at h76; exact absurd h76 (by decide))
                   | (rw [h5] at hg80; exact absurd hg80 (by decide))), if_neg (by rintro ⟨h5, h6⟩; rw [hg87] at h5; cases h5)]
             rw [e9]
             exact ⟨_, _, [], [], rfl, Ob.nil _, Ob.nil _, rfl⟩)
end Go.Proofs.YtkamlondepceiaaGreat

set_option linter.unusedVariables false
set_option linter.unusedSimpArgs false
set_option maxHeartbeats 2000000
namespace Go.Proofs.YtkamlondepceiaaGreat
open Go.SL
section
variable {act er code : Int} {kk : Kp} {n : Nt} {reply : List (BitVec 8)}
theorem keep_no (h42 : (!decide (rightP (stepK n code reply))) = false) : keepBad (act, kk, er) (stepK n code reply) ↔ (act = 3 ∧ code ≠ 2) ∨ (act = 4 ∧ code ≠ 1) := by
  have h : rightP (stepK n code reply) := by simpa using h42
  unfold keepBad
  exact ⟨fun h9 => h9.elim (fun h9 => absurd h h9) id, .inr⟩
theorem keep_z0 (h42 : (!decide (rightP (stepK n code reply))) = true) : (true = true ↔ keepBad (act, kk, er) (stepK n code reply)) := ⟨fun _ => .inl (by simpa using h42), fun _ => rfl⟩
theorem keep_z1 (h42 : (!decide (rightP (stepK n code reply))) = false) (h45 : decide (act = 3) = true) (h50 : decide (code ≠ 2) = true) : (true = true ↔ keepBad (act, kk, er) (stepK n code reply)) := by
  rw [keep_no h42]
  exact ⟨fun _ => .inl ⟨of_decide_eq_true h45, of_decide_eq_true h50⟩, fun _ => rfl⟩
theorem keep_z2 (h42 : (!decide (rightP (stepK n code reply))) = false) (h45 : decide (act = 3) = true) (h50 : decide (code ≠ 2) = false) (h53 : decide (act = 4) = true) : (decide (code ≠ 1) = true ↔ keepBad (act, kk, er) (stepK n code reply)) := by
  have h1 := of_decide_eq_true h45
  have h2 := of_decide_eq_true h53
  omega
theorem keep_z3 (h42 : (!decide (rightP (stepK n code reply))) = false) (h45 : decide (act = 3) = true) (h50 : decide (code ≠ 2) = false) (h53 : decide (act = 4) = false) : (false = true ↔ keepBad (act, kk, er) (stepK n code reply)) := by
  rw [keep_no h42]
  have h1 := of_decide_eq_true h45
  have h2 := of_decide_eq_false h50
  exact ⟨fun h => absurd h (by decide), fun h => by omega⟩
theorem keep_z4 (h42 : (!decide (rightP (stepK n code reply))) = false) (h45 : decide (act = 3) = false) (h53 : decide (act = 4) = true) : (decide (code ≠ 1) = true ↔ keepBad (act, kk, er) (stepK n code reply)) := by
  rw [keep_no h42, decide_eq_true_eq]
  have h1 := of_decide_eq_false h45
  have h2 := of_decide_eq_true h53
  omega
theorem keep_z5 (h42 : (!decide (rightP (stepK n code reply))) = false) (h45 : decide (act = 3) = false) (h53 : decide (act = 4) = false) : (false = true ↔ keepBad (act, kk, er) (stepK n code reply)) := by
  rw [keep_no h42]
  have h1 := of_decide_eq_false h45
  have h2 := of_decide_eq_false h53
  exact ⟨fun h => absurd h (by decide), fun h => by omega⟩
end
theorem keep_tells (e : BitVec 32) (v : Value) (ks : List Kp) (H : List Ck) (hv : KV v ks H) (hl : ks.length ≤ 9223372036854775807) (n : Nt) (vk vd : Value) (hvk : Bs vk n.key H) (hvd : Bs vd n.data H) (code : Int) (vr : Value) (reply : List (BitVec 8)) (hvr : Bs vr reply H) : Tells Tryz.prog 59 [.agg #[.int .u32 e.toNat, v], .agg (ntc n vk vd).toArray, .int .i64 code, vr] H fun r H' => ∃ w D, r = .tuple #[.agg #[.int .u32 (keepK e ks n code reply).1.toNat, w], .int .i64 (keepK e ks n code reply).2.2] ∧ FAt 5 118 w (keepK e ks n code reply).2.1 D ∧ H' = D ++ H := by
 refine Tells.enter Tryz.func59 rfl Tryz.ntmps59 rfl ?_
 intro w0 R
 obtain ⟨ao, c, rfl, hc⟩ := hv.form
 obtain ⟨ko, kcap, rfl, hkc⟩ := hvk.form
 obtain ⟨do_, dc, rfl, hdc⟩ := hvd.form
 obtain ⟨ro, rc, rfl, hrc⟩ := hvr.form
 refine sr_ ?_
 refine WL.h rfl (Hd.boxA rfl fun b4 => ⟨_, rfl, ?_⟩)
 refine WL.h rfl (Hd.boxA rfl fun b5 => ⟨_, rfl, ?_⟩)
 refine WL.h rfl (Hd.alloc (zs := [.int .u32 0, .slice none 0 0]) kr_ fun b8 => ⟨_, rfl, ?_⟩)
 refine a_ rfl rfl ?_
 refine ntsr_ ?_
 refine WL.h rfl (Hd.loadAll (n := 2) kr_ rfl mem_ (by rfl) ⟨_, rfl, ?_⟩)
 refine WL.h rfl (Hd.loadAll (n := 11) kr_ rfl mem_ (by rfl) ⟨_, rfl, ?_⟩)
 refine WL.c rfl (Ent.func Tryz.call55 rfl) (ask_tells e _ ks H hv hl n _ _ hvk hvd) (Sp.p sp_) ?_
 rintro x H1 ⟨wa, wr, A, B, rfl, hA, hB, rfl⟩
 obtain ⟨q, hq⟩ : ∃ q, q = askK e ks n := ⟨_, rfl⟩
 rw [← hq] at hA hB ⊢
 obtain ⟨act, kk, er⟩ := q
 dsimp only at hA hB ⊢
 obtain ⟨oa, ca, rfl, _⟩ := hA.form
 obtain ⟨or_, cr, rfl, _⟩ := hB.form
 refine m_ rfl rfl ?_
 iterate 3 refine x_ rfl rfl rfl ?_
 refine WL.h rfl (Hd.alloc (zs := [.int .u32 0, .int .i64 0, .bool false, .slice none 0 0, .int .i64 0, .slice none 0 0]) kr_ fun b11 => ⟨_, rfl, ?_⟩)
 refine a_ rfl rfl ?_
 refine WL.s (Hd.storeAll (n := 6) kr_ rfl rfl (by rfl) (kc_one rfl rfl) fr_ (by rfl) ⟨rfl, ?_⟩)
 refine a_ rfl rfl ?_
 refine nt_ ?_
 refine WC.seq ?_
 refine sr_ ?_
 refine m_ rfl rfl ?_
 refine WL.y rfl (Yd.neq rfl rfl) ?_
 refine nt_ ?_
 refine WC.ite rfl (fun h24 => ?_) (fun h24 => ?_)
 ·refine sr_ ?_
  refine WL.y rfl (Yd.buildL (pl := [(0, 1), (1, 1)]) (zs := [.int .u32 0, .slice none 0 0]) (parts := []) (vs := []) (cells := [.int .u32 0, .slice none 0 0]) kr_ kr_ rfl rfl) ?_
  refine m_ rfl rfl ?_
  refine WL.s (Hd.storeAll (n := 2) kr_ rfl rfl (by rfl) one_ fr_ (by rfl) ⟨rfl, ?_⟩)
  refine a_ rfl rfl ?_
  refine nt_ ?_
  refine WC.ret ?_
  refine DN.then_ret ?_
  refine DN.retCT (s := 2) (H) Tryz.results59 kr_ rfl rfl mem_ (by rfl) sp_ ?_
  rw [keepK_err (by rw [← hq]; exact h24), ← hq]
  exact ⟨_, [], rfl, FAt.nil _ _, rfl⟩
 ·refine WC.skip ?_
  refine ts_ ?_
  refine WC.region ?_
  have hgo := askK_ok (show (askK e ks n).2.2 = 0 by rw [← hq]; exact Classical.byContradiction h24)
  have hck := good_chk hgo.1
  refine f_ 5 kr_ rfl rfl ?_
  refine d_ kr_ rfl mem_ (by rfl) rfl ?_
  refine f_ 6 kr_ rfl rfl ?_
  refine d_ kr_ rfl mem_ (by rfl) rfl ?_
  refine f_ 7 kr_ rfl rfl ?_
  refine d_ kr_ rfl mem_ (by rfl) rfl ?_
  refine f_ 10 kr_ rfl rfl ?_
  refine d_ kr_ rfl mem_ (by rfl) rfl ?_
  refine m_ rfl rfl ?_
  refine m_ rfl rfl ?_
  refine WL.y rfl (Yd.buildL (pl := [(0, 1), (1, 1), (2, 1), (3, 1), (4, 1), (5, 1)]) (zs := [.int .u32 0, .int .i64 0, .bool false, .slice none 0 0, .int .i64 0, .slice none 0 0]) (parts := [(0, .tmp 28), (1, .tmp 30), (2, .tmp 32), (3, .tmp 34), (4, .tmp 35), (5, .tmp 36)]) (vs := [(0, _), (1, _), (2, _), (3, _), (4, _), (5, _)]) (cells := [_, _, _, _, _, _]) kr_ kr_ rfl rfl) ?_
  refine WL.h rfl (Hd.alloc (zs := [.int .u32 0, .int .i64 0, .bool false, .slice none 0 0, .int .i64 0, .slice none 0 0]) kr_ fun b13 => ⟨_, rfl, ?_⟩)
  refine WL.s (Hd.storeAll (n := 6) kr_ rfl rfl (by rfl) one_ fr_ (by rfl) ⟨rfl, ?_⟩)
  refine nt_ ?_
  refine WC.seq ?_
  refine WC.block ?_
  refine WC.cutK (fun z : Bool => z = true ↔ keepBad (act, kk, er) (stepK n code reply)) (fun z : Bool => [(38, .bool z)]) (fun z : Bool => row b13 (kc (stepK n code reply) (.slice do_ n.data.length dc) (.slice ro reply.length rc)) 118 :: row b11 (kc kk (.slice oa kk.asked.length ca) (.slice or_ kk.reply.length cr)) 118 :: (A ++ (B ++ (row b4 [.int .u32 e.toNat, .slice ao ks.length c] 82 :: row b5 (ntc n (.slice ko n.key.length kcap) (.slice do_ n.data.length dc)) 52 :: row b8 [.int .u32 0, .slice none 0 0] 82 :: H)))) ?_ ?_
  ·refine WC.region ?_
   refine WL.h rfl (Hd.loadAll (n := 6) kr_ rfl mem_ (by rfl) ⟨_, rfl, ?_⟩)
   refine WL.r rfl (Ent.func Tryz.call92 rfl) (right_reads (stepK n code reply) (.slice do_ n.data.length dc) (.slice ro reply.length rc) ⟨_, _, rfl⟩ ⟨_, _, rfl⟩ _) ?_
   refine WL.y rfl (Yd.notB rfl) ?_
   refine m_ rfl rfl ?_
   refine WL.part (t := 42) rfl (fun hg42 => ?_) (fun hg42 => ?_)
   ·iterate 3 refine gn_ 42 rfl rfl rfl rfl ?_
    refine gu_ 45 rfl rfl rfl ?_
    refine gu_ 45 rfl rfl rfl ?_
    refine gn_ 42 rfl rfl rfl rfl ?_
    refine WL.y rfl (Yd.pickT rfl rfl) ?_
    refine m_ rfl rfl ?_
    iterate 3 refine gn_ 50 rfl rfl rfl rfl ?_
    refine gu_ 53 rfl rfl rfl ?_
    refine gu_ 53 rfl rfl rfl ?_
    refine gn_ 50 rfl rfl rfl rfl ?_
    refine WL.y rfl (Yd.pickT rfl rfl) ?_
    refine a_ rfl rfl ?_
    refine WL.nil ?_
    exact DN.reachK (_) (by first | exact keep_z0 hg42 | exact keep_z1 hg42 hg45 hg50 | exact keep_z2 hg42 hg45 hg50 hg53 | exact keep_z3 hg42 hg45 hg50 hg53 | exact keep_z4 hg42 hg45 hg53 | exact keep_z5 hg42 hg45 hg53) (Sx.put rfl (sx_)) (Sp.all sp_)
   ·refine gy_ 42 rfl rfl rfl (Yd.move rfl) ?_
    refine gy_ 42 rfl rfl rfl (Yd.eql rfl rfl) ?_
    refine gy_ 42 rfl rfl rfl (Yd.move rfl) ?_
    refine WL.part (t := 45) rfl (fun hg45 => ?_) (fun hg45 => ?_)
    ·refine gy_ 45 rfl rfl rfl (Yd.move rfl) ?_
     refine gy_ 45 rfl rfl rfl (Yd.neq rfl rfl) ?_
     refine gy_ 42 rfl rfl rfl (Yd.pickT rfl rfl) ?_
     refine WL.y rfl (Yd.pickF rfl rfl) ?_
     refine m_ rfl rfl ?_
     refine WL.part (t := 50) rfl (fun hg50 => ?_) (fun hg50 => ?_)
     ·iterate 3 refine gn_ 50 rfl rfl rfl rfl ?_
      refine gu_ 53 rfl rfl rfl ?_
      refine gu_ 53 rfl rfl rfl ?_
      refine gn_ 50 rfl rfl rfl rfl ?_
      refine WL.y rfl (Yd.pickT rfl rfl) ?_
      refine a_ rfl rfl ?_
      refine WL.nil ?_
      exact DN.reachK (_) (by first | exact keep_z0 hg42 | exact keep_z1 hg42 hg45 hg50 | exact keep_z2 hg42 hg45 hg50 hg53 | exact keep_z3 hg42 hg45 hg50 hg53 | exact keep_z4 hg42 hg45 hg53 | exact keep_z5 hg42 hg45 hg53) (Sx.put rfl (sx_)) (Sp.all sp_)
     ·refine gy_ 50 rfl rfl rfl (Yd.move rfl) ?_
      refine gy_ 50 rfl rfl rfl (Yd.eql rfl rfl) ?_
      refine gy_ 50 rfl rfl rfl (Yd.move rfl) ?_
      refine WL.part (t := 53) rfl (fun hg53 => ?_) (fun hg53 => ?_)
      ·refine gy_ 53 rfl rfl rfl (Yd.move rfl) ?_
       refine gy_ 53 rfl rfl rfl (Yd.neq rfl rfl) ?_
       refine gy_ 50 rfl rfl rfl (Yd.pickT rfl rfl) ?_
       refine WL.y rfl (Yd.pickF rfl rfl) ?_
       refine a_ rfl rfl ?_
       refine WL.nil ?_
       exact DN.reachK (_) (by first | exact keep_z0 hg42 | exact keep_z1 hg42 hg45 hg50 | exact keep_z2 hg42 hg45 hg50 hg53 | exact keep_z3 hg42 hg45 hg50 hg53 | exact keep_z4 hg42 hg45 hg53 | exact keep_z5 hg42 hg45 hg53) (Sx.put rfl (sx_)) (Sp.all sp_)
      ·refine gn_ 53 rfl rfl rfl rfl ?_
       refine gn_ 53 rfl rfl rfl rfl ?_
       refine gy_ 50 rfl rfl rfl (Yd.pickF rfl rfl) ?_
       refine WL.y rfl (Yd.pickF rfl rfl) ?_
       refine a_ rfl rfl ?_
       refine WL.nil ?_
       exact DN.reachK (_) (by first | exact keep_z0 hg42 | exact keep_z1 hg42 hg45 hg50 | exact keep_z2 hg42 hg45 hg50 hg53 | exact keep_z3 hg42 hg45 hg50 hg53 | exact keep_z4 hg42 hg45 hg53 | exact keep_z5 hg42 hg45 hg53) (Sx.put rfl (sx_)) (Sp.all sp_)
    ·refine gn_ 45 rfl rfl rfl rfl ?_
     refine gn_ 45 rfl rfl rfl rfl ?_
     refine gy_ 42 rfl rfl rfl (Yd.pickF rfl rfl) ?_
     refine WL.y rfl (Yd.pickF rfl rfl) ?_
     refine m_ rfl rfl ?_
     refine gy_ 50 rfl rfl rfl (Yd.move rfl) ?_
     refine gy_ 50 rfl rfl rfl (Yd.eql rfl rfl) ?_
     refine gy_ 50 rfl rfl rfl (Yd.move rfl) ?_
     refine WL.part (t := 53) rfl (fun hg53 => ?_) (fun hg53 => ?_)
     ·refine gy_ 53 rfl rfl rfl (Yd.move rfl) ?_
      refine gy_ 53 rfl rfl rfl (Yd.neq rfl rfl) ?_
      refine gy_ 50 rfl rfl rfl (Yd.pickT rfl rfl) ?_
      refine WL.y rfl (Yd.pickF rfl rfl) ?_
      refine a_ rfl rfl ?_
      refine WL.nil ?_
      exact DN.reachK (_) (by first | exact keep_z0 hg42 | exact keep_z1 hg42 hg45 hg50 | exact keep_z2 hg42 hg45 hg50 hg53 | exact keep_z3 hg42 hg45 hg50 hg53 | exact keep_z4 hg42 hg45 hg53 | exact keep_z5 hg42 hg45 hg53) (Sx.put rfl (sx_)) (Sp.all sp_)
     ·refine gn_ 53 rfl rfl rfl rfl ?_
      refine gn_ 53 rfl rfl rfl rfl ?_
      refine gy_ 50 rfl rfl rfl (Yd.pickF rfl rfl) ?_
      refine WL.y rfl (Yd.pickF rfl rfl) ?_
      refine a_ rfl rfl ?_
      refine WL.nil ?_
      exact DN.reachK (_) (by first | exact keep_z0 hg42 | exact keep_z1 hg42 hg45 hg50 | exact keep_z2 hg42 hg45 hg50 hg53 | exact keep_z3 hg42 hg45 hg50 hg53 | exact keep_z4 hg42 hg45 hg53 | exact keep_z5 hg42 hg45 hg53) (Sx.put rfl (sx_)) (Sp.all sp_)
  ·intro z38 hz38
   refine WC.cond rfl (fun h38 => ?_) (fun h38 => ?_)
   ·refine sr_ ?_
    refine WL.y rfl (Yd.buildL (pl := [(0, 1), (1, 1)]) (zs := [.int .u32 0, .slice none 0 0]) (parts := []) (vs := []) (cells := [.int .u32 0, .slice none 0 0]) kr_ kr_ rfl rfl) ?_
    refine WL.s (Hd.storeAll (n := 2) kr_ rfl rfl (by rfl) one_ fr_ (by rfl) ⟨rfl, ?_⟩)
    refine a_ rfl rfl ?_
    refine nt_ ?_
    refine WC.ret ?_
    refine DN.block_ret ?_
    refine DN.then_ret ?_
    refine DN.retCT (s := 2) (H) Tryz.results59 kr_ rfl rfl mem_ (by rfl) sp_ ?_
    rw [keepK_bad (by rw [← hq]; exact h24) (by rw [← hq]; exact hz38.1 h38)]
    exact ⟨_, [], rfl, FAt.nil _ _, rfl⟩
   ·refine sr_ ?_
    refine m_ rfl rfl ?_
    refine WL.y rfl (Yd.eql rfl rfl) ?_
    refine a_ rfl rfl ?_
    refine nt_ ?_
    refine WC.ite rfl (fun h59 => ?_) (fun h59 => ?_)
    ·refine sr_ ?_
     refine WL.y rfl (Yd.buildL (pl := [(0, 1), (1, 1)]) (zs := [.int .u32 0, .slice none 0 0]) (parts := []) (vs := []) (cells := [.int .u32 0, .slice none 0 0]) kr_ kr_ rfl rfl) ?_
     refine WL.s (Hd.storeAll (n := 2) kr_ rfl rfl (by rfl) one_ fr_ (by rfl) ⟨rfl, ?_⟩)
     refine a_ rfl rfl ?_
     refine nt_ ?_
     refine WC.ret ?_
     refine DN.block_ret ?_
     refine DN.then_ret ?_
     refine DN.retCT (s := 2) (H) Tryz.results59 kr_ rfl rfl mem_ (by rfl) sp_ ?_
     rw [keepK_twice (by rw [← hq]; exact h24) (by rw [← hq]; exact fun h => by rw [hz38.2 h] at h38; cases h38) (by rw [← hq]; exact h59)]
     exact ⟨_, [], rfl, FAt.nil _ _, rfl⟩
    ·refine sr_ ?_
     refine f_ 1 kr_ rfl rfl ?_
     refine d_ kr_ rfl mem_ (by rfl) rfl ?_
     refine WL.y rfl (Yd.len (e := 118) kr_ rfl) ?_
     refine WL.y rfl (Yd.geq rfl rfl) ?_
     refine a_ rfl rfl ?_
     refine nt_ ?_
     refine WC.ite rfl (fun h63 => ?_) (fun h63 => ?_)
     ·refine sr_ ?_
      refine WL.y rfl (Yd.buildL (pl := [(0, 1), (1, 1)]) (zs := [.int .u32 0, .slice none 0 0]) (parts := []) (vs := []) (cells := [.int .u32 0, .slice none 0 0]) kr_ kr_ rfl rfl) ?_
      refine WL.s (Hd.storeAll (n := 2) kr_ rfl rfl (by rfl) one_ fr_ (by rfl) ⟨rfl, ?_⟩)
      refine a_ rfl rfl ?_
      refine nt_ ?_
      refine WC.ret ?_
      refine DN.block_ret ?_
      refine DN.then_ret ?_
      refine DN.retCT (s := 2) (H) Tryz.results59 kr_ rfl rfl mem_ (by rfl) sp_ ?_
      rw [keepK_full (by rw [← hq]; exact h24) (by rw [← hq]; exact fun h => by rw [hz38.2 h] at h38; cases h38) (by rw [← hq]; exact h59) (by omega)]
      exact ⟨_, [], rfl, FAt.nil _ _, rfl⟩
     ·refine WC.skip ?_
      refine DN.block_normal ?_
      refine ts_ ?_
      refine WC.draw 9 kr_ rfl ?_
      refine WA.quiet 9 0 rfl rfl kr_ kr_ kr_ rfl ?_
      have hrt : rightP (stepK n code reply) := Classical.byContradiction fun h => by rw [hz38.2 (.inl h)] at h38; cases h38
      have h200 := hck.1
      refine WQ.rd rfl Wt.none (Rd.loadAll (n := 2) kr_ rfl mem_ (by rfl)) ?_
      refine WQ.rd rfl Wt.none (Rd.loadAll (n := 6) kr_ rfl mem_ (by rfl)) ?_
      refine WQ.rf rfl Wt.none (Ent.func Tryz.call94 rfl) (of_reads (stepK n code reply) (.slice do_ n.data.length dc) (.slice ro reply.length rc) rfl rfl _) Sp.sn ?_
      refine WQ.rf rfl Wt.none (Ent.func Tryz.call93 rfl) (find_reads e _ ks _ (hv.mono gr_) hck n.order n.step n.undo hrt.2.1 hrt.2.2.1) Sp.sn ?_
      refine WQ.y rfl (Yd.move rfl) ?_
      refine WQ.y rfl (Yd.extract rfl rfl) ?_
      refine WQ.y rfl (Yd.extract rfl rfl) ?_
      refine WQ.y rfl (Yd.assign rfl) ?_
      refine WQ.y rfl (Yd.assign rfl) ?_
      refine WQ.nil ?_
      refine WA.done kr_ ?_
      refine ts_ ?_
      refine WC.region ?_
      refine WL.h rfl (Hd.loadAll (n := 2) kr_ rfl mem_ (by rfl) ⟨_, rfl, ?_⟩)
      refine WL.c rfl (Ent.func Tryz.call85 rfl) (all_tells e _ ks H hv hck) (Sp.p sp_) ?_
      rintro r2 H1 ⟨w, D, rfl, hF, rfl⟩
      obtain ⟨cs2, C2, D2, hO2, hK2, rfl⟩ := hF
      obtain ⟨wo, wc, rfl, hwc⟩ := hO2.form
      refine WL.s (Hd.storeAll (n := 2) kr_ rfl rfl (by rfl) one_ fr_ (by rfl) ⟨rfl, ?_⟩)
      refine ntsr_ ?_
      refine f_ 1 kr_ rfl rfl ?_
      refine d_ kr_ rfl mem_ (by rfl) rfl ?_
      refine f_ 0 kr_ rfl rfl ?_
      refine WL.s (Hd.store1s kr_ rfl rfl (by rfl) fr_ (by rfl) (by first | (simp only [List.set_cons_zero, List.set_cons_succ, Nat.zero_add, Nat.add_zero, Nat.reduceAdd]; rfl) | rfl) ⟨rfl, ?_⟩)
      refine nt_ ?_
      refine WC.seq ?_
      refine WC.draw 9 kr_ rfl ?_
      refine WA.y (i := 0) (NoPanic.then (NoPanic.body)) rfl kr_ kr_ kr_ rfl (Yd.fieldAddr (k := 1) kr_ rfl) ?_
      refine WA.y (i := 2) (NoPanic.then (NoPanic.body)) rfl kr_ kr_ kr_ rfl (Yd.move rfl) ?_
      refine WA.two (i := 1) (j := 3) kr_ ?_ ?_
      ·refine WO.h rfl Wt.none rfl (Hd.load1 kr_ rfl mem_ (by rfl) ⟨_, rfl, ?_⟩)
       refine WA.one (i := 3) kr_ ?_
       refine WO.h rfl Wt.none rfl (Hd.loadAll (n := 6) kr_ rfl mem_ (by rfl) ⟨_, rfl, ?_⟩)
       refine WA.one (i := 4) kr_ ?_
       refine WO.c rfl Wt.none rfl (Ent.func Tryz.call96 rfl) (own_tells (stepK n code reply) (.slice do_ n.data.length dc) (.slice ro reply.length rc) H hvd hvr (by have := hrt.2.2.2.1; omega) (by have := hrt.2.2.2.2.1; omega)) (Sp.p sp_) ?_
       rintro x5 H5 ⟨wa5, wr5, A5, B5, rfl, hA5, hB5, rfl⟩
       obtain ⟨o5, c5, rfl, hc5⟩ := hA5.form
       obtain ⟨o6, c6, rfl, hc6⟩ := hB5.form
       refine WA.one (i := 5) kr_ ?_
       refine WO.h rfl Wt.none rfl (Hd.buildA (e := 118) (sz := 6) (zs := [.int .u32 0, .int .i64 0, .bool false, .slice none 0 0, .int .i64 0, .slice none 0 0]) kr_ kr_ kr_ rfl rfl (by rfl) kr_ fun b86 => ⟨_, rfl, ?_⟩)
       refine WA.one (i := 6) kr_ ?_
       refine WO.c rfl Wt.none rfl (Ent.func Tryz.call95 rfl) (insert_tells _ ks.length cs2 C2 hO2 hK2.one (by omega) (pos ks (stepK n code reply).num) (pos_le _ _) b86 (kc (stepK n code reply) (.slice o5 _ c5) (.slice o6 _ c6)) rfl (kc_one rfl rfl)) (Sp.p sp_) ?_
       intro r7 H7 hO7
       obtain ⟨D7, hK7, hp7⟩ := hK2.ins (pos_le ks (stepK n code reply).num) hA5 hB5
       obtain ⟨io, ic7, rfl, hic7⟩ := hO7.form
       refine WA.y (i := 7) (NoPanic.then (NoPanic.body)) rfl kr_ kr_ kr_ rfl (Yd.fieldAddr (k := 1) kr_ rfl) ?_
       refine WA.one (i := 8) kr_ ?_
       refine WO.s rfl Wt.none (Hd.store1s kr_ rfl rfl (by rfl) fr_ (by rfl) (by first | (simp only [List.set_cons_zero, List.set_cons_succ, Nat.zero_add, Nat.add_zero, Nat.reduceAdd]; rfl) | rfl) ⟨rfl, ?_⟩)
       refine WA.done kr_ ?_
       refine ts_ ?_
       refine WC.region ?_
       refine WL.h rfl (Hd.loadAll (n := 2) kr_ rfl mem_ (by rfl) ⟨_, rfl, ?_⟩)
       refine WL.s (Hd.storeAll (n := 2) kr_ rfl rfl (by rfl) one_ fr_ (by rfl) ⟨rfl, ?_⟩)
       refine a_ rfl rfl ?_
       refine nt_ ?_
       refine WC.ret ?_
       refine DN.fit (C := row b8 [.int .u32 n.epoch.toNat, .slice io (ks.length + 1) ic7] 82 :: (H7 ++ ((D2 ++ (A5 ++ B5)) ++ H))) sp_ ?_
       refine DN.blocks (row b8 [.int .u32 n.epoch.toNat, .slice io (ks.length + 1) ic7] 82 :: (H7 ++ (D7 ++ H))) (List.Perm.cons _ (List.Perm.append_left _ (hp7.symm.append_right _))) ?_
       refine DN.retCT (s := 2) (H7 ++ (D7 ++ H)) Tryz.results59 kr_ rfl rfl mem_ (by rfl) sp_ ?_
       rw [keepK_ok (by rw [← hq]; exact h24) (by rw [← hq]; exact fun h => by rw [hz38.2 h] at h38; cases h38) (by rw [← hq]; exact h59) (by omega)]
       exact ⟨_, H7 ++ D7, rfl, ⟨_, H7, D7, by rw [insAt_len _ (pos_le _ _)]; exact hO7, hK7, rfl⟩, by rw [List.append_assoc]⟩
      ·refine WO.h rfl Wt.none rfl (Hd.loadAll (n := 6) kr_ rfl mem_ (by rfl) ⟨_, rfl, ?_⟩)
       refine WA.two (i := 1) (j := 4) kr_ ?_ ?_
       ·refine WO.h rfl Wt.none rfl (Hd.load1 kr_ rfl mem_ (by rfl) ⟨_, rfl, ?_⟩)
        refine WA.one (i := 4) kr_ ?_
        refine WO.c rfl Wt.none rfl (Ent.func Tryz.call96 rfl) (own_tells (stepK n code reply) (.slice do_ n.data.length dc) (.slice ro reply.length rc) H hvd hvr (by have := hrt.2.2.2.1; omega) (by have := hrt.2.2.2.2.1; omega)) (Sp.p sp_) ?_
        rintro x5 H5 ⟨wa5, wr5, A5, B5, rfl, hA5, hB5, rfl⟩
        obtain ⟨o5, c5, rfl, hc5⟩ := hA5.form
        obtain ⟨o6, c6, rfl, hc6⟩ := hB5.form
        refine WA.one (i := 5) kr_ ?_
        refine WO.h rfl Wt.none rfl (Hd.buildA (e := 118) (sz := 6) (zs := [.int .u32 0, .int .i64 0, .bool false, .slice none 0 0, .int .i64 0, .slice none 0 0]) kr_ kr_ kr_ rfl rfl (by rfl) kr_ fun b86 => ⟨_, rfl, ?_⟩)
        refine WA.one (i := 6) kr_ ?_
        refine WO.c rfl Wt.none rfl (Ent.func Tryz.call95 rfl) (insert_tells _ ks.length cs2 C2 hO2 hK2.one (by omega) (pos ks (stepK n code reply).num) (pos_le _ _) b86 (kc (stepK n code reply) (.slice o5 _ c5) (.slice o6 _ c6)) rfl (kc_one rfl rfl)) (Sp.p sp_) ?_
        intro r7 H7 hO7
        obtain ⟨D7, hK7, hp7⟩ := hK2.ins (pos_le ks (stepK n code reply).num) hA5 hB5
        obtain ⟨io, ic7, rfl, hic7⟩ := hO7.form
        refine WA.y (i := 7) (NoPanic.then (NoPanic.body)) rfl kr_ kr_ kr_ rfl (Yd.fieldAddr (k := 1) kr_ rfl) ?_
        refine WA.one (i := 8) kr_ ?_
        refine WO.s rfl Wt.none (Hd.store1s kr_ rfl rfl (by rfl) fr_ (by rfl) (by first | (simp only [List.set_cons_zero, List.set_cons_succ, Nat.zero_add, Nat.add_zero, Nat.reduceAdd]; rfl) | rfl) ⟨rfl, ?_⟩)
        refine WA.done kr_ ?_
        refine ts_ ?_
        refine WC.region ?_
        refine WL.h rfl (Hd.loadAll (n := 2) kr_ rfl mem_ (by rfl) ⟨_, rfl, ?_⟩)
        refine WL.s (Hd.storeAll (n := 2) kr_ rfl rfl (by rfl) one_ fr_ (by rfl) ⟨rfl, ?_⟩)
        refine a_ rfl rfl ?_
        refine nt_ ?_
        refine WC.ret ?_
        refine DN.fit (C := row b8 [.int .u32 n.epoch.toNat, .slice io (ks.length + 1) ic7] 82 :: (H7 ++ ((D2 ++ (A5 ++ B5)) ++ H))) sp_ ?_
        refine DN.blocks (row b8 [.int .u32 n.epoch.toNat, .slice io (ks.length + 1) ic7] 82 :: (H7 ++ (D7 ++ H))) (List.Perm.cons _ (List.Perm.append_left _ (hp7.symm.append_right _))) ?_
        refine DN.retCT (s := 2) (H7 ++ (D7 ++ H)) Tryz.results59 kr_ rfl rfl mem_ (by rfl) sp_ ?_
        rw [keepK_ok (by rw [← hq]; exact h24) (by rw [← hq]; exact fun h => by rw [hz38.2 h] at h38; cases h38) (by rw [← hq]; exact h59) (by omega)]
        exact ⟨_, H7 ++ D7, rfl, ⟨_, H7, D7, by rw [insAt_len _ (pos_le _ _)]; exact hO7, hK7, rfl⟩, by rw [List.append_assoc]⟩
       ·refine WO.c rfl Wt.none rfl (Ent.func Tryz.call96 rfl) (own_tells (stepK n code reply) (.slice do_ n.data.length dc) (.slice ro reply.length rc) H hvd hvr (by have := hrt.2.2.2.1; omega) (by have := hrt.2.2.2.2.1; omega)) (Sp.p sp_) ?_
        rintro x5 H5 ⟨wa5, wr5, A5, B5, rfl, hA5, hB5, rfl⟩
        obtain ⟨o5, c5, rfl, hc5⟩ := hA5.form
        obtain ⟨o6, c6, rfl, hc6⟩ := hB5.form
        refine WA.two (i := 1) (j := 5) kr_ ?_ ?_
        ·refine WO.h rfl Wt.none rfl (Hd.load1 kr_ rfl mem_ (by rfl) ⟨_, rfl, ?_⟩)
         refine WA.one (i := 5) kr_ ?_
         refine WO.h rfl Wt.none rfl (Hd.buildA (e := 118) (sz := 6) (zs := [.int .u32 0, .int .i64 0, .bool false, .slice none 0 0, .int .i64 0, .slice none 0 0]) kr_ kr_ kr_ rfl rfl (by rfl) kr_ fun b86 => ⟨_, rfl, ?_⟩)
         refine WA.one (i := 6) kr_ ?_
         refine WO.c rfl Wt.none rfl (Ent.func Tryz.call95 rfl) (insert_tells _ ks.length cs2 C2 hO2 hK2.one (by omega) (pos ks (stepK n code reply).num) (pos_le _ _) b86 (kc (stepK n code reply) (.slice o5 _ c5) (.slice o6 _ c6)) rfl (kc_one rfl rfl)) (Sp.p sp_) ?_
         intro r7 H7 hO7
         obtain ⟨D7, hK7, hp7⟩ := hK2.ins (pos_le ks (stepK n code reply).num) hA5 hB5
         obtain ⟨io, ic7, rfl, hic7⟩ := hO7.form
         refine WA.y (i := 7) (NoPanic.then (NoPanic.body)) rfl kr_ kr_ kr_ rfl (Yd.fieldAddr (k := 1) kr_ rfl) ?_
         refine WA.one (i := 8) kr_ ?_
         refine WO.s rfl Wt.none (Hd.store1s kr_ rfl rfl (by rfl) fr_ (by rfl) (by first | (simp only [List.set_cons_zero, List.set_cons_succ, Nat.zero_add, Nat.add_zero, Nat.reduceAdd]; rfl) | rfl) ⟨rfl, ?_⟩)
         refine WA.done kr_ ?_
         refine ts_ ?_
         refine WC.region ?_
         refine WL.h rfl (Hd.loadAll (n := 2) kr_ rfl mem_ (by rfl) ⟨_, rfl, ?_⟩)
         refine WL.s (Hd.storeAll (n := 2) kr_ rfl rfl (by rfl) one_ fr_ (by rfl) ⟨rfl, ?_⟩)
         refine a_ rfl rfl ?_
         refine nt_ ?_
         refine WC.ret ?_
         refine DN.fit (C := row b8 [.int .u32 n.epoch.toNat, .slice io (ks.length + 1) ic7] 82 :: (H7 ++ ((D2 ++ (A5 ++ B5)) ++ H))) sp_ ?_
         refine DN.blocks (row b8 [.int .u32 n.epoch.toNat, .slice io (ks.length + 1) ic7] 82 :: (H7 ++ (D7 ++ H))) (List.Perm.cons _ (List.Perm.append_left _ (hp7.symm.append_right _))) ?_
         refine DN.retCT (s := 2) (H7 ++ (D7 ++ H)) Tryz.results59 kr_ rfl rfl mem_ (by rfl) sp_ ?_
         rw [keepK_ok (by rw [← hq]; exact h24) (by rw [← hq]; exact fun h => by rw [hz38.2 h] at h38; cases h38) (by rw [← hq]; exact h59) (by omega)]
         exact ⟨_, H7 ++ D7, rfl, ⟨_, H7, D7, by rw [insAt_len _ (pos_le _ _)]; exact hO7, hK7, rfl⟩, by rw [List.append_assoc]⟩
        ·refine WO.h rfl Wt.none rfl (Hd.buildA (e := 118) (sz := 6) (zs := [.int .u32 0, .int .i64 0, .bool false, .slice none 0 0, .int .i64 0, .slice none 0 0]) kr_ kr_ kr_ rfl rfl (by rfl) kr_ fun b86 => ⟨_, rfl, ?_⟩)
         refine WA.one (i := 1) kr_ ?_
         refine WO.h rfl Wt.none rfl (Hd.load1 kr_ rfl mem_ (by rfl) ⟨_, rfl, ?_⟩)
         refine WA.one (i := 6) kr_ ?_
         refine WO.c rfl Wt.none rfl (Ent.func Tryz.call95 rfl) (insert_tells _ ks.length cs2 C2 hO2 hK2.one (by omega) (pos ks (stepK n code reply).num) (pos_le _ _) b86 (kc (stepK n code reply) (.slice o5 _ c5) (.slice o6 _ c6)) rfl (kc_one rfl rfl)) (Sp.p sp_) ?_
         intro r7 H7 hO7
         obtain ⟨D7, hK7, hp7⟩ := hK2.ins (pos_le ks (stepK n code reply).num) hA5 hB5
         obtain ⟨io, ic7, rfl, hic7⟩ := hO7.form
         refine WA.y (i := 7) (NoPanic.then (NoPanic.body)) rfl kr_ kr_ kr_ rfl (Yd.fieldAddr (k := 1) kr_ rfl) ?_
         refine WA.one (i := 8) kr_ ?_
         refine WO.s rfl Wt.none (Hd.store1s kr_ rfl rfl (by rfl) fr_ (by rfl) (by first | (simp only [List.set_cons_zero, List.set_cons_succ, Nat.zero_add, Nat.add_zero, Nat.reduceAdd]; rfl) | rfl) ⟨rfl, ?_⟩)
         refine WA.done kr_ ?_
         refine ts_ ?_
         refine WC.region ?_
         refine WL.h rfl (Hd.loadAll (n := 2) kr_ rfl mem_ (by rfl) ⟨_, rfl, ?_⟩)
         refine WL.s (Hd.storeAll (n := 2) kr_ rfl rfl (by rfl) one_ fr_ (by rfl) ⟨rfl, ?_⟩)
         refine a_ rfl rfl ?_
         refine nt_ ?_
         refine WC.ret ?_
         refine DN.fit (C := row b8 [.int .u32 n.epoch.toNat, .slice io (ks.length + 1) ic7] 82 :: (H7 ++ ((D2 ++ (A5 ++ B5)) ++ H))) sp_ ?_
         refine DN.blocks (row b8 [.int .u32 n.epoch.toNat, .slice io (ks.length + 1) ic7] 82 :: (H7 ++ (D7 ++ H))) (List.Perm.cons _ (List.Perm.append_left _ (hp7.symm.append_right _))) ?_
         refine DN.retCT (s := 2) (H7 ++ (D7 ++ H)) Tryz.results59 kr_ rfl rfl mem_ (by rfl) sp_ ?_
         rw [keepK_ok (by rw [← hq]; exact h24) (by rw [← hq]; exact fun h => by rw [hz38.2 h] at h38; cases h38) (by rw [← hq]; exact h59) (by omega)]
         exact ⟨_, H7 ++ D7, rfl, ⟨_, H7, D7, by rw [insAt_len _ (pos_le _ _)]; exact hO7, hK7, rfl⟩, by rw [List.append_assoc]⟩
end Go.Proofs.YtkamlondepceiaaGreat
