/-
  Lemmas and walks that CrewUndone stands on (part 5); no condition.
-/
import Derived.Orders
import Derived.Tactics
import Derived.Scope
import Derived.Below
import Derived.WalkKit
import Derived.KernelRfl
import Derived.Laws.RangeString
import Derived.Laws.StructEq
import Derived.Lib.AppendZerosOnto
import Derived.Laws.CopyRow
import Derived.Lib.Overlaps
import Derived.Laws.IdiomStrings
import Derived.Deep.Quiet
import Derived.Lib.Bytealg
import Derived.Shelf.SlSortCmp.NoneTotal
import Derived.ProofKit
import Derived.OpenShut
import Derived.ShutString
import Derived.ChangeOld
import Derived.Test.YtkamlondepceiaaGreatRows
import Derived.Ground.SlsfProg
import Derived.Shelf.Small.Strs
import Derived.Test.YtkamlondepceiaaGreatCrewUndoneB4

set_option linter.unusedVariables false
set_option linter.unusedSimpArgs false
set_option maxHeartbeats 4000000
namespace Go.Proofs.YtkamlondepceiaaGreat
open Go.SL
theorem serve_tells (p : Nat) (s : Cw) (C : List Ck) (h : CwAt 189 198 203 3 5 118 111 22 116 p s C) {g0 : List Gd} {u0 : List Au} {r0 : List Int} (inv : CInv g0 u0 r0 s) (n : Nt) (vk vd : Value) (H : List Ck) (hvk : Bs vk n.key H) (hvd : Bs vd n.data H) : Tells Tryz.prog 22 [.pointer (some ⟨p, 0, none⟩), .agg (ntc n vk vd).toArray] (C ++ H) fun r H' => ∃ C' w A, r = .agg (ntc (serveN s n) (.slice none 0 0) w).toArray ∧ CwAt 189 198 203 3 5 118 111 22 116 p (serveS s n) C' ∧ Ob 5 w (serveN s n).data A ∧ H' = C' ++ (A ++ H) := by
 refine Tells.enter Tryz.func22 rfl Tryz.ntmps22 rfl ?_
 intro w0 R
 have hAt := h
 have hck := inv.ck
 have h200 := hck.1
 have hefl := inv.ef
 have hnol := inv.no
 obtain ⟨pd, ps, pp, vL, vE, vN, CS, CP, CD, CF, CE, cn, CN, DO, rfl, hS, hP, hD, hF, hE, hN, hO⟩ := h
 obtain ⟨lo, lc, rfl⟩ := hF.form
 obtain ⟨eo, ec, rfl, hec⟩ := hE.form
 obtain ⟨no, nc, rfl, hnc⟩ := hN.form
 obtain ⟨ko, kc9, rfl, hkc⟩ := hvk.form
 obtain ⟨do_, dc, rfl, hdc⟩ := hvd.form
 obtain ⟨q, hq⟩ : ∃ q, q = askK s.e s.ks n := ⟨_, rfl⟩
 have hkr : q.2.1.reply.length ≤ 255 := by rw [hq]; exact ask_reply hck
 obtain ⟨act, kk, er⟩ := q
 have hkr : kk.reply.length ≤ 255 := hkr
 have hq1 : (askK s.e s.ks n).1 = act := by rw [← hq]
 have hq2 : (askK s.e s.ks n).2.1 = kk := by rw [← hq]
 have hq3 : (askK s.e s.ks n).2.2 = er := by rw [← hq]
 refine sr_ ?_
 refine WL.h rfl (Hd.boxA rfl fun b3 => ⟨_, rfl, ?_⟩)
 refine WL.h rfl (Hd.alloc (zs := [.int .i64 0, .int .u32 0, .int .u32 0, .int .u64 0, .int .u64 0, .int .u32 0, .int .i64 0, .bool false, .int .i64 0, .slice none 0 0, .slice none 0 0]) kr_ fun b4 => ⟨_, rfl, ?_⟩)
 refine nt_ ?_
 refine WC.seq ?_
 refine sr_ ?_
 refine m_ rfl rfl ?_
 refine WL.y rfl (Yd.eqlNil Tryz.underlying40 rfl rfl) ?_
 refine WL.renamed (t := 11) (v := .bool false) rfl (congrArg Value.bool (rfl)) ?_
 refine nt_ ?_
 refine WC.no rfl ?_
 refine WC.skip ?_
 refine DN.then_normal ?_
 refine WC.cutK (fun z : Nat × (Option Addr × Nat) × (Option Addr × Nat) × List Ck × List Ck => Ob 5 (.slice z.2.1.1 kk.asked.length z.2.1.2) kk.asked z.2.2.2.1 ∧ Ob 5 (.slice z.2.2.1.1 kk.reply.length z.2.2.1.2) kk.reply z.2.2.2.2) (fun z : Nat × (Option Addr × Nat) × (Option Addr × Nat) × List Ck × List Ck => [(5, .int .i64 act), (6, .pointer (some ⟨z.1, 0, none⟩)), (7, .int .i64 er)]) (fun z : Nat × (Option Addr × Nat) × (Option Addr × Nat) × List Ck × List Ck => row z.1 (kc kk (.slice z.2.1.1 kk.asked.length z.2.1.2) (.slice z.2.2.1.1 kk.reply.length z.2.2.1.2)) 118 :: (z.2.2.2.1 ++ (z.2.2.2.2 ++ ((row p [.pointer (some ⟨pd, 0, none⟩), .pointer (some ⟨ps, 0, none⟩), .pointer (some ⟨pp, 0, none⟩), .int .u32 s.e.toNat, .slice lo s.ks.length lc, .slice eo s.ef.length ec, .slice no s.no.length nc] 116 :: (CS ++ (CP ++ (CD ++ (CF ++ (CE ++ (CN ++ DO))))))) ++ (row b4 [.int .i64 0, .int .u32 0, .int .u32 0, .int .u64 0, .int .u64 0, .int .u32 0, .int .i64 0, .bool false, .int .i64 0, .slice none 0 0, .slice none 0 0] 52 :: (row b3 (ntc n (.slice ko n.key.length kc9) (.slice do_ n.data.length dc)) 52 :: H)))))) ?_ ?_
 ·refine WC.draw 14 kr_ rfl ?_
  refine WA.float (N := 14) rfl ?_
  refine WAF.add (i := 0) (d := 14) rfl (QF.mk [] [] rfl rfl kr_ rfl (QAt.y Wt.none (Yd.move rfl))) ?_
  refine WAF.add (i := 1) (d := 15) rfl (QF.mk [0] [(14, _)] rfl rfl kr_ rfl (QAt.y Wt.none (Yd.notNil rfl))) ?_
  refine WAF.add (i := 2) (d := 16) rfl (QF.mk [1] [(15, _)] rfl rfl kr_ rfl (QAt.y Wt.none (Yd.fieldAddr (k := 3) kr_ rfl))) ?_
  refine WAF.add (i := 3) (d := 17) rfl (QF.mk [2] [(16, _)] rfl rfl kr_ rfl (QAt.rd Wt.none (Rd.loadA (n := 2) (vs := [_, _]) kr_ rfl mem_ (by rfl) (by rfl)))) ?_
  refine WAF.add (i := 4) (d := 18) rfl (QF.mk [] [] rfl rfl kr_ rfl (QAt.rd Wt.none (Rd.loadAll (n := 11) kr_ rfl mem_ (by rfl)))) ?_
  refine WAF.step (pd := [(4, 18), (3, 17), (2, 16), (1, 15), (0, 14)]) [(5, [4, 3]), (10, [])] rfl kr_ kr_ (all_c rfl (all_c rfl (all_c rfl (all_c rfl (all_c rfl (all_n)))))) (all_c (QF.mk [] [] rfl rfl kr_ rfl (QAt.rd Wt.none (Rd.loadAll (n := 11) kr_ rfl mem_ (by rfl)))) (all_c (QF.mk [2] [(16, _)] rfl rfl kr_ rfl (QAt.rd Wt.none (Rd.loadA (n := 2) (vs := [_, _]) kr_ rfl mem_ (by rfl) (by rfl)))) (all_c (QF.mk [1] [(15, _)] rfl rfl kr_ rfl (QAt.y Wt.none (Yd.fieldAddr (k := 3) kr_ rfl))) (all_c (QF.mk [0] [(14, _)] rfl rfl kr_ rfl (QAt.y Wt.none (Yd.notNil rfl))) (all_c (QF.mk [] [] rfl rfl kr_ rfl (QAt.y Wt.none (Yd.move rfl))) (all_n)))))) (all_c ?_ (all_c ?_ (all_n)))
  ·change SO _ _ _ _ _ _ 5 ([(18, _), (17, _)] ++ _) _ _
   refine SO.c rfl Wt.none rfl (Ent.func Tryz.call55 rfl) (ask_tells s.e _ s.ks (CF ++ H) (hF.kv.mono gr_) (by omega) n _ _ (hvk.mono gr_) (hvd.mono gr_)) (Sp.p sp_) ?_
   rintro x H9 ⟨wa, wr, A, B, rfl, hA, hB, rfl⟩
   rw [← hq] at hA hB ⊢
   dsimp only at hA hB ⊢
   obtain ⟨oa, ca, rfl, _⟩ := hA.form
   obtain ⟨or_, cr, rfl, _⟩ := hB.form
   change WAF _ _ _ _ _ _ [(2, 16, _), (1, 15, _), (0, 14, _)] _ [5, 4, 3] ((19, _) :: ([(18, _), (17, _)] ++ _)) _
   refine WAF.add (i := 6) (d := 13) rfl (QF.mk [] [] rfl rfl kr_ rfl (QAt.y Wt.none (Yd.move rfl))) ?_
   refine WAF.add (i := 7) (d := 20) rfl (QF.mk [6] [(13, _)] rfl rfl kr_ rfl (QAt.y Wt.none (Yd.extract rfl rfl))) ?_
   refine WAF.add (i := 8) (d := 21) rfl (QF.mk [6] [(13, _)] rfl rfl kr_ rfl (QAt.y Wt.none (Yd.extract rfl rfl))) ?_
   refine WAF.add (i := 9) (d := 22) rfl (QF.mk [6] [(13, _)] rfl rfl kr_ rfl (QAt.y Wt.none (Yd.extract rfl rfl))) ?_
   refine WAF.step (pd := [(9, 22), (8, 21), (7, 20), (6, 13), (2, 16), (1, 15), (0, 14)]) [(10, [])] rfl kr_ kr_ (all_c rfl (all_c rfl (all_c rfl (all_c rfl (all_c rfl (all_c rfl (all_c rfl (all_n)))))))) (all_c (QF.mk [6] [(13, _)] rfl rfl kr_ rfl (QAt.y Wt.none (Yd.extract rfl rfl))) (all_c (QF.mk [6] [(13, _)] rfl rfl kr_ rfl (QAt.y Wt.none (Yd.extract rfl rfl))) (all_c (QF.mk [6] [(13, _)] rfl rfl kr_ rfl (QAt.y Wt.none (Yd.extract rfl rfl))) (all_c (QF.mk [] [] rfl rfl kr_ rfl (QAt.y Wt.none (Yd.move rfl))) (all_c (QF.mk [1] [(15, _)] rfl rfl kr_ rfl (QAt.y Wt.none (Yd.fieldAddr (k := 3) kr_ rfl))) (all_c (QF.mk [0] [(14, _)] rfl rfl kr_ rfl (QAt.y Wt.none (Yd.notNil rfl))) (all_c (QF.mk [] [] rfl rfl kr_ rfl (QAt.y Wt.none (Yd.move rfl))) (all_n)))))))) (all_c ?_ (all_n))
   ·change SO _ _ _ _ _ _ 10 ([] ++ _) _ _
    refine SO.h rfl Wt.none rfl (Hd.alloc (zs := [.int .u32 0, .int .i64 0, .bool false, .slice none 0 0, .int .i64 0, .slice none 0 0]) kr_ fun b6 => ⟨_, rfl, ?_⟩)
    change WAF _ _ _ _ _ _ [(9, 22, _), (8, 21, _), (7, 20, _), (6, 13, _), (2, 16, _), (1, 15, _), (0, 14, _)] _ [10, 5, 4, 3] ((6, _) :: ([] ++ _)) _
    refine WAF.add (i := 11) (d := 5) rfl (QF.mk [7, 6, 2, 1, 0] [(20, _), (13, _), (16, _), (15, _), (14, _)] rfl rfl kr_ rfl (QAt.y Wt.none (Yd.assign rfl))) ?_
    refine WAF.step (pd := [(11, 5), (9, 22), (8, 21), (7, 20), (6, 13), (2, 16), (1, 15), (0, 14)]) [(12, [11, 8, 7, 6, 2, 1, 0])] rfl kr_ kr_ (all_c rfl (all_c rfl (all_c rfl (all_c rfl (all_c rfl (all_c rfl (all_c rfl (all_c rfl (all_n))))))))) (all_c (QF.mk [7, 6, 2, 1, 0] [(20, _), (13, _), (16, _), (15, _), (14, _)] rfl rfl kr_ rfl (QAt.y Wt.none (Yd.assign rfl))) (all_c (QF.mk [6] [(13, _)] rfl rfl kr_ rfl (QAt.y Wt.none (Yd.extract rfl rfl))) (all_c (QF.mk [6] [(13, _)] rfl rfl kr_ rfl (QAt.y Wt.none (Yd.extract rfl rfl))) (all_c (QF.mk [6] [(13, _)] rfl rfl kr_ rfl (QAt.y Wt.none (Yd.extract rfl rfl))) (all_c (QF.mk [] [] rfl rfl kr_ rfl (QAt.y Wt.none (Yd.move rfl))) (all_c (QF.mk [1] [(15, _)] rfl rfl kr_ rfl (QAt.y Wt.none (Yd.fieldAddr (k := 3) kr_ rfl))) (all_c (QF.mk [0] [(14, _)] rfl rfl kr_ rfl (QAt.y Wt.none (Yd.notNil rfl))) (all_c (QF.mk [] [] rfl rfl kr_ rfl (QAt.y Wt.none (Yd.move rfl))) (all_n))))))))) (all_c ?_ (all_n))
    ·change SO _ _ _ _ _ _ 12 ([(5, _), (21, _), (20, _), (13, _), (16, _), (15, _), (14, _)] ++ _) _ _
     refine SO.s rfl Wt.none (Hd.storeAll (n := 6) kr_ rfl rfl (by rfl) (kc_one rfl rfl) fr_ (by rfl) ⟨rfl, ?_⟩)
     change WAF _ _ _ _ _ _ [(9, 22, _)] _ [12, 11, 8, 7, 6, 2, 1, 0, 10, 5, 4, 3] (([(5, _), (21, _), (20, _), (13, _), (16, _), (15, _), (14, _)] ++ _)) _
     refine WAF.add (i := 13) (d := 7) rfl (QF.mk [9] [(22, _)] rfl rfl kr_ rfl (QAt.y Wt.none (Yd.assign rfl))) ?_
     refine WAF.done (pd := [(13, 7), (9, 22)]) rfl kr_ kr_ (all_c rfl (all_c rfl (all_n))) (all_c (QF.mk [9] [(22, _)] rfl rfl kr_ rfl (QAt.y Wt.none (Yd.assign rfl))) (all_c (QF.mk [] [] rfl rfl kr_ rfl (QAt.y Wt.none (Yd.extract rfl rfl))) (all_n))) ?_
     change DN _ _ _ _ _ _ ([(7, _), (22, _)] ++ _) _
     exact DN.reachK ((b6, (oa, ca), (or_, cr), A, B)) (⟨hA, hB⟩) (Sx.put rfl (Sx.put rfl (Sx.put rfl (sx_)))) (Sp.all sp_)
  ·change SO _ _ _ _ _ _ 10 ([] ++ _) _ _
   refine SO.h rfl Wt.none rfl (Hd.alloc (zs := [.int .u32 0, .int .i64 0, .bool false, .slice none 0 0, .int .i64 0, .slice none 0 0]) kr_ fun b6 => ⟨_, rfl, ?_⟩)
   change WAF _ _ _ _ _ _ [(4, 18, _), (3, 17, _), (2, 16, _), (1, 15, _), (0, 14, _)] _ [10] ((6, _) :: ([] ++ _)) _
   refine WAF.step (pd := [(4, 18), (3, 17), (2, 16), (1, 15), (0, 14)]) [(5, [4, 3])] rfl kr_ kr_ (all_c rfl (all_c rfl (all_c rfl (all_c rfl (all_c rfl (all_n)))))) (all_c (QF.mk [] [] rfl rfl kr_ rfl (QAt.rd Wt.none (Rd.loadAll (n := 11) kr_ rfl mem_ (by rfl)))) (all_c (QF.mk [2] [(16, _)] rfl rfl kr_ rfl (QAt.rd Wt.none (Rd.loadA (n := 2) (vs := [_, _]) kr_ rfl mem_ (by rfl) (by rfl)))) (all_c (QF.mk [1] [(15, _)] rfl rfl kr_ rfl (QAt.y Wt.none (Yd.fieldAddr (k := 3) kr_ rfl))) (all_c (QF.mk [0] [(14, _)] rfl rfl kr_ rfl (QAt.y Wt.none (Yd.notNil rfl))) (all_c (QF.mk [] [] rfl rfl kr_ rfl (QAt.y Wt.none (Yd.move rfl))) (all_n)))))) (all_c ?_ (all_n))
   ·change SO _ _ _ _ _ _ 5 ([(18, _), (17, _)] ++ _) _ _
    refine SO.c rfl Wt.none rfl (Ent.func Tryz.call55 rfl) (ask_tells s.e _ s.ks (CF ++ H) (hF.kv.mono gr_) (by omega) n _ _ (hvk.mono gr_) (hvd.mono gr_)) (Sp.p sp_) ?_
    rintro x H9 ⟨wa, wr, A, B, rfl, hA, hB, rfl⟩
    rw [← hq] at hA hB ⊢
    dsimp only at hA hB ⊢
    obtain ⟨oa, ca, rfl, _⟩ := hA.form
    obtain ⟨or_, cr, rfl, _⟩ := hB.form
    change WAF _ _ _ _ _ _ [(2, 16, _), (1, 15, _), (0, 14, _)] _ [5, 4, 3, 10] ((19, _) :: ([(18, _), (17, _)] ++ _)) _
    refine WAF.add (i := 6) (d := 13) rfl (QF.mk [] [] rfl rfl kr_ rfl (QAt.y Wt.none (Yd.move rfl))) ?_
    refine WAF.add (i := 7) (d := 20) rfl (QF.mk [6] [(13, _)] rfl rfl kr_ rfl (QAt.y Wt.none (Yd.extract rfl rfl))) ?_
    refine WAF.add (i := 8) (d := 21) rfl (QF.mk [6] [(13, _)] rfl rfl kr_ rfl (QAt.y Wt.none (Yd.extract rfl rfl))) ?_
    refine WAF.add (i := 9) (d := 22) rfl (QF.mk [6] [(13, _)] rfl rfl kr_ rfl (QAt.y Wt.none (Yd.extract rfl rfl))) ?_
    refine WAF.add (i := 11) (d := 5) rfl (QF.mk [7, 6, 2, 1, 0] [(20, _), (13, _), (16, _), (15, _), (14, _)] rfl rfl kr_ rfl (QAt.y Wt.none (Yd.assign rfl))) ?_
    refine WAF.step (pd := [(11, 5), (9, 22), (8, 21), (7, 20), (6, 13), (2, 16), (1, 15), (0, 14)]) [(12, [11, 8, 7, 6, 2, 1, 0])] rfl kr_ kr_ (all_c rfl (all_c rfl (all_c rfl (all_c rfl (all_c rfl (all_c rfl (all_c rfl (all_c rfl (all_n))))))))) (all_c (QF.mk [7, 6, 2, 1, 0] [(20, _), (13, _), (16, _), (15, _), (14, _)] rfl rfl kr_ rfl (QAt.y Wt.none (Yd.assign rfl))) (all_c (QF.mk [6] [(13, _)] rfl rfl kr_ rfl (QAt.y Wt.none (Yd.extract rfl rfl))) (all_c (QF.mk [6] [(13, _)] rfl rfl kr_ rfl (QAt.y Wt.none (Yd.extract rfl rfl))) (all_c (QF.mk [6] [(13, _)] rfl rfl kr_ rfl (QAt.y Wt.none (Yd.extract rfl rfl))) (all_c (QF.mk [] [] rfl rfl kr_ rfl (QAt.y Wt.none (Yd.move rfl))) (all_c (QF.mk [1] [(15, _)] rfl rfl kr_ rfl (QAt.y Wt.none (Yd.fieldAddr (k := 3) kr_ rfl))) (all_c (QF.mk [0] [(14, _)] rfl rfl kr_ rfl (QAt.y Wt.none (Yd.notNil rfl))) (all_c (QF.mk [] [] rfl rfl kr_ rfl (QAt.y Wt.none (Yd.move rfl))) (all_n))))))))) (all_c ?_ (all_n))
    ·change SO _ _ _ _ _ _ 12 ([(5, _), (21, _), (20, _), (13, _), (16, _), (15, _), (14, _)] ++ _) _ _
     refine SO.s rfl Wt.none (Hd.storeAll (n := 6) kr_ rfl rfl (by rfl) (kc_one rfl rfl) fr_ (by rfl) ⟨rfl, ?_⟩)
     change WAF _ _ _ _ _ _ [(9, 22, _)] _ [12, 11, 8, 7, 6, 2, 1, 0, 5, 4, 3, 10] (([(5, _), (21, _), (20, _), (13, _), (16, _), (15, _), (14, _)] ++ _)) _
     refine WAF.add (i := 13) (d := 7) rfl (QF.mk [9] [(22, _)] rfl rfl kr_ rfl (QAt.y Wt.none (Yd.assign rfl))) ?_
     refine WAF.done (pd := [(13, 7), (9, 22)]) rfl kr_ kr_ (all_c rfl (all_c rfl (all_n))) (all_c (QF.mk [9] [(22, _)] rfl rfl kr_ rfl (QAt.y Wt.none (Yd.assign rfl))) (all_c (QF.mk [] [] rfl rfl kr_ rfl (QAt.y Wt.none (Yd.extract rfl rfl))) (all_n))) ?_
     change DN _ _ _ _ _ _ ([(7, _), (22, _)] ++ _) _
     exact DN.reachK ((b6, (oa, ca), (or_, cr), A, B)) (⟨hA, hB⟩) (Sx.put rfl (Sx.put rfl (Sx.put rfl (sx_)))) (Sp.all sp_)
 ·rintro ⟨b6, ⟨oa, ca⟩, ⟨or_, cr⟩, A, B⟩ ⟨hA, hB⟩
  dsimp only at hA hB ⊢
  refine WC.seq ?_
  refine WC.block ?_
  refine sr_ ?_
  refine m_ rfl rfl ?_
  refine WL.y rfl (Yd.eql rfl rfl) ?_
  refine a_ rfl rfl ?_
  refine nt_ ?_
  refine WC.ite rfl (fun h23 => ?_) (fun h23 => ?_)
  ·have e72 := hq3.trans h23
   refine WC.seq ?_
   refine WC.draw 13 kr_ rfl ?_
   refine WA.float (N := 13) rfl ?_
   refine WAF.add (i := 0) (d := 26) rfl (QF.mk [] [] rfl rfl kr_ rfl (QAt.y Wt.none (Yd.move rfl))) ?_
   refine WAF.add (i := 1) (d := 27) rfl (QF.mk [0] [(26, _)] rfl rfl kr_ rfl (QAt.y Wt.none (Yd.notNil rfl))) ?_
   refine WAF.add (i := 2) (d := 28) rfl (QF.mk [1] [(27, _)] rfl rfl kr_ rfl (QAt.y Wt.none (Yd.fieldAddr (k := 3) kr_ rfl))) ?_
   refine WAF.add (i := 3) (d := 29) rfl (QF.mk [2] [(28, _)] rfl rfl kr_ rfl (QAt.y Wt.none (Yd.fieldAddr (k := 0) kr_ rfl))) ?_
   refine WAF.add (i := 4) (d := 30) rfl (QF.mk [3] [(29, _)] rfl rfl kr_ rfl (QAt.rd Wt.none (Rd.load1 kr_ rfl mem_ (by rfl)))) ?_
   refine WAF.add (i := 5) (d := 31) rfl (QF.mk [] [] rfl rfl kr_ rfl (QAt.y Wt.none (Yd.fieldAddr (k := 5) kr_ rfl))) ?_
   refine WAF.add (i := 6) (d := 32) rfl (QF.mk [5] [(31, _)] rfl rfl kr_ rfl (QAt.rd Wt.none (Rd.load1 kr_ rfl mem_ (by rfl)))) ?_
   refine WAF.add (i := 7) (d := 33) rfl (QF.mk [] [] rfl rfl kr_ rfl (QAt.y Wt.none (Yd.fieldAddr (k := 6) kr_ rfl))) ?_
   refine WAF.add (i := 8) (d := 34) rfl (QF.mk [7] [(33, _)] rfl rfl kr_ rfl (QAt.rd Wt.none (Rd.load1 kr_ rfl mem_ (by rfl)))) ?_
   refine WAF.add (i := 9) (d := 35) rfl (QF.mk [] [] rfl rfl kr_ rfl (QAt.y Wt.none (Yd.fieldAddr (k := 7) kr_ rfl))) ?_
   refine WAF.add (i := 10) (d := 36) rfl (QF.mk [9] [(35, _)] rfl rfl kr_ rfl (QAt.rd Wt.none (Rd.load1 kr_ rfl mem_ (by rfl)))) ?_
   refine WAF.add (i := 11) (d := 37) rfl (QF.mk [10, 8, 6, 4] [(36, _), (34, _), (32, _), (30, _)] rfl rfl kr_ rfl (QAt.y Wt.none (Yd.buildL (pl := [(0, 1), (1, 1), (2, 1), (3, 1), (4, 1), (5, 1), (6, 1), (7, 1), (8, 1), (9, 1), (10, 1)]) (zs := [.int .i64 0, .int .u32 0, .int .u32 0, .int .u64 0, .int .u64 0, .int .u32 0, .int .i64 0, .bool false, .int .i64 0, .slice none 0 0, .slice none 0 0]) (parts := [(0, .const (.int .i64 9)), (1, .tmp 30), (5, .tmp 32), (6, .tmp 34), (7, .tmp 36)]) (vs := [(0, _), (1, _), (5, _), (6, _), (7, _)]) (cells := [_, _, .int .u32 0, .int .u64 0, .int .u64 0, _, _, _, .int .i64 0, .slice none 0 0, .slice none 0 0]) kr_ kr_ rfl rfl))) ?_
   refine WAF.step (pd := [(11, 37), (10, 36), (9, 35), (8, 34), (7, 33), (6, 32), (5, 31), (4, 30), (3, 29), (2, 28), (1, 27), (0, 26)]) [(12, [11, 10, 9, 8, 7, 6, 5, 4, 3, 2, 1, 0])] rfl kr_ kr_ (all_c rfl (all_c rfl (all_c rfl (all_c rfl (all_c rfl (all_c rfl (all_c rfl (all_c rfl (all_c rfl (all_c rfl (all_c rfl (all_c rfl (all_n))))))))))))) (all_c (QF.mk [10, 8, 6, 4] [(36, _), (34, _), (32, _), (30, _)] rfl rfl kr_ rfl (QAt.y Wt.none (Yd.buildL (pl := [(0, 1), (1, 1), (2, 1), (3, 1), (4, 1), (5, 1), (6, 1), (7, 1), (8, 1), (9, 1), (10, 1)]) (zs := [.int .i64 0, .int .u32 0, .int .u32 0, .int .u64 0, .int .u64 0, .int .u32 0, .int .i64 0, .bool false, .int .i64 0, .slice none 0 0, .slice none 0 0]) (parts := [(0, .const (.int .i64 9)), (1, .tmp 30), (5, .tmp 32), (6, .tmp 34), (7, .tmp 36)]) (vs := [(0, _), (1, _), (5, _), (6, _), (7, _)]) (cells := [_, _, .int .u32 0, .int .u64 0, .int .u64 0, _, _, _, .int .i64 0, .slice none 0 0, .slice none 0 0]) kr_ kr_ rfl rfl))) (all_c (QF.mk [9] [(35, _)] rfl rfl kr_ rfl (QAt.rd Wt.none (Rd.load1 kr_ rfl mem_ (by rfl)))) (all_c (QF.mk [] [] rfl rfl kr_ rfl (QAt.y Wt.none (Yd.fieldAddr (k := 7) kr_ rfl))) (all_c (QF.mk [7] [(33, _)] rfl rfl kr_ rfl (QAt.rd Wt.none (Rd.load1 kr_ rfl mem_ (by rfl)))) (all_c (QF.mk [] [] rfl rfl kr_ rfl (QAt.y Wt.none (Yd.fieldAddr (k := 6) kr_ rfl))) (all_c (QF.mk [5] [(31, _)] rfl rfl kr_ rfl (QAt.rd Wt.none (Rd.load1 kr_ rfl mem_ (by rfl)))) (all_c (QF.mk [] [] rfl rfl kr_ rfl (QAt.y Wt.none (Yd.fieldAddr (k := 5) kr_ rfl))) (all_c (QF.mk [3] [(29, _)] rfl rfl kr_ rfl (QAt.rd Wt.none (Rd.load1 kr_ rfl mem_ (by rfl)))) (all_c (QF.mk [2] [(28, _)] rfl rfl kr_ rfl (QAt.y Wt.none (Yd.fieldAddr (k := 0) kr_ rfl))) (all_c (QF.mk [1] [(27, _)] rfl rfl kr_ rfl (QAt.y Wt.none (Yd.fieldAddr (k := 3) kr_ rfl))) (all_c (QF.mk [0] [(26, _)] rfl rfl kr_ rfl (QAt.y Wt.none (Yd.notNil rfl))) (all_c (QF.mk [] [] rfl rfl kr_ rfl (QAt.y Wt.none (Yd.move rfl))) (all_n))))))))))))) (all_c ?_ (all_n))
   ·change SO _ _ _ _ _ _ 12 ([(37, _), (36, _), (35, _), (34, _), (33, _), (32, _), (31, _), (30, _), (29, _), (28, _), (27, _), (26, _)] ++ _) _ _
    refine SO.s rfl Wt.none (Hd.storeAll (n := 11) kr_ rfl rfl (by rfl) one_ fr_ (by rfl) ⟨rfl, ?_⟩)
    change WAF _ _ _ _ _ _ [] _ [12, 11, 10, 9, 8, 7, 6, 5, 4, 3, 2, 1, 0] (([(37, _), (36, _), (35, _), (34, _), (33, _), (32, _), (31, _), (30, _), (29, _), (28, _), (27, _), (26, _)] ++ _)) _
    refine WAF.done (pd := []) rfl kr_ kr_ (all_n) (all_n) ?_
    change DN _ _ _ _ _ _ ([] ++ _) _
    refine DN.then_normal ?_
    refine WC.ret ?_
    refine DN.block_ret ?_
    refine DN.then_ret ?_
    refine DN.retCS (s := 11) ((row p [.pointer (some ⟨pd, 0, none⟩), .pointer (some ⟨ps, 0, none⟩), .pointer (some ⟨pp, 0, none⟩), .int .u32 s.e.toNat, .slice lo s.ks.length lc, .slice eo s.ef.length ec, .slice no s.no.length nc] 116 :: (CS ++ (CP ++ (CD ++ (CF ++ (CE ++ (CN ++ DO))))))) ++ H) Tryz.results22 kr_ rfl mem_ (by rfl) sp_ ?_
    rw [(serve_72 (hq3.trans h23)).1, (serve_72 (hq3.trans h23)).2]
    exact ⟨_, _, [], rfl, ⟨pd, ps, pp, _, _, _, _, _, _, _, _, _, _, _, rfl, hS, hP, hD, hF, hE, hN, hO⟩, Ob.nil _, rfl⟩
  ·refine sr_ ?_
   refine m_ rfl rfl ?_
   refine WL.y rfl (Yd.eql rfl rfl) ?_
   refine a_ rfl rfl ?_
   refine nt_ ?_
   refine WC.ite rfl (fun h38 => ?_) (fun h38 => ?_)
   ·refine sr_ ?_
    refine m_ rfl rfl ?_
    refine n_ rfl rfl ?_
    refine f_ 3 kr_ rfl rfl ?_
    refine f_ 0 kr_ rfl rfl ?_
    refine d_ kr_ rfl mem_ (by rfl) rfl ?_
    refine WL.y rfl (Yd.buildL (pl := [(0, 1), (1, 1), (2, 1), (3, 1), (4, 1), (5, 1), (6, 1), (7, 1), (8, 1), (9, 1), (10, 1)]) (zs := [.int .i64 0, .int .u32 0, .int .u32 0, .int .u64 0, .int .u64 0, .int .u32 0, .int .i64 0, .bool false, .int .i64 0, .slice none 0 0, .slice none 0 0]) (parts := [(0, .const (.int .i64 6)), (1, .tmp 45), (8, .const (.int .i64 2))]) (vs := [(0, _), (1, _), (8, _)]) (cells := [_, _, .int .u32 0, .int .u64 0, .int .u64 0, .int .u32 0, .int .i64 0, .bool false, _, .slice none 0 0, .slice none 0 0]) kr_ kr_ rfl rfl) ?_
    refine WL.s (Hd.storeAll (n := 11) kr_ rfl rfl (by rfl) one_ fr_ (by rfl) ⟨rfl, ?_⟩)
    refine nt_ ?_
    refine WC.ret ?_
    refine DN.block_ret ?_
    refine DN.then_ret ?_
    refine DN.retCS (s := 11) ((row p [.pointer (some ⟨pd, 0, none⟩), .pointer (some ⟨ps, 0, none⟩), .pointer (some ⟨pp, 0, none⟩), .int .u32 s.e.toNat, .slice lo s.ks.length lc, .slice eo s.ef.length ec, .slice no s.no.length nc] 116 :: (CS ++ (CP ++ (CD ++ (CF ++ (CE ++ (CN ++ DO))))))) ++ H) Tryz.results22 kr_ rfl mem_ (by rfl) sp_ ?_
    rw [(serve_80 (fun e => h23 (hq3.symm.trans e)) (hq3.trans h38)).1, (serve_80 (fun e => h23 (hq3.symm.trans e)) (hq3.trans h38)).2]
    exact ⟨_, _, [], rfl, ⟨pd, ps, pp, _, _, _, _, _, _, _, _, _, _, _, rfl, hS, hP, hD, hF, hE, hN, hO⟩, Ob.nil _, rfl⟩
   ·refine sr_ ?_
    refine m_ rfl rfl ?_
    refine WL.y rfl (Yd.neq rfl rfl) ?_
    refine a_ rfl rfl ?_
    refine nt_ ?_
    refine WC.ite rfl (fun h47 => ?_) (fun h47 => ?_)
    ·refine sr_ ?_
     refine m_ rfl rfl ?_
     refine n_ rfl rfl ?_
     refine f_ 3 kr_ rfl rfl ?_
     refine f_ 0 kr_ rfl rfl ?_
     refine d_ kr_ rfl mem_ (by rfl) rfl ?_
     refine WL.y rfl (Yd.buildL (pl := [(0, 1), (1, 1), (2, 1), (3, 1), (4, 1), (5, 1), (6, 1), (7, 1), (8, 1), (9, 1), (10, 1)]) (zs := [.int .i64 0, .int .u32 0, .int .u32 0, .int .u64 0, .int .u64 0, .int .u32 0, .int .i64 0, .bool false, .int .i64 0, .slice none 0 0, .slice none 0 0]) (parts := [(0, .const (.int .i64 6)), (1, .tmp 54), (8, .const (.int .i64 1))]) (vs := [(0, _), (1, _), (8, _)]) (cells := [_, _, .int .u32 0, .int .u64 0, .int .u64 0, .int .u32 0, .int .i64 0, .bool false, _, .slice none 0 0, .slice none 0 0]) kr_ kr_ rfl rfl) ?_
     refine WL.s (Hd.storeAll (n := 11) kr_ rfl rfl (by rfl) one_ fr_ (by rfl) ⟨rfl, ?_⟩)
     refine nt_ ?_
     refine WC.ret ?_
     refine DN.block_ret ?_
     refine DN.then_ret ?_
     refine DN.retCS (s := 11) ((row p [.pointer (some ⟨pd, 0, none⟩), .pointer (some ⟨ps, 0, none⟩), .pointer (some ⟨pp, 0, none⟩), .int .u32 s.e.toNat, .slice lo s.ks.length lc, .slice eo s.ef.length ec, .slice no s.no.length nc] 116 :: (CS ++ (CP ++ (CD ++ (CF ++ (CE ++ (CN ++ DO))))))) ++ H) Tryz.results22 kr_ rfl mem_ (by rfl) sp_ ?_
     rw [(serve_no (fun e => h23 (hq3.symm.trans e)) (fun e => h38 (hq3.symm.trans e)) (by rw [hq3]; exact h47)).1, (serve_no (fun e => h23 (hq3.symm.trans e)) (fun e => h38 (hq3.symm.trans e)) (by rw [hq3]; exact h47)).2]
     exact ⟨_, _, [], rfl, ⟨pd, ps, pp, _, _, _, _, _, _, _, _, _, _, _, rfl, hS, hP, hD, hF, hE, hN, hO⟩, Ob.nil _, rfl⟩
    ·have her : (askK s.e s.ks n).2.2 = 0 := hq3.trans (Classical.byContradiction h47)
     have hgo := askK_ok her
     have hdl : n.data.length ≤ 1000 := by
       have h9 : noteBad n = false := by
         cases e9 : noteBad n
         · rfl
         · exact absurd (.inr (.inr (.inl e9))) hgo.1
       have := (noteBad_step h9).2.2
       omega
     refine sr_ ?_
     refine m_ rfl rfl ?_
     refine WL.y rfl (Yd.eql rfl rfl) ?_
     refine a_ rfl rfl ?_
     refine nt_ ?_
     refine WC.ite rfl (fun h56 => ?_) (fun h56 => ?_)
     ·refine WC.seq ?_
      refine WC.draw 14 kr_ rfl ?_
      refine WA.float (N := 14) rfl ?_
      refine WAF.add (i := 0) (d := 60) rfl (QF.mk [] [] rfl rfl kr_ rfl (QAt.y Wt.none (Yd.move rfl))) ?_
      refine WAF.add (i := 1) (d := 61) rfl (QF.mk [] [] rfl rfl kr_ rfl (QAt.y Wt.none (Yd.move rfl))) ?_
      refine WAF.add (i := 2) (d := 62) rfl (QF.mk [1] [(61, _)] rfl rfl kr_ rfl (QAt.y Wt.none (Yd.notNil rfl))) ?_
      refine WAF.add (i := 3) (d := 63) rfl (QF.mk [2] [(62, _)] rfl rfl kr_ rfl (QAt.y Wt.none (Yd.fieldAddr (k := 3) kr_ rfl))) ?_
      refine WAF.add (i := 4) (d := 64) rfl (QF.mk [3] [(63, _)] rfl rfl kr_ rfl (QAt.rd Wt.none (Rd.loadA (n := 2) (vs := [_, _]) kr_ rfl mem_ (by rfl) (by rfl)))) ?_
      refine WAF.add (i := 5) (d := 65) rfl (QF.mk [] [] rfl rfl kr_ rfl (QAt.y Wt.none (Yd.fieldAddr (k := 1) kr_ rfl))) ?_
      refine WAF.add (i := 6) (d := 66) rfl (QF.mk [5] [(65, _)] rfl rfl kr_ rfl (QAt.rd Wt.none (Rd.load1 kr_ rfl mem_ (by rfl)))) ?_
      refine WAF.step (pd := [(6, 66), (5, 65), (4, 64), (3, 63), (2, 62), (1, 61), (0, 60)]) [(7, [6, 4])] rfl kr_ kr_ (all_c rfl (all_c rfl (all_c rfl (all_c rfl (all_c rfl (all_c rfl (all_c rfl (all_n)))))))) (all_c (QF.mk [5] [(65, _)] rfl rfl kr_ rfl (QAt.rd Wt.none (Rd.load1 kr_ rfl mem_ (by rfl)))) (all_c (QF.mk [] [] rfl rfl kr_ rfl (QAt.y Wt.none (Yd.fieldAddr (k := 1) kr_ rfl))) (all_c (QF.mk [3] [(63, _)] rfl rfl kr_ rfl (QAt.rd Wt.none (Rd.loadA (n := 2) (vs := [_, _]) kr_ rfl mem_ (by rfl) (by rfl)))) (all_c (QF.mk [2] [(62, _)] rfl rfl kr_ rfl (QAt.y Wt.none (Yd.fieldAddr (k := 3) kr_ rfl))) (all_c (QF.mk [1] [(61, _)] rfl rfl kr_ rfl (QAt.y Wt.none (Yd.notNil rfl))) (all_c (QF.mk [] [] rfl rfl kr_ rfl (QAt.y Wt.none (Yd.move rfl))) (all_c (QF.mk [] [] rfl rfl kr_ rfl (QAt.y Wt.none (Yd.move rfl))) (all_n)))))))) (all_c ?_ (all_n))
      ·change SO _ _ _ _ _ _ 7 ([(66, _), (64, _)] ++ _) _ _
       refine SO.c rfl Wt.none rfl (Ent.func Tryz.call56 rfl) (see_tells s.e _ s.ks CF hF.kv (by omega) n.epoch) (Sp.p sp_) ?_
       rintro x H9 ⟨ws, DS, rfl, hSF, rfl⟩
       obtain ⟨so, sc, rfl⟩ := hSF.form
       change WAF _ _ _ _ _ _ [(5, 65, _), (3, 63, _), (2, 62, _), (1, 61, _), (0, 60, _)] _ [7, 6, 4] ((67, _) :: ([(66, _), (64, _)] ++ _)) _
       refine WAF.add (i := 8) (d := 59) rfl (QF.mk [] [] rfl rfl kr_ rfl (QAt.y Wt.none (Yd.move rfl))) ?_
       refine WAF.add (i := 9) (d := 68) rfl (QF.mk [8] [(59, _)] rfl rfl kr_ rfl (QAt.y Wt.none (Yd.extract rfl rfl))) ?_
       refine WAF.add (i := 10) (d := 69) rfl (QF.mk [8] [(59, _)] rfl rfl kr_ rfl (QAt.y Wt.none (Yd.extract rfl rfl))) ?_
       refine WAF.add (i := 11) (d := 70) rfl (QF.mk [9, 8, 5, 3, 2, 1, 0] [(68, _), (59, _), (65, _), (63, _), (62, _), (61, _), (60, _)] rfl rfl kr_ rfl (QAt.y Wt.none (Yd.notNil rfl))) ?_
       refine WAF.add (i := 12) (d := 71) rfl (QF.mk [11, 9, 8, 5, 3, 2, 1, 0] [(70, _), (68, _), (59, _), (65, _), (63, _), (62, _), (61, _), (60, _)] rfl rfl kr_ rfl (QAt.y Wt.none (Yd.fieldAddr (k := 3) kr_ rfl))) ?_
       refine WAF.step (pd := [(12, 71), (11, 70), (10, 69), (9, 68), (8, 59), (5, 65), (3, 63), (2, 62), (1, 61), (0, 60)]) [(13, [12, 9, 8, 5, 3, 2, 1, 0])] rfl kr_ kr_ (all_c rfl (all_c rfl (all_c rfl (all_c rfl (all_c rfl (all_c rfl (all_c rfl (all_c rfl (all_c rfl (all_c rfl (all_n))))))))))) (all_c (QF.mk [11, 9, 8, 5, 3, 2, 1, 0] [(70, _), (68, _), (59, _), (65, _), (63, _), (62, _), (61, _), (60, _)] rfl rfl kr_ rfl (QAt.y Wt.none (Yd.fieldAddr (k := 3) kr_ rfl))) (all_c (QF.mk [9, 8, 5, 3, 2, 1, 0] [(68, _), (59, _), (65, _), (63, _), (62, _), (61, _), (60, _)] rfl rfl kr_ rfl (QAt.y Wt.none (Yd.notNil rfl))) (all_c (QF.mk [8] [(59, _)] rfl rfl kr_ rfl (QAt.y Wt.none (Yd.extract rfl rfl))) (all_c (QF.mk [8] [(59, _)] rfl rfl kr_ rfl (QAt.y Wt.none (Yd.extract rfl rfl))) (all_c (QF.mk [] [] rfl rfl kr_ rfl (QAt.y Wt.none (Yd.move rfl))) (all_c (QF.mk [] [] rfl rfl kr_ rfl (QAt.y Wt.none (Yd.fieldAddr (k := 1) kr_ rfl))) (all_c (QF.mk [2] [(62, _)] rfl rfl kr_ rfl (QAt.y Wt.none (Yd.fieldAddr (k := 3) kr_ rfl))) (all_c (QF.mk [1] [(61, _)] rfl rfl kr_ rfl (QAt.y Wt.none (Yd.notNil rfl))) (all_c (QF.mk [] [] rfl rfl kr_ rfl (QAt.y Wt.none (Yd.move rfl))) (all_c (QF.mk [] [] rfl rfl kr_ rfl (QAt.y Wt.none (Yd.move rfl))) (all_n))))))))))) (all_c ?_ (all_n))
       ·change SO _ _ _ _ _ _ 13 ([(71, _), (68, _), (59, _), (65, _), (63, _), (62, _), (61, _), (60, _)] ++ _) _ _
        refine SO.s rfl Wt.none (Hd.storeP (n := 2) kr_ rfl rfl (by rfl) one_ fr_ (by show 0 + 3 + 2 ≤ 7; decide) (by rfl) ⟨rfl, ?_⟩)
        change WAF _ _ _ _ _ _ [(11, 70, _), (10, 69, _)] _ [13, 12, 9, 8, 5, 3, 2, 1, 0, 7, 6, 4] (([(71, _), (68, _), (59, _), (65, _), (63, _), (62, _), (61, _), (60, _)] ++ _)) _
        refine WAF.done (pd := [(11, 70), (10, 69)]) rfl kr_ kr_ (all_c rfl (all_c rfl (all_n))) (all_c (QF.mk [] [] rfl rfl kr_ rfl (QAt.y Wt.none (Yd.notNil rfl))) (all_c (QF.mk [] [] rfl rfl kr_ rfl (QAt.y Wt.none (Yd.extract rfl rfl))) (all_n))) ?_
        change DN _ _ _ _ _ _ ([(70, _), (69, _)] ++ _) _
        refine ts_ ?_
        refine WC.region ?_
        refine WL.h rfl (Hd.loadAll (n := 11) kr_ rfl mem_ (by rfl) ⟨_, rfl, ?_⟩)
        refine f_ 4 kr_ rfl rfl ?_
        refine d_ kr_ rfl mem_ (by rfl) rfl ?_
        refine f_ 5 kr_ rfl rfl ?_
        refine d_ kr_ rfl mem_ (by rfl) rfl ?_
        refine WL.c rfl (Ent.func Tryz.call57 rfl) (done_tells n _ _ ⟨_, _, rfl⟩ ⟨_, _, rfl⟩ kk.code _ kk.reply B hB.bs (by omega)) (Sp.p sp_) ?_
        rintro x H9 ⟨wd, AD, rfl, hAD, rfl⟩
        obtain ⟨od, cd, rfl, _⟩ := hAD.form
        refine WL.s (Hd.storeAll (n := 11) kr_ rfl rfl (by rfl) one_ fr_ (by rfl) ⟨rfl, ?_⟩)
        refine nt_ ?_
        refine WC.ret ?_
        refine DN.block_ret ?_
        refine DN.then_ret ?_
        refine DN.retCS (s := 11) ((row p [.pointer (some ⟨pd, 0, none⟩), .pointer (some ⟨ps, 0, none⟩), .pointer (some ⟨pp, 0, none⟩), .int .u32 (seeK s.e s.ks n.epoch).1.toNat, .slice so (seeK s.e s.ks n.epoch).2.1.length sc, .slice eo s.ef.length ec, .slice no s.no.length nc] 116 :: (CS ++ (CP ++ (CD ++ (DS ++ (CE ++ (CN ++ DO))))))) ++ (AD ++ H)) Tryz.results22 kr_ rfl mem_ (by rfl) sp_ ?_
        have g := serve_again (s := s) (n := n) (by rw [hq3]; exact h47) (hq1.trans h56)
        rw [hq2] at g
        rw [g.1, g.2]
        exact ⟨_, _, AD, rfl, ⟨pd, ps, pp, _, _, _, CS, CP, CD, DS, CE, cn, CN, DO, rfl, hS, hP, hD, hSF, hE, hN, hO⟩, hAD, rfl⟩
     ·refine sr_ ?_
      refine m_ rfl rfl ?_
      refine n_ rfl rfl ?_
      refine f_ 3 kr_ rfl rfl ?_
      refine f_ 1 kr_ rfl rfl ?_
      refine d_ kr_ rfl mem_ (by rfl) rfl ?_
      refine WL.y rfl (Yd.len (e := 118) kr_ rfl) ?_
      refine WL.y rfl (Yd.geq rfl rfl) ?_
      refine a_ rfl rfl ?_
      refine nt_ ?_
      refine WC.ite rfl (fun h78 => ?_) (fun h78 => ?_)
      ·refine sr_ ?_
       refine m_ rfl rfl ?_
       refine n_ rfl rfl ?_
       refine f_ 3 kr_ rfl rfl ?_
       refine f_ 0 kr_ rfl rfl ?_
       refine d_ kr_ rfl mem_ (by rfl) rfl ?_
       refine WL.y rfl (Yd.buildL (pl := [(0, 1), (1, 1), (2, 1), (3, 1), (4, 1), (5, 1), (6, 1), (7, 1), (8, 1), (9, 1), (10, 1)]) (zs := [.int .i64 0, .int .u32 0, .int .u32 0, .int .u64 0, .int .u64 0, .int .u32 0, .int .i64 0, .bool false, .int .i64 0, .slice none 0 0, .slice none 0 0]) (parts := [(0, .const (.int .i64 6)), (1, .tmp 90), (8, .const (.int .i64 3))]) (vs := [(0, _), (1, _), (8, _)]) (cells := [_, _, .int .u32 0, .int .u64 0, .int .u64 0, .int .u32 0, .int .i64 0, .bool false, _, .slice none 0 0, .slice none 0 0]) kr_ kr_ rfl rfl) ?_
       refine WL.s (Hd.storeAll (n := 11) kr_ rfl rfl (by rfl) one_ fr_ (by rfl) ⟨rfl, ?_⟩)
       refine nt_ ?_
       refine WC.ret ?_
       refine DN.block_ret ?_
       refine DN.then_ret ?_
       refine DN.retCS (s := 11) ((row p [.pointer (some ⟨pd, 0, none⟩), .pointer (some ⟨ps, 0, none⟩), .pointer (some ⟨pp, 0, none⟩), .int .u32 s.e.toNat, .slice lo s.ks.length lc, .slice eo s.ef.length ec, .slice no s.no.length nc] 116 :: (CS ++ (CP ++ (CD ++ (CF ++ (CE ++ (CN ++ DO))))))) ++ H) Tryz.results22 kr_ rfl mem_ (by rfl) sp_ ?_
       rw [(serve_full (by rw [hq3]; exact h47) (by rw [hq1]; exact h56) (by omega)).1, (serve_full (by rw [hq3]; exact h47) (by rw [hq1]; exact h56) (by omega)).2]
       exact ⟨_, _, [], rfl, ⟨pd, ps, pp, _, _, _, _, _, _, _, _, _, _, _, rfl, hS, hP, hD, hF, hE, hN, hO⟩, Ob.nil _, rfl⟩
      ·refine WC.skip ?_
       refine DN.block_normal ?_
       refine ts_ ?_
       refine WC.region ?_
       refine a_ rfl rfl ?_
       refine a_ rfl rfl ?_
       refine nt_ ?_
       refine WC.cutK (fun z : Int × List (BitVec 8) × List Ck × (Option Addr × Nat) × List Ck => z.1 = codeOf s n act ∧ z.2.1 = replyOf s n act ∧ CwAt 189 198 203 3 5 118 111 22 116 p (didS s n act) z.2.2.1 ∧ Ob 5 (.slice z.2.2.2.1.1 z.2.1.length z.2.2.2.1.2) z.2.1 z.2.2.2.2) (fun z : Int × List (BitVec 8) × List Ck × (Option Addr × Nat) × List Ck => [(8, .int .i64 z.1), (9, .slice z.2.2.2.1.1 z.2.1.length z.2.2.2.1.2)]) (fun z : Int × List (BitVec 8) × List Ck × (Option Addr × Nat) × List Ck => z.2.2.1 ++ (z.2.2.2.2 ++ (row b4 [.int .i64 0, .int .u32 0, .int .u32 0, .int .u64 0, .int .u64 0, .int .u32 0, .int .i64 0, .bool false, .int .i64 0, .slice none 0 0, .slice none 0 0] 52 :: (row b3 (ntc n (.slice ko n.key.length kc9) (.slice do_ n.data.length dc)) 52 :: H)))) ?_ ?_
       ·refine sr_ ?_
        refine m_ rfl rfl ?_
        refine nt_ ?_
        refine WC.block ?_
        refine sr_ ?_
        refine WL.y rfl (Yd.eql rfl rfl) ?_
        refine a_ rfl rfl ?_
        refine nt_ ?_
        refine WC.ite rfl (fun h93 => ?_) (fun h93 => ?_)
        ·refine WC.region ?_
         refine a_ rfl rfl ?_
         refine WL.nil ?_
         refine DN.block_normal ?_
         exact DN.reachS ((1, [], row p [.pointer (some ⟨pd, 0, none⟩), .pointer (some ⟨ps, 0, none⟩), .pointer (some ⟨pp, 0, none⟩), .int .u32 s.e.toNat, .slice lo s.ks.length lc, .slice eo s.ef.length ec, .slice no s.no.length nc] 116 :: (CS ++ (CP ++ (CD ++ (CF ++ (CE ++ (CN ++ DO)))))), (none, 0), [])) (by have g := did_4 (s := s) (n := n) h93; exact ⟨g.1.symm, g.2.1.symm, by rw [g.2.2]; exact ⟨pd, ps, pp, _, _, _, _, _, _, _, _, _, _, _, rfl, hS, hP, hD, hF, hE, hN, hO⟩, Ob.nil _⟩) (Sx.put rfl (Sx.put rfl (sx_))) sp_
        ·refine sr_ ?_
         refine WL.y rfl (Yd.eql rfl rfl) ?_
         refine a_ rfl rfl ?_
         refine nt_ ?_
         refine WC.ite rfl (fun h95 => ?_) (fun h95 => ?_)
         ·refine sr_ ?_
          refine m_ rfl rfl ?_
          refine WL.h rfl (Hd.loadAll (n := 11) kr_ rfl mem_ (by rfl) ⟨_, rfl, ?_⟩)
          refine WL.c rfl (Ent.func Tryz.call58 rfl) (do_tells p s _ hAt inv.st inv.pu inv.dk (by omega) n _ _ H ⟨_, _, rfl⟩ hvd hdl) (Sp.p sp_) ?_
          rintro x H9 ⟨C9, xr, AR, rfl, h9, hAR, rfl⟩
          obtain ⟨ro, rc, rfl, _⟩ := hAR.form
          refine m_ rfl rfl ?_
          refine x_ rfl rfl rfl ?_
          refine x_ rfl rfl rfl ?_
          refine a_ rfl rfl ?_
          refine a_ rfl rfl ?_
          refine ntsr_ ?_
          refine m_ rfl rfl ?_
          refine WL.y rfl (Yd.eql rfl rfl) ?_
          refine nt_ ?_
          refine WC.ite rfl (fun h104 => ?_) (fun h104 => ?_)
          ·have hF9 : (doS s n).ef.length = s.ef.length := by rw [do_fence.2.2]
           refine WC.draw 17 kr_ rfl ?_
           refine WA.float (N := 17) rfl ?_
           refine WAF.add (i := 0) (d := 105) rfl (QF.mk [] [] rfl rfl kr_ rfl (QAt.y Wt.none (Yd.move rfl))) ?_
           refine WAF.add (i := 1) (d := 106) rfl (QF.mk [] [] rfl rfl kr_ rfl (QAt.y Wt.none (Yd.move rfl))) ?_
           refine WAF.add (i := 2) (d := 107) rfl (QF.mk [1] [(106, _)] rfl rfl kr_ rfl (QAt.y Wt.none (Yd.notNil rfl))) ?_
           refine WAF.add (i := 3) (d := 108) rfl (QF.mk [2] [(107, _)] rfl rfl kr_ rfl (QAt.y Wt.none (Yd.fieldAddr (k := 5) kr_ rfl))) ?_
           obtain ⟨pd, ps, pp, vL, vE, vN, CS, CP, CD, CF, CE, cn, CN, DO, rfl, hS, hP, hD, hF, hE, hN, hO⟩ := h9
           obtain ⟨lo, lc, rfl⟩ := hF.form
           obtain ⟨eo, ec, rfl, hec⟩ := hE.form
           obtain ⟨no, nc, rfl, hnc⟩ := hN.form
           refine WAF.add (i := 4) (d := 109) rfl (QF.mk [3] [(108, _)] rfl rfl kr_ rfl (QAt.rd Wt.none (Rd.load1 kr_ rfl mem_ (by rfl)))) ?_
           refine WAF.add (i := 5) (d := 110) rfl (QF.mk [] [] rfl rfl kr_ rfl (QAt.y Wt.none (Yd.fieldAddr (k := 5) kr_ rfl))) ?_
           refine WAF.add (i := 6) (d := 111) rfl (QF.mk [5] [(110, _)] rfl rfl kr_ rfl (QAt.rd Wt.none (Rd.load1 kr_ rfl mem_ (by rfl)))) ?_
           refine WAF.add (i := 7) (d := 112) rfl (QF.mk [] [] rfl rfl kr_ rfl (QAt.y Wt.none (Yd.fieldAddr (k := 6) kr_ rfl))) ?_
           refine WAF.add (i := 8) (d := 113) rfl (QF.mk [7] [(112, _)] rfl rfl kr_ rfl (QAt.rd Wt.none (Rd.load1 kr_ rfl mem_ (by rfl)))) ?_
           refine WAF.add (i := 9) (d := 114) rfl (QF.mk [] [] rfl rfl kr_ rfl (QAt.y Wt.none (Yd.fieldAddr (k := 7) kr_ rfl))) ?_
           refine WAF.add (i := 10) (d := 115) rfl (QF.mk [9] [(114, _)] rfl rfl kr_ rfl (QAt.rd Wt.none (Rd.load1 kr_ rfl mem_ (by rfl)))) ?_
           refine WAF.add (i := 11) (d := 116) rfl (QF.mk [10, 8, 6] [(115, _), (113, _), (111, _)] rfl rfl kr_ rfl (QAt.y Wt.none (Yd.buildL (pl := [(0, 1), (1, 1), (2, 1)]) (zs := [.int .u32 0, .int .i64 0, .bool false]) (parts := [(0, .tmp 111), (1, .tmp 113), (2, .tmp 115)]) (vs := [(0, _), (1, _), (2, _)]) (cells := [_, _, _]) kr_ kr_ rfl rfl))) ?_
           refine WAF.step (pd := [(11, 116), (10, 115), (9, 114), (8, 113), (7, 112), (6, 111), (5, 110), (4, 109), (3, 108), (2, 107), (1, 106), (0, 105)]) [(12, [11])] rfl kr_ kr_ (all_c rfl (all_c rfl (all_c rfl (all_c rfl (all_c rfl (all_c rfl (all_c rfl (all_c rfl (all_c rfl (all_c rfl (all_c rfl (all_c rfl (all_n))))))))))))) (all_c (QF.mk [10, 8, 6] [(115, _), (113, _), (111, _)] rfl rfl kr_ rfl (QAt.y Wt.none (Yd.buildL (pl := [(0, 1), (1, 1), (2, 1)]) (zs := [.int .u32 0, .int .i64 0, .bool false]) (parts := [(0, .tmp 111), (1, .tmp 113), (2, .tmp 115)]) (vs := [(0, _), (1, _), (2, _)]) (cells := [_, _, _]) kr_ kr_ rfl rfl))) (all_c (QF.mk [9] [(114, _)] rfl rfl kr_ rfl (QAt.rd Wt.none (Rd.load1 kr_ rfl mem_ (by rfl)))) (all_c (QF.mk [] [] rfl rfl kr_ rfl (QAt.y Wt.none (Yd.fieldAddr (k := 7) kr_ rfl))) (all_c (QF.mk [7] [(112, _)] rfl rfl kr_ rfl (QAt.rd Wt.none (Rd.load1 kr_ rfl mem_ (by rfl)))) (all_c (QF.mk [] [] rfl rfl kr_ rfl (QAt.y Wt.none (Yd.fieldAddr (k := 6) kr_ rfl))) (all_c (QF.mk [5] [(110, _)] rfl rfl kr_ rfl (QAt.rd Wt.none (Rd.load1 kr_ rfl mem_ (by rfl)))) (all_c (QF.mk [] [] rfl rfl kr_ rfl (QAt.y Wt.none (Yd.fieldAddr (k := 5) kr_ rfl))) (all_c (QF.mk [3] [(108, _)] rfl rfl kr_ rfl (QAt.rd Wt.none (Rd.load1 kr_ rfl mem_ (by rfl)))) (all_c (QF.mk [2] [(107, _)] rfl rfl kr_ rfl (QAt.y Wt.none (Yd.fieldAddr (k := 5) kr_ rfl))) (all_c (QF.mk [1] [(106, _)] rfl rfl kr_ rfl (QAt.y Wt.none (Yd.notNil rfl))) (all_c (QF.mk [] [] rfl rfl kr_ rfl (QAt.y Wt.none (Yd.move rfl))) (all_c (QF.mk [] [] rfl rfl kr_ rfl (QAt.y Wt.none (Yd.move rfl))) (all_n))))))))))))) (all_c ?_ (all_n))
           ·change SO _ _ _ _ _ _ 12 ([(116, _)] ++ _) _ _
            refine SO.h rfl Wt.none rfl (Hd.buildA (e := 111) (sz := 3) (zs := [.int .u32 0, .int .i64 0, .bool false]) kr_ kr_ kr_ rfl rfl (by rfl) kr_ fun b117 => ⟨_, rfl, ?_⟩)
            change WAF _ _ _ _ _ _ [(10, 115, _), (9, 114, _), (8, 113, _), (7, 112, _), (6, 111, _), (5, 110, _), (4, 109, _), (3, 108, _), (2, 107, _), (1, 106, _), (0, 105, _)] _ [12, 11] ((117, _) :: ([(116, _)] ++ _)) _
            refine WAF.step (pd := [(10, 115), (9, 114), (8, 113), (7, 112), (6, 111), (5, 110), (4, 109), (3, 108), (2, 107), (1, 106), (0, 105)]) [(13, [4])] rfl kr_ kr_ (all_c rfl (all_c rfl (all_c rfl (all_c rfl (all_c rfl (all_c rfl (all_c rfl (all_c rfl (all_c rfl (all_c rfl (all_c rfl (all_n)))))))))))) (all_c (QF.mk [9] [(114, _)] rfl rfl kr_ rfl (QAt.rd Wt.none (Rd.load1 kr_ rfl mem_ (by rfl)))) (all_c (QF.mk [] [] rfl rfl kr_ rfl (QAt.y Wt.none (Yd.fieldAddr (k := 7) kr_ rfl))) (all_c (QF.mk [7] [(112, _)] rfl rfl kr_ rfl (QAt.rd Wt.none (Rd.load1 kr_ rfl mem_ (by rfl)))) (all_c (QF.mk [] [] rfl rfl kr_ rfl (QAt.y Wt.none (Yd.fieldAddr (k := 6) kr_ rfl))) (all_c (QF.mk [5] [(110, _)] rfl rfl kr_ rfl (QAt.rd Wt.none (Rd.load1 kr_ rfl mem_ (by rfl)))) (all_c (QF.mk [] [] rfl rfl kr_ rfl (QAt.y Wt.none (Yd.fieldAddr (k := 5) kr_ rfl))) (all_c (QF.mk [3] [(108, _)] rfl rfl kr_ rfl (QAt.rd Wt.none (Rd.load1 kr_ rfl mem_ (by rfl)))) (all_c (QF.mk [2] [(107, _)] rfl rfl kr_ rfl (QAt.y Wt.none (Yd.fieldAddr (k := 5) kr_ rfl))) (all_c (QF.mk [1] [(106, _)] rfl rfl kr_ rfl (QAt.y Wt.none (Yd.notNil rfl))) (all_c (QF.mk [] [] rfl rfl kr_ rfl (QAt.y Wt.none (Yd.move rfl))) (all_c (QF.mk [] [] rfl rfl kr_ rfl (QAt.y Wt.none (Yd.move rfl))) (all_n)))))))))))) (all_c ?_ (all_n))
            ·change SO _ _ _ _ _ _ 13 ([(109, _)] ++ _) _ _
             refine SO.h rfl Wt.none rfl (Hd.appendRow (e := 111) (sz := 3) (bytes := 24) (zs := [.int .u32 0, .int .i64 0, .bool false]) kr_ kr_ rfl (by omega) rfl rfl (hE) sp_ mem_ (by rfl) (efc_one (⟨n.order, n.step, n.undo⟩ : Ef)) (by simp only [maxLen]; omega) (by omega) fun v2 C2 h2 => ⟨_, rfl, ?_⟩)
             change WAF _ _ _ _ _ _ [(10, 115, _), (9, 114, _), (8, 113, _), (7, 112, _), (6, 111, _), (5, 110, _), (3, 108, _), (2, 107, _), (1, 106, _), (0, 105, _)] _ [13, 4, 12, 11] ((118, _) :: ([(109, _)] ++ _)) _
             obtain ⟨eo2, ec2, rfl, _⟩ := h2.form
             refine WAF.add (i := 14) (d := 119) rfl (QF.mk [10, 9, 8, 7, 6, 5, 3, 2, 1, 0] [(115, _), (114, _), (113, _), (112, _), (111, _), (110, _), (108, _), (107, _), (106, _), (105, _)] rfl rfl kr_ rfl (QAt.y Wt.none (Yd.notNil rfl))) ?_
             refine WAF.add (i := 15) (d := 120) rfl (QF.mk [14, 10, 9, 8, 7, 6, 5, 3, 2, 1, 0] [(119, _), (115, _), (114, _), (113, _), (112, _), (111, _), (110, _), (108, _), (107, _), (106, _), (105, _)] rfl rfl kr_ rfl (QAt.y Wt.none (Yd.fieldAddr (k := 5) kr_ rfl))) ?_
             refine WAF.step (pd := [(15, 120), (14, 119), (10, 115), (9, 114), (8, 113), (7, 112), (6, 111), (5, 110), (3, 108), (2, 107), (1, 106), (0, 105)]) [(16, [15, 10, 9, 8, 7, 6, 5, 3, 2, 1, 0])] rfl kr_ kr_ (all_c rfl (all_c rfl (all_c rfl (all_c rfl (all_c rfl (all_c rfl (all_c rfl (all_c rfl (all_c rfl (all_c rfl (all_c rfl (all_c rfl (all_n))))))))))))) (all_c (QF.mk [14, 10, 9, 8, 7, 6, 5, 3, 2, 1, 0] [(119, _), (115, _), (114, _), (113, _), (112, _), (111, _), (110, _), (108, _), (107, _), (106, _), (105, _)] rfl rfl kr_ rfl (QAt.y Wt.none (Yd.fieldAddr (k := 5) kr_ rfl))) (all_c (QF.mk [10, 9, 8, 7, 6, 5, 3, 2, 1, 0] [(115, _), (114, _), (113, _), (112, _), (111, _), (110, _), (108, _), (107, _), (106, _), (105, _)] rfl rfl kr_ rfl (QAt.y Wt.none (Yd.notNil rfl))) (all_c (QF.mk [9] [(114, _)] rfl rfl kr_ rfl (QAt.rd Wt.none (Rd.load1 kr_ rfl mem_ (by rfl)))) (all_c (QF.mk [] [] rfl rfl kr_ rfl (QAt.y Wt.none (Yd.fieldAddr (k := 7) kr_ rfl))) (all_c (QF.mk [7] [(112, _)] rfl rfl kr_ rfl (QAt.rd Wt.none (Rd.load1 kr_ rfl mem_ (by rfl)))) (all_c (QF.mk [] [] rfl rfl kr_ rfl (QAt.y Wt.none (Yd.fieldAddr (k := 6) kr_ rfl))) (all_c (QF.mk [5] [(110, _)] rfl rfl kr_ rfl (QAt.rd Wt.none (Rd.load1 kr_ rfl mem_ (by rfl)))) (all_c (QF.mk [] [] rfl rfl kr_ rfl (QAt.y Wt.none (Yd.fieldAddr (k := 5) kr_ rfl))) (all_c (QF.mk [2] [(107, _)] rfl rfl kr_ rfl (QAt.y Wt.none (Yd.fieldAddr (k := 5) kr_ rfl))) (all_c (QF.mk [1] [(106, _)] rfl rfl kr_ rfl (QAt.y Wt.none (Yd.notNil rfl))) (all_c (QF.mk [] [] rfl rfl kr_ rfl (QAt.y Wt.none (Yd.move rfl))) (all_c (QF.mk [] [] rfl rfl kr_ rfl (QAt.y Wt.none (Yd.move rfl))) (all_n))))))))))))) (all_c ?_ (all_n))
             ·change SO _ _ _ _ _ _ 16 ([(120, _), (115, _), (114, _), (113, _), (112, _), (111, _), (110, _), (108, _), (107, _), (106, _), (105, _)] ++ _) _ _
              refine SO.s rfl Wt.none (Hd.store1s kr_ rfl rfl (by rfl) fr_ (by rfl) (by first | (simp only [List.set_cons_zero, List.set_cons_succ, Nat.zero_add, Nat.add_zero, Nat.reduceAdd]; rfl) | rfl) ⟨rfl, ?_⟩)
              change WAF _ _ _ _ _ _ [(14, 119, _)] _ [16, 15, 10, 9, 8, 7, 6, 5, 3, 2, 1, 0, 13, 4, 12, 11] (([(120, _), (115, _), (114, _), (113, _), (112, _), (111, _), (110, _), (108, _), (107, _), (106, _), (105, _)] ++ _)) _
              refine WAF.done (pd := [(14, 119)]) rfl kr_ kr_ (all_c rfl (all_n)) (all_c (QF.mk [] [] rfl rfl kr_ rfl (QAt.y Wt.none (Yd.notNil rfl))) (all_n)) ?_
              change DN _ _ _ _ _ _ ([(119, _)] ++ _) _
              refine DN.block_normal ?_
              exact DN.reachS ((doV s n, doR s n, row p [.pointer (some ⟨pd, 0, none⟩), .pointer (some ⟨ps, 0, none⟩), .pointer (some ⟨pp, 0, none⟩), .int .u32 (doS s n).e.toNat, .slice lo (doS s n).ks.length lc, .slice eo2 ((doS s n).ef.length + 1) ec2, .slice no (doS s n).no.length nc] 116 :: (CS ++ (CP ++ (CD ++ (CF ++ (C2 ++ (CN ++ DO)))))), (ro, rc), AR)) (by have g := did_1 (s := s) (n := n) h93 h95; exact ⟨g.1.symm, g.2.1.symm, by rw [g.2.2, if_pos h104]; exact ⟨pd, ps, pp, _, _, _, _, _, _, _, _, _, _, _, rfl, hS, hP, hD, hF, by show Own _ ((doS s n).ef ++ [_]).length (((doS s n).ef ++ [_]).flatMap efc) _ 3 _; rw [List.length_append, List.flatMap_append]; exact h2, hN, hO⟩, hAR⟩) (Sx.put rfl (Sx.put rfl (sx_))) sp_
          ·refine WC.skip ?_
           refine DN.block_normal ?_
           exact DN.reachS ((doV s n, doR s n, C9, (ro, rc), AR)) (by have g := did_1 (s := s) (n := n) h93 h95; exact ⟨g.1.symm, g.2.1.symm, by rw [g.2.2, if_neg h104]; exact h9, hAR⟩) (Sx.put rfl (Sx.put rfl (sx_))) sp_
         ·refine WC.skip ?_
          refine DN.block_normal ?_
          exact DN.reachS ((2, [], row p [.pointer (some ⟨pd, 0, none⟩), .pointer (some ⟨ps, 0, none⟩), .pointer (some ⟨pp, 0, none⟩), .int .u32 s.e.toNat, .slice lo s.ks.length lc, .slice eo s.ef.length ec, .slice no s.no.length nc] 116 :: (CS ++ (CP ++ (CD ++ (CF ++ (CE ++ (CN ++ DO)))))), (none, 0), [])) (by have g := did_0 (s := s) (n := n) h93 h95; exact ⟨g.1.symm, g.2.1.symm, by rw [g.2.2]; exact ⟨pd, ps, pp, _, _, _, _, _, _, _, _, _, _, _, rfl, hS, hP, hD, hF, hE, hN, hO⟩, Ob.nil _⟩) (Sx.put rfl (Sx.put rfl (sx_))) sp_
       ·clear hS hP hD hF hE hN hO hec hnc
        rintro ⟨cd9, rp, C9, ⟨ro, rc⟩, AR⟩ ⟨hcd, hrp, h9, hAR⟩
        dsimp only at hcd hrp h9 hAR ⊢
        have hdf := did_fence (s := s) (n := n) (act := act)
        obtain ⟨d, hdd⟩ : ∃ d, d = didS s n act := ⟨_, rfl⟩
        rw [← hdd] at h9 hdf
        have hdl9 : d.ks.length = s.ks.length := by rw [hdf.2]
        obtain ⟨pd, ps, pp, vL, vE, vN, CS, CP, CD, CF, CE, cn, CN, DO, rfl, hS, hP, hD, hF, hE, hN, hO⟩ := h9
        obtain ⟨lo, lc, rfl⟩ := hF.form
        obtain ⟨eo, ec, rfl, hec⟩ := hE.form
        obtain ⟨no, nc, rfl, hnc⟩ := hN.form
        refine WC.seq ?_
        refine WC.draw 15 kr_ rfl ?_
        refine WA.float (N := 15) rfl ?_
        refine WAF.add (i := 0) (d := 122) rfl (QF.mk [] [] rfl rfl kr_ rfl (QAt.y Wt.none (Yd.move rfl))) ?_
        refine WAF.add (i := 1) (d := 123) rfl (QF.mk [] [] rfl rfl kr_ rfl (QAt.y Wt.none (Yd.move rfl))) ?_
        refine WAF.add (i := 2) (d := 124) rfl (QF.mk [1] [(123, _)] rfl rfl kr_ rfl (QAt.y Wt.none (Yd.notNil rfl))) ?_
        refine WAF.add (i := 3) (d := 125) rfl (QF.mk [2] [(124, _)] rfl rfl kr_ rfl (QAt.y Wt.none (Yd.fieldAddr (k := 3) kr_ rfl))) ?_
        refine WAF.add (i := 4) (d := 126) rfl (QF.mk [3] [(125, _)] rfl rfl kr_ rfl (QAt.rd Wt.none (Rd.loadA (n := 2) (vs := [_, _]) kr_ rfl mem_ (by rfl) (by rfl)))) ?_
        refine WAF.add (i := 5) (d := 127) rfl (QF.mk [] [] rfl rfl kr_ rfl (QAt.rd Wt.none (Rd.loadAll (n := 11) kr_ rfl mem_ (by rfl)))) ?_
        refine WAF.add (i := 6) (d := 128) rfl (QF.mk [] [] rfl rfl kr_ rfl (QAt.y Wt.none (Yd.move rfl))) ?_
        refine WAF.add (i := 7) (d := 129) rfl (QF.mk [] [] rfl rfl kr_ rfl (QAt.y Wt.none (Yd.move rfl))) ?_
        refine WAF.step (pd := [(7, 129), (6, 128), (5, 127), (4, 126), (3, 125), (2, 124), (1, 123), (0, 122)]) [(8, [7, 6, 5, 4])] rfl kr_ kr_ (all_c rfl (all_c rfl (all_c rfl (all_c rfl (all_c rfl (all_c rfl (all_c rfl (all_c rfl (all_n))))))))) (all_c (QF.mk [] [] rfl rfl kr_ rfl (QAt.y Wt.none (Yd.move rfl))) (all_c (QF.mk [] [] rfl rfl kr_ rfl (QAt.y Wt.none (Yd.move rfl))) (all_c (QF.mk [] [] rfl rfl kr_ rfl (QAt.rd Wt.none (Rd.loadAll (n := 11) kr_ rfl mem_ (by rfl)))) (all_c (QF.mk [3] [(125, _)] rfl rfl kr_ rfl (QAt.rd Wt.none (Rd.loadA (n := 2) (vs := [_, _]) kr_ rfl mem_ (by rfl) (by rfl)))) (all_c (QF.mk [2] [(124, _)] rfl rfl kr_ rfl (QAt.y Wt.none (Yd.fieldAddr (k := 3) kr_ rfl))) (all_c (QF.mk [1] [(123, _)] rfl rfl kr_ rfl (QAt.y Wt.none (Yd.notNil rfl))) (all_c (QF.mk [] [] rfl rfl kr_ rfl (QAt.y Wt.none (Yd.move rfl))) (all_c (QF.mk [] [] rfl rfl kr_ rfl (QAt.y Wt.none (Yd.move rfl))) (all_n))))))))) (all_c ?_ (all_n))
        ·change SO _ _ _ _ _ _ 8 ([(129, _), (128, _), (127, _), (126, _)] ++ _) _ _
         refine SO.c rfl Wt.none rfl (Ent.func Tryz.call59 rfl) (keep_tells d.e _ d.ks (CF ++ (AR ++ H)) (hF.kv.mono gr_) (by rw [hdf.2]; omega) n _ _ (hvk.mono gr_) (hvd.mono gr_) cd9 _ rp (hAR.bs.mono gr_)) (Sp.p sp_) ?_
         rintro x H9 ⟨wk, DK, rfl, hKF, rfl⟩
         obtain ⟨ko2, kc2, rfl⟩ := hKF.form
         change WAF _ _ _ _ _ _ [(3, 125, _), (2, 124, _), (1, 123, _), (0, 122, _)] _ [8, 7, 6, 5, 4] ((130, _) :: ([(129, _), (128, _), (127, _), (126, _)] ++ _)) _
         refine WAF.add (i := 9) (d := 121) rfl (QF.mk [] [] rfl rfl kr_ rfl (QAt.y Wt.none (Yd.move rfl))) ?_
         refine WAF.add (i := 10) (d := 131) rfl (QF.mk [9] [(121, _)] rfl rfl kr_ rfl (QAt.y Wt.none (Yd.extract rfl rfl))) ?_
         refine WAF.add (i := 11) (d := 132) rfl (QF.mk [9] [(121, _)] rfl rfl kr_ rfl (QAt.y Wt.none (Yd.extract rfl rfl))) ?_
         refine WAF.add (i := 12) (d := 133) rfl (QF.mk [10, 9, 3, 2, 1, 0] [(131, _), (121, _), (125, _), (124, _), (123, _), (122, _)] rfl rfl kr_ rfl (QAt.y Wt.none (Yd.notNil rfl))) ?_
         refine WAF.add (i := 13) (d := 134) rfl (QF.mk [12, 10, 9, 3, 2, 1, 0] [(133, _), (131, _), (121, _), (125, _), (124, _), (123, _), (122, _)] rfl rfl kr_ rfl (QAt.y Wt.none (Yd.fieldAddr (k := 3) kr_ rfl))) ?_
         refine WAF.step (pd := [(13, 134), (12, 133), (11, 132), (10, 131), (9, 121), (3, 125), (2, 124), (1, 123), (0, 122)]) [(14, [13, 10, 9, 3, 2, 1, 0])] rfl kr_ kr_ (all_c rfl (all_c rfl (all_c rfl (all_c rfl (all_c rfl (all_c rfl (all_c rfl (all_c rfl (all_c rfl (all_n)))))))))) (all_c (QF.mk [12, 10, 9, 3, 2, 1, 0] [(133, _), (131, _), (121, _), (125, _), (124, _), (123, _), (122, _)] rfl rfl kr_ rfl (QAt.y Wt.none (Yd.fieldAddr (k := 3) kr_ rfl))) (all_c (QF.mk [10, 9, 3, 2, 1, 0] [(131, _), (121, _), (125, _), (124, _), (123, _), (122, _)] rfl rfl kr_ rfl (QAt.y Wt.none (Yd.notNil rfl))) (all_c (QF.mk [9] [(121, _)] rfl rfl kr_ rfl (QAt.y Wt.none (Yd.extract rfl rfl))) (all_c (QF.mk [9] [(121, _)] rfl rfl kr_ rfl (QAt.y Wt.none (Yd.extract rfl rfl))) (all_c (QF.mk [] [] rfl rfl kr_ rfl (QAt.y Wt.none (Yd.move rfl))) (all_c (QF.mk [2] [(124, _)] rfl rfl kr_ rfl (QAt.y Wt.none (Yd.fieldAddr (k := 3) kr_ rfl))) (all_c (QF.mk [1] [(123, _)] rfl rfl kr_ rfl (QAt.y Wt.none (Yd.notNil rfl))) (all_c (QF.mk [] [] rfl rfl kr_ rfl (QAt.y Wt.none (Yd.move rfl))) (all_c (QF.mk [] [] rfl rfl kr_ rfl (QAt.y Wt.none (Yd.move rfl))) (all_n)))))))))) (all_c ?_ (all_n))
         ·change SO _ _ _ _ _ _ 14 ([(134, _), (131, _), (121, _), (125, _), (124, _), (123, _), (122, _)] ++ _) _ _
          refine SO.s rfl Wt.none (Hd.storeP (n := 2) kr_ rfl rfl (by rfl) one_ fr_ (by show 0 + 3 + 2 ≤ 7; decide) (by rfl) ⟨rfl, ?_⟩)
          change WAF _ _ _ _ _ _ [(12, 133, _), (11, 132, _)] _ [14, 13, 10, 9, 3, 2, 1, 0, 8, 7, 6, 5, 4] (([(134, _), (131, _), (121, _), (125, _), (124, _), (123, _), (122, _)] ++ _)) _
          refine WAF.done (pd := [(12, 133), (11, 132)]) rfl kr_ kr_ (all_c rfl (all_c rfl (all_n))) (all_c (QF.mk [] [] rfl rfl kr_ rfl (QAt.y Wt.none (Yd.notNil rfl))) (all_c (QF.mk [] [] rfl rfl kr_ rfl (QAt.y Wt.none (Yd.extract rfl rfl))) (all_n))) ?_
          change DN _ _ _ _ _ _ ([(133, _), (132, _)] ++ _) _
          refine ts_ ?_
          refine WC.region ?_
          refine WL.h rfl (Hd.loadAll (n := 11) kr_ rfl mem_ (by rfl) ⟨_, rfl, ?_⟩)
          refine m_ rfl rfl ?_
          refine m_ rfl rfl ?_
          refine WL.c rfl (Ent.func Tryz.call57 rfl) (done_tells n _ _ ⟨_, _, rfl⟩ ⟨_, _, rfl⟩ cd9 _ rp AR hAR.bs (by rw [hrp]; have := reply_len (s := s) (n := n) (act := act); omega)) (Sp.p sp_) ?_
          rintro x H9 ⟨wd, AD, rfl, hAD, rfl⟩
          obtain ⟨od, cd, rfl, _⟩ := hAD.form
          refine WL.s (Hd.storeAll (n := 11) kr_ rfl rfl (by rfl) one_ fr_ (by rfl) ⟨rfl, ?_⟩)
          refine nt_ ?_
          refine WC.ret ?_
          refine DN.retCS (s := 11) ((row p [.pointer (some ⟨pd, 0, none⟩), .pointer (some ⟨ps, 0, none⟩), .pointer (some ⟨pp, 0, none⟩), .int .u32 (keepK d.e d.ks n cd9 rp).1.toNat, .slice ko2 (keepK d.e d.ks n cd9 rp).2.1.length kc2, .slice eo d.ef.length ec, .slice no d.no.length nc] 116 :: (CS ++ (CP ++ (CD ++ (DK ++ (CE ++ (CN ++ DO))))))) ++ (AD ++ H)) Tryz.results22 kr_ rfl mem_ (by rfl) sp_ ?_
          have g := serve_new (s := s) (n := n) (by rw [hq3]; exact h47) (by rw [hq1]; exact h56) (by omega)
          rw [hq1, ← hdd, ← hcd, ← hrp] at g
          rw [g.1, g.2]
          exact ⟨_, _, AD, rfl, ⟨pd, ps, pp, _, _, _, CS, CP, CD, DK, CE, cn, CN, DO, rfl, hS, hP, hD, hKF, hE, hN, hO⟩, hAD, rfl⟩
end Go.Proofs.YtkamlondepceiaaGreat

set_option linter.unusedVariables false
set_option linter.unusedSimpArgs false
set_option maxHeartbeats 4000000
namespace Go.Proofs
def Tryz.sortG_ren : Go.Shelf.Ren := ⟨fun | 6 => 97 | 15 => 131 | 14 => 130 | 28 => 150 | 29 => 151 | 20 => 142 | 21 => 143 | 22 => 144 | 23 => 145 | 24 => 146 | 25 => 147 | 26 => 148 | 27 => 149 | 46 => 162 | 47 => 163 | 48 => 164 | 49 => 165 | 50 => 166 | 57 => 170 | n => n, fun | 22 => 43 | 24 => 73 | 25 => 194 | 3 => 3 | 39 => 218 | 0 => 0 | 53 => 49 | 55 => 50 | 4 => 4 | 46 => 240 | 45 => 239 | 50 => 179 | 5 => 5 | 9 => 9 | 66 => 252 | 70 => 255 | 76 => 259 | 77 => 176 | n => n, fun | n => n⟩
theorem Tryz.sortG : SlLaysF0.n6 Tryz.prog Tryz.sortG_ren := {
  mixed := by kernel_rfl,
  f6 := ⟨Tryz.f97.name, by decide, Tryz.func97.trans (congrArg some (by kernel_rfl))⟩,
  f14 := ⟨Tryz.f130.name, by decide, Tryz.func130.trans (congrArg some (by kernel_rfl))⟩,
  f15 := Tryz.func131.trans (congrArg some (by kernel_rfl)),
  f20 := ⟨Tryz.f142.name, by decide, Tryz.func142.trans (congrArg some (by kernel_rfl))⟩,
  f21 := ⟨Tryz.f143.name, by decide, Tryz.func143.trans (congrArg some (by kernel_rfl))⟩,
  f22 := ⟨Tryz.f144.name, by decide, Tryz.func144.trans (congrArg some (by kernel_rfl))⟩,
  f23 := ⟨Tryz.f145.name, by decide, Tryz.func145.trans (congrArg some (by kernel_rfl))⟩,
  f24 := ⟨Tryz.f146.name, by decide, Tryz.func146.trans (congrArg some (by kernel_rfl))⟩,
  f25 := ⟨Tryz.f147.name, by decide, Tryz.func147.trans (congrArg some (by kernel_rfl))⟩,
  f26 := ⟨Tryz.f148.name, by decide, Tryz.func148.trans (congrArg some (by kernel_rfl))⟩,
  f27 := ⟨Tryz.f149.name, by decide, Tryz.func149.trans (congrArg some (by kernel_rfl))⟩,
  f28 := Tryz.func150.trans (congrArg some (by kernel_rfl)),
  f29 := Tryz.func151.trans (congrArg some (by kernel_rfl)),
  f46 := ⟨Tryz.f162.name, by decide, Tryz.func162.trans (congrArg some (by kernel_rfl))⟩,
  f47 := Tryz.func163.trans (congrArg some (by kernel_rfl)),
  f48 := Tryz.func164.trans (congrArg some (by kernel_rfl)),
  f49 := ⟨Tryz.f165.name, by decide, Tryz.func165.trans (congrArg some (by kernel_rfl))⟩,
  f50 := ⟨Tryz.f166.name, by decide, Tryz.func166.trans (congrArg some (by kernel_rfl))⟩,
  f57 := ⟨Tryz.f170.name, by decide, Tryz.func170.trans (congrArg some (by kernel_rfl))⟩,
  t0 := Tryz.underlying0,
  a0 := Tryz.isAgg0,
  z0 := Tryz.sizeOf0,
  v0 := Tryz.zeroValue0,
  t3 := Tryz.underlying3,
  a3 := Tryz.isAgg3,
  z3 := Tryz.sizeOf3,
  v3 := Tryz.zeroValue3,
  t4 := Tryz.underlying4,
  a4 := Tryz.isAgg4,
  z4 := Tryz.sizeOf4,
  v4 := Tryz.zeroValue4,
  t5 := Tryz.underlying5,
  a5 := Tryz.isAgg5,
  z5 := Tryz.sizeOf5,
  v5 := Tryz.zeroValue5,
  t9 := Tryz.underlying9,
  a9 := Tryz.isAgg9,
  z9 := Tryz.sizeOf9,
  v9 := Tryz.zeroValue9,
  t22 := Tryz.underlying43,
  a22 := Tryz.isAgg43,
  z22 := Tryz.sizeOf43,
  v22 := Tryz.zeroValue43,
  t25 := Tryz.underlying194,
  a25 := Tryz.isAgg194,
  z25 := Tryz.sizeOf194,
  v25 := Tryz.zeroValue194,
  t39 := Tryz.underlying218,
  a39 := Tryz.isAgg218,
  z39 := Tryz.sizeOf218,
  v39 := Tryz.zeroValue218,
  t45 := Tryz.underlying239,
  a45 := Tryz.isAgg239,
  z45 := Tryz.sizeOf239,
  v45 := Tryz.zeroValue239,
  t46 := Tryz.underlying240,
  a46 := Tryz.isAgg240,
  z46 := Tryz.sizeOf240,
  v46 := Tryz.zeroValue240,
  t50 := Tryz.underlying179,
  a50 := Tryz.isAgg179,
  z50 := Tryz.sizeOf179,
  v50 := Tryz.zeroValue179,
  t53 := Tryz.underlying49,
  a53 := Tryz.isAgg49,
  z53 := Tryz.sizeOf49,
  v53 := Tryz.zeroValue49,
  t55 := Tryz.underlying50,
  a55 := Tryz.isAgg50,
  z55 := Tryz.sizeOf50,
  v55 := Tryz.zeroValue50,
  t66 := Tryz.underlying252,
  a66 := Tryz.isAgg252,
  z66 := Tryz.sizeOf252,
  v66 := Tryz.zeroValue252,
  t70 := Tryz.underlying255,
  a70 := Tryz.isAgg255,
  z70 := Tryz.sizeOf255,
  v70 := Tryz.zeroValue255,
  t76 := Tryz.underlying259,
  a76 := Tryz.isAgg259,
  z76 := Tryz.sizeOf259,
  v76 := Tryz.zeroValue259,
  t77 := Tryz.underlying176,
  a77 := Tryz.isAgg176,
  z77 := Tryz.sizeOf176,
  v77 := Tryz.zeroValue176
}
def Tryz.cmp_ren : Go.Shelf.Ren := ⟨fun | 106 => 99 | 213 => 132 | 265 => 152 | n => n, fun | 3 => 3 | 9 => 9 | n => n, fun | n => n⟩
theorem Tryz.cmpStr : Lays.n106 Tryz.prog Tryz.cmp_ren := {
  mixed := by kernel_rfl,
  f106 := Tryz.func99.trans (congrArg some (by kernel_rfl)),
  f213 := Tryz.func132.trans (congrArg some (by kernel_rfl)),
  f265 := Tryz.func152.trans (congrArg some (by kernel_rfl)),
  t3 := Tryz.underlying3, a3 := Tryz.isAgg3, z3 := Tryz.sizeOf3, v3 := Tryz.zeroValue3,
  t9 := Tryz.underlying9, a9 := Tryz.isAgg9, z9 := Tryz.sizeOf9, v9 := Tryz.zeroValue9 }
end Go.Proofs
namespace Go.Proofs.YtkamlondepceiaaGreat.St
open Go.SL
theorem compare_reads (a b : ByteArray) (H : List Ck) : Reads Tryz.prog 99 [.string a, .string b] H (.int .i64 (cmpS a b)) := fun w R s =>
  (Any.strings_Compare (ρ := Tryz.cmp_ren) Tryz.cmpStr a b w).mono fun e w' ⟨he, hw⟩ => ⟨_, H, he, ⟨rfl, rfl⟩, by rw [hw]; exact s, by rw [hw]; exact Kept.refl w⟩
theorem cmpG_tells (x y : Gd) : Tells Tryz.prog 98 [.agg (cellsG x).toArray, .agg (cellsG y).toArray] [] fun r H' => r = .int .i64 (cfG x y) := by
 refine Tells.enter Tryz.func98 rfl Tryz.ntmps98 rfl ?_
 intro w0 R
 refine sr_ ?_
 refine WL.h rfl (Hd.boxA rfl fun b2 => ⟨_, rfl, ?_⟩)
 refine WL.h rfl (Hd.boxA rfl fun b3 => ⟨_, rfl, ?_⟩)
 refine a_ rfl rfl ?_
 refine ntsr_ ?_
 refine f_ 0 kr_ rfl rfl ?_
 refine d_ kr_ rfl mem_ (by rfl) rfl ?_
 refine f_ 0 kr_ rfl rfl ?_
 refine d_ kr_ rfl mem_ (by rfl) rfl ?_
 refine WL.rf rfl (Ent.func Tryz.call99 rfl) (compare_reads x.name y.name []) sp_ ?_
 refine a_ rfl rfl ?_
 refine nt_ ?_
 refine WC.ret ?_
 refine DN.ret1 Tryz.results98 rfl ?_
 rfl
theorem goods_tells (p : Nat) (K : List Gd) (L : List Ho) (C : List Ck) (h : StAt 189 p K L C) (hl : K.length ≤ 100000000) : Tells Tryz.prog 60 [.pointer (some ⟨p, 0, none⟩)] C fun r C' => ∃ S Cs, ToldK Gd.name sLt K S ∧ Own r S.length (S.flatMap cellsG) 73 2 Cs ∧ C' = Cs ++ C := by
 refine Tells.enter Tryz.func60 rfl Tryz.ntmps60 rfl ?_
 intro w0 R
 obtain ⟨b1, b2, C1, C2, rfl, hK, hL⟩ := h
 obtain ⟨es, clock, rfl, hes, hborn, hbn⟩ := hK
 have hsz := hes.size
 simp only [kvs, List.length_map] at hsz
 refine sr_ ?_
 refine a_ rfl rfl ?_
 refine nt_ ?_
 refine WC.seq ?_
 refine sr_ ?_
 refine m_ rfl rfl ?_
 refine WL.y rfl (Yd.eqlNil Tryz.underlying113 rfl rfl) ?_
 refine nt_ ?_
 refine WC.no rfl ?_
 refine WC.skip ?_
 refine ts_ ?_
 refine WC.region ?_
 refine a_ rfl rfl ?_
 refine nt_ ?_
 refine WC.seq ?_
 refine sr_ ?_
 refine m_ rfl rfl ?_
 refine n_ rfl rfl ?_
 refine f_ 0 kr_ rfl rfl ?_
 refine d_ kr_ rfl mem_ (by rfl) rfl ?_
 refine WL.h rfl (Hd.rangeM (KT := 9) (ET := 191) kr_ rfl mem_ fun i => ⟨_, rfl, ?_⟩)
 refine nt_ ?_
 refine WC.block ?_
 refine WC.loopS (fun z : List MapEntry × List Gd × (Array Nat) × Value × List Ck => Seen es z.1 z.2.2.1 ∧ z.1.map (fun e : MapEntry => (e.key, e.val)) = z.2.1.map (fun r : Gd => (kStr.kv (Gd.name r), encG r)) ∧ Own z.2.2.2.1 z.2.1.length (z.2.1.flatMap cellsG) 73 2 z.2.2.2.2) (fun z : List MapEntry × List Gd × (Array Nat) × Value × List Ck => [(3, z.2.2.2.1)]) (fun z : List MapEntry × List Gd × (Array Nat) × Value × List Ck => ⟨i, .mapIter (some b1) clock z.2.2.1 clock, true⟩ :: (z.2.2.2.2 ++ (row p [.map (some b1), .map (some b2)] 189 :: ([⟨b1, .map es clock, true⟩] ++ C2)))) (fun z : List MapEntry × List Gd × (Array Nat) × Value × List Ck => es.size - z.1.length) (⟨[], [], #[], .slice none 0 0, []⟩) (show Seen es [] #[] ∧ [].map (fun e : MapEntry => (e.key, e.val)) = [].map (fun r : Gd => (kStr.kv (Gd.name r), encG r)) ∧ Own (.slice none 0 0) [].length ([].flatMap cellsG) 73 2 [] from ⟨Seen.start es, rfl, Own.nil _ _⟩) (Sx.put rfl (sx_)) sp_ ?_
 rintro ⟨col, B, seen, v, Cs⟩ hI
 replace hI : Seen es col seen ∧ col.map (fun e : MapEntry => (e.key, e.val)) = B.map (fun r : Gd => (kStr.kv (Gd.name r), encG r)) ∧ Own v B.length (B.flatMap cellsG) 73 2 Cs := hI
 obtain ⟨hs, hB, ho⟩ := hI
 change WC _ _ _ _ _ _ ([(3, v)] ++ _) (⟨i, .mapIter (some b1) clock seen clock, true⟩ :: (Cs ++ (row p [.map (some b1), .map (some b2)] 189 :: ([⟨b1, .map es clock, true⟩] ++ C2))))
 have hcl := hs.len hbn
 obtain ⟨vo, vc, rfl, _⟩ := ho.form
 have hBl : B.length = col.length := by simpa using (congrArg List.length hB).symm
 refine sr_ ?_
 refine WL.h rfl (Hd.nextM rfl fr_ mem_ hborn (fun e he => ⟨_, rfl, ?_⟩) (fun hu => ⟨_, rfl, ?_⟩))
 ·obtain ⟨hs2, hee⟩ := hs.next he
  obtain ⟨b, hbL, hek, hev⟩ := entsK_one hes hee
  refine x_ rfl rfl rfl ?_
  refine nt_ ?_
  refine WC.seq ?_
  refine WC.yes rfl ?_
  refine WC.skip ?_
  refine DN.then_normal ?_
  refine WC.block ?_
  refine sr_ ?_
  refine WL.h rfl (Hd.entryM rfl List.mem_cons_self mem_ hbn hee ⟨_, rfl, ?_⟩)
  refine x_ rfl rfl rfl ?_
  refine WL.renamed (t := 16) (v := .string b.name) rfl (by show e.key = _; rw [hek]; rfl) ?_
  refine x_ rfl rfl rfl ?_
  refine WL.renamed (t := 17) (v := .agg #[.int .i64 b.free, .int .i64 b.gone]) rfl (by show e.val = _; rw [hev]; rfl) ?_
  refine WL.h rfl (Hd.alloc (zs := [.int .i64 0, .int .i64 0]) kr_ fun b5 => ⟨_, rfl, ?_⟩)
  refine a_ rfl rfl ?_
  refine WL.s (Hd.storeAll (n := 2) kr_ rfl rfl (by rfl) one_ fr_ (by rfl) ⟨rfl, ?_⟩)
  refine ntr_ ?_
  refine m_ rfl rfl ?_
  refine m_ rfl rfl ?_
  refine f_ 0 kr_ rfl rfl ?_
  refine d_ kr_ rfl mem_ (by rfl) rfl ?_
  refine WL.y rfl (Yd.buildL (pl := [(0, 1), (1, 1)]) (zs := [.string ⟨#[]⟩, .int .i64 0]) (parts := [(0, .tmp 19), (1, .tmp 21)]) (vs := [(0, _), (1, _)]) (cells := [_, _]) kr_ kr_ rfl rfl) ?_
  refine WL.h rfl (Hd.buildA (e := 73) (sz := 2) (zs := [.string ⟨#[]⟩, .int .i64 0]) kr_ kr_ kr_ rfl rfl (by rfl) kr_ fun b23 => ⟨_, rfl, ?_⟩)
  refine WL.h rfl (Hd.appendRow (e := 73) (sz := 2) (bytes := 24) (zs := [.string ⟨#[]⟩, .int .i64 0]) kr_ kr_ rfl (by omega) rfl rfl (ho) sp_ mem_ (by rfl) one_ (by simp only [maxLen]; omega) (by omega) fun v2 Ca ho2 => ⟨_, rfl, ?_⟩)
  refine a_ rfl rfl ?_
  refine WL.nil ?_
  refine DN.block_normal ?_
  have hcl2 := hs2.len hbn
  have hcl3 : (col ++ [e]).length = col.length + 1 := by simp
  exact DN.againS (⟨col ++ [e], B ++ [b], seen.push e.born, v2, Ca⟩) (show Seen es (col ++ [e]) (seen.push e.born) ∧ (col ++ [e]).map (fun e : MapEntry => (e.key, e.val)) = (B ++ [b]).map (fun r : Gd => (kStr.kv (Gd.name r), encG r)) ∧ Own v2 (B ++ [b]).length ((B ++ [b]).flatMap cellsG) 73 2 Ca from ⟨hs2, by rw [List.map_append, List.map_append, hB]; simp [hek, hev], by rw [List.flatMap_append, List.length_append]; simpa [cellsG, cellsH] using ho2⟩) (show es.size - (col ++ [e]).length < es.size - col.length by omega) (Sx.put rfl (sx_)) sp_
 ·refine x_ rfl rfl rfl ?_
  refine nt_ ?_
  refine WC.seq ?_
  refine WC.no rfl ?_
  refine WC.exit ?_
  refine DN.then_exit ?_
  refine DN.then_exit ?_
  refine DN.block_exit ?_
  refine ts_ ?_
  refine WC.region ?_
  refine m_ rfl rfl ?_
  refine WL.c rfl (Ent.func Tryz.call97 rfl) (sort_tells Tryz.sortG 2 (by omega) Tryz.isAgg73 Tryz.sizeOf73 cellsG cellsG_len cellsG_one cfG swoG 98 Tryz.call98 cmpG_tells ho (by omega)) (Sp.p sp_) ?_
  rintro q Cz ⟨rfl, S, hS, hpw, ho2⟩
  refine ntsr_ ?_
  refine m_ rfl rfl ?_
  refine a_ rfl rfl ?_
  refine nt_ ?_
  refine WC.ret ?_
  refine DN.fit (C := Cz ++ (row p [.map (some b1), .map (some b2)] 189 :: ([⟨b1, .map es clock, true⟩] ++ C2))) sp_ ?_
  refine DN.ret1 Tryz.results60 rfl ?_
  exact ⟨S, Cz, ⟨hS.trans (entsK_all injG hes (hs.all hbn hu) hB), hpw.imp fun {x y} hxy => by rw [← hxy]; exact (ltG y x).symm⟩, by rw [hS.length_eq]; rwa [hS.length_eq] at ho2, rfl⟩
end Go.Proofs.YtkamlondepceiaaGreat.St

set_option linter.unusedVariables false
set_option linter.unusedSimpArgs false
set_option maxHeartbeats 4000000
namespace Go.Proofs.YtkamlondepceiaaGreat.St
open Go.SL
theorem new_tells (v : Value) (gs : List Gd) (hg : ∀ g ∈ gs, g.gone = 0) (H : List Ck) (hv : Rs v gs.length (gs.flatMap cellsG) H) (hl : gs.length ≤ 9223372036854775807) : Tells Tryz.prog 63 [v] H fun r H' => (GoodL gs ∧ ∃ p C, r = .tuple #[.pointer (some ⟨p, 0, none⟩), .int .i64 0] ∧ StAt 189 p gs [] C ∧ H' = C ++ H) ∨ (¬ GoodL gs ∧ r = .tuple #[.pointer none, .int .i64 2] ∧ H' = H) := by
 refine Tells.enter Tryz.func63 rfl Tryz.ntmps63 rfl ?_
 intro w0 R
 obtain ⟨vo, vc, rfl, hvc⟩ := hv.form
 refine sr_ ?_
 refine a_ rfl rfl ?_
 refine a_ rfl rfl ?_
 refine nt_ ?_
 refine WC.seq ?_
 refine sr_ ?_
 refine m_ rfl rfl ?_
 refine WL.y rfl (Yd.len (e := 73) kr_ rfl) ?_
 refine WL.y rfl (Yd.gtr rfl rfl) ?_
 refine nt_ ?_
 refine WC.ite rfl (fun h11 => ?_) (fun h11 => ?_)
 ·refine sr_ ?_
  refine a_ rfl rfl ?_
  refine a_ rfl rfl ?_
  refine nt_ ?_
  refine WC.ret ?_
  refine DN.then_ret ?_
  first | (have hlt2 : i < gs.length := hlt; refine DN.fit (C := H) sp_ ?_) | refine DN.fit (C := row b15 [.map (some b1), .map (some b2)] 189 :: (C1 ++ (C2 ++ H))) sp_ ?_ | skip
  refine DN.ret2 Tryz.results63 rfl rfl ?_
  first
    | exact .inr ⟨fun hG => by have := hG.1; omega, rfl, rfl⟩
    | exact .inr ⟨fun hG => (hG.2.2 gs[i] (List.getElem_mem hlt)).1 hg35, rfl, rfl⟩
    | exact .inr ⟨fun hG => by have := (hG.2.2 gs[i] (List.getElem_mem hlt)).2; omega, rfl, rfl⟩
    | exact .inr ⟨fun hG => (twice_no hlt h53) hG.2.1, rfl, rfl⟩
    | exact .inl ⟨⟨by omega, hnd, fun g hm => by obtain ⟨j, hj, rfl⟩ := List.getElem_of_mem hm; exact hgood j hj hj⟩, b15, row b15 [.map (some b1), .map (some b2)] 189 :: (C1 ++ C2), rfl, ⟨b1, b2, C1, C2, rfl, hK, h2⟩, by simp⟩
 ·refine WC.skip ?_
  refine ts_ ?_
  refine WC.region ?_
  refine WL.h rfl (Hd.makeMapG kStr fun b1 C1 h1 => ⟨_, rfl, ?_⟩)
  refine WL.h rfl (Hd.makeMapG kU32 fun b2 C2 h2 => ⟨_, rfl, ?_⟩)
  refine WL.y rfl (Yd.buildL (pl := [(0, 1), (1, 1)]) (zs := [.map none, .map none]) (parts := [(0, .tmp 12), (1, .tmp 13)]) (vs := [(0, _), (1, _)]) (cells := [_, _]) kr_ kr_ rfl rfl) ?_
  refine WL.h rfl (Hd.boxA rfl fun b15 => ⟨_, rfl, ?_⟩)
  refine a_ rfl rfl ?_
  refine nt_ ?_
  refine WC.seq ?_
  refine sr_ ?_
  refine m_ rfl rfl ?_
  refine WL.y rfl (Yd.len (e := 73) kr_ rfl) ?_
  refine m_ rfl rfl ?_
  refine nt_ ?_
  refine WC.block ?_
  refine WC.loopS (fun z : Nat × List Ck => z.1 ≤ gs.length ∧ (∀ (j : Nat) (h : j < gs.length), j < z.1 → goodB gs[j]) ∧ ((gs.take z.1).map Gd.name).Nodup ∧ MpG kStr b1 (kvs Gd.name encG (gs.take z.1)) z.2) (fun z : Nat × List Ck => [(18, .int .i64 (z.1 : Int))]) (fun z : Nat × List Ck => row b15 [.map (some b1), .map (some b2)] 189 :: (z.2 ++ (C2 ++ H))) (fun z : Nat × List Ck => gs.length - z.1) (⟨0, C1⟩) (show 0 ≤ gs.length ∧ (∀ (j : Nat) (h : j < gs.length), j < 0 → goodB gs[j]) ∧ ((gs.take 0).map Gd.name).Nodup ∧ MpG kStr b1 (kvs Gd.name encG (gs.take 0)) C1 from ⟨Nat.zero_le _, fun j h hj => by omega, by simp, by simpa [kvs] using h1⟩) (Sx.put rfl (sx_)) sp_ ?_
  rintro ⟨i, C1⟩ hI
  replace hI : i ≤ gs.length ∧ (∀ (j : Nat) (h : j < gs.length), j < i → goodB gs[j]) ∧ ((gs.take i).map Gd.name).Nodup ∧ MpG kStr b1 (kvs Gd.name encG (gs.take i)) C1 := hI
  obtain ⟨hi, hgood, hnd, hK⟩ := hI
  change WC _ _ _ _ _ _ ([(18, .int .i64 (i : Int))] ++ _) (row b15 [.map (some b1), .map (some b2)] 189 :: (C1 ++ (C2 ++ H)))
  refine sr_ ?_
  refine WL.y rfl (Yd.lss rfl rfl) ?_
  refine nt_ ?_
  refine WC.seq ?_
  refine WC.ite rfl (fun h19 => ?_) (fun h19 => ?_)
  ·have hlt : i < gs.length := by omega
   have hgn := hg gs[i] (List.getElem_mem hlt)
   have htk : gs.take (i + 1) = gs.take i ++ [gs[i]] := List.take_succ_eq_append_getElem hlt
   refine WC.skip ?_
   refine ts_ ?_
   refine WC.block ?_
   refine sr_ ?_
   refine WL.elemA (e := 73) (s := 2) kr_ kr_ kr_ rfl rfl (rfl) (hv.mono gr_) (flat_row cellsG 2 cellsG_len gs i hlt) (by rfl) (by omega) (hlt) rfl rfl ?_
   intro p20
   refine WL.h rfl (Hd.alloc (zs := [.string ⟨#[]⟩, .int .i64 0]) kr_ fun b6 => ⟨_, rfl, ?_⟩)
   refine WL.s (Hd.storeAll (n := 2) kr_ rfl rfl (by rfl) one_ fr_ (by rfl) ⟨rfl, ?_⟩)
   refine nt_ ?_
   refine WC.cutK (fun z : Nat => True) (fun z : Nat => [(8, .bool (findK Gd.name (gs.take i) gs[i].name).isSome)]) (fun z : Nat => row b6 (cellsG gs[i]) 73 :: (row b15 [.map (some b1), .map (some b2)] 189 :: (C1 ++ (C2 ++ H)))) ?_ ?_
   ·refine WC.draw 13 kr_ rfl ?_
    refine WA.y (i := 0) (NoPanic.then (NoPanic.block (NoPanic.then (NoPanic.then (NoPanic.block (NoPanic.then (NoPanic.body))))))) rfl kr_ kr_ kr_ rfl (Yd.move rfl) ?_
    refine WA.y (i := 1) (NoPanic.then (NoPanic.block (NoPanic.then (NoPanic.then (NoPanic.block (NoPanic.then (NoPanic.body))))))) rfl kr_ kr_ kr_ rfl (Yd.notNil rfl) ?_
    refine WA.y (i := 2) (NoPanic.then (NoPanic.block (NoPanic.then (NoPanic.then (NoPanic.block (NoPanic.then (NoPanic.body))))))) rfl kr_ kr_ kr_ rfl (Yd.fieldAddr (k := 0) kr_ rfl) ?_
    refine WA.y (i := 4) (NoPanic.then (NoPanic.block (NoPanic.then (NoPanic.then (NoPanic.block (NoPanic.then (NoPanic.body))))))) rfl kr_ kr_ kr_ rfl (Yd.fieldAddr (k := 0) kr_ rfl) ?_
    refine WA.three (i := 3) (j := 5) (k := 10) kr_ ?_ ?_ ?_
    ·refine WO.h rfl Wt.none rfl (Hd.load1 kr_ rfl mem_ (by rfl) ⟨_, rfl, ?_⟩)
     refine WA.two (i := 5) (j := 10) kr_ ?_ ?_
     ·refine WO.h rfl Wt.none rfl (Hd.load1 kr_ rfl mem_ (by rfl) ⟨_, rfl, ?_⟩)
      refine WA.two (i := 6) (j := 10) kr_ ?_ ?_
      ·refine WO.h rfl Wt.none rfl (Hd.lookupG (k0 := kStr) (KT := 9) (ET := 191) (TD := .string) (n := gs[i].name) (z := .agg #[.int .i64 0, .int .i64 0]) kr_ Tryz.underlying9 rfl kr_ rfl rfl hK sp_ (lkG2 (gs.take i) gs[i].name) ⟨_, rfl, ?_⟩)
       refine WA.y (i := 7) (NoPanic.then (NoPanic.block (NoPanic.then (NoPanic.then (NoPanic.block (NoPanic.then (NoPanic.body))))))) rfl kr_ kr_ kr_ rfl (Yd.move rfl) ?_
       refine WA.y (i := 8) (NoPanic.then (NoPanic.block (NoPanic.then (NoPanic.then (NoPanic.block (NoPanic.then (NoPanic.body))))))) rfl kr_ kr_ kr_ rfl (Yd.extract rfl rfl) ?_
       refine WA.y (i := 9) (NoPanic.then (NoPanic.block (NoPanic.then (NoPanic.then (NoPanic.block (NoPanic.then (NoPanic.body))))))) rfl kr_ kr_ kr_ rfl (Yd.extract rfl rfl) ?_
       refine WA.one (i := 10) kr_ ?_
       refine WO.h rfl Wt.none rfl (Hd.alloc (zs := [.int .i64 0, .int .i64 0]) kr_ fun b7 => ⟨_, rfl, ?_⟩)
       refine WA.one (i := 11) kr_ ?_
       refine WO.s rfl Wt.none (Hd.storeAll (n := 2) kr_ rfl rfl (by rfl) one_ fr_ (by rfl) ⟨rfl, ?_⟩)
       refine WA.y (i := 12) (NoPanic.then (NoPanic.block (NoPanic.then (NoPanic.then (NoPanic.block (NoPanic.then (NoPanic.body))))))) rfl kr_ kr_ kr_ rfl (Yd.assign rfl) ?_
       refine WA.done kr_ ?_
       refine DN.fit (C := row b6 (cellsG gs[i]) 73 :: (row b15 [.map (some b1), .map (some b2)] 189 :: (C1 ++ (C2 ++ H)))) sp_ ?_
       exact DN.reachK (0) (trivial) (Sx.put rfl (sx_)) (Sp.all sp_)
      ·refine WO.h rfl Wt.none rfl (Hd.alloc (zs := [.int .i64 0, .int .i64 0]) kr_ fun b7 => ⟨_, rfl, ?_⟩)
       refine WA.one (i := 6) kr_ ?_
       refine WO.h rfl Wt.none rfl (Hd.lookupG (k0 := kStr) (KT := 9) (ET := 191) (TD := .string) (n := gs[i].name) (z := .agg #[.int .i64 0, .int .i64 0]) kr_ Tryz.underlying9 rfl kr_ rfl rfl hK sp_ (lkG2 (gs.take i) gs[i].name) ⟨_, rfl, ?_⟩)
       refine WA.y (i := 7) (NoPanic.then (NoPanic.block (NoPanic.then (NoPanic.then (NoPanic.block (NoPanic.then (NoPanic.body))))))) rfl kr_ kr_ kr_ rfl (Yd.move rfl) ?_
       refine WA.y (i := 8) (NoPanic.then (NoPanic.block (NoPanic.then (NoPanic.then (NoPanic.block (NoPanic.then (NoPanic.body))))))) rfl kr_ kr_ kr_ rfl (Yd.extract rfl rfl) ?_
       refine WA.y (i := 9) (NoPanic.then (NoPanic.block (NoPanic.then (NoPanic.then (NoPanic.block (NoPanic.then (NoPanic.body))))))) rfl kr_ kr_ kr_ rfl (Yd.extract rfl rfl) ?_
       refine WA.one (i := 11) kr_ ?_
       refine WO.s rfl Wt.none (Hd.storeAll (n := 2) kr_ rfl rfl (by rfl) one_ fr_ (by rfl) ⟨rfl, ?_⟩)
       refine WA.y (i := 12) (NoPanic.then (NoPanic.block (NoPanic.then (NoPanic.then (NoPanic.block (NoPanic.then (NoPanic.body))))))) rfl kr_ kr_ kr_ rfl (Yd.assign rfl) ?_
       refine WA.done kr_ ?_
       refine DN.fit (C := row b6 (cellsG gs[i]) 73 :: (row b15 [.map (some b1), .map (some b2)] 189 :: (C1 ++ (C2 ++ H)))) sp_ ?_
       exact DN.reachK (0) (trivial) (Sx.put rfl (sx_)) (Sp.all sp_)
     ·refine WO.h rfl Wt.none rfl (Hd.alloc (zs := [.int .i64 0, .int .i64 0]) kr_ fun b7 => ⟨_, rfl, ?_⟩)
      refine WA.one (i := 5) kr_ ?_
      refine WO.h rfl Wt.none rfl (Hd.load1 kr_ rfl mem_ (by rfl) ⟨_, rfl, ?_⟩)
      refine WA.one (i := 6) kr_ ?_
      refine WO.h rfl Wt.none rfl (Hd.lookupG (k0 := kStr) (KT := 9) (ET := 191) (TD := .string) (n := gs[i].name) (z := .agg #[.int .i64 0, .int .i64 0]) kr_ Tryz.underlying9 rfl kr_ rfl rfl hK sp_ (lkG2 (gs.take i) gs[i].name) ⟨_, rfl, ?_⟩)
      refine WA.y (i := 7) (NoPanic.then (NoPanic.block (NoPanic.then (NoPanic.then (NoPanic.block (NoPanic.then (NoPanic.body))))))) rfl kr_ kr_ kr_ rfl (Yd.move rfl) ?_
      refine WA.y (i := 8) (NoPanic.then (NoPanic.block (NoPanic.then (NoPanic.then (NoPanic.block (NoPanic.then (NoPanic.body))))))) rfl kr_ kr_ kr_ rfl (Yd.extract rfl rfl) ?_
      refine WA.y (i := 9) (NoPanic.then (NoPanic.block (NoPanic.then (NoPanic.then (NoPanic.block (NoPanic.then (NoPanic.body))))))) rfl kr_ kr_ kr_ rfl (Yd.extract rfl rfl) ?_
      refine WA.one (i := 11) kr_ ?_
      refine WO.s rfl Wt.none (Hd.storeAll (n := 2) kr_ rfl rfl (by rfl) one_ fr_ (by rfl) ⟨rfl, ?_⟩)
      refine WA.y (i := 12) (NoPanic.then (NoPanic.block (NoPanic.then (NoPanic.then (NoPanic.block (NoPanic.then (NoPanic.body))))))) rfl kr_ kr_ kr_ rfl (Yd.assign rfl) ?_
      refine WA.done kr_ ?_
      refine DN.fit (C := row b6 (cellsG gs[i]) 73 :: (row b15 [.map (some b1), .map (some b2)] 189 :: (C1 ++ (C2 ++ H)))) sp_ ?_
      exact DN.reachK (0) (trivial) (Sx.put rfl (sx_)) (Sp.all sp_)
    ·refine WO.h rfl Wt.none rfl (Hd.load1 kr_ rfl mem_ (by rfl) ⟨_, rfl, ?_⟩)
     refine WA.two (i := 3) (j := 10) kr_ ?_ ?_
     ·refine WO.h rfl Wt.none rfl (Hd.load1 kr_ rfl mem_ (by rfl) ⟨_, rfl, ?_⟩)
      refine WA.two (i := 6) (j := 10) kr_ ?_ ?_
      ·refine WO.h rfl Wt.none rfl (Hd.lookupG (k0 := kStr) (KT := 9) (ET := 191) (TD := .string) (n := gs[i].name) (z := .agg #[.int .i64 0, .int .i64 0]) kr_ Tryz.underlying9 rfl kr_ rfl rfl hK sp_ (lkG2 (gs.take i) gs[i].name) ⟨_, rfl, ?_⟩)
       refine WA.y (i := 7) (NoPanic.then (NoPanic.block (NoPanic.then (NoPanic.then (NoPanic.block (NoPanic.then (NoPanic.body))))))) rfl kr_ kr_ kr_ rfl (Yd.move rfl) ?_
       refine WA.y (i := 8) (NoPanic.then (NoPanic.block (NoPanic.then (NoPanic.then (NoPanic.block (NoPanic.then (NoPanic.body))))))) rfl kr_ kr_ kr_ rfl (Yd.extract rfl rfl) ?_
       refine WA.y (i := 9) (NoPanic.then (NoPanic.block (NoPanic.then (NoPanic.then (NoPanic.block (NoPanic.then (NoPanic.body))))))) rfl kr_ kr_ kr_ rfl (Yd.extract rfl rfl) ?_
       refine WA.one (i := 10) kr_ ?_
       refine WO.h rfl Wt.none rfl (Hd.alloc (zs := [.int .i64 0, .int .i64 0]) kr_ fun b7 => ⟨_, rfl, ?_⟩)
       refine WA.one (i := 11) kr_ ?_
       refine WO.s rfl Wt.none (Hd.storeAll (n := 2) kr_ rfl rfl (by rfl) one_ fr_ (by rfl) ⟨rfl, ?_⟩)
       refine WA.y (i := 12) (NoPanic.then (NoPanic.block (NoPanic.then (NoPanic.then (NoPanic.block (NoPanic.then (NoPanic.body))))))) rfl kr_ kr_ kr_ rfl (Yd.assign rfl) ?_
       refine WA.done kr_ ?_
       refine DN.fit (C := row b6 (cellsG gs[i]) 73 :: (row b15 [.map (some b1), .map (some b2)] 189 :: (C1 ++ (C2 ++ H)))) sp_ ?_
       exact DN.reachK (0) (trivial) (Sx.put rfl (sx_)) (Sp.all sp_)
      ·refine WO.h rfl Wt.none rfl (Hd.alloc (zs := [.int .i64 0, .int .i64 0]) kr_ fun b7 => ⟨_, rfl, ?_⟩)
       refine WA.one (i := 6) kr_ ?_
       refine WO.h rfl Wt.none rfl (Hd.lookupG (k0 := kStr) (KT := 9) (ET := 191) (TD := .string) (n := gs[i].name) (z := .agg #[.int .i64 0, .int .i64 0]) kr_ Tryz.underlying9 rfl kr_ rfl rfl hK sp_ (lkG2 (gs.take i) gs[i].name) ⟨_, rfl, ?_⟩)
       refine WA.y (i := 7) (NoPanic.then (NoPanic.block (NoPanic.then (NoPanic.then (NoPanic.block (NoPanic.then (NoPanic.body))))))) rfl kr_ kr_ kr_ rfl (Yd.move rfl) ?_
       refine WA.y (i := 8) (NoPanic.then (NoPanic.block (NoPanic.then (NoPanic.then (NoPanic.block (NoPanic.then (NoPanic.body))))))) rfl kr_ kr_ kr_ rfl (Yd.extract rfl rfl) ?_
       refine WA.y (i := 9) (NoPanic.then (NoPanic.block (NoPanic.then (NoPanic.then (NoPanic.block (NoPanic.then (NoPanic.body))))))) rfl kr_ kr_ kr_ rfl (Yd.extract rfl rfl) ?_
       refine WA.one (i := 11) kr_ ?_
       refine WO.s rfl Wt.none (Hd.storeAll (n := 2) kr_ rfl rfl (by rfl) one_ fr_ (by rfl) ⟨rfl, ?_⟩)
       refine WA.y (i := 12) (NoPanic.then (NoPanic.block (NoPanic.then (NoPanic.then (NoPanic.block (NoPanic.then (NoPanic.body))))))) rfl kr_ kr_ kr_ rfl (Yd.assign rfl) ?_
       refine WA.done kr_ ?_
       refine DN.fit (C := row b6 (cellsG gs[i]) 73 :: (row b15 [.map (some b1), .map (some b2)] 189 :: (C1 ++ (C2 ++ H)))) sp_ ?_
       exact DN.reachK (0) (trivial) (Sx.put rfl (sx_)) (Sp.all sp_)
     ·refine WO.h rfl Wt.none rfl (Hd.alloc (zs := [.int .i64 0, .int .i64 0]) kr_ fun b7 => ⟨_, rfl, ?_⟩)
      refine WA.one (i := 3) kr_ ?_
      refine WO.h rfl Wt.none rfl (Hd.load1 kr_ rfl mem_ (by rfl) ⟨_, rfl, ?_⟩)
      refine WA.one (i := 6) kr_ ?_
      refine WO.h rfl Wt.none rfl (Hd.lookupG (k0 := kStr) (KT := 9) (ET := 191) (TD := .string) (n := gs[i].name) (z := .agg #[.int .i64 0, .int .i64 0]) kr_ Tryz.underlying9 rfl kr_ rfl rfl hK sp_ (lkG2 (gs.take i) gs[i].name) ⟨_, rfl, ?_⟩)
      refine WA.y (i := 7) (NoPanic.then (NoPanic.block (NoPanic.then (NoPanic.then (NoPanic.block (NoPanic.then (NoPanic.body))))))) rfl kr_ kr_ kr_ rfl (Yd.move rfl) ?_
      refine WA.y (i := 8) (NoPanic.then (NoPanic.block (NoPanic.then (NoPanic.then (NoPanic.block (NoPanic.then (NoPanic.body))))))) rfl kr_ kr_ kr_ rfl (Yd.extract rfl rfl) ?_
      refine WA.y (i := 9) (NoPanic.then (NoPanic.block (NoPanic.then (NoPanic.then (NoPanic.block (NoPanic.then (NoPanic.body))))))) rfl kr_ kr_ kr_ rfl (Yd.extract rfl rfl) ?_
      refine WA.one (i := 11) kr_ ?_
      refine WO.s rfl Wt.none (Hd.storeAll (n := 2) kr_ rfl rfl (by rfl) one_ fr_ (by rfl) ⟨rfl, ?_⟩)
      refine WA.y (i := 12) (NoPanic.then (NoPanic.block (NoPanic.then (NoPanic.then (NoPanic.block (NoPanic.then (NoPanic.body))))))) rfl kr_ kr_ kr_ rfl (Yd.assign rfl) ?_
      refine WA.done kr_ ?_
      refine DN.fit (C := row b6 (cellsG gs[i]) 73 :: (row b15 [.map (some b1), .map (some b2)] 189 :: (C1 ++ (C2 ++ H)))) sp_ ?_
      exact DN.reachK (0) (trivial) (Sx.put rfl (sx_)) (Sp.all sp_)
    ·refine WO.h rfl Wt.none rfl (Hd.alloc (zs := [.int .i64 0, .int .i64 0]) kr_ fun b7 => ⟨_, rfl, ?_⟩)
     refine WA.two (i := 3) (j := 5) kr_ ?_ ?_
     ·refine WO.h rfl Wt.none rfl (Hd.load1 kr_ rfl mem_ (by rfl) ⟨_, rfl, ?_⟩)
      refine WA.one (i := 5) kr_ ?_
      refine WO.h rfl Wt.none rfl (Hd.load1 kr_ rfl mem_ (by rfl) ⟨_, rfl, ?_⟩)
      refine WA.one (i := 6) kr_ ?_
      refine WO.h rfl Wt.none rfl (Hd.lookupG (k0 := kStr) (KT := 9) (ET := 191) (TD := .string) (n := gs[i].name) (z := .agg #[.int .i64 0, .int .i64 0]) kr_ Tryz.underlying9 rfl kr_ rfl rfl hK sp_ (lkG2 (gs.take i) gs[i].name) ⟨_, rfl, ?_⟩)
      refine WA.y (i := 7) (NoPanic.then (NoPanic.block (NoPanic.then (NoPanic.then (NoPanic.block (NoPanic.then (NoPanic.body))))))) rfl kr_ kr_ kr_ rfl (Yd.move rfl) ?_
      refine WA.y (i := 8) (NoPanic.then (NoPanic.block (NoPanic.then (NoPanic.then (NoPanic.block (NoPanic.then (NoPanic.body))))))) rfl kr_ kr_ kr_ rfl (Yd.extract rfl rfl) ?_
      refine WA.y (i := 9) (NoPanic.then (NoPanic.block (NoPanic.then (NoPanic.then (NoPanic.block (NoPanic.then (NoPanic.body))))))) rfl kr_ kr_ kr_ rfl (Yd.extract rfl rfl) ?_
      refine WA.one (i := 11) kr_ ?_
      refine WO.s rfl Wt.none (Hd.storeAll (n := 2) kr_ rfl rfl (by rfl) one_ fr_ (by rfl) ⟨rfl, ?_⟩)
      refine WA.y (i := 12) (NoPanic.then (NoPanic.block (NoPanic.then (NoPanic.then (NoPanic.block (NoPanic.then (NoPanic.body))))))) rfl kr_ kr_ kr_ rfl (Yd.assign rfl) ?_
      refine WA.done kr_ ?_
      refine DN.fit (C := row b6 (cellsG gs[i]) 73 :: (row b15 [.map (some b1), .map (some b2)] 189 :: (C1 ++ (C2 ++ H)))) sp_ ?_
      exact DN.reachK (0) (trivial) (Sx.put rfl (sx_)) (Sp.all sp_)
     ·refine WO.h rfl Wt.none rfl (Hd.load1 kr_ rfl mem_ (by rfl) ⟨_, rfl, ?_⟩)
      refine WA.one (i := 3) kr_ ?_
      refine WO.h rfl Wt.none rfl (Hd.load1 kr_ rfl mem_ (by rfl) ⟨_, rfl, ?_⟩)
      refine WA.one (i := 6) kr_ ?_
      refine WO.h rfl Wt.none rfl (Hd.lookupG (k0 := kStr) (KT := 9) (ET := 191) (TD := .string) (n := gs[i].name) (z := .agg #[.int .i64 0, .int .i64 0]) kr_ Tryz.underlying9 rfl kr_ rfl rfl hK sp_ (lkG2 (gs.take i) gs[i].name) ⟨_, rfl, ?_⟩)
      refine WA.y (i := 7) (NoPanic.then (NoPanic.block (NoPanic.then (NoPanic.then (NoPanic.block (NoPanic.then (NoPanic.body))))))) rfl kr_ kr_ kr_ rfl (Yd.move rfl) ?_
      refine WA.y (i := 8) (NoPanic.then (NoPanic.block (NoPanic.then (NoPanic.then (NoPanic.block (NoPanic.then (NoPanic.body))))))) rfl kr_ kr_ kr_ rfl (Yd.extract rfl rfl) ?_
      refine WA.y (i := 9) (NoPanic.then (NoPanic.block (NoPanic.then (NoPanic.then (NoPanic.block (NoPanic.then (NoPanic.body))))))) rfl kr_ kr_ kr_ rfl (Yd.extract rfl rfl) ?_
      refine WA.one (i := 11) kr_ ?_
      refine WO.s rfl Wt.none (Hd.storeAll (n := 2) kr_ rfl rfl (by rfl) one_ fr_ (by rfl) ⟨rfl, ?_⟩)
      refine WA.y (i := 12) (NoPanic.then (NoPanic.block (NoPanic.then (NoPanic.then (NoPanic.block (NoPanic.then (NoPanic.body))))))) rfl kr_ kr_ kr_ rfl (Yd.assign rfl) ?_
      refine WA.done kr_ ?_
      refine DN.fit (C := row b6 (cellsG gs[i]) 73 :: (row b15 [.map (some b1), .map (some b2)] 189 :: (C1 ++ (C2 ++ H)))) sp_ ?_
      exact DN.reachK (0) (trivial) (Sx.put rfl (sx_)) (Sp.all sp_)
   ·intro _ _
    refine WC.seq ?_
    refine sr_ ?_
    refine f_ 0 kr_ rfl rfl ?_
    refine d_ kr_ rfl mem_ (by rfl) rfl ?_
    refine WL.y rfl (Yd.eqlS rfl rfl) ?_
    refine m_ rfl rfl ?_
    refine WL.partP (t := 35) rfl (fun hg35 => ?_) (fun hg35 => ?_)
    ·iterate 4 refine gn_ 35 rfl rfl rfl rfl ?_
     refine WL.y rfl (Yd.pickT rfl rfl) ?_
     refine m_ rfl rfl ?_
     iterate 3 refine gn_ 41 rfl rfl rfl rfl ?_
     refine WL.y rfl (Yd.pickT rfl rfl) ?_
     refine m_ rfl rfl ?_
     iterate 3 refine gn_ 46 rfl rfl rfl rfl ?_
     refine WL.y rfl (Yd.pickT rfl rfl) ?_
     refine m_ rfl rfl ?_
     refine gn_ 51 rfl rfl rfl rfl ?_
     refine WL.y rfl (Yd.pickT rfl rfl) ?_
     refine nt_ ?_
     refine WC.yes rfl ?_
     refine sr_ ?_
     refine a_ rfl rfl ?_
     refine a_ rfl rfl ?_
     refine nt_ ?_
     refine WC.ret ?_
     refine DN.then_ret ?_
     refine DN.block_ret ?_
     refine DN.then_ret ?_
     refine DN.then_ret ?_
     refine DN.block_ret ?_
     refine DN.then_ret ?_
     first | (have hlt2 : i < gs.length := hlt; refine DN.fit (C := H) sp_ ?_) | refine DN.fit (C := row b15 [.map (some b1), .map (some b2)] 189 :: (C1 ++ (C2 ++ H))) sp_ ?_ | skip
     refine DN.ret2 Tryz.results63 rfl rfl ?_
     first
       | exact .inr ⟨fun hG => by have := hG.1; omega, rfl, rfl⟩
       | exact .inr ⟨fun hG => (hG.2.2 gs[i] (List.getElem_mem hlt)).1 hg35, rfl, rfl⟩
       | exact .inr ⟨fun hG => by have := (hG.2.2 gs[i] (List.getElem_mem hlt)).2; omega, rfl, rfl⟩
       | exact .inr ⟨fun hG => (twice_no hlt h53) hG.2.1, rfl, rfl⟩
       | exact .inl ⟨⟨by omega, hnd, fun g hm => by obtain ⟨j, hj, rfl⟩ := List.getElem_of_mem hm; exact hgood j hj hj⟩, b15, row b15 [.map (some b1), .map (some b2)] 189 :: (C1 ++ C2), rfl, ⟨b1, b2, C1, C2, rfl, hK, h2⟩, by simp⟩
    ·refine gy_ 35 rfl rfl rfl (Yd.fieldAddr (k := 0) kr_ rfl) ?_
     refine WL.gh (dj := 35) rfl rfl rfl (Hd.load1 kr_ rfl mem_ (by rfl) ⟨_, rfl, ?_⟩)
     refine gy_ 35 rfl rfl rfl (Yd.lenS Tryz.underlying9 rfl) ?_
     refine gy_ 35 rfl rfl rfl (Yd.gtr rfl rfl) ?_
     refine WL.y rfl (Yd.pickF rfl rfl) ?_
     refine m_ rfl rfl ?_
     refine WL.partP (t := 41) rfl (fun hg41 => ?_) (fun hg41 => ?_)
     ·iterate 3 refine gn_ 41 rfl rfl rfl rfl ?_
      refine WL.y rfl (Yd.pickT rfl rfl) ?_
      refine m_ rfl rfl ?_
      iterate 3 refine gn_ 46 rfl rfl rfl rfl ?_
      refine WL.y rfl (Yd.pickT rfl rfl) ?_
      refine m_ rfl rfl ?_
      refine gn_ 51 rfl rfl rfl rfl ?_
      refine WL.y rfl (Yd.pickT rfl rfl) ?_
      refine nt_ ?_
      refine WC.yes rfl ?_
      refine sr_ ?_
      refine a_ rfl rfl ?_
      refine a_ rfl rfl ?_
      refine nt_ ?_
      refine WC.ret ?_
      refine DN.then_ret ?_
      refine DN.block_ret ?_
      refine DN.then_ret ?_
      refine DN.then_ret ?_
      refine DN.block_ret ?_
      refine DN.then_ret ?_
      first | (have hlt2 : i < gs.length := hlt; refine DN.fit (C := H) sp_ ?_) | refine DN.fit (C := row b15 [.map (some b1), .map (some b2)] 189 :: (C1 ++ (C2 ++ H))) sp_ ?_ | skip
      refine DN.ret2 Tryz.results63 rfl rfl ?_
      first
        | exact .inr ⟨fun hG => by have := hG.1; omega, rfl, rfl⟩
        | exact .inr ⟨fun hG => (hG.2.2 gs[i] (List.getElem_mem hlt)).1 hg35, rfl, rfl⟩
        | exact .inr ⟨fun hG => by have := (hG.2.2 gs[i] (List.getElem_mem hlt)).2; omega, rfl, rfl⟩
        | exact .inr ⟨fun hG => (twice_no hlt h53) hG.2.1, rfl, rfl⟩
        | exact .inl ⟨⟨by omega, hnd, fun g hm => by obtain ⟨j, hj, rfl⟩ := List.getElem_of_mem hm; exact hgood j hj hj⟩, b15, row b15 [.map (some b1), .map (some b2)] 189 :: (C1 ++ C2), rfl, ⟨b1, b2, C1, C2, rfl, hK, h2⟩, by simp⟩
     ·refine gy_ 41 rfl rfl rfl (Yd.fieldAddr (k := 1) kr_ rfl) ?_
      refine WL.gh (dj := 41) rfl rfl rfl (Hd.load1 kr_ rfl mem_ (by rfl) ⟨_, rfl, ?_⟩)
      refine gy_ 41 rfl rfl rfl (Yd.lss rfl rfl) ?_
      refine WL.y rfl (Yd.pickF rfl rfl) ?_
      refine m_ rfl rfl ?_
      refine WL.partP (t := 46) rfl (fun hg46 => ?_) (fun hg46 => ?_)
      ·iterate 3 refine gn_ 46 rfl rfl rfl rfl ?_
       refine WL.y rfl (Yd.pickT rfl rfl) ?_
       refine m_ rfl rfl ?_
       refine gn_ 51 rfl rfl rfl rfl ?_
       refine WL.y rfl (Yd.pickT rfl rfl) ?_
       refine nt_ ?_
       refine WC.yes rfl ?_
       refine sr_ ?_
       refine a_ rfl rfl ?_
       refine a_ rfl rfl ?_
       refine nt_ ?_
       refine WC.ret ?_
       refine DN.then_ret ?_
       refine DN.block_ret ?_
       refine DN.then_ret ?_
       refine DN.then_ret ?_
       refine DN.block_ret ?_
       refine DN.then_ret ?_
       first | (have hlt2 : i < gs.length := hlt; refine DN.fit (C := H) sp_ ?_) | refine DN.fit (C := row b15 [.map (some b1), .map (some b2)] 189 :: (C1 ++ (C2 ++ H))) sp_ ?_ | skip
       refine DN.ret2 Tryz.results63 rfl rfl ?_
       first
         | exact .inr ⟨fun hG => by have := hG.1; omega, rfl, rfl⟩
         | exact .inr ⟨fun hG => (hG.2.2 gs[i] (List.getElem_mem hlt)).1 hg35, rfl, rfl⟩
         | exact .inr ⟨fun hG => by have := (hG.2.2 gs[i] (List.getElem_mem hlt)).2; omega, rfl, rfl⟩
         | exact .inr ⟨fun hG => (twice_no hlt h53) hG.2.1, rfl, rfl⟩
         | exact .inl ⟨⟨by omega, hnd, fun g hm => by obtain ⟨j, hj, rfl⟩ := List.getElem_of_mem hm; exact hgood j hj hj⟩, b15, row b15 [.map (some b1), .map (some b2)] 189 :: (C1 ++ C2), rfl, ⟨b1, b2, C1, C2, rfl, hK, h2⟩, by simp⟩
      ·refine gy_ 46 rfl rfl rfl (Yd.fieldAddr (k := 1) kr_ rfl) ?_
       refine WL.gh (dj := 46) rfl rfl rfl (Hd.load1 kr_ rfl mem_ (by rfl) ⟨_, rfl, ?_⟩)
       refine gy_ 46 rfl rfl rfl (Yd.gtr rfl rfl) ?_
       refine WL.y rfl (Yd.pickF rfl rfl) ?_
       refine m_ rfl rfl ?_
       refine WL.partP (t := 51) rfl (fun hg51 => ?_) (fun hg51 => ?_)
       ·refine gn_ 51 rfl rfl rfl rfl ?_
        refine WL.y rfl (Yd.pickT rfl rfl) ?_
        refine nt_ ?_
        refine WC.yes rfl ?_
        refine sr_ ?_
        refine a_ rfl rfl ?_
        refine a_ rfl rfl ?_
        refine nt_ ?_
        refine WC.ret ?_
        refine DN.then_ret ?_
        refine DN.block_ret ?_
        refine DN.then_ret ?_
        refine DN.then_ret ?_
        refine DN.block_ret ?_
        refine DN.then_ret ?_
        first | (have hlt2 : i < gs.length := hlt; refine DN.fit (C := H) sp_ ?_) | refine DN.fit (C := row b15 [.map (some b1), .map (some b2)] 189 :: (C1 ++ (C2 ++ H))) sp_ ?_ | skip
        refine DN.ret2 Tryz.results63 rfl rfl ?_
        first
          | exact .inr ⟨fun hG => by have := hG.1; omega, rfl, rfl⟩
          | exact .inr ⟨fun hG => (hG.2.2 gs[i] (List.getElem_mem hlt)).1 hg35, rfl, rfl⟩
          | exact .inr ⟨fun hG => by have := (hG.2.2 gs[i] (List.getElem_mem hlt)).2; omega, rfl, rfl⟩
          | exact .inr ⟨fun hG => (twice_no hlt h53) hG.2.1, rfl, rfl⟩
          | exact .inl ⟨⟨by omega, hnd, fun g hm => by obtain ⟨j, hj, rfl⟩ := List.getElem_of_mem hm; exact hgood j hj hj⟩, b15, row b15 [.map (some b1), .map (some b2)] 189 :: (C1 ++ C2), rfl, ⟨b1, b2, C1, C2, rfl, hK, h2⟩, by simp⟩
       ·refine gy_ 51 rfl rfl rfl (Yd.move rfl) ?_
        refine WL.y rfl (Yd.pickF rfl rfl) ?_
        refine nt_ ?_
        refine WC.cond rfl (fun h53 => ?_) (fun h53 => ?_)
        ·refine sr_ ?_
         refine a_ rfl rfl ?_
         refine a_ rfl rfl ?_
         refine nt_ ?_
         refine WC.ret ?_
         refine DN.then_ret ?_
         refine DN.block_ret ?_
         refine DN.then_ret ?_
         refine DN.then_ret ?_
         refine DN.block_ret ?_
         refine DN.then_ret ?_
         first | (have hlt2 : i < gs.length := hlt; refine DN.fit (C := H) sp_ ?_) | refine DN.fit (C := row b15 [.map (some b1), .map (some b2)] 189 :: (C1 ++ (C2 ++ H))) sp_ ?_ | skip
         refine DN.ret2 Tryz.results63 rfl rfl ?_
         first
           | exact .inr ⟨fun hG => by have := hG.1; omega, rfl, rfl⟩
           | exact .inr ⟨fun hG => (hG.2.2 gs[i] (List.getElem_mem hlt)).1 hg35, rfl, rfl⟩
           | exact .inr ⟨fun hG => by have := (hG.2.2 gs[i] (List.getElem_mem hlt)).2; omega, rfl, rfl⟩
           | exact .inr ⟨fun hG => (twice_no hlt h53) hG.2.1, rfl, rfl⟩
           | exact .inl ⟨⟨by omega, hnd, fun g hm => by obtain ⟨j, hj, rfl⟩ := List.getElem_of_mem hm; exact hgood j hj hj⟩, b15, row b15 [.map (some b1), .map (some b2)] 189 :: (C1 ++ C2), rfl, ⟨b1, b2, C1, C2, rfl, hK, h2⟩, by simp⟩
        ·have hgi : goodB gs[i] := ⟨hg35, by omega, by omega, by omega⟩
         have hnone : findK Gd.name (gs.take i) gs[i].name = none := by simpa using h53
         have hndi := once_more hnd hnone
         refine WC.skip ?_
         refine DN.then_normal ?_
         refine WC.draw 10 kr_ rfl ?_
         refine WA.y (i := 0) (NoPanic.block (NoPanic.then (NoPanic.then (NoPanic.block (NoPanic.then (NoPanic.body)))))) rfl kr_ kr_ kr_ rfl (Yd.move rfl) ?_
         refine WA.y (i := 1) (NoPanic.block (NoPanic.then (NoPanic.then (NoPanic.block (NoPanic.then (NoPanic.body)))))) rfl kr_ kr_ kr_ rfl (Yd.notNil rfl) ?_
         refine WA.y (i := 2) (NoPanic.block (NoPanic.then (NoPanic.then (NoPanic.block (NoPanic.then (NoPanic.body)))))) rfl kr_ kr_ kr_ rfl (Yd.fieldAddr (k := 0) kr_ rfl) ?_
         refine WA.y (i := 4) (NoPanic.block (NoPanic.then (NoPanic.then (NoPanic.block (NoPanic.then (NoPanic.body)))))) rfl kr_ kr_ kr_ rfl (Yd.fieldAddr (k := 0) kr_ rfl) ?_
         refine WA.y (i := 6) (NoPanic.block (NoPanic.then (NoPanic.then (NoPanic.block (NoPanic.then (NoPanic.body)))))) rfl kr_ kr_ kr_ rfl (Yd.fieldAddr (k := 1) kr_ rfl) ?_
         refine WA.three (i := 3) (j := 5) (k := 7) kr_ ?_ ?_ ?_
         ·refine WO.h rfl Wt.none rfl (Hd.load1 kr_ rfl mem_ (by rfl) ⟨_, rfl, ?_⟩)
          refine WA.two (i := 5) (j := 7) kr_ ?_ ?_
          ·refine WO.h rfl Wt.none rfl (Hd.load1 kr_ rfl mem_ (by rfl) ⟨_, rfl, ?_⟩)
           refine WA.one (i := 7) kr_ ?_
           refine WO.h rfl Wt.none rfl (Hd.load1 kr_ rfl mem_ (by rfl) ⟨_, rfl, ?_⟩)
           refine WA.y (i := 8) (NoPanic.block (NoPanic.then (NoPanic.then (NoPanic.block (NoPanic.then (NoPanic.body)))))) rfl kr_ kr_ kr_ rfl (Yd.buildL (pl := [(0, 1), (1, 1)]) (zs := [.int .i64 0, .int .i64 0]) (parts := [(0, .tmp 61)]) (vs := [(0, _)]) (cells := [_, .int .i64 0]) kr_ kr_ rfl rfl) ?_
           refine WA.one (i := 9) kr_ ?_
           refine WO.s rfl Wt.none (Hd.mapSet (k0 := kStr) (KT := 9) (ET := 191) (TD := .string) (n := gs[i].name) kr_ Tryz.underlying9 rfl rfl rfl rfl hK (by rw [kvs_keys]; exact hnd) sp_ fun C3 h3 => ⟨rfl, ?_⟩)
           refine WA.done kr_ ?_
           refine DN.block_normal ?_
           refine DN.then_normal ?_
           refine WC.region ?_
           refine WL.y rfl (Yd.add rfl rfl (by omega) (by omega)) ?_
           refine m_ rfl rfl ?_
           refine WL.nil ?_
           exact DN.againS (⟨i + 1, C3⟩) (show (i + 1) ≤ gs.length ∧ (∀ (j : Nat) (h : j < gs.length), j < (i + 1) → goodB gs[j]) ∧ ((gs.take (i + 1)).map Gd.name).Nodup ∧ MpG kStr b1 (kvs Gd.name encG (gs.take (i + 1))) C3 from ⟨by omega, fun j h hj => by
             rcases Nat.lt_or_ge j i with h5 | h5
             · exact hgood j h h5
             · obtain rfl : j = i := by omega
               exact hgi, by rw [htk]; exact hndi, by rw [htk]; exact put_more hgn hnone h3⟩) (show gs.length - (i + 1) < gs.length - i by omega) (Sx.put rfl (sx_)) sp_
          ·refine WO.h rfl Wt.none rfl (Hd.load1 kr_ rfl mem_ (by rfl) ⟨_, rfl, ?_⟩)
           refine WA.y (i := 8) (NoPanic.block (NoPanic.then (NoPanic.then (NoPanic.block (NoPanic.then (NoPanic.body)))))) rfl kr_ kr_ kr_ rfl (Yd.buildL (pl := [(0, 1), (1, 1)]) (zs := [.int .i64 0, .int .i64 0]) (parts := [(0, .tmp 61)]) (vs := [(0, _)]) (cells := [_, .int .i64 0]) kr_ kr_ rfl rfl) ?_
           refine WA.one (i := 5) kr_ ?_
           refine WO.h rfl Wt.none rfl (Hd.load1 kr_ rfl mem_ (by rfl) ⟨_, rfl, ?_⟩)
           refine WA.one (i := 9) kr_ ?_
           refine WO.s rfl Wt.none (Hd.mapSet (k0 := kStr) (KT := 9) (ET := 191) (TD := .string) (n := gs[i].name) kr_ Tryz.underlying9 rfl rfl rfl rfl hK (by rw [kvs_keys]; exact hnd) sp_ fun C3 h3 => ⟨rfl, ?_⟩)
           refine WA.done kr_ ?_
           refine DN.block_normal ?_
           refine DN.then_normal ?_
           refine WC.region ?_
           refine WL.y rfl (Yd.add rfl rfl (by omega) (by omega)) ?_
           refine m_ rfl rfl ?_
           refine WL.nil ?_
           exact DN.againS (⟨i + 1, C3⟩) (show (i + 1) ≤ gs.length ∧ (∀ (j : Nat) (h : j < gs.length), j < (i + 1) → goodB gs[j]) ∧ ((gs.take (i + 1)).map Gd.name).Nodup ∧ MpG kStr b1 (kvs Gd.name encG (gs.take (i + 1))) C3 from ⟨by omega, fun j h hj => by
             rcases Nat.lt_or_ge j i with h5 | h5
             · exact hgood j h h5
             · obtain rfl : j = i := by omega
               exact hgi, by rw [htk]; exact hndi, by rw [htk]; exact put_more hgn hnone h3⟩) (show gs.length - (i + 1) < gs.length - i by omega) (Sx.put rfl (sx_)) sp_
         ·refine WO.h rfl Wt.none rfl (Hd.load1 kr_ rfl mem_ (by rfl) ⟨_, rfl, ?_⟩)
          refine WA.two (i := 3) (j := 7) kr_ ?_ ?_
          ·refine WO.h rfl Wt.none rfl (Hd.load1 kr_ rfl mem_ (by rfl) ⟨_, rfl, ?_⟩)
           refine WA.one (i := 7) kr_ ?_
           refine WO.h rfl Wt.none rfl (Hd.load1 kr_ rfl mem_ (by rfl) ⟨_, rfl, ?_⟩)
           refine WA.y (i := 8) (NoPanic.block (NoPanic.then (NoPanic.then (NoPanic.block (NoPanic.then (NoPanic.body)))))) rfl kr_ kr_ kr_ rfl (Yd.buildL (pl := [(0, 1), (1, 1)]) (zs := [.int .i64 0, .int .i64 0]) (parts := [(0, .tmp 61)]) (vs := [(0, _)]) (cells := [_, .int .i64 0]) kr_ kr_ rfl rfl) ?_
           refine WA.one (i := 9) kr_ ?_
           refine WO.s rfl Wt.none (Hd.mapSet (k0 := kStr) (KT := 9) (ET := 191) (TD := .string) (n := gs[i].name) kr_ Tryz.underlying9 rfl rfl rfl rfl hK (by rw [kvs_keys]; exact hnd) sp_ fun C3 h3 => ⟨rfl, ?_⟩)
           refine WA.done kr_ ?_
           refine DN.block_normal ?_
           refine DN.then_normal ?_
           refine WC.region ?_
           refine WL.y rfl (Yd.add rfl rfl (by omega) (by omega)) ?_
           refine m_ rfl rfl ?_
           refine WL.nil ?_
           exact DN.againS (⟨i + 1, C3⟩) (show (i + 1) ≤ gs.length ∧ (∀ (j : Nat) (h : j < gs.length), j < (i + 1) → goodB gs[j]) ∧ ((gs.take (i + 1)).map Gd.name).Nodup ∧ MpG kStr b1 (kvs Gd.name encG (gs.take (i + 1))) C3 from ⟨by omega, fun j h hj => by
             rcases Nat.lt_or_ge j i with h5 | h5
             · exact hgood j h h5
             · obtain rfl : j = i := by omega
               exact hgi, by rw [htk]; exact hndi, by rw [htk]; exact put_more hgn hnone h3⟩) (show gs.length - (i + 1) < gs.length - i by omega) (Sx.put rfl (sx_)) sp_
          ·refine WO.h rfl Wt.none rfl (Hd.load1 kr_ rfl mem_ (by rfl) ⟨_, rfl, ?_⟩)
           refine WA.y (i := 8) (NoPanic.block (NoPanic.then (NoPanic.then (NoPanic.block (NoPanic.then (NoPanic.body)))))) rfl kr_ kr_ kr_ rfl (Yd.buildL (pl := [(0, 1), (1, 1)]) (zs := [.int .i64 0, .int .i64 0]) (parts := [(0, .tmp 61)]) (vs := [(0, _)]) (cells := [_, .int .i64 0]) kr_ kr_ rfl rfl) ?_
           refine WA.one (i := 3) kr_ ?_
           refine WO.h rfl Wt.none rfl (Hd.load1 kr_ rfl mem_ (by rfl) ⟨_, rfl, ?_⟩)
           refine WA.one (i := 9) kr_ ?_
           refine WO.s rfl Wt.none (Hd.mapSet (k0 := kStr) (KT := 9) (ET := 191) (TD := .string) (n := gs[i].name) kr_ Tryz.underlying9 rfl rfl rfl rfl hK (by rw [kvs_keys]; exact hnd) sp_ fun C3 h3 => ⟨rfl, ?_⟩)
           refine WA.done kr_ ?_
           refine DN.block_normal ?_
           refine DN.then_normal ?_
           refine WC.region ?_
           refine WL.y rfl (Yd.add rfl rfl (by omega) (by omega)) ?_
           refine m_ rfl rfl ?_
           refine WL.nil ?_
           exact DN.againS (⟨i + 1, C3⟩) (show (i + 1) ≤ gs.length ∧ (∀ (j : Nat) (h : j < gs.length), j < (i + 1) → goodB gs[j]) ∧ ((gs.take (i + 1)).map Gd.name).Nodup ∧ MpG kStr b1 (kvs Gd.name encG (gs.take (i + 1))) C3 from ⟨by omega, fun j h hj => by
             rcases Nat.lt_or_ge j i with h5 | h5
             · exact hgood j h h5
             · obtain rfl : j = i := by omega
               exact hgi, by rw [htk]; exact hndi, by rw [htk]; exact put_more hgn hnone h3⟩) (show gs.length - (i + 1) < gs.length - i by omega) (Sx.put rfl (sx_)) sp_
         ·refine WO.h rfl Wt.none rfl (Hd.load1 kr_ rfl mem_ (by rfl) ⟨_, rfl, ?_⟩)
          refine WA.y (i := 8) (NoPanic.block (NoPanic.then (NoPanic.then (NoPanic.block (NoPanic.then (NoPanic.body)))))) rfl kr_ kr_ kr_ rfl (Yd.buildL (pl := [(0, 1), (1, 1)]) (zs := [.int .i64 0, .int .i64 0]) (parts := [(0, .tmp 61)]) (vs := [(0, _)]) (cells := [_, .int .i64 0]) kr_ kr_ rfl rfl) ?_
          refine WA.two (i := 3) (j := 5) kr_ ?_ ?_
          ·refine WO.h rfl Wt.none rfl (Hd.load1 kr_ rfl mem_ (by rfl) ⟨_, rfl, ?_⟩)
           refine WA.one (i := 5) kr_ ?_
           refine WO.h rfl Wt.none rfl (Hd.load1 kr_ rfl mem_ (by rfl) ⟨_, rfl, ?_⟩)
           refine WA.one (i := 9) kr_ ?_
           refine WO.s rfl Wt.none (Hd.mapSet (k0 := kStr) (KT := 9) (ET := 191) (TD := .string) (n := gs[i].name) kr_ Tryz.underlying9 rfl rfl rfl rfl hK (by rw [kvs_keys]; exact hnd) sp_ fun C3 h3 => ⟨rfl, ?_⟩)
           refine WA.done kr_ ?_
           refine DN.block_normal ?_
           refine DN.then_normal ?_
           refine WC.region ?_
           refine WL.y rfl (Yd.add rfl rfl (by omega) (by omega)) ?_
           refine m_ rfl rfl ?_
           refine WL.nil ?_
           exact DN.againS (⟨i + 1, C3⟩) (show (i + 1) ≤ gs.length ∧ (∀ (j : Nat) (h : j < gs.length), j < (i + 1) → goodB gs[j]) ∧ ((gs.take (i + 1)).map Gd.name).Nodup ∧ MpG kStr b1 (kvs Gd.name encG (gs.take (i + 1))) C3 from ⟨by omega, fun j h hj => by
             rcases Nat.lt_or_ge j i with h5 | h5
             · exact hgood j h h5
             · obtain rfl : j = i := by omega
               exact hgi, by rw [htk]; exact hndi, by rw [htk]; exact put_more hgn hnone h3⟩) (show gs.length - (i + 1) < gs.length - i by omega) (Sx.put rfl (sx_)) sp_
          ·refine WO.h rfl Wt.none rfl (Hd.load1 kr_ rfl mem_ (by rfl) ⟨_, rfl, ?_⟩)
           refine WA.one (i := 3) kr_ ?_
           refine WO.h rfl Wt.none rfl (Hd.load1 kr_ rfl mem_ (by rfl) ⟨_, rfl, ?_⟩)
           refine WA.one (i := 9) kr_ ?_
           refine WO.s rfl Wt.none (Hd.mapSet (k0 := kStr) (KT := 9) (ET := 191) (TD := .string) (n := gs[i].name) kr_ Tryz.underlying9 rfl rfl rfl rfl hK (by rw [kvs_keys]; exact hnd) sp_ fun C3 h3 => ⟨rfl, ?_⟩)
           refine WA.done kr_ ?_
           refine DN.block_normal ?_
           refine DN.then_normal ?_
           refine WC.region ?_
           refine WL.y rfl (Yd.add rfl rfl (by omega) (by omega)) ?_
           refine m_ rfl rfl ?_
           refine WL.nil ?_
           exact DN.againS (⟨i + 1, C3⟩) (show (i + 1) ≤ gs.length ∧ (∀ (j : Nat) (h : j < gs.length), j < (i + 1) → goodB gs[j]) ∧ ((gs.take (i + 1)).map Gd.name).Nodup ∧ MpG kStr b1 (kvs Gd.name encG (gs.take (i + 1))) C3 from ⟨by omega, fun j h hj => by
             rcases Nat.lt_or_ge j i with h5 | h5
             · exact hgood j h h5
             · obtain rfl : j = i := by omega
               exact hgi, by rw [htk]; exact hndi, by rw [htk]; exact put_more hgn hnone h3⟩) (show gs.length - (i + 1) < gs.length - i by omega) (Sx.put rfl (sx_)) sp_
  ·obtain rfl : i = gs.length := by omega
   rw [List.take_length] at hnd hK
   refine WC.exit ?_
   refine DN.then_exit ?_
   refine DN.then_exit ?_
   refine DN.block_exit ?_
   refine ts_ ?_
   refine WC.region ?_
   refine m_ rfl rfl ?_
   refine a_ rfl rfl ?_
   refine a_ rfl rfl ?_
   refine nt_ ?_
   refine WC.ret ?_
   first | (have hlt2 : i < gs.length := hlt; refine DN.fit (C := H) sp_ ?_) | refine DN.fit (C := row b15 [.map (some b1), .map (some b2)] 189 :: (C1 ++ (C2 ++ H))) sp_ ?_ | skip
   refine DN.ret2 Tryz.results63 rfl rfl ?_
   first
     | exact .inr ⟨fun hG => by have := hG.1; omega, rfl, rfl⟩
     | exact .inr ⟨fun hG => (hG.2.2 gs[i] (List.getElem_mem hlt)).1 hg35, rfl, rfl⟩
     | exact .inr ⟨fun hG => by have := (hG.2.2 gs[i] (List.getElem_mem hlt)).2; omega, rfl, rfl⟩
     | exact .inr ⟨fun hG => (twice_no hlt h53) hG.2.1, rfl, rfl⟩
     | exact .inl ⟨⟨by omega, hnd, fun g hm => by obtain ⟨j, hj, rfl⟩ := List.getElem_of_mem hm; exact hgood j hj hj⟩, b15, row b15 [.map (some b1), .map (some b2)] 189 :: (C1 ++ C2), rfl, ⟨b1, b2, C1, C2, rfl, hK, h2⟩, by simp⟩
end Go.Proofs.YtkamlondepceiaaGreat.St

set_option linter.unusedVariables false
set_option linter.unusedSimpArgs false
set_option maxHeartbeats 4000000
namespace Go.Proofs
def Tryz.sortU_ren : Go.Shelf.Ren := ⟨fun | 6 => 100 | 15 => 131 | 14 => 133 | 28 => 150 | 29 => 151 | 20 => 153 | 21 => 154 | 22 => 155 | 23 => 156 | 24 => 157 | 25 => 158 | 26 => 159 | 27 => 160 | 46 => 167 | 47 => 163 | 48 => 164 | 49 => 168 | 50 => 169 | 57 => 171 | n => n, fun | 22 => 44 | 24 => 71 | 25 => 200 | 3 => 3 | 39 => 218 | 0 => 0 | 53 => 49 | 55 => 50 | 4 => 4 | 46 => 240 | 45 => 239 | 50 => 179 | 5 => 5 | 9 => 9 | 66 => 252 | 70 => 255 | 76 => 259 | 77 => 176 | n => n, fun | n => n⟩
theorem Tryz.sortU : SlLaysF0.n6 Tryz.prog Tryz.sortU_ren := {
  mixed := by kernel_rfl,
  f6 := ⟨Tryz.f100.name, by decide, Tryz.func100.trans (congrArg some (by kernel_rfl))⟩,
  f14 := ⟨Tryz.f133.name, by decide, Tryz.func133.trans (congrArg some (by kernel_rfl))⟩,
  f15 := Tryz.func131.trans (congrArg some (by kernel_rfl)),
  f20 := ⟨Tryz.f153.name, by decide, Tryz.func153.trans (congrArg some (by kernel_rfl))⟩,
  f21 := ⟨Tryz.f154.name, by decide, Tryz.func154.trans (congrArg some (by kernel_rfl))⟩,
  f22 := ⟨Tryz.f155.name, by decide, Tryz.func155.trans (congrArg some (by kernel_rfl))⟩,
  f23 := ⟨Tryz.f156.name, by decide, Tryz.func156.trans (congrArg some (by kernel_rfl))⟩,
  f24 := ⟨Tryz.f157.name, by decide, Tryz.func157.trans (congrArg some (by kernel_rfl))⟩,
  f25 := ⟨Tryz.f158.name, by decide, Tryz.func158.trans (congrArg some (by kernel_rfl))⟩,
  f26 := ⟨Tryz.f159.name, by decide, Tryz.func159.trans (congrArg some (by kernel_rfl))⟩,
  f27 := ⟨Tryz.f160.name, by decide, Tryz.func160.trans (congrArg some (by kernel_rfl))⟩,
  f28 := Tryz.func150.trans (congrArg some (by kernel_rfl)),
  f29 := Tryz.func151.trans (congrArg some (by kernel_rfl)),
  f46 := ⟨Tryz.f167.name, by decide, Tryz.func167.trans (congrArg some (by kernel_rfl))⟩,
  f47 := Tryz.func163.trans (congrArg some (by kernel_rfl)),
  f48 := Tryz.func164.trans (congrArg some (by kernel_rfl)),
  f49 := ⟨Tryz.f168.name, by decide, Tryz.func168.trans (congrArg some (by kernel_rfl))⟩,
  f50 := ⟨Tryz.f169.name, by decide, Tryz.func169.trans (congrArg some (by kernel_rfl))⟩,
  f57 := ⟨Tryz.f171.name, by decide, Tryz.func171.trans (congrArg some (by kernel_rfl))⟩,
  t0 := Tryz.underlying0,
  a0 := Tryz.isAgg0,
  z0 := Tryz.sizeOf0,
  v0 := Tryz.zeroValue0,
  t3 := Tryz.underlying3,
  a3 := Tryz.isAgg3,
  z3 := Tryz.sizeOf3,
  v3 := Tryz.zeroValue3,
  t4 := Tryz.underlying4,
  a4 := Tryz.isAgg4,
  z4 := Tryz.sizeOf4,
  v4 := Tryz.zeroValue4,
  t5 := Tryz.underlying5,
  a5 := Tryz.isAgg5,
  z5 := Tryz.sizeOf5,
  v5 := Tryz.zeroValue5,
  t9 := Tryz.underlying9,
  a9 := Tryz.isAgg9,
  z9 := Tryz.sizeOf9,
  v9 := Tryz.zeroValue9,
  t22 := Tryz.underlying44,
  a22 := Tryz.isAgg44,
  z22 := Tryz.sizeOf44,
  v22 := Tryz.zeroValue44,
  t25 := Tryz.underlying200,
  a25 := Tryz.isAgg200,
  z25 := Tryz.sizeOf200,
  v25 := Tryz.zeroValue200,
  t39 := Tryz.underlying218,
  a39 := Tryz.isAgg218,
  z39 := Tryz.sizeOf218,
  v39 := Tryz.zeroValue218,
  t45 := Tryz.underlying239,
  a45 := Tryz.isAgg239,
  z45 := Tryz.sizeOf239,
  v45 := Tryz.zeroValue239,
  t46 := Tryz.underlying240,
  a46 := Tryz.isAgg240,
  z46 := Tryz.sizeOf240,
  v46 := Tryz.zeroValue240,
  t50 := Tryz.underlying179,
  a50 := Tryz.isAgg179,
  z50 := Tryz.sizeOf179,
  v50 := Tryz.zeroValue179,
  t53 := Tryz.underlying49,
  a53 := Tryz.isAgg49,
  z53 := Tryz.sizeOf49,
  v53 := Tryz.zeroValue49,
  t55 := Tryz.underlying50,
  a55 := Tryz.isAgg50,
  z55 := Tryz.sizeOf50,
  v55 := Tryz.zeroValue50,
  t66 := Tryz.underlying252,
  a66 := Tryz.isAgg252,
  z66 := Tryz.sizeOf252,
  v66 := Tryz.zeroValue252,
  t70 := Tryz.underlying255,
  a70 := Tryz.isAgg255,
  z70 := Tryz.sizeOf255,
  v70 := Tryz.zeroValue255,
  t76 := Tryz.underlying259,
  a76 := Tryz.isAgg259,
  z76 := Tryz.sizeOf259,
  v76 := Tryz.zeroValue259,
  t77 := Tryz.underlying176,
  a77 := Tryz.isAgg176,
  z77 := Tryz.sizeOf176,
  v77 := Tryz.zeroValue176
}
def Tryz.cmp_renPu : Go.Shelf.Ren := ⟨fun | 106 => 99 | 213 => 132 | 265 => 152 | n => n, fun | 3 => 3 | 9 => 9 | n => n, fun | n => n⟩
theorem Tryz.cmpStrPu : Lays.n106 Tryz.prog Tryz.cmp_renPu := {
  mixed := by kernel_rfl,
  f106 := Tryz.func99.trans (congrArg some (by kernel_rfl)),
  f213 := Tryz.func132.trans (congrArg some (by kernel_rfl)),
  f265 := Tryz.func152.trans (congrArg some (by kernel_rfl)),
  t3 := Tryz.underlying3, a3 := Tryz.isAgg3, z3 := Tryz.sizeOf3, v3 := Tryz.zeroValue3,
  t9 := Tryz.underlying9, a9 := Tryz.isAgg9, z9 := Tryz.sizeOf9, v9 := Tryz.zeroValue9 }
end Go.Proofs
namespace Go.Proofs.YtkamlondepceiaaGreat.Pu
open Go.SL
theorem compare_reads (a b : ByteArray) (H : List Ck) : Reads Tryz.prog 99 [.string a, .string b] H (.int .i64 (cmpS a b)) := fun w R s =>
  (Any.strings_Compare (ρ := Tryz.cmp_renPu) Tryz.cmpStrPu a b w).mono fun e w' ⟨he, hw⟩ => ⟨_, H, he, ⟨rfl, rfl⟩, by rw [hw]; exact s, by rw [hw]; exact Kept.refl w⟩
theorem cmpU_tells (x y : Au) : Tells Tryz.prog 101 [.agg (cellsU x).toArray, .agg (cellsU y).toArray] [] fun r H' => r = .int .i64 (cfU x y) := by
 refine Tells.enter Tryz.func101 rfl Tryz.ntmps101 rfl ?_
 intro w0 R
 refine sr_ ?_
 refine WL.h rfl (Hd.boxA rfl fun b2 => ⟨_, rfl, ?_⟩)
 refine WL.h rfl (Hd.boxA rfl fun b3 => ⟨_, rfl, ?_⟩)
 refine a_ rfl rfl ?_
 refine ntsr_ ?_
 refine f_ 0 kr_ rfl rfl ?_
 refine d_ kr_ rfl mem_ (by rfl) rfl ?_
 refine f_ 0 kr_ rfl rfl ?_
 refine d_ kr_ rfl mem_ (by rfl) rfl ?_
 refine WL.rf rfl (Ent.func Tryz.call99 rfl) (compare_reads x.name y.name []) sp_ ?_
 refine a_ rfl rfl ?_
 refine nt_ ?_
 refine WC.ret ?_
 refine DN.ret1 Tryz.results101 rfl ?_
 rfl
theorem accs_tells (p : Nat) (K : List Au) (L : List Py) (C : List Ck) (h : PsAt 198 p K L C) (hl : K.length ≤ 100000000) : Tells Tryz.prog 61 [.pointer (some ⟨p, 0, none⟩)] C fun r C' => ∃ S Cs, ToldK Au.name sLt K S ∧ Own r S.length (S.flatMap cellsU) 71 3 Cs ∧ C' = Cs ++ C := by
 refine Tells.enter Tryz.func61 rfl Tryz.ntmps61 rfl ?_
 intro w0 R
 obtain ⟨b1, b2, C1, C2, rfl, hK, hL⟩ := h
 obtain ⟨es, clock, rfl, hes, hborn, hbn⟩ := hK
 have hsz := hes.size
 simp only [kvs, List.length_map] at hsz
 refine sr_ ?_
 refine a_ rfl rfl ?_
 refine nt_ ?_
 refine WC.seq ?_
 refine sr_ ?_
 refine m_ rfl rfl ?_
 refine WL.y rfl (Yd.eqlNil Tryz.underlying114 rfl rfl) ?_
 refine nt_ ?_
 refine WC.no rfl ?_
 refine WC.skip ?_
 refine ts_ ?_
 refine WC.region ?_
 refine a_ rfl rfl ?_
 refine nt_ ?_
 refine WC.seq ?_
 refine sr_ ?_
 refine m_ rfl rfl ?_
 refine n_ rfl rfl ?_
 refine f_ 0 kr_ rfl rfl ?_
 refine d_ kr_ rfl mem_ (by rfl) rfl ?_
 refine WL.h rfl (Hd.rangeM (KT := 9) (ET := 71) kr_ rfl mem_ fun i => ⟨_, rfl, ?_⟩)
 refine nt_ ?_
 refine WC.block ?_
 refine WC.loopS (fun z : List MapEntry × List Au × (Array Nat) × Value × List Ck => Seen es z.1 z.2.2.1 ∧ z.1.map (fun e : MapEntry => (e.key, e.val)) = z.2.1.map (fun r : Au => (kStr.kv (Au.name r), encU r)) ∧ Own z.2.2.2.1 z.2.1.length (z.2.1.flatMap cellsU) 71 3 z.2.2.2.2) (fun z : List MapEntry × List Au × (Array Nat) × Value × List Ck => [(3, z.2.2.2.1)]) (fun z : List MapEntry × List Au × (Array Nat) × Value × List Ck => ⟨i, .mapIter (some b1) clock z.2.2.1 clock, true⟩ :: (z.2.2.2.2 ++ (row p [.map (some b1), .map (some b2)] 198 :: ([⟨b1, .map es clock, true⟩] ++ C2)))) (fun z : List MapEntry × List Au × (Array Nat) × Value × List Ck => es.size - z.1.length) (⟨[], [], #[], .slice none 0 0, []⟩) (show Seen es [] #[] ∧ [].map (fun e : MapEntry => (e.key, e.val)) = [].map (fun r : Au => (kStr.kv (Au.name r), encU r)) ∧ Own (.slice none 0 0) [].length ([].flatMap cellsU) 71 3 [] from ⟨Seen.start es, rfl, Own.nil _ _⟩) (Sx.put rfl (sx_)) sp_ ?_
 rintro ⟨col, B, seen, v, Cs⟩ hI
 replace hI : Seen es col seen ∧ col.map (fun e : MapEntry => (e.key, e.val)) = B.map (fun r : Au => (kStr.kv (Au.name r), encU r)) ∧ Own v B.length (B.flatMap cellsU) 71 3 Cs := hI
 obtain ⟨hs, hB, ho⟩ := hI
 change WC _ _ _ _ _ _ ([(3, v)] ++ _) (⟨i, .mapIter (some b1) clock seen clock, true⟩ :: (Cs ++ (row p [.map (some b1), .map (some b2)] 198 :: ([⟨b1, .map es clock, true⟩] ++ C2))))
 have hcl := hs.len hbn
 obtain ⟨vo, vc, rfl, _⟩ := ho.form
 have hBl : B.length = col.length := by simpa using (congrArg List.length hB).symm
 refine sr_ ?_
 refine WL.h rfl (Hd.nextM rfl fr_ mem_ hborn (fun e he => ⟨_, rfl, ?_⟩) (fun hu => ⟨_, rfl, ?_⟩))
 ·obtain ⟨hs2, hee⟩ := hs.next he
  obtain ⟨b, hbL, hek, hev⟩ := entsK_one hes hee
  refine x_ rfl rfl rfl ?_
  refine nt_ ?_
  refine WC.seq ?_
  refine WC.yes rfl ?_
  refine WC.skip ?_
  refine DN.then_normal ?_
  refine WC.block ?_
  refine sr_ ?_
  refine WL.h rfl (Hd.entryM rfl List.mem_cons_self mem_ hbn hee ⟨_, rfl, ?_⟩)
  refine x_ rfl rfl rfl ?_
  refine WL.renamed (t := 16) (v := .agg (cellsU b).toArray) rfl (by show e.val = _; rw [hev]; rfl) ?_
  refine WL.h rfl (Hd.alloc (zs := [.string ⟨#[]⟩, .int .i64 0, .int .i64 0]) kr_ fun b5 => ⟨_, rfl, ?_⟩)
  refine WL.s (Hd.storeAll (n := 3) kr_ rfl rfl (by rfl) one_ fr_ (by rfl) ⟨rfl, ?_⟩)
  refine ntr_ ?_
  refine m_ rfl rfl ?_
  refine WL.h rfl (Hd.loadAll (n := 3) kr_ rfl mem_ (by rfl) ⟨_, rfl, ?_⟩)
  refine WL.h rfl (Hd.buildA (e := 71) (sz := 3) (zs := [.string ⟨#[]⟩, .int .i64 0, .int .i64 0]) kr_ kr_ kr_ rfl rfl (by rfl) kr_ fun b19 => ⟨_, rfl, ?_⟩)
  refine WL.h rfl (Hd.appendRow (e := 71) (sz := 3) (bytes := 32) (zs := [.string ⟨#[]⟩, .int .i64 0, .int .i64 0]) kr_ kr_ rfl (by omega) rfl rfl (ho) sp_ mem_ (by rfl) one_ (by simp only [maxLen]; omega) (by omega) fun v2 Ca ho2 => ⟨_, rfl, ?_⟩)
  refine a_ rfl rfl ?_
  refine WL.nil ?_
  refine DN.block_normal ?_
  have hcl2 := hs2.len hbn
  have hcl3 : (col ++ [e]).length = col.length + 1 := by simp
  exact DN.againS (⟨col ++ [e], B ++ [b], seen.push e.born, v2, Ca⟩) (show Seen es (col ++ [e]) (seen.push e.born) ∧ (col ++ [e]).map (fun e : MapEntry => (e.key, e.val)) = (B ++ [b]).map (fun r : Au => (kStr.kv (Au.name r), encU r)) ∧ Own v2 (B ++ [b]).length ((B ++ [b]).flatMap cellsU) 71 3 Ca from ⟨hs2, by rw [List.map_append, List.map_append, hB]; simp [hek, hev], by rw [List.flatMap_append, List.length_append]; simpa [cellsU, cellsP] using ho2⟩) (show es.size - (col ++ [e]).length < es.size - col.length by omega) (Sx.put rfl (sx_)) sp_
 ·refine x_ rfl rfl rfl ?_
  refine nt_ ?_
  refine WC.seq ?_
  refine WC.no rfl ?_
  refine WC.exit ?_
  refine DN.then_exit ?_
  refine DN.then_exit ?_
  refine DN.block_exit ?_
  refine ts_ ?_
  refine WC.region ?_
  refine m_ rfl rfl ?_
  refine WL.c rfl (Ent.func Tryz.call100 rfl) (sort_tells Tryz.sortU 3 (by omega) Tryz.isAgg71 Tryz.sizeOf71 cellsU cellsU_len cellsU_one cfU swoU 101 Tryz.call101 cmpU_tells ho (by omega)) (Sp.p sp_) ?_
  rintro q Cz ⟨rfl, S, hS, hpw, ho2⟩
  refine ntsr_ ?_
  refine m_ rfl rfl ?_
  refine a_ rfl rfl ?_
  refine nt_ ?_
  refine WC.ret ?_
  refine DN.fit (C := Cz ++ (row p [.map (some b1), .map (some b2)] 198 :: ([⟨b1, .map es clock, true⟩] ++ C2))) sp_ ?_
  refine DN.ret1 Tryz.results61 rfl ?_
  exact ⟨S, Cz, ⟨hS.trans (entsK_all injU hes (hs.all hbn hu) hB), hpw.imp fun {x y} hxy => by rw [← hxy]; exact (ltU y x).symm⟩, by rw [hS.length_eq]; rwa [hS.length_eq] at ho2, rfl⟩
end Go.Proofs.YtkamlondepceiaaGreat.Pu

set_option linter.unusedVariables false
set_option linter.unusedSimpArgs false
set_option maxHeartbeats 4000000
namespace Go.Proofs.YtkamlondepceiaaGreat.Pu
open Go.SL
theorem new_tells (v : Value) (gs : List Au) (H : List Ck) (hv : Rs v gs.length (gs.flatMap cellsU) H) (hl : gs.length ≤ 9223372036854775807) : Tells Tryz.prog 64 [v] H fun r H' => (AccL gs ∧ ∃ p C, r = .tuple #[.pointer (some ⟨p, 0, none⟩), .int .i64 0] ∧ PsAt 198 p gs [] C ∧ H' = C ++ H) ∨ (¬ AccL gs ∧ r = .tuple #[.pointer none, .int .i64 2] ∧ H' = H) := by
 refine Tells.enter Tryz.func64 rfl Tryz.ntmps64 rfl ?_
 intro w0 R
 obtain ⟨vo, vc, rfl, hvc⟩ := hv.form
 refine sr_ ?_
 refine a_ rfl rfl ?_
 refine a_ rfl rfl ?_
 refine nt_ ?_
 refine WC.seq ?_
 refine sr_ ?_
 refine m_ rfl rfl ?_
 refine WL.y rfl (Yd.len (e := 71) kr_ rfl) ?_
 refine WL.y rfl (Yd.gtr rfl rfl) ?_
 refine nt_ ?_
 refine WC.ite rfl (fun h11 => ?_) (fun h11 => ?_)
 ·refine sr_ ?_
  refine a_ rfl rfl ?_
  refine a_ rfl rfl ?_
  refine nt_ ?_
  refine WC.ret ?_
  refine DN.then_ret ?_
  first | (have hlt2 : i < gs.length := hlt; refine DN.fit (C := H) sp_ ?_) | refine DN.fit (C := row b15 [.map (some b1), .map (some b2)] 198 :: (C1 ++ (C2 ++ H))) sp_ ?_ | skip
  refine DN.ret2 Tryz.results64 rfl rfl ?_
  first
    | exact .inr ⟨fun hG => by have := hG.1; omega, rfl, rfl⟩
    | exact .inr ⟨fun hG => (hG.2.2 gs[i] (List.getElem_mem hlt)).1 hg35, rfl, rfl⟩
    | exact .inr ⟨fun hG => by have := (hG.2.2 gs[i] (List.getElem_mem hlt)).2; omega, rfl, rfl⟩
    | exact .inr ⟨fun hG => (twice_noU hlt h58) hG.2.1, rfl, rfl⟩
    | exact .inl ⟨⟨by omega, hnd, fun g hm => by obtain ⟨j, hj, rfl⟩ := List.getElem_of_mem hm; exact hgood j hj hj⟩, b15, row b15 [.map (some b1), .map (some b2)] 198 :: (C1 ++ C2), rfl, ⟨b1, b2, C1, C2, rfl, hK, h2⟩, by simp⟩
 ·refine WC.skip ?_
  refine ts_ ?_
  refine WC.region ?_
  refine WL.h rfl (Hd.makeMapG kStr fun b1 C1 h1 => ⟨_, rfl, ?_⟩)
  refine WL.h rfl (Hd.makeMapG kU32 fun b2 C2 h2 => ⟨_, rfl, ?_⟩)
  refine WL.y rfl (Yd.buildL (pl := [(0, 1), (1, 1)]) (zs := [.map none, .map none]) (parts := [(0, .tmp 12), (1, .tmp 13)]) (vs := [(0, _), (1, _)]) (cells := [_, _]) kr_ kr_ rfl rfl) ?_
  refine WL.h rfl (Hd.boxA rfl fun b15 => ⟨_, rfl, ?_⟩)
  refine a_ rfl rfl ?_
  refine nt_ ?_
  refine WC.seq ?_
  refine sr_ ?_
  refine m_ rfl rfl ?_
  refine WL.y rfl (Yd.len (e := 71) kr_ rfl) ?_
  refine m_ rfl rfl ?_
  refine nt_ ?_
  refine WC.block ?_
  refine WC.loopS (fun z : Nat × List Ck => z.1 ≤ gs.length ∧ (∀ (j : Nat) (h : j < gs.length), j < z.1 → accB gs[j]) ∧ ((gs.take z.1).map Au.name).Nodup ∧ MpG kStr b1 (kvs Au.name encU (gs.take z.1)) z.2) (fun z : Nat × List Ck => [(18, .int .i64 (z.1 : Int))]) (fun z : Nat × List Ck => row b15 [.map (some b1), .map (some b2)] 198 :: (z.2 ++ (C2 ++ H))) (fun z : Nat × List Ck => gs.length - z.1) (⟨0, C1⟩) (show 0 ≤ gs.length ∧ (∀ (j : Nat) (h : j < gs.length), j < 0 → accB gs[j]) ∧ ((gs.take 0).map Au.name).Nodup ∧ MpG kStr b1 (kvs Au.name encU (gs.take 0)) C1 from ⟨Nat.zero_le _, fun j h hj => by omega, by simp, by simpa [kvs] using h1⟩) (Sx.put rfl (sx_)) sp_ ?_
  rintro ⟨i, C1⟩ hI
  replace hI : i ≤ gs.length ∧ (∀ (j : Nat) (h : j < gs.length), j < i → accB gs[j]) ∧ ((gs.take i).map Au.name).Nodup ∧ MpG kStr b1 (kvs Au.name encU (gs.take i)) C1 := hI
  obtain ⟨hi, hgood, hnd, hK⟩ := hI
  change WC _ _ _ _ _ _ ([(18, .int .i64 (i : Int))] ++ _) (row b15 [.map (some b1), .map (some b2)] 198 :: (C1 ++ (C2 ++ H)))
  refine sr_ ?_
  refine WL.y rfl (Yd.lss rfl rfl) ?_
  refine nt_ ?_
  refine WC.seq ?_
  refine WC.ite rfl (fun h19 => ?_) (fun h19 => ?_)
  ·have hlt : i < gs.length := by omega
   have htk : gs.take (i + 1) = gs.take i ++ [gs[i]] := List.take_succ_eq_append_getElem hlt
   refine WC.skip ?_
   refine ts_ ?_
   refine WC.block ?_
   refine sr_ ?_
   refine WL.elemA (e := 71) (s := 3) kr_ kr_ kr_ rfl rfl (rfl) (hv.mono gr_) (flat_row cellsU 3 cellsU_len gs i hlt) (by rfl) (by omega) (hlt) rfl rfl ?_
   intro p20
   refine WL.h rfl (Hd.alloc (zs := [.string ⟨#[]⟩, .int .i64 0, .int .i64 0]) kr_ fun b6 => ⟨_, rfl, ?_⟩)
   refine WL.s (Hd.storeAll (n := 3) kr_ rfl rfl (by rfl) one_ fr_ (by rfl) ⟨rfl, ?_⟩)
   refine nt_ ?_
   refine WC.cutK (fun z : Nat => True) (fun z : Nat => [(8, .bool (findK Au.name (gs.take i) gs[i].name).isSome)]) (fun z : Nat => row b6 (cellsU gs[i]) 71 :: (row b15 [.map (some b1), .map (some b2)] 198 :: (C1 ++ (C2 ++ H)))) ?_ ?_
   ·refine WC.draw 13 kr_ rfl ?_
    refine WA.y (i := 0) (NoPanic.then (NoPanic.block (NoPanic.then (NoPanic.then (NoPanic.block (NoPanic.then (NoPanic.body))))))) rfl kr_ kr_ kr_ rfl (Yd.move rfl) ?_
    refine WA.y (i := 1) (NoPanic.then (NoPanic.block (NoPanic.then (NoPanic.then (NoPanic.block (NoPanic.then (NoPanic.body))))))) rfl kr_ kr_ kr_ rfl (Yd.notNil rfl) ?_
    refine WA.y (i := 2) (NoPanic.then (NoPanic.block (NoPanic.then (NoPanic.then (NoPanic.block (NoPanic.then (NoPanic.body))))))) rfl kr_ kr_ kr_ rfl (Yd.fieldAddr (k := 0) kr_ rfl) ?_
    refine WA.y (i := 4) (NoPanic.then (NoPanic.block (NoPanic.then (NoPanic.then (NoPanic.block (NoPanic.then (NoPanic.body))))))) rfl kr_ kr_ kr_ rfl (Yd.fieldAddr (k := 0) kr_ rfl) ?_
    refine WA.reads [(3, 26, _), (5, 28, _)] [3, 5] [([], 10), ([3], 10), ([5], 10)] 7 rfl rfl (List.forall_mem_cons.2 ⟨ReadAt.mk rfl Wt.none rfl (Rd.load1 kr_ rfl mem_ (by rfl)), List.forall_mem_cons.2 ⟨ReadAt.mk rfl Wt.none rfl (Rd.load1 kr_ rfl mem_ (by rfl)), fun _ h => absurd h List.not_mem_nil⟩⟩) (by decide) (by simp) (List.forall_mem_cons.2 ⟨rfl, List.forall_mem_cons.2 ⟨rfl, fun _ h => absurd h List.not_mem_nil⟩⟩) kr_ (List.forall_mem_cons.2 ⟨?_, List.forall_mem_cons.2 ⟨?_, List.forall_mem_cons.2 ⟨?_, fun _ h => absurd h List.not_mem_nil⟩⟩⟩) ?_
    ·change WO _ _ _ _ _ _ 8 _ 10 ([] ++ _) _
     refine WO.h rfl Wt.none rfl (Hd.alloc (zs := [.string ⟨#[]⟩, .int .i64 0, .int .i64 0]) kr_ fun b7 => ⟨_, rfl, ?_⟩)
     refine WA.reads [(3, 26, _), (5, 28, _)] [3, 5] [] 6 rfl rfl (List.forall_mem_cons.2 ⟨ReadAt.mk rfl Wt.none rfl (Rd.load1 kr_ rfl mem_ (by rfl)), List.forall_mem_cons.2 ⟨ReadAt.mk rfl Wt.none rfl (Rd.load1 kr_ rfl mem_ (by rfl)), fun _ h => absurd h List.not_mem_nil⟩⟩) (by decide) (by simp) (List.forall_mem_cons.2 ⟨rfl, List.forall_mem_cons.2 ⟨rfl, fun _ h => absurd h List.not_mem_nil⟩⟩) kr_ (fun _ h => absurd h List.not_mem_nil) ?_
     ·change WA _ _ _ _ _ _ 6 _ ([(26, _), (28, _)] ++ _) _
      refine WA.one (i := 6) kr_ ?_
      refine WO.h rfl Wt.none rfl (Hd.lookupG (k0 := kStr) (KT := 9) (ET := 71) (TD := .string) (n := gs[i].name) (z := .agg #[.string ⟨#[]⟩, .int .i64 0, .int .i64 0]) kr_ Tryz.underlying9 rfl kr_ rfl rfl hK sp_ (lkU2 (gs.take i) gs[i].name) ⟨_, rfl, ?_⟩)
      refine WA.y (i := 7) (NoPanic.then (NoPanic.block (NoPanic.then (NoPanic.then (NoPanic.block (NoPanic.then (NoPanic.body))))))) rfl kr_ kr_ kr_ rfl (Yd.move rfl) ?_
      refine WA.y (i := 8) (NoPanic.then (NoPanic.block (NoPanic.then (NoPanic.then (NoPanic.block (NoPanic.then (NoPanic.body))))))) rfl kr_ kr_ kr_ rfl (Yd.extract rfl rfl) ?_
      refine WA.y (i := 9) (NoPanic.then (NoPanic.block (NoPanic.then (NoPanic.then (NoPanic.block (NoPanic.then (NoPanic.body))))))) rfl kr_ kr_ kr_ rfl (Yd.extract rfl rfl) ?_
      refine WA.one (i := 11) kr_ ?_
      refine WO.s rfl Wt.none (Hd.storeAll (n := 3) kr_ rfl rfl (by rfl) one_ fr_ (by rfl) ⟨rfl, ?_⟩)
      refine WA.y (i := 12) (NoPanic.then (NoPanic.block (NoPanic.then (NoPanic.then (NoPanic.block (NoPanic.then (NoPanic.body))))))) rfl kr_ kr_ kr_ rfl (Yd.assign rfl) ?_
      refine WA.done kr_ ?_
      refine DN.fit (C := row b6 (cellsU gs[i]) 71 :: (row b15 [.map (some b1), .map (some b2)] 198 :: (C1 ++ (C2 ++ H)))) sp_ ?_
      exact DN.reachK (0) (trivial) (Sx.put rfl (sx_)) (Sp.all sp_)
    ·change WO _ _ _ _ _ _ 7 _ 10 ([(26, _)] ++ _) _
     refine WO.h rfl Wt.none rfl (Hd.alloc (zs := [.string ⟨#[]⟩, .int .i64 0, .int .i64 0]) kr_ fun b7 => ⟨_, rfl, ?_⟩)
     refine WA.one (i := 5) kr_ ?_
     refine WO.h rfl Wt.none rfl (Hd.load1 kr_ rfl mem_ (by rfl) ⟨_, rfl, ?_⟩)
     refine WA.one (i := 6) kr_ ?_
     refine WO.h rfl Wt.none rfl (Hd.lookupG (k0 := kStr) (KT := 9) (ET := 71) (TD := .string) (n := gs[i].name) (z := .agg #[.string ⟨#[]⟩, .int .i64 0, .int .i64 0]) kr_ Tryz.underlying9 rfl kr_ rfl rfl hK sp_ (lkU2 (gs.take i) gs[i].name) ⟨_, rfl, ?_⟩)
     refine WA.y (i := 7) (NoPanic.then (NoPanic.block (NoPanic.then (NoPanic.then (NoPanic.block (NoPanic.then (NoPanic.body))))))) rfl kr_ kr_ kr_ rfl (Yd.move rfl) ?_
     refine WA.y (i := 8) (NoPanic.then (NoPanic.block (NoPanic.then (NoPanic.then (NoPanic.block (NoPanic.then (NoPanic.body))))))) rfl kr_ kr_ kr_ rfl (Yd.extract rfl rfl) ?_
     refine WA.y (i := 9) (NoPanic.then (NoPanic.block (NoPanic.then (NoPanic.then (NoPanic.block (NoPanic.then (NoPanic.body))))))) rfl kr_ kr_ kr_ rfl (Yd.extract rfl rfl) ?_
     refine WA.one (i := 11) kr_ ?_
     refine WO.s rfl Wt.none (Hd.storeAll (n := 3) kr_ rfl rfl (by rfl) one_ fr_ (by rfl) ⟨rfl, ?_⟩)
     refine WA.y (i := 12) (NoPanic.then (NoPanic.block (NoPanic.then (NoPanic.then (NoPanic.block (NoPanic.then (NoPanic.body))))))) rfl kr_ kr_ kr_ rfl (Yd.assign rfl) ?_
     refine WA.done kr_ ?_
     refine DN.fit (C := row b6 (cellsU gs[i]) 71 :: (row b15 [.map (some b1), .map (some b2)] 198 :: (C1 ++ (C2 ++ H)))) sp_ ?_
     exact DN.reachK (0) (trivial) (Sx.put rfl (sx_)) (Sp.all sp_)
    ·change WO _ _ _ _ _ _ 7 _ 10 ([(28, _)] ++ _) _
     refine WO.h rfl Wt.none rfl (Hd.alloc (zs := [.string ⟨#[]⟩, .int .i64 0, .int .i64 0]) kr_ fun b7 => ⟨_, rfl, ?_⟩)
     refine WA.one (i := 3) kr_ ?_
     refine WO.h rfl Wt.none rfl (Hd.load1 kr_ rfl mem_ (by rfl) ⟨_, rfl, ?_⟩)
     refine WA.one (i := 6) kr_ ?_
     refine WO.h rfl Wt.none rfl (Hd.lookupG (k0 := kStr) (KT := 9) (ET := 71) (TD := .string) (n := gs[i].name) (z := .agg #[.string ⟨#[]⟩, .int .i64 0, .int .i64 0]) kr_ Tryz.underlying9 rfl kr_ rfl rfl hK sp_ (lkU2 (gs.take i) gs[i].name) ⟨_, rfl, ?_⟩)
     refine WA.y (i := 7) (NoPanic.then (NoPanic.block (NoPanic.then (NoPanic.then (NoPanic.block (NoPanic.then (NoPanic.body))))))) rfl kr_ kr_ kr_ rfl (Yd.move rfl) ?_
     refine WA.y (i := 8) (NoPanic.then (NoPanic.block (NoPanic.then (NoPanic.then (NoPanic.block (NoPanic.then (NoPanic.body))))))) rfl kr_ kr_ kr_ rfl (Yd.extract rfl rfl) ?_
     refine WA.y (i := 9) (NoPanic.then (NoPanic.block (NoPanic.then (NoPanic.then (NoPanic.block (NoPanic.then (NoPanic.body))))))) rfl kr_ kr_ kr_ rfl (Yd.extract rfl rfl) ?_
     refine WA.one (i := 11) kr_ ?_
     refine WO.s rfl Wt.none (Hd.storeAll (n := 3) kr_ rfl rfl (by rfl) one_ fr_ (by rfl) ⟨rfl, ?_⟩)
     refine WA.y (i := 12) (NoPanic.then (NoPanic.block (NoPanic.then (NoPanic.then (NoPanic.block (NoPanic.then (NoPanic.body))))))) rfl kr_ kr_ kr_ rfl (Yd.assign rfl) ?_
     refine WA.done kr_ ?_
     refine DN.fit (C := row b6 (cellsU gs[i]) 71 :: (row b15 [.map (some b1), .map (some b2)] 198 :: (C1 ++ (C2 ++ H)))) sp_ ?_
     exact DN.reachK (0) (trivial) (Sx.put rfl (sx_)) (Sp.all sp_)
    ·change WA _ _ _ _ _ _ 7 _ ([(26, _), (28, _)] ++ _) _
     refine WA.two (i := 6) (j := 10) kr_ ?_ ?_
     ·refine WO.h rfl Wt.none rfl (Hd.lookupG (k0 := kStr) (KT := 9) (ET := 71) (TD := .string) (n := gs[i].name) (z := .agg #[.string ⟨#[]⟩, .int .i64 0, .int .i64 0]) kr_ Tryz.underlying9 rfl kr_ rfl rfl hK sp_ (lkU2 (gs.take i) gs[i].name) ⟨_, rfl, ?_⟩)
      refine WA.y (i := 7) (NoPanic.then (NoPanic.block (NoPanic.then (NoPanic.then (NoPanic.block (NoPanic.then (NoPanic.body))))))) rfl kr_ kr_ kr_ rfl (Yd.move rfl) ?_
      refine WA.y (i := 8) (NoPanic.then (NoPanic.block (NoPanic.then (NoPanic.then (NoPanic.block (NoPanic.then (NoPanic.body))))))) rfl kr_ kr_ kr_ rfl (Yd.extract rfl rfl) ?_
      refine WA.y (i := 9) (NoPanic.then (NoPanic.block (NoPanic.then (NoPanic.then (NoPanic.block (NoPanic.then (NoPanic.body))))))) rfl kr_ kr_ kr_ rfl (Yd.extract rfl rfl) ?_
      refine WA.one (i := 10) kr_ ?_
      refine WO.h rfl Wt.none rfl (Hd.alloc (zs := [.string ⟨#[]⟩, .int .i64 0, .int .i64 0]) kr_ fun b7 => ⟨_, rfl, ?_⟩)
      refine WA.one (i := 11) kr_ ?_
      refine WO.s rfl Wt.none (Hd.storeAll (n := 3) kr_ rfl rfl (by rfl) one_ fr_ (by rfl) ⟨rfl, ?_⟩)
      refine WA.y (i := 12) (NoPanic.then (NoPanic.block (NoPanic.then (NoPanic.then (NoPanic.block (NoPanic.then (NoPanic.body))))))) rfl kr_ kr_ kr_ rfl (Yd.assign rfl) ?_
      refine WA.done kr_ ?_
      refine DN.fit (C := row b6 (cellsU gs[i]) 71 :: (row b15 [.map (some b1), .map (some b2)] 198 :: (C1 ++ (C2 ++ H)))) sp_ ?_
      exact DN.reachK (0) (trivial) (Sx.put rfl (sx_)) (Sp.all sp_)
     ·refine WO.h rfl Wt.none rfl (Hd.alloc (zs := [.string ⟨#[]⟩, .int .i64 0, .int .i64 0]) kr_ fun b7 => ⟨_, rfl, ?_⟩)
      refine WA.one (i := 6) kr_ ?_
      refine WO.h rfl Wt.none rfl (Hd.lookupG (k0 := kStr) (KT := 9) (ET := 71) (TD := .string) (n := gs[i].name) (z := .agg #[.string ⟨#[]⟩, .int .i64 0, .int .i64 0]) kr_ Tryz.underlying9 rfl kr_ rfl rfl hK sp_ (lkU2 (gs.take i) gs[i].name) ⟨_, rfl, ?_⟩)
      refine WA.y (i := 7) (NoPanic.then (NoPanic.block (NoPanic.then (NoPanic.then (NoPanic.block (NoPanic.then (NoPanic.body))))))) rfl kr_ kr_ kr_ rfl (Yd.move rfl) ?_
      refine WA.y (i := 8) (NoPanic.then (NoPanic.block (NoPanic.then (NoPanic.then (NoPanic.block (NoPanic.then (NoPanic.body))))))) rfl kr_ kr_ kr_ rfl (Yd.extract rfl rfl) ?_
      refine WA.y (i := 9) (NoPanic.then (NoPanic.block (NoPanic.then (NoPanic.then (NoPanic.block (NoPanic.then (NoPanic.body))))))) rfl kr_ kr_ kr_ rfl (Yd.extract rfl rfl) ?_
      refine WA.one (i := 11) kr_ ?_
      refine WO.s rfl Wt.none (Hd.storeAll (n := 3) kr_ rfl rfl (by rfl) one_ fr_ (by rfl) ⟨rfl, ?_⟩)
      refine WA.y (i := 12) (NoPanic.then (NoPanic.block (NoPanic.then (NoPanic.then (NoPanic.block (NoPanic.then (NoPanic.body))))))) rfl kr_ kr_ kr_ rfl (Yd.assign rfl) ?_
      refine WA.done kr_ ?_
      refine DN.fit (C := row b6 (cellsU gs[i]) 71 :: (row b15 [.map (some b1), .map (some b2)] 198 :: (C1 ++ (C2 ++ H)))) sp_ ?_
      exact DN.reachK (0) (trivial) (Sx.put rfl (sx_)) (Sp.all sp_)
   ·intro _ _
    refine WC.seq ?_
    refine sr_ ?_
    refine f_ 0 kr_ rfl rfl ?_
    refine d_ kr_ rfl mem_ (by rfl) rfl ?_
    refine WL.y rfl (Yd.eqlS rfl rfl) ?_
    refine m_ rfl rfl ?_
    refine WL.partP (t := 35) rfl (fun hg35 => ?_) (fun hg35 => ?_)
    ·iterate 4 refine gn_ 35 rfl rfl rfl rfl ?_
     refine WL.y rfl (Yd.pickT rfl rfl) ?_
     refine m_ rfl rfl ?_
     iterate 3 refine gn_ 41 rfl rfl rfl rfl ?_
     refine WL.y rfl (Yd.pickT rfl rfl) ?_
     refine m_ rfl rfl ?_
     iterate 3 refine gn_ 46 rfl rfl rfl rfl ?_
     refine WL.y rfl (Yd.pickT rfl rfl) ?_
     refine m_ rfl rfl ?_
     iterate 3 refine gn_ 51 rfl rfl rfl rfl ?_
     refine WL.y rfl (Yd.pickT rfl rfl) ?_
     refine m_ rfl rfl ?_
     refine gn_ 56 rfl rfl rfl rfl ?_
     refine WL.y rfl (Yd.pickT rfl rfl) ?_
     refine nt_ ?_
     refine WC.yes rfl ?_
     refine sr_ ?_
     refine a_ rfl rfl ?_
     refine a_ rfl rfl ?_
     refine nt_ ?_
     refine WC.ret ?_
     refine DN.then_ret ?_
     refine DN.block_ret ?_
     refine DN.then_ret ?_
     refine DN.then_ret ?_
     refine DN.block_ret ?_
     refine DN.then_ret ?_
     first | (have hlt2 : i < gs.length := hlt; refine DN.fit (C := H) sp_ ?_) | refine DN.fit (C := row b15 [.map (some b1), .map (some b2)] 198 :: (C1 ++ (C2 ++ H))) sp_ ?_ | skip
     refine DN.ret2 Tryz.results64 rfl rfl ?_
     first
       | exact .inr ⟨fun hG => by have := hG.1; omega, rfl, rfl⟩
       | exact .inr ⟨fun hG => (hG.2.2 gs[i] (List.getElem_mem hlt)).1 hg35, rfl, rfl⟩
       | exact .inr ⟨fun hG => by have := (hG.2.2 gs[i] (List.getElem_mem hlt)).2; omega, rfl, rfl⟩
       | exact .inr ⟨fun hG => (twice_noU hlt h58) hG.2.1, rfl, rfl⟩
       | exact .inl ⟨⟨by omega, hnd, fun g hm => by obtain ⟨j, hj, rfl⟩ := List.getElem_of_mem hm; exact hgood j hj hj⟩, b15, row b15 [.map (some b1), .map (some b2)] 198 :: (C1 ++ C2), rfl, ⟨b1, b2, C1, C2, rfl, hK, h2⟩, by simp⟩
    ·refine gy_ 35 rfl rfl rfl (Yd.fieldAddr (k := 0) kr_ rfl) ?_
     refine WL.gh (dj := 35) rfl rfl rfl (Hd.load1 kr_ rfl mem_ (by rfl) ⟨_, rfl, ?_⟩)
     refine gy_ 35 rfl rfl rfl (Yd.lenS Tryz.underlying9 rfl) ?_
     refine gy_ 35 rfl rfl rfl (Yd.gtr rfl rfl) ?_
     refine WL.y rfl (Yd.pickF rfl rfl) ?_
     refine m_ rfl rfl ?_
     refine WL.partP (t := 41) rfl (fun hg41 => ?_) (fun hg41 => ?_)
     ·iterate 3 refine gn_ 41 rfl rfl rfl rfl ?_
      refine WL.y rfl (Yd.pickT rfl rfl) ?_
      refine m_ rfl rfl ?_
      iterate 3 refine gn_ 46 rfl rfl rfl rfl ?_
      refine WL.y rfl (Yd.pickT rfl rfl) ?_
      refine m_ rfl rfl ?_
      iterate 3 refine gn_ 51 rfl rfl rfl rfl ?_
      refine WL.y rfl (Yd.pickT rfl rfl) ?_
      refine m_ rfl rfl ?_
      refine gn_ 56 rfl rfl rfl rfl ?_
      refine WL.y rfl (Yd.pickT rfl rfl) ?_
      refine nt_ ?_
      refine WC.yes rfl ?_
      refine sr_ ?_
      refine a_ rfl rfl ?_
      refine a_ rfl rfl ?_
      refine nt_ ?_
      refine WC.ret ?_
      refine DN.then_ret ?_
      refine DN.block_ret ?_
      refine DN.then_ret ?_
      refine DN.then_ret ?_
      refine DN.block_ret ?_
      refine DN.then_ret ?_
      first | (have hlt2 : i < gs.length := hlt; refine DN.fit (C := H) sp_ ?_) | refine DN.fit (C := row b15 [.map (some b1), .map (some b2)] 198 :: (C1 ++ (C2 ++ H))) sp_ ?_ | skip
      refine DN.ret2 Tryz.results64 rfl rfl ?_
      first
        | exact .inr ⟨fun hG => by have := hG.1; omega, rfl, rfl⟩
        | exact .inr ⟨fun hG => (hG.2.2 gs[i] (List.getElem_mem hlt)).1 hg35, rfl, rfl⟩
        | exact .inr ⟨fun hG => by have := (hG.2.2 gs[i] (List.getElem_mem hlt)).2; omega, rfl, rfl⟩
        | exact .inr ⟨fun hG => (twice_noU hlt h58) hG.2.1, rfl, rfl⟩
        | exact .inl ⟨⟨by omega, hnd, fun g hm => by obtain ⟨j, hj, rfl⟩ := List.getElem_of_mem hm; exact hgood j hj hj⟩, b15, row b15 [.map (some b1), .map (some b2)] 198 :: (C1 ++ C2), rfl, ⟨b1, b2, C1, C2, rfl, hK, h2⟩, by simp⟩
     ·refine gy_ 41 rfl rfl rfl (Yd.fieldAddr (k := 1) kr_ rfl) ?_
      refine WL.gh (dj := 41) rfl rfl rfl (Hd.load1 kr_ rfl mem_ (by rfl) ⟨_, rfl, ?_⟩)
      refine gy_ 41 rfl rfl rfl (Yd.lss rfl rfl) ?_
      refine WL.y rfl (Yd.pickF rfl rfl) ?_
      refine m_ rfl rfl ?_
      refine WL.partP (t := 46) rfl (fun hg46 => ?_) (fun hg46 => ?_)
      ·iterate 3 refine gn_ 46 rfl rfl rfl rfl ?_
       refine WL.y rfl (Yd.pickT rfl rfl) ?_
       refine m_ rfl rfl ?_
       iterate 3 refine gn_ 51 rfl rfl rfl rfl ?_
       refine WL.y rfl (Yd.pickT rfl rfl) ?_
       refine m_ rfl rfl ?_
       refine gn_ 56 rfl rfl rfl rfl ?_
       refine WL.y rfl (Yd.pickT rfl rfl) ?_
       refine nt_ ?_
       refine WC.yes rfl ?_
       refine sr_ ?_
       refine a_ rfl rfl ?_
       refine a_ rfl rfl ?_
       refine nt_ ?_
       refine WC.ret ?_
       refine DN.then_ret ?_
       refine DN.block_ret ?_
       refine DN.then_ret ?_
       refine DN.then_ret ?_
       refine DN.block_ret ?_
       refine DN.then_ret ?_
       first | (have hlt2 : i < gs.length := hlt; refine DN.fit (C := H) sp_ ?_) | refine DN.fit (C := row b15 [.map (some b1), .map (some b2)] 198 :: (C1 ++ (C2 ++ H))) sp_ ?_ | skip
       refine DN.ret2 Tryz.results64 rfl rfl ?_
       first
         | exact .inr ⟨fun hG => by have := hG.1; omega, rfl, rfl⟩
         | exact .inr ⟨fun hG => (hG.2.2 gs[i] (List.getElem_mem hlt)).1 hg35, rfl, rfl⟩
         | exact .inr ⟨fun hG => by have := (hG.2.2 gs[i] (List.getElem_mem hlt)).2; omega, rfl, rfl⟩
         | exact .inr ⟨fun hG => (twice_noU hlt h58) hG.2.1, rfl, rfl⟩
         | exact .inl ⟨⟨by omega, hnd, fun g hm => by obtain ⟨j, hj, rfl⟩ := List.getElem_of_mem hm; exact hgood j hj hj⟩, b15, row b15 [.map (some b1), .map (some b2)] 198 :: (C1 ++ C2), rfl, ⟨b1, b2, C1, C2, rfl, hK, h2⟩, by simp⟩
      ·refine gy_ 46 rfl rfl rfl (Yd.fieldAddr (k := 1) kr_ rfl) ?_
       refine WL.gh (dj := 46) rfl rfl rfl (Hd.load1 kr_ rfl mem_ (by rfl) ⟨_, rfl, ?_⟩)
       refine gy_ 46 rfl rfl rfl (Yd.gtr rfl rfl) ?_
       refine WL.y rfl (Yd.pickF rfl rfl) ?_
       refine m_ rfl rfl ?_
       refine WL.partP (t := 51) rfl (fun hg51 => ?_) (fun hg51 => ?_)
       ·iterate 3 refine gn_ 51 rfl rfl rfl rfl ?_
        refine WL.y rfl (Yd.pickT rfl rfl) ?_
        refine m_ rfl rfl ?_
        refine gn_ 56 rfl rfl rfl rfl ?_
        refine WL.y rfl (Yd.pickT rfl rfl) ?_
        refine nt_ ?_
        refine WC.yes rfl ?_
        refine sr_ ?_
        refine a_ rfl rfl ?_
        refine a_ rfl rfl ?_
        refine nt_ ?_
        refine WC.ret ?_
        refine DN.then_ret ?_
        refine DN.block_ret ?_
        refine DN.then_ret ?_
        refine DN.then_ret ?_
        refine DN.block_ret ?_
        refine DN.then_ret ?_
        first | (have hlt2 : i < gs.length := hlt; refine DN.fit (C := H) sp_ ?_) | refine DN.fit (C := row b15 [.map (some b1), .map (some b2)] 198 :: (C1 ++ (C2 ++ H))) sp_ ?_ | skip
        refine DN.ret2 Tryz.results64 rfl rfl ?_
        first
          | exact .inr ⟨fun hG => by have := hG.1; omega, rfl, rfl⟩
          | exact .inr ⟨fun hG => (hG.2.2 gs[i] (List.getElem_mem hlt)).1 hg35, rfl, rfl⟩
          | exact .inr ⟨fun hG => by have := (hG.2.2 gs[i] (List.getElem_mem hlt)).2; omega, rfl, rfl⟩
          | exact .inr ⟨fun hG => (twice_noU hlt h58) hG.2.1, rfl, rfl⟩
          | exact .inl ⟨⟨by omega, hnd, fun g hm => by obtain ⟨j, hj, rfl⟩ := List.getElem_of_mem hm; exact hgood j hj hj⟩, b15, row b15 [.map (some b1), .map (some b2)] 198 :: (C1 ++ C2), rfl, ⟨b1, b2, C1, C2, rfl, hK, h2⟩, by simp⟩
       ·refine gy_ 51 rfl rfl rfl (Yd.fieldAddr (k := 2) kr_ rfl) ?_
        refine WL.gh (dj := 51) rfl rfl rfl (Hd.load1 kr_ rfl mem_ (by rfl) ⟨_, rfl, ?_⟩)
        refine gy_ 51 rfl rfl rfl (Yd.neq rfl rfl) ?_
        refine WL.y rfl (Yd.pickF rfl rfl) ?_
        refine m_ rfl rfl ?_
        refine WL.partP (t := 56) rfl (fun hg56 => ?_) (fun hg56 => ?_)
        ·refine gn_ 56 rfl rfl rfl rfl ?_
         refine WL.y rfl (Yd.pickT rfl rfl) ?_
         refine nt_ ?_
         refine WC.yes rfl ?_
         refine sr_ ?_
         refine a_ rfl rfl ?_
         refine a_ rfl rfl ?_
         refine nt_ ?_
         refine WC.ret ?_
         refine DN.then_ret ?_
         refine DN.block_ret ?_
         refine DN.then_ret ?_
         refine DN.then_ret ?_
         refine DN.block_ret ?_
         refine DN.then_ret ?_
         first | (have hlt2 : i < gs.length := hlt; refine DN.fit (C := H) sp_ ?_) | refine DN.fit (C := row b15 [.map (some b1), .map (some b2)] 198 :: (C1 ++ (C2 ++ H))) sp_ ?_ | skip
         refine DN.ret2 Tryz.results64 rfl rfl ?_
         first
           | exact .inr ⟨fun hG => by have := hG.1; omega, rfl, rfl⟩
           | exact .inr ⟨fun hG => (hG.2.2 gs[i] (List.getElem_mem hlt)).1 hg35, rfl, rfl⟩
           | exact .inr ⟨fun hG => by have := (hG.2.2 gs[i] (List.getElem_mem hlt)).2; omega, rfl, rfl⟩
           | exact .inr ⟨fun hG => (twice_noU hlt h58) hG.2.1, rfl, rfl⟩
           | exact .inl ⟨⟨by omega, hnd, fun g hm => by obtain ⟨j, hj, rfl⟩ := List.getElem_of_mem hm; exact hgood j hj hj⟩, b15, row b15 [.map (some b1), .map (some b2)] 198 :: (C1 ++ C2), rfl, ⟨b1, b2, C1, C2, rfl, hK, h2⟩, by simp⟩
        ·refine gy_ 56 rfl rfl rfl (Yd.move rfl) ?_
         refine WL.y rfl (Yd.pickF rfl rfl) ?_
         refine nt_ ?_
         refine WC.cond rfl (fun h58 => ?_) (fun h58 => ?_)
         ·refine sr_ ?_
          refine a_ rfl rfl ?_
          refine a_ rfl rfl ?_
          refine nt_ ?_
          refine WC.ret ?_
          refine DN.then_ret ?_
          refine DN.block_ret ?_
          refine DN.then_ret ?_
          refine DN.then_ret ?_
          refine DN.block_ret ?_
          refine DN.then_ret ?_
          first | (have hlt2 : i < gs.length := hlt; refine DN.fit (C := H) sp_ ?_) | refine DN.fit (C := row b15 [.map (some b1), .map (some b2)] 198 :: (C1 ++ (C2 ++ H))) sp_ ?_ | skip
          refine DN.ret2 Tryz.results64 rfl rfl ?_
          first
            | exact .inr ⟨fun hG => by have := hG.1; omega, rfl, rfl⟩
            | exact .inr ⟨fun hG => (hG.2.2 gs[i] (List.getElem_mem hlt)).1 hg35, rfl, rfl⟩
            | exact .inr ⟨fun hG => by have := (hG.2.2 gs[i] (List.getElem_mem hlt)).2; omega, rfl, rfl⟩
            | exact .inr ⟨fun hG => (twice_noU hlt h58) hG.2.1, rfl, rfl⟩
            | exact .inl ⟨⟨by omega, hnd, fun g hm => by obtain ⟨j, hj, rfl⟩ := List.getElem_of_mem hm; exact hgood j hj hj⟩, b15, row b15 [.map (some b1), .map (some b2)] 198 :: (C1 ++ C2), rfl, ⟨b1, b2, C1, C2, rfl, hK, h2⟩, by simp⟩
         ·have hgi : accB gs[i] := ⟨hg35, by omega, by omega, by omega, by omega⟩
          have hnone : findK Au.name (gs.take i) gs[i].name = none := by simpa using h58
          have hndi := once_moreU hnd hnone
          refine WC.skip ?_
          refine DN.then_normal ?_
          refine WC.draw 8 kr_ rfl ?_
          refine WA.y (i := 0) (NoPanic.block (NoPanic.then (NoPanic.then (NoPanic.block (NoPanic.then (NoPanic.body)))))) rfl kr_ kr_ kr_ rfl (Yd.move rfl) ?_
          refine WA.y (i := 1) (NoPanic.block (NoPanic.then (NoPanic.then (NoPanic.block (NoPanic.then (NoPanic.body)))))) rfl kr_ kr_ kr_ rfl (Yd.notNil rfl) ?_
          refine WA.y (i := 2) (NoPanic.block (NoPanic.then (NoPanic.then (NoPanic.block (NoPanic.then (NoPanic.body)))))) rfl kr_ kr_ kr_ rfl (Yd.fieldAddr (k := 0) kr_ rfl) ?_
          refine WA.y (i := 4) (NoPanic.block (NoPanic.then (NoPanic.then (NoPanic.block (NoPanic.then (NoPanic.body)))))) rfl kr_ kr_ kr_ rfl (Yd.fieldAddr (k := 0) kr_ rfl) ?_
          refine WA.reads [(3, 62, _), (5, 64, _), (6, 65, _)] [3, 5, 6] [] 1 rfl rfl (List.forall_mem_cons.2 ⟨ReadAt.mk rfl Wt.none rfl (Rd.load1 kr_ rfl mem_ (by rfl)), List.forall_mem_cons.2 ⟨ReadAt.mk rfl Wt.none rfl (Rd.load1 kr_ rfl mem_ (by rfl)), List.forall_mem_cons.2 ⟨ReadAt.mk rfl Wt.none rfl (Rd.loadAll (n := 3) kr_ rfl mem_ (by rfl)), fun _ h => absurd h List.not_mem_nil⟩⟩⟩) (by decide) (by simp) (List.forall_mem_cons.2 ⟨rfl, List.forall_mem_cons.2 ⟨rfl, List.forall_mem_cons.2 ⟨rfl, fun _ h => absurd h List.not_mem_nil⟩⟩⟩) kr_ (fun _ h => absurd h List.not_mem_nil) ?_
          ·change WA _ _ _ _ _ _ 1 _ ([(62, _), (64, _), (65, _)] ++ _) _
           refine WA.one (i := 7) kr_ ?_
           refine WO.s rfl Wt.none (Hd.mapSet (k0 := kStr) (KT := 9) (ET := 71) (TD := .string) (n := gs[i].name) kr_ Tryz.underlying9 rfl rfl rfl rfl hK (by rw [kvs_keys]; exact hnd) sp_ fun C3 h3 => ⟨rfl, ?_⟩)
           refine WA.done kr_ ?_
           refine DN.block_normal ?_
           refine DN.then_normal ?_
           refine WC.region ?_
           refine WL.y rfl (Yd.add rfl rfl (by omega) (by omega)) ?_
           refine m_ rfl rfl ?_
           refine WL.nil ?_
           exact DN.againS (⟨i + 1, C3⟩) (show (i + 1) ≤ gs.length ∧ (∀ (j : Nat) (h : j < gs.length), j < (i + 1) → accB gs[j]) ∧ ((gs.take (i + 1)).map Au.name).Nodup ∧ MpG kStr b1 (kvs Au.name encU (gs.take (i + 1))) C3 from ⟨by omega, fun j h hj => by
             rcases Nat.lt_or_ge j i with h5 | h5
             · exact hgood j h h5
             · obtain rfl : j = i := by omega
               exact hgi, by rw [htk]; exact hndi, by rw [htk, ← putU_new hnone, ← putU (gs.take i) gs[i] gs[i].name rfl]; exact h3⟩) (show gs.length - (i + 1) < gs.length - i by omega) (Sx.put rfl (sx_)) sp_
  ·obtain rfl : i = gs.length := by omega
   rw [List.take_length] at hnd hK
   refine WC.exit ?_
   refine DN.then_exit ?_
   refine DN.then_exit ?_
   refine DN.block_exit ?_
   refine ts_ ?_
   refine WC.region ?_
   refine m_ rfl rfl ?_
   refine a_ rfl rfl ?_
   refine a_ rfl rfl ?_
   refine nt_ ?_
   refine WC.ret ?_
   first | (have hlt2 : i < gs.length := hlt; refine DN.fit (C := H) sp_ ?_) | refine DN.fit (C := row b15 [.map (some b1), .map (some b2)] 198 :: (C1 ++ (C2 ++ H))) sp_ ?_ | skip
   refine DN.ret2 Tryz.results64 rfl rfl ?_
   first
     | exact .inr ⟨fun hG => by have := hG.1; omega, rfl, rfl⟩
     | exact .inr ⟨fun hG => (hG.2.2 gs[i] (List.getElem_mem hlt)).1 hg35, rfl, rfl⟩
     | exact .inr ⟨fun hG => by have := (hG.2.2 gs[i] (List.getElem_mem hlt)).2; omega, rfl, rfl⟩
     | exact .inr ⟨fun hG => (twice_noU hlt h58) hG.2.1, rfl, rfl⟩
     | exact .inl ⟨⟨by omega, hnd, fun g hm => by obtain ⟨j, hj, rfl⟩ := List.getElem_of_mem hm; exact hgood j hj hj⟩, b15, row b15 [.map (some b1), .map (some b2)] 198 :: (C1 ++ C2), rfl, ⟨b1, b2, C1, C2, rfl, hK, h2⟩, by simp⟩
end Go.Proofs.YtkamlondepceiaaGreat.Pu

set_option linter.unusedVariables false
set_option linter.unusedSimpArgs false
set_option maxHeartbeats 4000000
namespace Go.Proofs.YtkamlondepceiaaGreat
open Go.SL
theorem cnew_tells (v1 v2 v3 : Value) (gs : List Gd) (us : List Au) (rs : List Int) (hg : ∀ g ∈ gs, g.gone = 0) (H : List Ck) (h1 : Rs v1 gs.length (gs.flatMap cellsG) H) (h2 : Rs v2 us.length (us.flatMap cellsU) H) (h3 : Rs v3 rs.length (ic rs) H) (hl1 : gs.length ≤ 9223372036854775807) (hl2 : us.length ≤ 9223372036854775807) (hl3 : rs.length ≤ 9223372036854775807) : Tells Tryz.prog 31 [v1, v2, v3] H fun r H' => ((GoodL gs ∧ AccL us ∧ ((rs.findIdx? Do.badRoom).isSome = false ∧ rs.length ≤ 60)) ∧ ∃ p C, r = .tuple #[.pointer (some ⟨p, 0, none⟩), .int .i64 0] ∧ CwAt 189 198 203 3 5 118 111 22 116 p (Cw.new gs us rs) C ∧ H' = C ++ H) ∨ (¬ (GoodL gs ∧ AccL us ∧ ((rs.findIdx? Do.badRoom).isSome = false ∧ rs.length ≤ 60)) ∧ r = .tuple #[.pointer none, .int .i64 2] ∧ H' = H) := by
 refine Tells.enter Tryz.func31 rfl Tryz.ntmps31 rfl ?_
 intro w0 R
 obtain ⟨ao1, ac1, rfl, _⟩ := h1.form
 obtain ⟨ao2, ac2, rfl, _⟩ := h2.form
 obtain ⟨ao3, ac3, rfl, _⟩ := h3.form
 refine sr_ ?_
 refine a_ rfl rfl ?_
 refine a_ rfl rfl ?_
 refine ntsr_ ?_
 refine m_ rfl rfl ?_
 refine WL.c rfl (Ent.func Tryz.call63 rfl) (St.new_tells _ gs hg H h1 hl1) (Sp.p sp_) ?_
 intro x H9 h9
 have h91 : ∃ a e C, x = .tuple #[.pointer a, .int .i64 e] ∧ H9 = C ++ H ∧ ((e = 0 ∧ GoodL gs ∧ ∃ p, a = some ⟨p, 0, none⟩ ∧ StAt 189 p gs [] C) ∨ (e = 2 ∧ ¬ GoodL gs)) := by
   rcases h9 with ⟨hg, p, C, rfl, hC, rfl⟩ | ⟨hn, rfl, rfl⟩
   · exact ⟨_, _, C, rfl, rfl, .inl ⟨rfl, hg, p, rfl, hC⟩⟩
   · exact ⟨none, 2, [], rfl, rfl, .inr ⟨rfl, hn⟩⟩
 clear h9
 obtain ⟨a1, e1, C1, rfl, rfl, h91⟩ := h91
 refine m_ rfl rfl ?_
 refine x_ rfl rfl rfl ?_
 refine x_ rfl rfl rfl ?_
 refine a_ rfl rfl ?_
 refine a_ rfl rfl ?_
 refine nt_ ?_
 refine WC.seq ?_
 refine sr_ ?_
 refine m_ rfl rfl ?_
 refine WL.y rfl (Yd.neq rfl rfl) ?_
 refine nt_ ?_
 refine WC.ite rfl (fun h18 => ?_) (fun h18 => ?_)
 ·obtain ⟨rfl, hn1⟩ := h91.resolve_left (fun q => h18 q.1)
  refine sr_ ?_
  refine m_ rfl rfl ?_
  refine a_ rfl rfl ?_
  refine a_ rfl rfl ?_
  refine nt_ ?_
  refine WC.ret ?_
  refine DN.then_ret ?_
  refine DN.fit (C := H) sp_ ?_
  refine DN.ret2 Tryz.results31 rfl rfl ?_
  exact .inr ⟨fun q => hn1 q.1, rfl, rfl⟩
 ·obtain ⟨rfl, hg1, p1, rfl, hC1⟩ := h91.resolve_right (fun q => h18 (by rw [q.1]; decide))
  refine WC.skip ?_
  refine ts_ ?_
  refine WC.region ?_
  refine m_ rfl rfl ?_
  refine WL.c rfl (Ent.func Tryz.call64 rfl) (Pu.new_tells _ us H h2 hl2) (Sp.p sp_) ?_
  intro x H9 h9
  have h92 : ∃ a e C, x = .tuple #[.pointer a, .int .i64 e] ∧ H9 = C ++ H ∧ ((e = 0 ∧ AccL us ∧ ∃ p, a = some ⟨p, 0, none⟩ ∧ PsAt 198 p us [] C) ∨ (e = 2 ∧ ¬ AccL us)) := by
    rcases h9 with ⟨hg, p, C, rfl, hC, rfl⟩ | ⟨hn, rfl, rfl⟩
    · exact ⟨_, _, C, rfl, rfl, .inl ⟨rfl, hg, p, rfl, hC⟩⟩
    · exact ⟨none, 2, [], rfl, rfl, .inr ⟨rfl, hn⟩⟩
  clear h9
  obtain ⟨a2, e2, C2, rfl, rfl, h92⟩ := h92
  refine m_ rfl rfl ?_
  refine x_ rfl rfl rfl ?_
  refine x_ rfl rfl rfl ?_
  refine a_ rfl rfl ?_
  refine a_ rfl rfl ?_
  refine nt_ ?_
  refine WC.seq ?_
  refine sr_ ?_
  refine m_ rfl rfl ?_
  refine WL.y rfl (Yd.neq rfl rfl) ?_
  refine nt_ ?_
  refine WC.ite rfl (fun h26 => ?_) (fun h26 => ?_)
  ·obtain ⟨rfl, hn2⟩ := h92.resolve_left (fun q => h26 q.1)
   refine sr_ ?_
   refine m_ rfl rfl ?_
   refine a_ rfl rfl ?_
   refine a_ rfl rfl ?_
   refine nt_ ?_
   refine WC.ret ?_
   refine DN.then_ret ?_
   refine DN.fit (C := H) sp_ ?_
   refine DN.ret2 Tryz.results31 rfl rfl ?_
   exact .inr ⟨fun q => hn2 q.2.1, rfl, rfl⟩
  ·obtain ⟨rfl, hg2, p2, rfl, hC2⟩ := h92.resolve_right (fun q => h26 (by rw [q.1]; decide))
   refine WC.skip ?_
   refine ts_ ?_
   refine WC.region ?_
   refine m_ rfl rfl ?_
   refine WL.c rfl (Ent.func Tryz.call65 rfl) (Do.new_tells _ rs H h3 hl3) (Sp.p sp_) ?_
   intro x H9 h9
   obtain ⟨a3, e3, C3, rfl, rfl, h93⟩ : ∃ a e C, x = .tuple #[.pointer a, .int .i64 e] ∧ H9 = C ++ H ∧ ((e = 0 ∧ ((rs.findIdx? Do.badRoom).isSome = false ∧ rs.length ≤ 60) ∧ ∃ p, a = some ⟨p, 0, none⟩ ∧ DockAt 203 3 p rs [] C) ∨ (e = 2 ∧ ¬ ((rs.findIdx? Do.badRoom).isSome = false ∧ rs.length ≤ 60))) := by
     by_cases hg3 : ((rs.findIdx? Do.badRoom).isSome = false ∧ rs.length ≤ 60)
     · rw [if_pos hg3] at h9
       obtain ⟨p, C, rfl, hC, rfl⟩ := h9
       exact ⟨_, _, C, rfl, rfl, .inl ⟨rfl, hg3, p, rfl, hC⟩⟩
     · rw [if_neg hg3] at h9
       obtain ⟨rfl, rfl⟩ := h9
       exact ⟨none, 2, [], rfl, rfl, .inr ⟨rfl, hg3⟩⟩
   clear h9
   refine m_ rfl rfl ?_
   refine x_ rfl rfl rfl ?_
   refine x_ rfl rfl rfl ?_
   refine a_ rfl rfl ?_
   refine a_ rfl rfl ?_
   refine nt_ ?_
   refine WC.seq ?_
   refine sr_ ?_
   refine m_ rfl rfl ?_
   refine WL.y rfl (Yd.neq rfl rfl) ?_
   refine nt_ ?_
   refine WC.ite rfl (fun h34 => ?_) (fun h34 => ?_)
   ·obtain ⟨rfl, hn3⟩ := h93.resolve_left (fun q => h34 q.1)
    refine sr_ ?_
    refine m_ rfl rfl ?_
    refine a_ rfl rfl ?_
    refine a_ rfl rfl ?_
    refine nt_ ?_
    refine WC.ret ?_
    refine DN.then_ret ?_
    refine DN.fit (C := H) sp_ ?_
    refine DN.ret2 Tryz.results31 rfl rfl ?_
    exact .inr ⟨fun q => hn3 q.2.2, rfl, rfl⟩
   ·obtain ⟨rfl, hg3, p3, rfl, hC3⟩ := h93.resolve_right (fun q => h34 (by rw [q.1]; decide))
    refine WC.skip ?_
    refine ts_ ?_
    refine WC.region ?_
    iterate 3 refine m_ rfl rfl ?_
    refine WL.y rfl (Yd.build (pl := [(0, 1), (1, 1), (2, 1), (3, 2), (5, 1), (6, 1)]) (zs := [.pointer none, .pointer none, .pointer none, .int .u32 0, .slice none 0 0, .slice none 0 0, .slice none 0 0]) (parts := [(0, .tmp 36), (1, .tmp 37), (2, .tmp 38)]) (vs := [(0, .pointer (some ⟨p3, 0, none⟩)), (1, .pointer (some ⟨p1, 0, none⟩)), (2, .pointer (some ⟨p2, 0, none⟩))]) (cells := [.pointer (some ⟨p3, 0, none⟩), .pointer (some ⟨p1, 0, none⟩), .pointer (some ⟨p2, 0, none⟩), .int .u32 0, .slice none 0 0, .slice none 0 0, .slice none 0 0]) kr_ kr_ rfl rfl) ?_
    refine WL.h rfl (Hd.box rfl fun p => ⟨_, rfl, ?_⟩)
    refine a_ rfl rfl ?_
    refine a_ rfl rfl ?_
    refine nt_ ?_
    refine WC.ret ?_
    refine DN.fit (C := (row p [.pointer (some ⟨p3, 0, none⟩), .pointer (some ⟨p1, 0, none⟩), .pointer (some ⟨p2, 0, none⟩), .int .u32 0, .slice none 0 0, .slice none 0 0, .slice none 0 0] 116 :: (C1 ++ (C2 ++ (C3 ++ ([] ++ ([] ++ ([] ++ []))))))) ++ H) sp_ ?_
    refine DN.ret2 Tryz.results31 rfl rfl ?_
    exact .inl ⟨⟨hg1, hg2, hg3⟩, p, _, rfl, ⟨p3, p1, p2, _, _, _, C1, C2, C3, [], [], [], [], [], rfl, hC1, hC2, hC3, FAt.nil _ _, Own.nil _ _, Own.nil _ _, .nil⟩, rfl⟩
theorem cepoch_reads (p : Nat) (s : Cw) (C : List Ck) (h : CwAt 189 198 203 3 5 118 111 22 116 p s C) : Reads Tryz.prog 24 [.pointer (some ⟨p, 0, none⟩)] C (.int .u32 s.e.toNat) := by
 refine Tells.enter Tryz.func24 rfl Tryz.ntmps24 rfl ?_
 intro w0 R
 obtain ⟨pd, ps, pp, vL, vE, vN, CS, CP, CD, CF, CE, cn, CN, DO, rfl, hS, hP, hD, hF, hE, hN, hO⟩ := h
 obtain ⟨lo, lc, rfl⟩ := hF.form
 obtain ⟨eo, ec, rfl, hec⟩ := hE.form
 obtain ⟨no, nc, rfl, hnc⟩ := hN.form
 refine sr_ ?_
 refine WL.y rfl (Yd.assign (v := .int .u32 ((0#32).toNat : Int)) rfl) ?_
 refine nt_ ?_
 refine WC.seq ?_
 refine sr_ ?_
 refine m_ rfl rfl ?_
 refine WL.y rfl (Yd.eqlNil Tryz.underlying40 rfl rfl) ?_
 refine WL.renamed (t := 4) (v := .bool false) rfl (congrArg Value.bool (rfl)) ?_
 refine nt_ ?_
 refine WC.no rfl ?_
 refine WC.skip ?_
 refine ts_ ?_
 refine WC.region ?_
 refine m_ rfl rfl ?_
 refine n_ rfl rfl ?_
 refine f_ 3 kr_ rfl rfl ?_
 refine f_ 0 kr_ rfl rfl ?_
 refine d_ kr_ rfl mem_ (by rfl) rfl ?_
 refine a_ rfl rfl ?_
 refine nt_ ?_
 refine WC.ret ?_
 refine DN.ret1 Tryz.results24 rfl ?_
 exact ⟨rfl, rfl⟩
theorem croom_reads (p : Nat) (s : Cw) (C : List Ck) (h : CwAt 189 198 203 3 5 118 111 22 116 p s C) (day : Int) : Reads Tryz.prog 30 [.pointer (some ⟨p, 0, none⟩), .int .i64 day] C (.int .i64 (roomOf s.rs day)) := by
 refine Tells.enter Tryz.func30 rfl Tryz.ntmps30 rfl ?_
 intro w0 R
 obtain ⟨pd, ps, pp, vL, vE, vN, CS, CP, CD, CF, CE, cn, CN, DO, rfl, hS, hP, hD, hF, hE, hN, hO⟩ := h
 obtain ⟨lo, lc, rfl⟩ := hF.form
 obtain ⟨eo, ec, rfl, hec⟩ := hE.form
 obtain ⟨no, nc, rfl, hnc⟩ := hN.form
 refine sr_ ?_
 refine a_ rfl rfl ?_
 refine nt_ ?_
 refine WC.seq ?_
 refine sr_ ?_
 refine m_ rfl rfl ?_
 refine WL.y rfl (Yd.eqlNil Tryz.underlying40 rfl rfl) ?_
 refine WL.renamed (t := 6) (v := .bool false) rfl (congrArg Value.bool (rfl)) ?_
 refine nt_ ?_
 refine WC.no rfl ?_
 refine WC.skip ?_
 refine ts_ ?_
 refine WC.region ?_
 refine m_ rfl rfl ?_
 refine n_ rfl rfl ?_
 refine f_ 0 kr_ rfl rfl ?_
 refine d_ kr_ rfl mem_ (by rfl) rfl ?_
 refine m_ rfl rfl ?_
 refine WL.rf rfl (Ent.func Tryz.call62 rfl) (Do.room_reads pd s.rs s.B CD hD day) sp_ ?_
 refine a_ rfl rfl ?_
 refine nt_ ?_
 refine WC.ret ?_
 refine DN.ret1 Tryz.results30 rfl ?_
 exact ⟨rfl, rfl⟩
theorem cgoods_tells (p : Nat) (s : Cw) (C : List Ck) (h : CwAt 189 198 203 3 5 118 111 22 116 p s C) (hl : s.K.length ≤ 100000000) : Tells Tryz.prog 25 [.pointer (some ⟨p, 0, none⟩)] C fun r C' => ∃ S Cs, ToldK Gd.name sLt s.K S ∧ Own r S.length (S.flatMap cellsG) 73 2 Cs ∧ C' = Cs ++ C := by
 refine Tells.enter Tryz.func25 rfl Tryz.ntmps25 rfl ?_
 intro w0 R
 obtain ⟨pd, ps, pp, vL, vE, vN, CS, CP, CD, CF, CE, cn, CN, DO, rfl, hS, hP, hD, hF, hE, hN, hO⟩ := h
 obtain ⟨lo, lc, rfl⟩ := hF.form
 obtain ⟨eo, ec, rfl, hec⟩ := hE.form
 obtain ⟨no, nc, rfl, hnc⟩ := hN.form
 refine sr_ ?_
 refine a_ rfl rfl ?_
 refine nt_ ?_
 refine WC.seq ?_
 refine sr_ ?_
 refine m_ rfl rfl ?_
 refine WL.y rfl (Yd.eqlNil Tryz.underlying40 rfl rfl) ?_
 refine WL.renamed (t := 4) (v := .bool false) rfl (congrArg Value.bool (rfl)) ?_
 refine nt_ ?_
 refine WC.no rfl ?_
 refine WC.skip ?_
 refine ts_ ?_
 refine WC.region ?_
 refine m_ rfl rfl ?_
 refine n_ rfl rfl ?_
 refine f_ 1 kr_ rfl rfl ?_
 refine d_ kr_ rfl mem_ (by rfl) rfl ?_
 refine WL.c rfl (Ent.func Tryz.call60 rfl) (St.goods_tells ps s.K s.L CS hS hl) (Sp.p sp_) ?_
 rintro x H9 ⟨S, Cs, hT, ho, rfl⟩
 refine a_ rfl rfl ?_
 refine nt_ ?_
 refine WC.ret ?_
 refine DN.fit (C := Cs ++ (row p [.pointer (some ⟨pd, 0, none⟩), .pointer (some ⟨ps, 0, none⟩), .pointer (some ⟨pp, 0, none⟩), .int .u32 s.e.toNat, .slice lo s.ks.length lc, .slice eo s.ef.length ec, .slice no s.no.length nc] 116 :: (CS ++ (CP ++ (CD ++ (CF ++ (CE ++ (CN ++ DO)))))))) sp_ ?_
 refine DN.ret1 Tryz.results25 rfl ?_
 exact ⟨S, Cs, hT, ho, rfl⟩
theorem caccs_tells (p : Nat) (s : Cw) (C : List Ck) (h : CwAt 189 198 203 3 5 118 111 22 116 p s C) (hl : s.U.length ≤ 100000000) : Tells Tryz.prog 26 [.pointer (some ⟨p, 0, none⟩)] C fun r C' => ∃ S Cs, ToldK Au.name sLt s.U S ∧ Own r S.length (S.flatMap cellsU) 71 3 Cs ∧ C' = Cs ++ C := by
 refine Tells.enter Tryz.func26 rfl Tryz.ntmps26 rfl ?_
 intro w0 R
 obtain ⟨pd, ps, pp, vL, vE, vN, CS, CP, CD, CF, CE, cn, CN, DO, rfl, hS, hP, hD, hF, hE, hN, hO⟩ := h
 obtain ⟨lo, lc, rfl⟩ := hF.form
 obtain ⟨eo, ec, rfl, hec⟩ := hE.form
 obtain ⟨no, nc, rfl, hnc⟩ := hN.form
 refine sr_ ?_
 refine a_ rfl rfl ?_
 refine nt_ ?_
 refine WC.seq ?_
 refine sr_ ?_
 refine m_ rfl rfl ?_
 refine WL.y rfl (Yd.eqlNil Tryz.underlying40 rfl rfl) ?_
 refine WL.renamed (t := 4) (v := .bool false) rfl (congrArg Value.bool (rfl)) ?_
 refine nt_ ?_
 refine WC.no rfl ?_
 refine WC.skip ?_
 refine ts_ ?_
 refine WC.region ?_
 refine m_ rfl rfl ?_
 refine n_ rfl rfl ?_
 refine f_ 2 kr_ rfl rfl ?_
 refine d_ kr_ rfl mem_ (by rfl) rfl ?_
 refine WL.c rfl (Ent.func Tryz.call61 rfl) (Pu.accs_tells pp s.U s.Y CP hP hl) (Sp.p sp_) ?_
 rintro x H9 ⟨S, Cs, hT, ho, rfl⟩
 refine a_ rfl rfl ?_
 refine nt_ ?_
 refine WC.ret ?_
 refine DN.fit (C := Cs ++ (row p [.pointer (some ⟨pd, 0, none⟩), .pointer (some ⟨ps, 0, none⟩), .pointer (some ⟨pp, 0, none⟩), .int .u32 s.e.toNat, .slice lo s.ks.length lc, .slice eo s.ef.length ec, .slice no s.no.length nc] 116 :: (CS ++ (CP ++ (CD ++ (CF ++ (CE ++ (CN ++ DO)))))))) sp_ ?_
 refine DN.ret1 Tryz.results26 rfl ?_
 exact ⟨S, Cs, hT, ho, rfl⟩
end Go.Proofs.YtkamlondepceiaaGreat

set_option linter.unusedVariables false
set_option linter.unusedSimpArgs false
set_option maxHeartbeats 4000000
namespace Go.Proofs.YtkamlondepceiaaGreat
open Go.SL
theorem efs_len (l : List Ef) : (l.flatMap efc).length = 3 * l.length := by
  induction l with
  | nil => rfl
  | cons x l ih => rw [List.flatMap_cons, List.length_append, ih, efc_len, List.length_cons]; omega
theorem efs_one (l : List Ef) : ∀ v ∈ l.flatMap efc, v.oneCell' = true := by
  intro v hv
  obtain ⟨x, _, h⟩ := List.mem_flatMap.1 hv
  exact efc_one x v h
theorem clonee_tells (v : Value) (rs : List Ef) (H : List Ck) (hv : Rs v rs.length (rs.flatMap efc) H) (hl : rs.length ≤ 1000000) : Tells Tryz.prog 54 [v] H fun r H' => ∃ C, Own r rs.length (rs.flatMap efc) 111 3 C ∧ H' = C ++ H := by
 refine Tells.enter Tryz.func54 rfl Tryz.ntmps54 rfl ?_
 intro w0 R
 obtain ⟨vo, vc, rfl, hvc⟩ := hv.form
 have hnil : vo = none → rs = [] := by
   rintro rfl
   rcases hv with ⟨_, _, e, h0, _⟩ | ⟨b, o, cap, cs, T, fr, ex, e, _⟩
   · exact List.eq_nil_of_length_eq_zero h0
   · cases e
 refine sr_ ?_
 refine a_ rfl rfl ?_
 refine nt_ ?_
 refine WC.seq ?_
 refine sr_ ?_
 refine m_ rfl rfl ?_
 refine WL.y rfl (Yd.eqlNilS Tryz.underlying56 rfl rfl) ?_
 refine nt_ ?_
 refine WC.cond rfl (fun h4 => ?_) (fun h4 => ?_)
 ·refine sr_ ?_
  refine a_ rfl rfl ?_
  refine nt_ ?_
  refine WC.ret ?_
  refine DN.then_ret ?_
  refine DN.ret1 Tryz.results54 rfl ?_
  have e0 : rs = [] := hnil (by simpa using h4)
  subst e0
  exact ⟨[], Own.nil _ _, rfl⟩
 ·refine WC.skip ?_
  refine ts_ ?_
  refine WC.region ?_
  refine WL.h rfl (Hd.buildSlice (e := 111) (sz := 3) (zs := [.int .u32 0, .int .i64 0, .bool false]) (parts := []) (vs := []) (cells := []) kr_ kr_ kr_ rfl kr_ kr_ fun rb => ⟨_, rfl, ?_⟩)
  refine m_ rfl rfl ?_
  refine WL.h rfl (Hd.append (e := 111) (sz := 3) (bytes := 24) (zs := [.int .u32 0, .int .i64 0, .bool false]) (n := 0) (xs := []) (C := [row rb [] 111]) (D := H) (m := rs.length) (news := rs.flatMap efc) kr_ kr_ rfl (by omega) rfl rfl (.inr ⟨rb, 0, [], rfl, Nat.le_refl _, by simp only [maxLen]; omega, rfl, rfl, rfl⟩) (hv.mono fun y hy => by simp [hy]) (by rw [efs_len]; omega) (efs_one _) (by simp only [maxLen]; omega) (by omega) (List.Perm.refl _) fun v2 C2 h2 _ => ⟨_, rfl, ?_⟩)
  refine a_ rfl rfl ?_
  refine nt_ ?_
  refine WC.ret ?_
  refine DN.ret1 Tryz.results54 rfl ?_
  exact ⟨C2, by simpa using h2, rfl⟩
theorem ceffs_tells (p : Nat) (s : Cw) (C : List Ck) (h : CwAt 189 198 203 3 5 118 111 22 116 p s C) (hl : s.ef.length ≤ 1000000) : Tells Tryz.prog 21 [.pointer (some ⟨p, 0, none⟩)] C fun r C' => ∃ D, Own r s.ef.length (s.ef.flatMap efc) 111 3 D ∧ C' = D ++ C := by
 refine Tells.enter Tryz.func21 rfl Tryz.ntmps21 rfl ?_
 intro w0 R
 obtain ⟨pd, ps, pp, vL, vE, vN, CS, CP, CD, CF, CE, cn, CN, DO, rfl, hS, hP, hD, hF, hE, hN, hO⟩ := h
 obtain ⟨lo, lc, rfl⟩ := hF.form
 obtain ⟨eo, ec, rfl, hec⟩ := hE.form
 obtain ⟨no, nc, rfl, hnc⟩ := hN.form
 refine sr_ ?_
 refine a_ rfl rfl ?_
 refine nt_ ?_
 refine WC.seq ?_
 refine sr_ ?_
 refine m_ rfl rfl ?_
 refine WL.y rfl (Yd.eqlNil Tryz.underlying40 rfl rfl) ?_
 refine WL.renamed (t := 4) (v := .bool false) rfl (congrArg Value.bool (rfl)) ?_
 refine nt_ ?_
 refine WC.no rfl ?_
 refine WC.skip ?_
 refine ts_ ?_
 refine WC.region ?_
 refine m_ rfl rfl ?_
 refine n_ rfl rfl ?_
 refine f_ 5 kr_ rfl rfl ?_
 refine d_ kr_ rfl mem_ (by rfl) rfl ?_
 refine WL.c rfl (Ent.func Tryz.call54 rfl) (clonee_tells _ s.ef CE hE.rs hl) (Sp.p sp_) ?_
 rintro x H9 ⟨D, ho, rfl⟩
 refine a_ rfl rfl ?_
 refine nt_ ?_
 refine WC.ret ?_
 refine DN.fit (C := D ++ (row p [.pointer (some ⟨pd, 0, none⟩), .pointer (some ⟨ps, 0, none⟩), .pointer (some ⟨pp, 0, none⟩), .int .u32 s.e.toNat, .slice lo s.ks.length lc, .slice eo s.ef.length ec, .slice no s.no.length nc] 116 :: (CS ++ (CP ++ (CD ++ (CF ++ (CE ++ (CN ++ DO)))))))) sp_ ?_
 refine DN.ret1 Tryz.results21 rfl ?_
 exact ⟨D, ho, rfl⟩
end Go.Proofs.YtkamlondepceiaaGreat

set_option linter.unusedVariables false
set_option linter.unusedSimpArgs false
set_option maxHeartbeats 4000000
namespace Go.Proofs.YtkamlondepceiaaGreat
open Go.SL
def smG : List Gd := [⟨⟨#[97]⟩, 9, 0⟩, ⟨⟨#[98]⟩, 4, 0⟩]
def smU : List Au := [⟨⟨#[97, 110, 110]⟩, 20, 0⟩, ⟨⟨#[98, 111, 98]⟩, 6, 0⟩]
theorem sm_good : GoodL smG := ⟨by decide, by decide, fun g hg => by
  simp only [smG, List.mem_cons, List.not_mem_nil, or_false] at hg
  rcases hg with rfl | rfl <;> (unfold goodB; decide)⟩
theorem sm_acc : AccL smU := ⟨by decide, by decide, fun g hg => by
  simp only [smU, List.mem_cons, List.not_mem_nil, or_false] at hg
  rcases hg with rfl | rfl <;> (unfold accB; decide)⟩
theorem sm_room : ([3, 5] : List Int).findIdx? Do.badRoom = none := by decide
theorem sm_inv : CInv smG smU [3, 5] (Cw.new smG smU [3, 5]) :=
  new_inv (SInv.start (by decide) (by decide) fun g hg => ⟨sm_good.2.2 g hg, (by decide : ∀ g ∈ smG, g.gone = 0) g hg⟩) (PInv.start sm_acc) (DInv.start (roomsOk_of (by decide)) (by decide))
theorem small_tells (H : List Ck) : Tells Tryz.prog 18 [] H fun r H' => ∃ p C, r = .pointer (some ⟨p, 0, none⟩) ∧ CwAt 189 198 203 3 5 118 111 22 116 p (Cw.new smG smU [3, 5]) C ∧ H' = C ++ H := by
 refine Tells.enter Tryz.func18 rfl Tryz.ntmps18 rfl ?_
 intro w0 R
 refine sr_ ?_
 refine a_ rfl rfl ?_
 refine ntsr_ ?_
 refine WL.y rfl (Yd.buildL (pl := [(0, 1), (1, 1)]) (zs := [.string ⟨#[]⟩, .int .i64 0]) (parts := [(0, .const (.string ⟨#[97]⟩)), (1, .const (.int .i64 9))]) (vs := [(0, _), (1, _)]) (cells := [_, _]) kr_ kr_ rfl rfl) ?_
 refine WL.y rfl (Yd.buildL (pl := [(0, 1), (1, 1)]) (zs := [.string ⟨#[]⟩, .int .i64 0]) (parts := [(0, .const (.string ⟨#[98]⟩)), (1, .const (.int .i64 4))]) (vs := [(0, _), (1, _)]) (cells := [_, _]) kr_ kr_ rfl rfl) ?_
 refine WL.h rfl (Hd.buildSlice (e := 73) (sz := 2) (zs := [.string ⟨#[]⟩, .int .i64 0]) (parts := [(0, .tmp 4), (1, .tmp 5)]) (vs := [(0, .agg (cellsG ⟨⟨#[97]⟩, 9, 0⟩).toArray), (1, .agg (cellsG ⟨⟨#[98]⟩, 4, 0⟩).toArray)]) (cells := smG.flatMap cellsG) kr_ kr_ kr_ rfl kr_ kr_ fun b6 => ⟨_, rfl, ?_⟩)
 refine WL.y rfl (Yd.buildL (pl := [(0, 1), (1, 1), (2, 1)]) (zs := [.string ⟨#[]⟩, .int .i64 0, .int .i64 0]) (parts := [(0, .const (.string ⟨#[97, 110, 110]⟩)), (1, .const (.int .i64 20))]) (vs := [(0, _), (1, _)]) (cells := [_, _, .int .i64 0]) kr_ kr_ rfl rfl) ?_
 refine WL.y rfl (Yd.buildL (pl := [(0, 1), (1, 1), (2, 1)]) (zs := [.string ⟨#[]⟩, .int .i64 0, .int .i64 0]) (parts := [(0, .const (.string ⟨#[98, 111, 98]⟩)), (1, .const (.int .i64 6))]) (vs := [(0, _), (1, _)]) (cells := [_, _, .int .i64 0]) kr_ kr_ rfl rfl) ?_
 refine WL.h rfl (Hd.buildSlice (e := 71) (sz := 3) (zs := [.string ⟨#[]⟩, .int .i64 0, .int .i64 0]) (parts := [(0, .tmp 7), (1, .tmp 8)]) (vs := [(0, .agg (cellsU ⟨⟨#[97, 110, 110]⟩, 20, 0⟩).toArray), (1, .agg (cellsU ⟨⟨#[98, 111, 98]⟩, 6, 0⟩).toArray)]) (cells := smU.flatMap cellsU) kr_ kr_ kr_ rfl kr_ kr_ fun b9 => ⟨_, rfl, ?_⟩)
 refine WL.h rfl (Hd.buildSlice (e := 3) (sz := 1) (zs := [.int .i64 0]) (parts := [(0, .const (.int .i64 3)), (1, .const (.int .i64 5))]) (vs := [(0, .int .i64 3), (1, .int .i64 5)]) (cells := ic [3, 5]) kr_ kr_ kr_ rfl kr_ kr_ fun b10 => ⟨_, rfl, ?_⟩)
 refine WL.c rfl (Ent.func Tryz.call31 rfl) (cnew_tells _ _ _ smG smU [3, 5] (by decide) (row b10 (ic [3, 5]) 3 :: (row b9 (smU.flatMap cellsU) 71 :: (row b6 (smG.flatMap cellsG) 73 :: H))) (.inr ⟨b6, 0, 2, smG.flatMap cellsG, 73, (0, 0), true, rfl, Nat.le_refl _, List.mem_cons_of_mem _ (List.mem_cons_of_mem _ List.mem_cons_self), rfl⟩) (.inr ⟨b9, 0, 2, smU.flatMap cellsU, 71, (0, 0), true, rfl, Nat.le_refl _, List.mem_cons_of_mem _ List.mem_cons_self, rfl⟩) (.inr ⟨b10, 0, 2, ic [3, 5], 3, (0, 0), true, rfl, Nat.le_refl _, List.mem_cons_self, rfl⟩) (by decide) (by decide) (by decide)) (Sp.p sp_) ?_
 intro x H9 h9
 obtain ⟨p, C, rfl, hAt, rfl⟩ := (h9.resolve_right fun q => q.1 ⟨sm_good, sm_acc, by rw [sm_room]; rfl, by decide⟩).2
 refine m_ rfl rfl ?_
 refine x_ rfl rfl rfl ?_
 refine x_ rfl rfl rfl ?_
 refine a_ rfl rfl ?_
 refine a_ rfl rfl ?_
 refine nt_ ?_
 refine WC.seq ?_
 refine sr_ ?_
 refine m_ rfl rfl ?_
 refine WL.y rfl (Yd.neq rfl rfl) ?_
 refine WL.renamed (t := 15) (v := .bool false) rfl (congrArg Value.bool (by decide)) ?_
 refine nt_ ?_
 refine WC.no rfl ?_
 refine WC.skip ?_
 refine ts_ ?_
 refine WC.region ?_
 refine m_ rfl rfl ?_
 refine a_ rfl rfl ?_
 refine nt_ ?_
 refine WC.ret ?_
 refine DN.fit (C := C ++ H) sp_ ?_
 refine DN.ret1 Tryz.results18 rfl ?_
 exact ⟨p, C, rfl, hAt, rfl⟩
end Go.Proofs.YtkamlondepceiaaGreat

set_option linter.unusedVariables false
set_option linter.unusedSimpArgs false
namespace Go.Proofs.YtkamlondepceiaaGreat
open Go.SL
abbrev B8 := BitVec 8
theorem copy_spec (v : Value) (bs : List B8) (H : List Ck) (hv : Bs v bs H) (hl : bs.length ≤ 1000000) : Tells Tryz.prog 40 [v] H fun r H' => ∃ C, Ob 5 r bs C ∧ H' = C ++ H := by
 refine Tells.enter Tryz.func40 rfl Tryz.ntmps40 rfl ?_
 intro w0 R
 refine sr_ ?_
 refine a_ rfl rfl ?_
 refine ntsr_ ?_
 refine a_ rfl rfl ?_
 refine ntsr_ ?_
 refine m_ rfl rfl ?_
 refine m_ rfl rfl ?_
 refine WL.h rfl (Hd.appendB (e := 5) (zs := [.int .u8 0]) (C := []) (D := H) kr_ kr_ rfl rfl rfl (Ob.nil _) hv (by simp; omega) (List.Perm.refl _) fun r C hC _ => ⟨_, rfl, ?_⟩)
 refine a_ rfl rfl ?_
 refine nt_ ?_
 refine WC.ret ?_
 refine DN.ret1 Tryz.results40 rfl ?_
 exact ⟨C, by simpa using hC, rfl⟩
end Go.Proofs.YtkamlondepceiaaGreat

set_option linter.unusedVariables false
set_option linter.unusedSimpArgs false
set_option maxHeartbeats 4000000
namespace Go.Proofs.YtkamlondepceiaaGreat
open Go.SL
theorem rnum_tells (n : BitVec 64) (size : Nat) (hs : size ≤ 8) (H : List Ck) : Tells Tryz.prog 116 [.int .u64 n.toNat, .int .i64 size] H fun r H' => ∃ C, Ob 5 r (beW n size) C ∧ H' = C ++ H := by
 refine Tells.enter Tryz.func116 rfl Tryz.ntmps116 rfl ?_
 intro w0 R
 refine sr_ ?_
 refine a_ rfl rfl ?_
 refine ntsr_ ?_
 refine a_ rfl rfl ?_
 refine nt_ ?_
 refine WC.seq ?_
 refine sr_ ?_
 refine a_ rfl rfl ?_
 refine nt_ ?_
 refine WC.block ?_
 refine WC.loopS (fun z : Nat × Value × List Ck => z.1 ≤ size ∧ Ob 5 z.2.1 (loW n z.1) z.2.2) (fun z : Nat × Value × List Ck => [(0, .int .u64 (n >>> (8 * z.1)).toNat), (5, z.2.1), (6, .int .i64 (z.1 : Int))]) (fun z : Nat × Value × List Ck => z.2.2 ++ H) (fun z : Nat × Value × List Ck => size - z.1) (⟨0, .slice none 0 0, []⟩) (show 0 ≤ size ∧ Ob 5 (.slice none 0 0) (loW n 0) [] from ⟨Nat.zero_le _, Ob.nil _⟩) (Sx.put rfl (Sx.put rfl (Sx.put rfl (sx_)))) sp_ ?_
 rintro ⟨i, u, C⟩ hI
 replace hI : i ≤ size ∧ Ob 5 u (loW n i) C := hI
 obtain ⟨hi, hu⟩ := hI
 change WC _ _ _ _ _ _ ([(0, .int .u64 (n >>> (8 * i)).toNat), (5, u), (6, .int .i64 (i : Int))] ++ _) (C ++ H)
 obtain ⟨uo, uc, rfl, huc⟩ := hu.form
 rw [loW_len] at huc
 refine WC.seq ?_
 refine sr_ ?_
 refine m_ rfl rfl ?_
 refine m_ rfl rfl ?_
 refine WL.y rfl (Yd.lss rfl rfl) ?_
 refine nt_ ?_
 refine WC.ite rfl (fun h11 => ?_) (fun h11 => ?_)
 ·have hlt : i < size := by omega
  refine WC.skip ?_
  refine ts_ ?_
  refine WC.block ?_
  refine sr_ ?_
  refine m_ rfl rfl ?_
  refine m_ rfl rfl ?_
  refine WL.y rfl (Yd.rem64 _ (256#64) rfl rfl rfl rfl (by decide)) ?_
  refine WL.y rfl (Yd.conv64_8 _ kr_ kr_ rfl rfl) ?_
  refine WL.renamed (t := 17) (v := .int .u8 ((n >>> (8 * i)).setWidth 8).toNat) rfl (congrArg (fun q : BitVec 8 => Value.int .u8 q.toNat) (low_rem _)) ?_
  refine WL.h rfl (Hd.build1 (e := 5) (z := .int .u8 0) kr_ kr_ kr_ rfl rfl fun b18 => ⟨_, rfl, ?_⟩)
  refine WL.h rfl (Hd.appendBs (e := 5) (zs := [.int .u8 0]) kr_ kr_ rfl rfl rfl hu sp_ (Bs.block (bs := [(n >>> (8 * i)).setWidth 8]) rfl (by simp) mem_) (by rw [loW_len]; simp only [List.length_cons, List.length_nil]; omega) fun v1 C1 ho1 => ⟨_, rfl, ?_⟩)
  refine a_ rfl rfl ?_
  refine ntr_ ?_
  refine m_ rfl rfl ?_
  refine WL.y rfl (Yd.quo64 _ (256#64) rfl rfl rfl rfl (by decide)) ?_
  refine WL.renamed (t := 21) (v := .int .u64 (n >>> (8 * (i + 1))).toNat) rfl (congrArg (fun q : BitVec 64 => Value.int .u64 q.toNat) (low_quo n i)) ?_
  refine a_ rfl rfl ?_
  refine WL.nil ?_
  refine DN.block_normal ?_
  refine DN.then_normal ?_
  refine WC.region ?_
  refine m_ rfl rfl ?_
  refine WL.y rfl (Yd.add rfl rfl (by omega) (by omega)) ?_
  refine a_ rfl rfl ?_
  refine WL.nil ?_
  exact DN.againS (⟨i + 1, v1, C1⟩) (show (i + 1) ≤ size ∧ Ob 5 v1 (loW n (i + 1)) C1 from ⟨by omega, by rw [loW_next]; exact ho1⟩) (show size - (i + 1) < size - i by omega) (Sx.put rfl (Sx.put rfl (Sx.put rfl (sx_)))) sp_
 ·obtain rfl : size = i := by omega
  refine WC.exit ?_
  refine DN.then_exit ?_
  refine DN.then_exit ?_
  refine DN.block_exit ?_
  refine ts_ ?_
  refine WC.region ?_
  refine a_ rfl rfl ?_
  refine nt_ ?_
  refine WC.seq ?_
  refine sr_ ?_
  refine m_ rfl rfl ?_
  refine WL.y rfl (Yd.sub rfl rfl (by omega) (by omega)) ?_
  refine WL.renamed (t := 23) (v := .int .i64 ((size : Int) - 1 - ((0 : Nat) : Int))) rfl (congrArg (Value.int .i64) (by omega)) ?_
  refine a_ rfl rfl ?_
  refine nt_ ?_
  refine WC.block ?_
  refine WC.loopS (fun z : Nat × Value × List Ck => z.1 ≤ size ∧ Ob 5 z.2.1 ((beW n size).take z.1) z.2.2) (fun z : Nat × Value × List Ck => [(7, z.2.1), (8, .int .i64 ((size : Int) - 1 - z.1))]) (fun z : Nat × Value × List Ck => z.2.2 ++ (C ++ H)) (fun z : Nat × Value × List Ck => size - z.1) (⟨0, .slice none 0 0, []⟩) (show 0 ≤ size ∧ Ob 5 (.slice none 0 0) ((beW n size).take 0) [] from ⟨Nat.zero_le _, Ob.nil _⟩) (Sx.put rfl (Sx.put rfl (sx_))) sp_ ?_
  rintro ⟨j, w, D⟩ hI
  replace hI : j ≤ size ∧ Ob 5 w ((beW n size).take j) D := hI
  obtain ⟨hj, hw⟩ := hI
  change WC _ _ _ _ _ _ ([(7, w), (8, .int .i64 ((size : Int) - 1 - j))] ++ _) (D ++ (C ++ H))
  refine WC.seq ?_
  refine sr_ ?_
  refine m_ rfl rfl ?_
  refine WL.y rfl (Yd.geq rfl rfl) ?_
  refine nt_ ?_
  refine WC.ite rfl (fun h25 => ?_) (fun h25 => ?_)
  ·have hlt2 : j < size := by omega
   have hll : ((beW n size).take j).length ≤ 8 := by rw [List.length_take]; omega
   refine WC.skip ?_
   refine ts_ ?_
   refine WC.block ?_
   refine WC.region ?_
   iterate 3 refine m_ rfl rfl ?_
   refine WL.elem (e := 5) kr_ kr_ kr_ rfl rfl (by omega) (hu.bs.mono gr_) (bc_at (loW_get (n := n) (show size - 1 - j < size by omega))) (by rw [loW_len]; omega) rfl rfl ?_
   intro _
   refine WL.h rfl (Hd.build1 (e := 5) (z := .int .u8 0) kr_ kr_ kr_ rfl rfl fun b33 => ⟨_, rfl, ?_⟩)
   refine WL.h rfl (Hd.appendBs (e := 5) (zs := [.int .u8 0]) kr_ kr_ rfl rfl rfl hw sp_ (Bs.block (bs := [(n >>> (8 * (size - 1 - j))).setWidth 8]) rfl (by simp) mem_) (by simp only [List.length_cons, List.length_nil]; omega) fun v2 C2 ho2 => ⟨_, rfl, ?_⟩)
   refine a_ rfl rfl ?_
   refine WL.nil ?_
   refine DN.block_normal ?_
   refine DN.then_normal ?_
   refine WC.region ?_
   refine m_ rfl rfl ?_
   refine WL.y rfl (Yd.sub rfl rfl (by omega) (by omega)) ?_
   refine a_ rfl rfl ?_
   refine WL.nil ?_
   rw [show (size : Int) - 1 - (j : Int) - 1 = (size : Int) - 1 - ((j + 1 : Nat) : Int) by omega]
   exact DN.againS (j + 1, v2, C2) ⟨by show j + 1 ≤ size; omega, by rw [beW_next n size j hlt2]; exact ho2⟩ (by show size - (j + 1) < size - j; omega) ((Sx.put rfl (Sx.put rfl (sx_)))) sp_
  ·obtain rfl : size = j := by omega
   rw [List.take_of_length_le (by rw [beW_length]; omega)] at hw
   refine WC.exit ?_
   refine DN.then_exit ?_
   refine DN.then_exit ?_
   refine DN.block_exit ?_
   refine ts_ ?_
   refine WC.region ?_
   refine m_ rfl rfl ?_
   refine a_ rfl rfl ?_
   refine nt_ ?_
   refine WC.ret ?_
   refine DN.fit (C := D ++ H) sp_ ?_
   refine DN.ret1 Tryz.results116 rfl ?_
   exact ⟨D, hw, rfl⟩
theorem rof_reads (v : Value) (b : List (BitVec 8)) (H : List Ck) (hv : Bs v b H) (hl : b.length ≤ 1000000) : Reads Tryz.prog 81 [v] H (.int .u64 (beN b).toNat) := by
 refine Tells.enter Tryz.func81 rfl Tryz.ntmps81 rfl ?_
 intro w0 R
 obtain ⟨vo, vc, rfl, hvc⟩ := hv.form
 refine sr_ ?_
 refine WL.y rfl (Yd.assign (v := .int .u64 ((0#64).toNat : Int)) rfl) ?_
 refine ntsr_ ?_
 refine WL.y rfl (Yd.assign (v := .int .u64 ((0#64).toNat : Int)) rfl) ?_
 refine nt_ ?_
 refine WC.seq ?_
 refine sr_ ?_
 refine a_ rfl rfl ?_
 refine nt_ ?_
 refine WC.block ?_
 refine WC.loopS (fun z : Nat => z ≤ b.length) (fun z : Nat => [(3, .int .u64 (beN (b.take z)).toNat), (4, .int .i64 (z : Int))]) (fun z : Nat => H) (fun z : Nat => b.length - z) (0) (show 0 ≤ b.length from Nat.zero_le _) (Sx.put rfl (Sx.put rfl (sx_))) sp_ ?_
 rintro i hI
 replace hI : i ≤ b.length := hI
 obtain hi := hI
 change WC _ _ _ _ _ _ ([(3, .int .u64 (beN (b.take i)).toNat), (4, .int .i64 (i : Int))] ++ _) (H)
 refine WC.seq ?_
 refine sr_ ?_
 refine m_ rfl rfl ?_
 refine m_ rfl rfl ?_
 refine WL.y rfl (Yd.len (e := 5) kr_ rfl) ?_
 refine WL.y rfl (Yd.lss rfl rfl) ?_
 refine nt_ ?_
 refine WC.ite rfl (fun h8 => ?_) (fun h8 => ?_)
 ·have hlt : i < b.length := by omega
  refine WC.skip ?_
  refine ts_ ?_
  refine WC.block ?_
  refine WC.region ?_
  refine m_ rfl rfl ?_
  refine WL.y rfl (Yd.mul64 _ (256#64) rfl rfl rfl rfl) ?_
  refine m_ rfl rfl ?_
  refine m_ rfl rfl ?_
  refine WL.elem (e := 5) kr_ kr_ kr_ rfl rfl (rfl) (hv) (bc_get hlt) (hlt) rfl rfl ?_
  intro _
  refine WL.y rfl (Yd.conv8_64 _ kr_ kr_ rfl rfl) ?_
  refine WL.y rfl (Yd.add64 _ _ rfl rfl rfl rfl) ?_
  refine a_ rfl rfl ?_
  refine WL.nil ?_
  refine DN.block_normal ?_
  refine DN.then_normal ?_
  refine WC.region ?_
  refine m_ rfl rfl ?_
  refine WL.y rfl (Yd.add rfl rfl (by omega) (by omega)) ?_
  refine a_ rfl rfl ?_
  refine WL.nil ?_
  rw [of_step, ← beN_next b i hlt]
  exact DN.againS (i + 1) (by show i + 1 ≤ b.length; omega) (by show b.length - (i + 1) < b.length - i; omega) ((Sx.put rfl (Sx.put rfl (sx_)))) sp_
 ·have hie : i = b.length := by omega
  subst hie
  rw [List.take_length]
  refine WC.exit ?_
  refine DN.then_exit ?_
  refine DN.then_exit ?_
  refine DN.block_exit ?_
  refine ts_ ?_
  refine WC.region ?_
  refine m_ rfl rfl ?_
  refine a_ rfl rfl ?_
  refine nt_ ?_
  refine WC.ret ?_
  refine DN.ret1 Tryz.results81 rfl ?_
  exact ⟨rfl, rfl⟩
theorem rone_tells (f : Fld) (vt : Value) (H : List Ck) (hvt : Bs vt f.text H) (hl : f.text.length ≤ 1000000) (hs : f.size ≤ 8) : Tells Tryz.prog 77 [.agg (fdc f vt).toArray] H fun r H' => ∃ w A, r = .tuple #[w, .int .i64 (oneF f).2] ∧ Ob 5 w (oneF f).1 A ∧ H' = A ++ H := by
 refine Tells.enter Tryz.func77 rfl Tryz.ntmps77 rfl ?_
 intro w0 R
 obtain ⟨to_, tc, rfl, htc⟩ := hvt.form
 refine sr_ ?_
 refine WL.h rfl (Hd.boxA rfl fun b1 => ⟨_, rfl, ?_⟩)
 refine a_ rfl rfl ?_
 refine a_ rfl rfl ?_
 refine nt_ ?_
 refine WC.seq ?_
 refine sr_ ?_
 refine f_ 0 kr_ rfl rfl ?_
 refine d_ kr_ rfl mem_ (by rfl) rfl ?_
 refine nt_ ?_
 refine WC.block ?_
 refine sr_ ?_
 refine WL.y rfl (Yd.eql rfl rfl) ?_
 refine a_ rfl rfl ?_
 refine nt_ ?_
 refine WC.ite rfl (fun h7 => ?_) (fun h7 => ?_)
 ·have hs0 : f.size = 0 := by omega
  refine WC.seq ?_
  refine sr_ ?_
  refine f_ 1 kr_ rfl rfl ?_
  refine d_ kr_ rfl mem_ (by rfl) rfl ?_
  refine WL.y rfl (Yd.neq64 _ (0#64) rfl rfl rfl rfl) ?_
  refine nt_ ?_
  refine WC.ite rfl (fun h11 => ?_) (fun h11 => ?_)
  ·refine sr_ ?_
   refine a_ rfl rfl ?_
   refine a_ rfl rfl ?_
   refine nt_ ?_
   refine WC.ret ?_
   refine DN.then_ret ?_
   refine DN.block_ret ?_
   refine DN.then_ret ?_
   first | refine DN.fit (C := C1 ++ H) sp_ ?_ | refine DN.fit (C := H) sp_ ?_
   refine DN.ret2 Tryz.results77 rfl rfl ?_
   first
   | (rw [oneF_0a hs0 h11]; exact ⟨_, [], rfl, Ob.nil _, rfl⟩)
   | (rw [oneF_0b hs0 h11 (by omega)]; exact ⟨_, [], rfl, Ob.nil _, rfl⟩)
   | (rw [oneF_0c hs0 h11 (by omega)]; exact ⟨_, C1, rfl, ho1, rfl⟩)
   | (rw [oneF_1b hs0 (of_decide_eq_true (hz25.symm.trans h25)) (one_ok hg33 h42)]; exact ⟨_, C1, rfl, hC1, rfl⟩)
   | (rw [oneF_1a hs0 (of_decide_eq_true (hz25.symm.trans h25)) (.inl (by omega))]; exact ⟨_, [], rfl, Ob.nil _, rfl⟩)
   | (rw [oneF_1a hs0 (of_decide_eq_true (hz25.symm.trans h25)) (.inr (Int.ofNat_le.1 h42))]; exact ⟨_, [], rfl, Ob.nil _, rfl⟩)
   | (rw [oneF_8a hs0 (of_decide_eq_false (hz25.symm.trans h25)) hs8 (by omega)]; exact ⟨_, [], rfl, Ob.nil _, rfl⟩)
   | (rw [oneF_8b hs0 (of_decide_eq_false (hz25.symm.trans h25)) hs8 (by omega)]; exact ⟨_, C1, rfl, hC1, rfl⟩)
   | (rw [oneF_no hs0 (of_decide_eq_false (hz25.symm.trans h25)) hs8]; exact ⟨_, [], rfl, Ob.nil _, rfl⟩)
  ·refine WC.skip ?_
   refine ts_ ?_
   refine sr_ ?_
   refine f_ 2 kr_ rfl rfl ?_
   refine d_ kr_ rfl mem_ (by rfl) rfl ?_
   refine WL.y rfl (Yd.len (e := 5) kr_ rfl) ?_
   refine WL.y rfl (Yd.gtr rfl rfl) ?_
   refine nt_ ?_
   refine WC.ite rfl (fun h15 => ?_) (fun h15 => ?_)
   ·refine sr_ ?_
    refine a_ rfl rfl ?_
    refine a_ rfl rfl ?_
    refine nt_ ?_
    refine WC.ret ?_
    refine DN.then_ret ?_
    refine DN.block_ret ?_
    refine DN.then_ret ?_
    first | refine DN.fit (C := C1 ++ H) sp_ ?_ | refine DN.fit (C := H) sp_ ?_
    refine DN.ret2 Tryz.results77 rfl rfl ?_
    first
    | (rw [oneF_0a hs0 h11]; exact ⟨_, [], rfl, Ob.nil _, rfl⟩)
    | (rw [oneF_0b hs0 h11 (by omega)]; exact ⟨_, [], rfl, Ob.nil _, rfl⟩)
    | (rw [oneF_0c hs0 h11 (by omega)]; exact ⟨_, C1, rfl, ho1, rfl⟩)
    | (rw [oneF_1b hs0 (of_decide_eq_true (hz25.symm.trans h25)) (one_ok hg33 h42)]; exact ⟨_, C1, rfl, hC1, rfl⟩)
    | (rw [oneF_1a hs0 (of_decide_eq_true (hz25.symm.trans h25)) (.inl (by omega))]; exact ⟨_, [], rfl, Ob.nil _, rfl⟩)
    | (rw [oneF_1a hs0 (of_decide_eq_true (hz25.symm.trans h25)) (.inr (Int.ofNat_le.1 h42))]; exact ⟨_, [], rfl, Ob.nil _, rfl⟩)
    | (rw [oneF_8a hs0 (of_decide_eq_false (hz25.symm.trans h25)) hs8 (by omega)]; exact ⟨_, [], rfl, Ob.nil _, rfl⟩)
    | (rw [oneF_8b hs0 (of_decide_eq_false (hz25.symm.trans h25)) hs8 (by omega)]; exact ⟨_, C1, rfl, hC1, rfl⟩)
    | (rw [oneF_no hs0 (of_decide_eq_false (hz25.symm.trans h25)) hs8]; exact ⟨_, [], rfl, Ob.nil _, rfl⟩)
   ·refine WC.skip ?_
    refine ts_ ?_
    refine WC.region ?_
    refine f_ 2 kr_ rfl rfl ?_
    refine d_ kr_ rfl mem_ (by rfl) rfl ?_
    refine WL.y rfl (Yd.len (e := 5) kr_ rfl) ?_
    refine WL.y rfl (Yd.to8 _ kr_ kr_ rfl rfl) ?_
    refine WL.h rfl (Hd.build1 (e := 5) (z := .int .u8 0) kr_ kr_ kr_ rfl rfl fun b20 => ⟨_, rfl, ?_⟩)
    refine a_ rfl rfl ?_
    refine ntsr_ ?_
    refine m_ rfl rfl ?_
    refine f_ 2 kr_ rfl rfl ?_
    refine d_ kr_ rfl mem_ (by rfl) rfl ?_
    refine WL.h rfl (Hd.appendBs (e := 5) (zs := [.int .u8 0]) kr_ kr_ rfl rfl rfl (Ob.block (T := 5) b20 [BitVec.ofInt 8 (f.text.length : Int)] (by simp only [maxLen, List.length_cons, List.length_nil]; omega)) sp_ (hvt.mono gr_) (by simp only [List.length_cons, List.length_nil]; omega) fun v1 C1 ho1 => ⟨_, rfl, ?_⟩)
    refine a_ rfl rfl ?_
    refine a_ rfl rfl ?_
    refine nt_ ?_
    refine WC.ret ?_
    refine DN.block_ret ?_
    refine DN.then_ret ?_
    first | refine DN.fit (C := C1 ++ H) sp_ ?_ | refine DN.fit (C := H) sp_ ?_
    refine DN.ret2 Tryz.results77 rfl rfl ?_
    first
    | (rw [oneF_0a hs0 h11]; exact ⟨_, [], rfl, Ob.nil _, rfl⟩)
    | (rw [oneF_0b hs0 h11 (by omega)]; exact ⟨_, [], rfl, Ob.nil _, rfl⟩)
    | (rw [oneF_0c hs0 h11 (by omega)]; exact ⟨_, C1, rfl, ho1, rfl⟩)
    | (rw [oneF_1b hs0 (of_decide_eq_true (hz25.symm.trans h25)) (one_ok hg33 h42)]; exact ⟨_, C1, rfl, hC1, rfl⟩)
    | (rw [oneF_1a hs0 (of_decide_eq_true (hz25.symm.trans h25)) (.inl (by omega))]; exact ⟨_, [], rfl, Ob.nil _, rfl⟩)
    | (rw [oneF_1a hs0 (of_decide_eq_true (hz25.symm.trans h25)) (.inr (Int.ofNat_le.1 h42))]; exact ⟨_, [], rfl, Ob.nil _, rfl⟩)
    | (rw [oneF_8a hs0 (of_decide_eq_false (hz25.symm.trans h25)) hs8 (by omega)]; exact ⟨_, [], rfl, Ob.nil _, rfl⟩)
    | (rw [oneF_8b hs0 (of_decide_eq_false (hz25.symm.trans h25)) hs8 (by omega)]; exact ⟨_, C1, rfl, hC1, rfl⟩)
    | (rw [oneF_no hs0 (of_decide_eq_false (hz25.symm.trans h25)) hs8]; exact ⟨_, [], rfl, Ob.nil _, rfl⟩)
 ·have hs0 : ¬ f.size = 0 := by omega
  refine WC.cutK (fun z : Bool => z = decide (f.size = 1 ∨ f.size = 2 ∨ f.size = 4)) (fun z : Bool => [(25, .bool z)]) (fun z : Bool => row b1 (fdc f (.slice to_ f.text.length tc)) 98 :: H) ?_ ?_
  ·refine sr_ ?_
   refine WL.y rfl (Yd.eql rfl rfl) ?_
   refine a_ rfl rfl ?_
   refine nt_ ?_
   first | refine WC.ite rfl (fun h25 => ?_) (fun h25 => ?_) | refine WC.cond rfl (fun h25 => ?_) (fun h25 => ?_)
   ·refine WC.skip ?_
    exact DN.reachK (_) (by rw [Bool.eq_iff_iff]; simp only [decide_eq_true_eq, eq_self, true_iff, Bool.false_eq_true, false_iff]; omega) (Sx.put rfl (sx_)) (Sp.all sp_)
   ·refine sr_ ?_
    skip
    refine WL.y rfl (Yd.eql rfl rfl) ?_
    refine a_ rfl rfl ?_
    refine nt_ ?_
    first | refine WC.ite rfl (fun h25 => ?_) (fun h25 => ?_) | refine WC.cond rfl (fun h25 => ?_) (fun h25 => ?_)
    ·refine WC.skip ?_
     exact DN.reachK (_) (by rw [Bool.eq_iff_iff]; simp only [decide_eq_true_eq, eq_self, true_iff, Bool.false_eq_true, false_iff]; omega) (Sx.put rfl (sx_)) (Sp.all sp_)
    ·refine WC.region ?_
     refine WL.y rfl (Yd.eql rfl rfl) ?_
     refine a_ rfl rfl ?_
     refine WL.nil ?_
     exact DN.reachK (_) (by rw [Bool.eq_iff_iff]; simp only [decide_eq_true_eq, eq_self, true_iff, Bool.false_eq_true, false_iff]; omega) (Sx.put rfl (sx_)) (Sp.all sp_)
  ·intro z25 hz25
   first | refine WC.ite rfl (fun h25 => ?_) (fun h25 => ?_) | refine WC.cond rfl (fun h25 => ?_) (fun h25 => ?_)
   ·refine WC.seq ?_
    refine sr_ ?_
    refine f_ 2 kr_ rfl rfl ?_
    refine d_ kr_ rfl mem_ (by rfl) rfl ?_
    refine WL.y rfl (Yd.len (e := 5) kr_ rfl) ?_
    refine WL.y rfl (Yd.neq rfl rfl) ?_
    refine m_ rfl rfl ?_
    refine WL.partP (t := 33) rfl (fun hg33 => ?_) (fun hg33 => ?_)
    ·iterate 8 refine gn_ 33 rfl rfl rfl rfl ?_
     refine WL.y rfl (Yd.pickT rfl rfl) ?_
     refine nt_ ?_
     refine WC.yes rfl ?_
     refine sr_ ?_
     refine a_ rfl rfl ?_
     refine a_ rfl rfl ?_
     refine nt_ ?_
     refine WC.ret ?_
     refine DN.then_ret ?_
     refine DN.block_ret ?_
     refine DN.then_ret ?_
     first | refine DN.fit (C := C1 ++ H) sp_ ?_ | refine DN.fit (C := H) sp_ ?_
     refine DN.ret2 Tryz.results77 rfl rfl ?_
     first
     | (rw [oneF_0a hs0 h11]; exact ⟨_, [], rfl, Ob.nil _, rfl⟩)
     | (rw [oneF_0b hs0 h11 (by omega)]; exact ⟨_, [], rfl, Ob.nil _, rfl⟩)
     | (rw [oneF_0c hs0 h11 (by omega)]; exact ⟨_, C1, rfl, ho1, rfl⟩)
     | (rw [oneF_1b hs0 (of_decide_eq_true (hz25.symm.trans h25)) (one_ok hg33 h42)]; exact ⟨_, C1, rfl, hC1, rfl⟩)
     | (rw [oneF_1a hs0 (of_decide_eq_true (hz25.symm.trans h25)) (.inl (by omega))]; exact ⟨_, [], rfl, Ob.nil _, rfl⟩)
     | (rw [oneF_1a hs0 (of_decide_eq_true (hz25.symm.trans h25)) (.inr (Int.ofNat_le.1 h42))]; exact ⟨_, [], rfl, Ob.nil _, rfl⟩)
     | (rw [oneF_8a hs0 (of_decide_eq_false (hz25.symm.trans h25)) hs8 (by omega)]; exact ⟨_, [], rfl, Ob.nil _, rfl⟩)
     | (rw [oneF_8b hs0 (of_decide_eq_false (hz25.symm.trans h25)) hs8 (by omega)]; exact ⟨_, C1, rfl, hC1, rfl⟩)
     | (rw [oneF_no hs0 (of_decide_eq_false (hz25.symm.trans h25)) hs8]; exact ⟨_, [], rfl, Ob.nil _, rfl⟩)
    ·refine gy_ 33 rfl rfl rfl (Yd.fieldAddr (k := 1) kr_ rfl) ?_
     refine WL.gh (dj := 33) rfl rfl rfl (Hd.load1 kr_ rfl mem_ (by rfl) ⟨_, rfl, ?_⟩)
     refine gy_ 33 rfl rfl rfl (Yd.fieldAddr (k := 0) kr_ rfl) ?_
     refine WL.gh (dj := 33) rfl rfl rfl (Hd.load1 kr_ rfl mem_ (by rfl) ⟨_, rfl, ?_⟩)
     refine gy_ 33 rfl rfl rfl (Yd.mul rfl rfl (by omega) (by omega)) ?_
     refine gy_ 33 rfl rfl rfl (Yd.to64 _ kr_ kr_ rfl rfl) ?_
     refine gy_ 33 rfl rfl rfl (Yd.shl64 (1#64) _ rfl rfl rfl rfl) ?_
     refine gy_ 33 rfl rfl rfl (Yd.geq rfl rfl) ?_
     refine WL.y rfl (Yd.pickF rfl rfl) ?_
     refine nt_ ?_
     refine WC.ite rfl (fun h42 => ?_) (fun h42 => ?_)
     ·refine sr_ ?_
      refine a_ rfl rfl ?_
      refine a_ rfl rfl ?_
      refine nt_ ?_
      refine WC.ret ?_
      refine DN.then_ret ?_
      refine DN.block_ret ?_
      refine DN.then_ret ?_
      first | refine DN.fit (C := C1 ++ H) sp_ ?_ | refine DN.fit (C := H) sp_ ?_
      refine DN.ret2 Tryz.results77 rfl rfl ?_
      first
      | (rw [oneF_0a hs0 h11]; exact ⟨_, [], rfl, Ob.nil _, rfl⟩)
      | (rw [oneF_0b hs0 h11 (by omega)]; exact ⟨_, [], rfl, Ob.nil _, rfl⟩)
      | (rw [oneF_0c hs0 h11 (by omega)]; exact ⟨_, C1, rfl, ho1, rfl⟩)
      | (rw [oneF_1b hs0 (of_decide_eq_true (hz25.symm.trans h25)) (one_ok hg33 h42)]; exact ⟨_, C1, rfl, hC1, rfl⟩)
      | (rw [oneF_1a hs0 (of_decide_eq_true (hz25.symm.trans h25)) (.inl (by omega))]; exact ⟨_, [], rfl, Ob.nil _, rfl⟩)
      | (rw [oneF_1a hs0 (of_decide_eq_true (hz25.symm.trans h25)) (.inr (Int.ofNat_le.1 h42))]; exact ⟨_, [], rfl, Ob.nil _, rfl⟩)
      | (rw [oneF_8a hs0 (of_decide_eq_false (hz25.symm.trans h25)) hs8 (by omega)]; exact ⟨_, [], rfl, Ob.nil _, rfl⟩)
      | (rw [oneF_8b hs0 (of_decide_eq_false (hz25.symm.trans h25)) hs8 (by omega)]; exact ⟨_, C1, rfl, hC1, rfl⟩)
      | (rw [oneF_no hs0 (of_decide_eq_false (hz25.symm.trans h25)) hs8]; exact ⟨_, [], rfl, Ob.nil _, rfl⟩)
     ·refine WC.skip ?_
      refine ts_ ?_
      refine WC.region ?_
      refine f_ 1 kr_ rfl rfl ?_
      refine d_ kr_ rfl mem_ (by rfl) rfl ?_
      refine f_ 0 kr_ rfl rfl ?_
      refine d_ kr_ rfl mem_ (by rfl) rfl ?_
      refine WL.c rfl (Ent.func Tryz.call116 rfl) (rnum_tells f.n f.size hs H) (Sp.p sp_) ?_
      rintro x1 H1 ⟨C1, hC1, rfl⟩
      refine a_ rfl rfl ?_
      refine a_ rfl rfl ?_
      refine nt_ ?_
      refine WC.ret ?_
      refine DN.block_ret ?_
      refine DN.then_ret ?_
      first | refine DN.fit (C := C1 ++ H) sp_ ?_ | refine DN.fit (C := H) sp_ ?_
      refine DN.ret2 Tryz.results77 rfl rfl ?_
      first
      | (rw [oneF_0a hs0 h11]; exact ⟨_, [], rfl, Ob.nil _, rfl⟩)
      | (rw [oneF_0b hs0 h11 (by omega)]; exact ⟨_, [], rfl, Ob.nil _, rfl⟩)
      | (rw [oneF_0c hs0 h11 (by omega)]; exact ⟨_, C1, rfl, ho1, rfl⟩)
      | (rw [oneF_1b hs0 (of_decide_eq_true (hz25.symm.trans h25)) (one_ok hg33 h42)]; exact ⟨_, C1, rfl, hC1, rfl⟩)
      | (rw [oneF_1a hs0 (of_decide_eq_true (hz25.symm.trans h25)) (.inl (by omega))]; exact ⟨_, [], rfl, Ob.nil _, rfl⟩)
      | (rw [oneF_1a hs0 (of_decide_eq_true (hz25.symm.trans h25)) (.inr (Int.ofNat_le.1 h42))]; exact ⟨_, [], rfl, Ob.nil _, rfl⟩)
      | (rw [oneF_8a hs0 (of_decide_eq_false (hz25.symm.trans h25)) hs8 (by omega)]; exact ⟨_, [], rfl, Ob.nil _, rfl⟩)
      | (rw [oneF_8b hs0 (of_decide_eq_false (hz25.symm.trans h25)) hs8 (by omega)]; exact ⟨_, C1, rfl, hC1, rfl⟩)
      | (rw [oneF_no hs0 (of_decide_eq_false (hz25.symm.trans h25)) hs8]; exact ⟨_, [], rfl, Ob.nil _, rfl⟩)
   ·refine sr_ ?_
    refine WL.y rfl (Yd.eql rfl rfl) ?_
    refine a_ rfl rfl ?_
    refine nt_ ?_
    refine WC.ite rfl (fun h48 => ?_) (fun h48 => ?_)
    ·have hs8 : f.size = 8 := by omega
     refine WC.seq ?_
     refine sr_ ?_
     refine f_ 2 kr_ rfl rfl ?_
     refine d_ kr_ rfl mem_ (by rfl) rfl ?_
     refine WL.y rfl (Yd.len (e := 5) kr_ rfl) ?_
     refine WL.y rfl (Yd.neq rfl rfl) ?_
     refine nt_ ?_
     refine WC.ite rfl (fun h53 => ?_) (fun h53 => ?_)
     ·refine sr_ ?_
      refine a_ rfl rfl ?_
      refine a_ rfl rfl ?_
      refine nt_ ?_
      refine WC.ret ?_
      refine DN.then_ret ?_
      refine DN.block_ret ?_
      refine DN.then_ret ?_
      first | refine DN.fit (C := C1 ++ H) sp_ ?_ | refine DN.fit (C := H) sp_ ?_
      refine DN.ret2 Tryz.results77 rfl rfl ?_
      first
      | (rw [oneF_0a hs0 h11]; exact ⟨_, [], rfl, Ob.nil _, rfl⟩)
      | (rw [oneF_0b hs0 h11 (by omega)]; exact ⟨_, [], rfl, Ob.nil _, rfl⟩)
      | (rw [oneF_0c hs0 h11 (by omega)]; exact ⟨_, C1, rfl, ho1, rfl⟩)
      | (rw [oneF_1b hs0 (of_decide_eq_true (hz25.symm.trans h25)) (one_ok hg33 h42)]; exact ⟨_, C1, rfl, hC1, rfl⟩)
      | (rw [oneF_1a hs0 (of_decide_eq_true (hz25.symm.trans h25)) (.inl (by omega))]; exact ⟨_, [], rfl, Ob.nil _, rfl⟩)
      | (rw [oneF_1a hs0 (of_decide_eq_true (hz25.symm.trans h25)) (.inr (Int.ofNat_le.1 h42))]; exact ⟨_, [], rfl, Ob.nil _, rfl⟩)
      | (rw [oneF_8a hs0 (of_decide_eq_false (hz25.symm.trans h25)) hs8 (by omega)]; exact ⟨_, [], rfl, Ob.nil _, rfl⟩)
      | (rw [oneF_8b hs0 (of_decide_eq_false (hz25.symm.trans h25)) hs8 (by omega)]; exact ⟨_, C1, rfl, hC1, rfl⟩)
      | (rw [oneF_no hs0 (of_decide_eq_false (hz25.symm.trans h25)) hs8]; exact ⟨_, [], rfl, Ob.nil _, rfl⟩)
     ·refine WC.skip ?_
      refine ts_ ?_
      refine WC.region ?_
      refine f_ 1 kr_ rfl rfl ?_
      refine d_ kr_ rfl mem_ (by rfl) rfl ?_
      refine WL.c rfl (Ent.func Tryz.call116 rfl) (rnum_tells f.n 8 (by omega) H) (Sp.p sp_) ?_
      rintro x1 H1 ⟨C1, hC1, rfl⟩
      refine a_ rfl rfl ?_
      refine a_ rfl rfl ?_
      refine nt_ ?_
      refine WC.ret ?_
      refine DN.block_ret ?_
      refine DN.then_ret ?_
      first | refine DN.fit (C := C1 ++ H) sp_ ?_ | refine DN.fit (C := H) sp_ ?_
      refine DN.ret2 Tryz.results77 rfl rfl ?_
      first
      | (rw [oneF_0a hs0 h11]; exact ⟨_, [], rfl, Ob.nil _, rfl⟩)
      | (rw [oneF_0b hs0 h11 (by omega)]; exact ⟨_, [], rfl, Ob.nil _, rfl⟩)
      | (rw [oneF_0c hs0 h11 (by omega)]; exact ⟨_, C1, rfl, ho1, rfl⟩)
      | (rw [oneF_1b hs0 (of_decide_eq_true (hz25.symm.trans h25)) (one_ok hg33 h42)]; exact ⟨_, C1, rfl, hC1, rfl⟩)
      | (rw [oneF_1a hs0 (of_decide_eq_true (hz25.symm.trans h25)) (.inl (by omega))]; exact ⟨_, [], rfl, Ob.nil _, rfl⟩)
      | (rw [oneF_1a hs0 (of_decide_eq_true (hz25.symm.trans h25)) (.inr (Int.ofNat_le.1 h42))]; exact ⟨_, [], rfl, Ob.nil _, rfl⟩)
      | (rw [oneF_8a hs0 (of_decide_eq_false (hz25.symm.trans h25)) hs8 (by omega)]; exact ⟨_, [], rfl, Ob.nil _, rfl⟩)
      | (rw [oneF_8b hs0 (of_decide_eq_false (hz25.symm.trans h25)) hs8 (by omega)]; exact ⟨_, C1, rfl, hC1, rfl⟩)
      | (rw [oneF_no hs0 (of_decide_eq_false (hz25.symm.trans h25)) hs8]; exact ⟨_, [], rfl, Ob.nil _, rfl⟩)
    ·have hs8 : ¬ f.size = 8 := by omega
     refine WC.skip ?_
     refine DN.block_normal ?_
     refine ts_ ?_
     refine WC.region ?_
     refine a_ rfl rfl ?_
     refine a_ rfl rfl ?_
     refine nt_ ?_
     refine WC.ret ?_
     first | refine DN.fit (C := C1 ++ H) sp_ ?_ | refine DN.fit (C := H) sp_ ?_
     refine DN.ret2 Tryz.results77 rfl rfl ?_
     first
     | (rw [oneF_0a hs0 h11]; exact ⟨_, [], rfl, Ob.nil _, rfl⟩)
     | (rw [oneF_0b hs0 h11 (by omega)]; exact ⟨_, [], rfl, Ob.nil _, rfl⟩)
     | (rw [oneF_0c hs0 h11 (by omega)]; exact ⟨_, C1, rfl, ho1, rfl⟩)
     | (rw [oneF_1b hs0 (of_decide_eq_true (hz25.symm.trans h25)) (one_ok hg33 h42)]; exact ⟨_, C1, rfl, hC1, rfl⟩)
     | (rw [oneF_1a hs0 (of_decide_eq_true (hz25.symm.trans h25)) (.inl (by omega))]; exact ⟨_, [], rfl, Ob.nil _, rfl⟩)
     | (rw [oneF_1a hs0 (of_decide_eq_true (hz25.symm.trans h25)) (.inr (Int.ofNat_le.1 h42))]; exact ⟨_, [], rfl, Ob.nil _, rfl⟩)
     | (rw [oneF_8a hs0 (of_decide_eq_false (hz25.symm.trans h25)) hs8 (by omega)]; exact ⟨_, [], rfl, Ob.nil _, rfl⟩)
     | (rw [oneF_8b hs0 (of_decide_eq_false (hz25.symm.trans h25)) hs8 (by omega)]; exact ⟨_, C1, rfl, hC1, rfl⟩)
     | (rw [oneF_no hs0 (of_decide_eq_false (hz25.symm.trans h25)) hs8]; exact ⟨_, [], rfl, Ob.nil _, rfl⟩)
theorem rput_tells (v : Value) (cs : List Value) (fs : List Fld) (H : List Ck) (hr : Rs v fs.length cs H) (hk : FVs H cs fs) (hl : fs.length ≤ 3000) (hb : ∀ f ∈ fs, f.text.length ≤ 1000000 ∧ f.size ≤ 8) : Tells Tryz.prog 46 [v] H fun r H' => ∃ w A, r = .tuple #[w, .int .i64 (putL fs []).2] ∧ Ob 5 w (putL fs []).1 A ∧ H' = A ++ H := by
 refine Tells.enter Tryz.func46 rfl Tryz.ntmps46 rfl ?_
 intro w0 R
 obtain ⟨ao, c, rfl, hc⟩ := hr.form
 have hcl := hk.len
 refine sr_ ?_
 refine a_ rfl rfl ?_
 refine a_ rfl rfl ?_
 refine ntsr_ ?_
 refine a_ rfl rfl ?_
 refine nt_ ?_
 refine WC.seq ?_
 refine sr_ ?_
 refine a_ rfl rfl ?_
 refine nt_ ?_
 refine WC.block ?_
 refine WC.loopS (fun z : Nat × List (BitVec 8) × Value × List Ck => z.1 ≤ fs.length ∧ z.2.1.length ≤ z.1 * 256 ∧ putL fs [] = putL (fs.drop z.1) z.2.1 ∧ Ob 5 z.2.2.1 z.2.1 z.2.2.2) (fun z : Nat × List (BitVec 8) × Value × List Ck => [(4, z.2.2.1), (5, .int .i64 (z.1 : Int))]) (fun z : Nat × List (BitVec 8) × Value × List Ck => z.2.2.2 ++ H) (fun z : Nat × List (BitVec 8) × Value × List Ck => fs.length - z.1) (⟨0, [], .slice none 0 0, []⟩) (show 0 ≤ fs.length ∧ [].length ≤ 0 * 256 ∧ putL fs [] = putL (fs.drop 0) [] ∧ Ob 5 (.slice none 0 0) [] [] from ⟨Nat.zero_le _, Nat.le_refl _, rfl, Ob.nil _⟩) (Sx.put rfl (Sx.put rfl (sx_))) sp_ ?_
 rintro ⟨i, o, w, A⟩ hI
 replace hI : i ≤ fs.length ∧ o.length ≤ i * 256 ∧ putL fs [] = putL (fs.drop i) o ∧ Ob 5 w o A := hI
 obtain ⟨hi, hol, hput, hA⟩ := hI
 change WC _ _ _ _ _ _ ([(4, w), (5, .int .i64 (i : Int))] ++ _) (A ++ H)
 refine WC.seq ?_
 refine sr_ ?_
 refine m_ rfl rfl ?_
 refine m_ rfl rfl ?_
 refine WL.y rfl (Yd.len (e := 98) kr_ rfl) ?_
 refine WL.y rfl (Yd.lss rfl rfl) ?_
 refine nt_ ?_
 refine WC.ite rfl (fun h11 => ?_) (fun h11 => ?_)
 ·have hlt : i < fs.length := by omega
  obtain ⟨vt, hg, hvt⟩ := hk.at i hlt
  have hcons := List.drop_eq_getElem_cons hlt
  have hbi := hb _ (List.getElem_mem hlt)
  have hol1 := oneF_len fs[i]
  refine WC.skip ?_
  refine ts_ ?_
  refine WC.block ?_
  refine sr_ ?_
  refine m_ rfl rfl ?_
  refine m_ rfl rfl ?_
  refine WL.elemA (e := 98) (s := 3) kr_ kr_ kr_ rfl rfl (rfl) (hr.mono gr_) (hg) (by rfl) (by omega) (hlt) rfl rfl ?_
  intro p17
  refine WL.c rfl (Ent.func Tryz.call77 rfl) (rone_tells fs[i] vt H hvt hbi.1 hbi.2) (Sp.p sp_) ?_
  rintro x1 H1 ⟨w1, A1, rfl, hA1, rfl⟩
  refine m_ rfl rfl ?_
  refine x_ rfl rfl rfl ?_
  refine x_ rfl rfl rfl ?_
  refine a_ rfl rfl ?_
  refine a_ rfl rfl ?_
  refine nt_ ?_
  refine WC.seq ?_
  refine sr_ ?_
  refine m_ rfl rfl ?_
  refine WL.y rfl (Yd.neq rfl rfl) ?_
  refine nt_ ?_
  refine WC.ite rfl (fun h23 => ?_) (fun h23 => ?_)
  ·refine sr_ ?_
   refine m_ rfl rfl ?_
   refine a_ rfl rfl ?_
   refine a_ rfl rfl ?_
   refine nt_ ?_
   refine WC.ret ?_
   refine DN.then_ret ?_
   refine DN.block_ret ?_
   refine DN.then_ret ?_
   refine DN.then_ret ?_
   refine DN.block_ret ?_
   refine DN.then_ret ?_
   refine DN.fit (C := H) sp_ ?_
   refine DN.ret2 Tryz.results46 rfl rfl ?_
   rw [hput, hcons, putL_err h23]
   exact ⟨_, [], rfl, Ob.nil _, rfl⟩
  ·refine WC.skip ?_
   refine DN.then_normal ?_
   refine WC.region ?_
   refine m_ rfl rfl ?_
   refine m_ rfl rfl ?_
   refine WL.h rfl (Hd.appendBs (e := 5) (zs := [.int .u8 0]) kr_ kr_ rfl rfl rfl hA sp_ (hA1.bs.mono gr_) (by omega) fun v2 C2 ho2 => ⟨_, rfl, ?_⟩)
   refine a_ rfl rfl ?_
   refine WL.nil ?_
   refine DN.block_normal ?_
   refine DN.then_normal ?_
   refine WC.region ?_
   refine m_ rfl rfl ?_
   refine WL.y rfl (Yd.add rfl rfl (by omega) (by omega)) ?_
   refine a_ rfl rfl ?_
   refine WL.nil ?_
   exact DN.againS (⟨i + 1, o ++ (oneF fs[i]).1, v2, C2⟩) (show (i + 1) ≤ fs.length ∧ (o ++ (oneF fs[i]).1).length ≤ (i + 1) * 256 ∧ putL fs [] = putL (fs.drop (i + 1)) (o ++ (oneF fs[i]).1) ∧ Ob 5 v2 (o ++ (oneF fs[i]).1) C2 from ⟨by omega, by rw [List.length_append]; omega, by rw [hput, hcons, putL_ok h23], ho2⟩) (show fs.length - (i + 1) < fs.length - i by omega) (Sx.put rfl (Sx.put rfl (sx_))) sp_
 ·obtain rfl : fs.length = i := by omega
  rw [List.drop_length] at hput
  refine WC.exit ?_
  refine DN.then_exit ?_
  refine DN.then_exit ?_
  refine DN.block_exit ?_
  refine ts_ ?_
  refine WC.region ?_
  refine m_ rfl rfl ?_
  refine a_ rfl rfl ?_
  refine a_ rfl rfl ?_
  refine nt_ ?_
  refine WC.ret ?_
  refine DN.fit (C := A ++ H) sp_ ?_
  refine DN.ret2 Tryz.results46 rfl rfl ?_
  rw [hput]
  exact ⟨_, A, rfl, hA, rfl⟩
theorem rtake_tells (p : Nat) (v : Value) (b : List (BitVec 8)) (a : Nat) (sh : Bool) (H : List Ck) (hv : Bs v b H) (hl : b.length ≤ 1000000) (ha : a ≤ b.length) (k : Nat) (hk : k ≤ 1000) : Tells Tryz.prog 80 [.pointer (some ⟨p, 0, none⟩), .int .i64 k] (row p [v, .int .i64 (a : Nat), .bool sh] 107 :: H) fun r H' => ∃ w A a', r = .tuple #[w, .bool (!(rdShort (b.drop a) sh k))] ∧ Ob 5 w (rdGot (b.drop a) sh k) A ∧ a' ≤ b.length ∧ b.drop a' = rdRest (b.drop a) sh k ∧ H' = A ++ (row p [v, .int .i64 (a' : Nat), .bool (rdShort (b.drop a) sh k)] 107 :: H) := by
 refine Tells.enter Tryz.func80 rfl Tryz.ntmps80 rfl ?_
 intro w0 R
 obtain ⟨bo, bc_, rfl, hbc⟩ := hv.form
 have hdl : (b.drop a).length = b.length - a := List.length_drop
 refine sr_ ?_
 refine a_ rfl rfl ?_
 refine a_ rfl rfl ?_
 refine nt_ ?_
 refine WC.seq ?_
 refine WC.cutK (fun z : Bool => z = rdShort (b.drop a) sh k) (fun z : Bool => [(24, .bool z)]) (fun z : Bool => row p [.slice bo b.length bc_, .int .i64 (a : Nat), .bool sh] 107 :: H) ?_ ?_
 ·refine WC.draw 18 kr_ rfl ?_
  refine WA.float (N := 18) rfl ?_
  refine WAF.add (i := 0) (d := 7) rfl (QF.mk [] [] rfl rfl kr_ rfl (QAt.y Wt.none (Yd.move rfl))) ?_
  refine WAF.add (i := 1) (d := 8) rfl (QF.mk [0] [(7, _)] rfl rfl kr_ rfl (QAt.y Wt.none (Yd.notNil rfl))) ?_
  refine WAF.add (i := 2) (d := 9) rfl (QF.mk [1] [(8, _)] rfl rfl kr_ rfl (QAt.y Wt.none (Yd.fieldAddr (k := 2) kr_ rfl))) ?_
  refine WAF.add (i := 3) (d := 10) rfl (QF.mk [2] [(9, _)] rfl rfl kr_ rfl (QAt.rd Wt.none (Rd.load1 kr_ rfl mem_ (by rfl)))) ?_
  refine WAF.add (i := 4) (d := 11) rfl (QF.mk [3] [(10, _)] rfl rfl kr_ rfl (QAt.y Wt.none (Yd.move rfl))) ?_
  refine WAF.part (fun hg11 => ?_) (fun hg11 => ?_)
  ·refine WAF.add (i := 5) (d := 12) rfl (QF.mk [4] [(11, _)] rfl rfl kr_ rfl (QAt.gn rfl rfl rfl)) ?_
   refine WAF.add (i := 6) (d := 13) rfl (QF.mk [5, 4] [(12, _), (11, _)] rfl rfl kr_ rfl (QAt.gn rfl rfl rfl)) ?_
   refine WAF.add (i := 7) (d := 14) rfl (QF.mk [6, 4] [(13, _), (11, _)] rfl rfl kr_ rfl (QAt.gn rfl rfl rfl)) ?_
   refine WAF.add (i := 8) (d := 15) rfl (QF.mk [7, 4] [(14, _), (11, _)] rfl rfl kr_ rfl (QAt.gn rfl rfl rfl)) ?_
   refine WAF.add (i := 9) (d := 16) rfl (QF.mk [8, 4] [(15, _), (11, _)] rfl rfl kr_ rfl (QAt.gn rfl rfl rfl)) ?_
   refine WAF.add (i := 10) (d := 17) rfl (QF.mk [4] [(11, _)] rfl rfl kr_ rfl (QAt.gn rfl rfl rfl)) ?_
   refine WAF.add (i := 11) (d := 18) rfl (QF.mk [10, 4] [(17, _), (11, _)] rfl rfl kr_ rfl (QAt.gn rfl rfl rfl)) ?_
   refine WAF.add (i := 12) (d := 19) rfl (QF.mk [11, 4] [(18, _), (11, _)] rfl rfl kr_ rfl (QAt.gn rfl rfl rfl)) ?_
   refine WAF.add (i := 13) (d := 20) rfl (QF.mk [12, 4] [(19, _), (11, _)] rfl rfl kr_ rfl (QAt.gn rfl rfl rfl)) ?_
   refine WAF.add (i := 14) (d := 21) rfl (QF.mk [13, 9, 4] [(20, _), (16, _), (11, _)] rfl rfl kr_ rfl (QAt.gn rfl rfl rfl)) ?_
   refine WAF.add (i := 15) (d := 22) rfl (QF.mk [4] [(11, _)] rfl rfl kr_ rfl (QAt.gn rfl rfl rfl)) ?_
   refine WAF.add (i := 16) (d := 23) rfl (QF.mk [15, 14, 4] [(22, _), (21, _), (11, _)] rfl rfl kr_ rfl (QAt.gn rfl rfl rfl)) ?_
   refine WAF.add (i := 17) (d := 24) rfl (QF.mk [16, 4] [(23, _), (11, _)] rfl rfl kr_ rfl (QAt.y Wt.none (Yd.pickT rfl rfl))) ?_
   refine WAF.done (pd := [(17, 24), (16, 23), (15, 22), (14, 21), (13, 20), (12, 19), (11, 18), (10, 17), (9, 16), (8, 15), (7, 14), (6, 13), (5, 12), (4, 11), (3, 10), (2, 9), (1, 8), (0, 7)]) rfl kr_ kr_ (all_c rfl (all_c rfl (all_c rfl (all_c rfl (all_c rfl (all_c rfl (all_c rfl (all_c rfl (all_c rfl (all_c rfl (all_c rfl (all_c rfl (all_c rfl (all_c rfl (all_c rfl (all_c rfl (all_c rfl (all_c rfl (all_n))))))))))))))))))) (all_c (QF.mk [16, 4] [(23, _), (11, _)] rfl rfl kr_ rfl (QAt.y Wt.none (Yd.pickT rfl rfl))) (all_c (QF.mk [15, 14, 4] [(22, _), (21, _), (11, _)] rfl rfl kr_ rfl (QAt.gn rfl rfl rfl)) (all_c (QF.mk [4] [(11, _)] rfl rfl kr_ rfl (QAt.gn rfl rfl rfl)) (all_c (QF.mk [13, 9, 4] [(20, _), (16, _), (11, _)] rfl rfl kr_ rfl (QAt.gn rfl rfl rfl)) (all_c (QF.mk [12, 4] [(19, _), (11, _)] rfl rfl kr_ rfl (QAt.gn rfl rfl rfl)) (all_c (QF.mk [11, 4] [(18, _), (11, _)] rfl rfl kr_ rfl (QAt.gn rfl rfl rfl)) (all_c (QF.mk [10, 4] [(17, _), (11, _)] rfl rfl kr_ rfl (QAt.gn rfl rfl rfl)) (all_c (QF.mk [4] [(11, _)] rfl rfl kr_ rfl (QAt.gn rfl rfl rfl)) (all_c (QF.mk [8, 4] [(15, _), (11, _)] rfl rfl kr_ rfl (QAt.gn rfl rfl rfl)) (all_c (QF.mk [7, 4] [(14, _), (11, _)] rfl rfl kr_ rfl (QAt.gn rfl rfl rfl)) (all_c (QF.mk [6, 4] [(13, _), (11, _)] rfl rfl kr_ rfl (QAt.gn rfl rfl rfl)) (all_c (QF.mk [5, 4] [(12, _), (11, _)] rfl rfl kr_ rfl (QAt.gn rfl rfl rfl)) (all_c (QF.mk [4] [(11, _)] rfl rfl kr_ rfl (QAt.gn rfl rfl rfl)) (all_c (QF.ren (congrArg Value.bool hg11) (QF.mk [3] [(10, _)] rfl rfl kr_ rfl (QAt.y Wt.none (Yd.move rfl)))) (all_c (QF.mk [2] [(9, _)] rfl rfl kr_ rfl (QAt.rd Wt.none (Rd.load1 kr_ rfl mem_ (by rfl)))) (all_c (QF.mk [1] [(8, _)] rfl rfl kr_ rfl (QAt.y Wt.none (Yd.fieldAddr (k := 2) kr_ rfl))) (all_c (QF.mk [0] [(7, _)] rfl rfl kr_ rfl (QAt.y Wt.none (Yd.notNil rfl))) (all_c (QF.mk [] [] rfl rfl kr_ rfl (QAt.y Wt.none (Yd.move rfl))) (all_n))))))))))))))))))) ?_
   change DN _ _ _ _ _ _ ([(24, _), (23, _), (22, _), (21, _), (20, _), (19, _), (18, _), (17, _), (16, _), (15, _), (14, _), (13, _), (12, _), (11, _), (10, _), (9, _), (8, _), (7, _)] ++ _) _
   exact DN.reachK (_) (by unfold rdShort; rw [hg11]; rfl) (Sx.put rfl (sx_)) (Sp.all sp_)
  ·refine WAF.add (i := 5) (d := 12) rfl (QF.mk [4] [(11, _)] rfl rfl kr_ rfl (QAt.y (Wt.yes (dj := 11) rfl rfl) (Yd.move rfl))) ?_
   refine WAF.add (i := 6) (d := 13) rfl (QF.mk [5, 4] [(12, _), (11, _)] rfl rfl kr_ rfl (QAt.y (Wt.yes (dj := 11) rfl rfl) (Yd.notNil rfl))) ?_
   refine WAF.add (i := 7) (d := 14) rfl (QF.mk [6, 4] [(13, _), (11, _)] rfl rfl kr_ rfl (QAt.y (Wt.yes (dj := 11) rfl rfl) (Yd.fieldAddr (k := 0) kr_ rfl))) ?_
   refine WAF.add (i := 8) (d := 15) rfl (QF.mk [7, 4] [(14, _), (11, _)] rfl rfl kr_ rfl (QAt.rd (Wt.yes (dj := 11) rfl rfl) (Rd.load1 kr_ rfl mem_ (by rfl)))) ?_
   refine WAF.add (i := 9) (d := 16) rfl (QF.mk [8, 4] [(15, _), (11, _)] rfl rfl kr_ rfl (QAt.y (Wt.yes (dj := 11) rfl rfl) (Yd.len (e := 5) kr_ rfl))) ?_
   refine WAF.add (i := 10) (d := 17) rfl (QF.mk [4] [(11, _)] rfl rfl kr_ rfl (QAt.y (Wt.yes (dj := 11) rfl rfl) (Yd.move rfl))) ?_
   refine WAF.add (i := 11) (d := 18) rfl (QF.mk [10, 4] [(17, _), (11, _)] rfl rfl kr_ rfl (QAt.y (Wt.yes (dj := 11) rfl rfl) (Yd.notNil rfl))) ?_
   refine WAF.add (i := 12) (d := 19) rfl (QF.mk [11, 4] [(18, _), (11, _)] rfl rfl kr_ rfl (QAt.y (Wt.yes (dj := 11) rfl rfl) (Yd.fieldAddr (k := 1) kr_ rfl))) ?_
   refine WAF.add (i := 13) (d := 20) rfl (QF.mk [12, 4] [(19, _), (11, _)] rfl rfl kr_ rfl (QAt.rd (Wt.yes (dj := 11) rfl rfl) (Rd.load1 kr_ rfl mem_ (by rfl)))) ?_
   refine WAF.add (i := 14) (d := 21) rfl (QF.mk [13, 9, 4] [(20, _), (16, _), (11, _)] rfl rfl kr_ rfl (QAt.y (Wt.yes (dj := 11) rfl rfl) (Yd.sub rfl rfl (by omega) (by omega)))) ?_
   refine WAF.add (i := 15) (d := 22) rfl (QF.mk [4] [(11, _)] rfl rfl kr_ rfl (QAt.y (Wt.yes (dj := 11) rfl rfl) (Yd.move rfl))) ?_
   refine WAF.add (i := 16) (d := 23) rfl (QF.mk [15, 14, 4] [(22, _), (21, _), (11, _)] rfl rfl kr_ rfl (QAt.y (Wt.yes (dj := 11) rfl rfl) (Yd.lss rfl rfl))) ?_
   refine WAF.add (i := 17) (d := 24) rfl (QF.mk [16, 4] [(23, _), (11, _)] rfl rfl kr_ rfl (QAt.y Wt.none (Yd.pickF rfl rfl))) ?_
   refine WAF.done (pd := [(17, 24), (16, 23), (15, 22), (14, 21), (13, 20), (12, 19), (11, 18), (10, 17), (9, 16), (8, 15), (7, 14), (6, 13), (5, 12), (4, 11), (3, 10), (2, 9), (1, 8), (0, 7)]) rfl kr_ kr_ (all_c rfl (all_c rfl (all_c rfl (all_c rfl (all_c rfl (all_c rfl (all_c rfl (all_c rfl (all_c rfl (all_c rfl (all_c rfl (all_c rfl (all_c rfl (all_c rfl (all_c rfl (all_c rfl (all_c rfl (all_c rfl (all_n))))))))))))))))))) (all_c (QF.mk [16, 4] [(23, _), (11, _)] rfl rfl kr_ rfl (QAt.y Wt.none (Yd.pickF rfl rfl))) (all_c (QF.mk [15, 14, 4] [(22, _), (21, _), (11, _)] rfl rfl kr_ rfl (QAt.y (Wt.yes (dj := 11) rfl rfl) (Yd.lss rfl rfl))) (all_c (QF.mk [4] [(11, _)] rfl rfl kr_ rfl (QAt.y (Wt.yes (dj := 11) rfl rfl) (Yd.move rfl))) (all_c (QF.mk [13, 9, 4] [(20, _), (16, _), (11, _)] rfl rfl kr_ rfl (QAt.y (Wt.yes (dj := 11) rfl rfl) (Yd.sub rfl rfl (by omega) (by omega)))) (all_c (QF.mk [12, 4] [(19, _), (11, _)] rfl rfl kr_ rfl (QAt.rd (Wt.yes (dj := 11) rfl rfl) (Rd.load1 kr_ rfl mem_ (by rfl)))) (all_c (QF.mk [11, 4] [(18, _), (11, _)] rfl rfl kr_ rfl (QAt.y (Wt.yes (dj := 11) rfl rfl) (Yd.fieldAddr (k := 1) kr_ rfl))) (all_c (QF.mk [10, 4] [(17, _), (11, _)] rfl rfl kr_ rfl (QAt.y (Wt.yes (dj := 11) rfl rfl) (Yd.notNil rfl))) (all_c (QF.mk [4] [(11, _)] rfl rfl kr_ rfl (QAt.y (Wt.yes (dj := 11) rfl rfl) (Yd.move rfl))) (all_c (QF.mk [8, 4] [(15, _), (11, _)] rfl rfl kr_ rfl (QAt.y (Wt.yes (dj := 11) rfl rfl) (Yd.len (e := 5) kr_ rfl))) (all_c (QF.mk [7, 4] [(14, _), (11, _)] rfl rfl kr_ rfl (QAt.rd (Wt.yes (dj := 11) rfl rfl) (Rd.load1 kr_ rfl mem_ (by rfl)))) (all_c (QF.mk [6, 4] [(13, _), (11, _)] rfl rfl kr_ rfl (QAt.y (Wt.yes (dj := 11) rfl rfl) (Yd.fieldAddr (k := 0) kr_ rfl))) (all_c (QF.mk [5, 4] [(12, _), (11, _)] rfl rfl kr_ rfl (QAt.y (Wt.yes (dj := 11) rfl rfl) (Yd.notNil rfl))) (all_c (QF.mk [4] [(11, _)] rfl rfl kr_ rfl (QAt.y (Wt.yes (dj := 11) rfl rfl) (Yd.move rfl))) (all_c (QF.ren (congrArg Value.bool hg11) (QF.mk [3] [(10, _)] rfl rfl kr_ rfl (QAt.y Wt.none (Yd.move rfl)))) (all_c (QF.mk [2] [(9, _)] rfl rfl kr_ rfl (QAt.rd Wt.none (Rd.load1 kr_ rfl mem_ (by rfl)))) (all_c (QF.mk [1] [(8, _)] rfl rfl kr_ rfl (QAt.y Wt.none (Yd.fieldAddr (k := 2) kr_ rfl))) (all_c (QF.mk [0] [(7, _)] rfl rfl kr_ rfl (QAt.y Wt.none (Yd.notNil rfl))) (all_c (QF.mk [] [] rfl rfl kr_ rfl (QAt.y Wt.none (Yd.move rfl))) (all_n))))))))))))))))))) ?_
   change DN _ _ _ _ _ _ ([(24, _), (23, _), (22, _), (21, _), (20, _), (19, _), (18, _), (17, _), (16, _), (15, _), (14, _), (13, _), (12, _), (11, _), (10, _), (9, _), (8, _), (7, _)] ++ _) _
   exact DN.reachK (_) (by unfold rdShort; rw [hg11, hdl, Bool.false_or, Bool.eq_iff_iff, decide_eq_true_eq, decide_eq_true_eq]; omega) (Sx.put rfl (sx_)) (Sp.all sp_)
 ·intro z hz
  refine WC.cond rfl (fun h24 => ?_) (fun h24 => ?_)
  ·have hs1 : rdShort (b.drop a) sh k = true := hz.symm.trans h24
   refine sr_ ?_
   refine m_ rfl rfl ?_
   refine n_ rfl rfl ?_
   refine f_ 2 kr_ rfl rfl ?_
   refine WL.s (Hd.store1s kr_ rfl rfl (by rfl) fr_ (by rfl) (by first | (simp only [List.set_cons_zero, List.set_cons_succ, Nat.zero_add, Nat.add_zero, Nat.reduceAdd]; rfl) | rfl) ⟨rfl, ?_⟩)
   refine ntsr_ ?_
   refine a_ rfl rfl ?_
   refine a_ rfl rfl ?_
   refine nt_ ?_
   refine WC.ret ?_
   refine DN.then_ret ?_
   refine DN.ret2 Tryz.results80 rfl rfl ?_
   rw [hs1]
   exact ⟨_, [], a, rfl, by unfold rdGot; rw [hs1]; exact Ob.nil _, ha, by unfold rdRest; rw [hs1]; rfl, rfl⟩
  ·have hs0 : rdShort (b.drop a) sh k = false := hz.symm.trans h24
   have hs2 : sh = false ∧ a + k ≤ b.length := by
     have h9 := hs0
     unfold rdShort at h9
     rw [Bool.or_eq_false_iff, decide_eq_false_iff_not, hdl] at h9
     exact ⟨h9.1, by omega⟩
   have hcut : Bs (.slice (if bc_ = a then bo else bo.map (·.add (a * 1))) (a + k - a) (bc_ - a)) ((b.drop a).take k) H := by
     have h9 := hv.sub (i := a) (j := a + k) (by omega) hs2.2
     rw [show (b.drop a).take (a + k - a) = (b.drop a).take k by congr 1; omega] at h9
     exact h9
   have hcn : ((b.drop a).take k).length = k := by rw [List.length_take]; omega
   refine WC.skip ?_
   refine ts_ ?_
   refine WC.draw 16 kr_ rfl ?_
   refine WA.float (N := 16) rfl ?_
   refine WAF.add (i := 0) (d := 28) rfl (QF.mk [] [] rfl rfl kr_ rfl (QAt.y Wt.none (Yd.move rfl))) ?_
   refine WAF.add (i := 1) (d := 29) rfl (QF.mk [0] [(28, _)] rfl rfl kr_ rfl (QAt.y Wt.none (Yd.notNil rfl))) ?_
   refine WAF.add (i := 2) (d := 30) rfl (QF.mk [1] [(29, _)] rfl rfl kr_ rfl (QAt.y Wt.none (Yd.fieldAddr (k := 0) kr_ rfl))) ?_
   refine WAF.add (i := 3) (d := 31) rfl (QF.mk [2] [(30, _)] rfl rfl kr_ rfl (QAt.rd Wt.none (Rd.load1 kr_ rfl mem_ (by rfl)))) ?_
   refine WAF.add (i := 4) (d := 32) rfl (QF.mk [] [] rfl rfl kr_ rfl (QAt.y Wt.none (Yd.move rfl))) ?_
   refine WAF.add (i := 5) (d := 33) rfl (QF.mk [4] [(32, _)] rfl rfl kr_ rfl (QAt.y Wt.none (Yd.notNil rfl))) ?_
   refine WAF.add (i := 6) (d := 34) rfl (QF.mk [5] [(33, _)] rfl rfl kr_ rfl (QAt.y Wt.none (Yd.fieldAddr (k := 1) kr_ rfl))) ?_
   refine WAF.add (i := 7) (d := 35) rfl (QF.mk [6] [(34, _)] rfl rfl kr_ rfl (QAt.rd Wt.none (Rd.load1 kr_ rfl mem_ (by rfl)))) ?_
   refine WAF.add (i := 8) (d := 36) rfl (QF.mk [] [] rfl rfl kr_ rfl (QAt.y Wt.none (Yd.move rfl))) ?_
   refine WAF.add (i := 9) (d := 37) rfl (QF.mk [8] [(36, _)] rfl rfl kr_ rfl (QAt.y Wt.none (Yd.notNil rfl))) ?_
   refine WAF.add (i := 10) (d := 38) rfl (QF.mk [9] [(37, _)] rfl rfl kr_ rfl (QAt.y Wt.none (Yd.fieldAddr (k := 1) kr_ rfl))) ?_
   refine WAF.add (i := 11) (d := 39) rfl (QF.mk [10] [(38, _)] rfl rfl kr_ rfl (QAt.rd Wt.none (Rd.load1 kr_ rfl mem_ (by rfl)))) ?_
   refine WAF.add (i := 12) (d := 40) rfl (QF.mk [] [] rfl rfl kr_ rfl (QAt.y Wt.none (Yd.move rfl))) ?_
   refine WAF.add (i := 13) (d := 41) rfl (QF.mk [12, 11] [(40, _), (39, _)] rfl rfl kr_ rfl (QAt.y Wt.none (Yd.add rfl rfl (by omega) (by omega)))) ?_
   refine WAF.add (i := 14) (d := 42) rfl (QF.mk [13, 7, 3] [(41, _), (35, _), (31, _)] rfl rfl kr_ rfl (QAt.y Wt.none (Yd.slice (e := 5) (s := 1) (i := a) (j := a + k) kr_ kr_ rfl ⟨_, _, rfl, rfl⟩ ⟨_, _, rfl, by omega⟩ (by omega) (by omega)))) ?_
   refine WAF.add (i := 15) (d := 6) rfl (QF.mk [14, 13, 12, 11, 10, 9, 8, 7, 6, 5, 4, 3, 2, 1, 0] [(42, _), (41, _), (40, _), (39, _), (38, _), (37, _), (36, _), (35, _), (34, _), (33, _), (32, _), (31, _), (30, _), (29, _), (28, _)] rfl rfl kr_ rfl (QAt.y Wt.none (Yd.assign rfl))) ?_
   refine WAF.done (pd := [(15, 6), (14, 42), (13, 41), (12, 40), (11, 39), (10, 38), (9, 37), (8, 36), (7, 35), (6, 34), (5, 33), (4, 32), (3, 31), (2, 30), (1, 29), (0, 28)]) rfl kr_ kr_ (all_c rfl (all_c rfl (all_c rfl (all_c rfl (all_c rfl (all_c rfl (all_c rfl (all_c rfl (all_c rfl (all_c rfl (all_c rfl (all_c rfl (all_c rfl (all_c rfl (all_c rfl (all_c rfl (all_n))))))))))))))))) (all_c (QF.mk [14, 13, 12, 11, 10, 9, 8, 7, 6, 5, 4, 3, 2, 1, 0] [(42, _), (41, _), (40, _), (39, _), (38, _), (37, _), (36, _), (35, _), (34, _), (33, _), (32, _), (31, _), (30, _), (29, _), (28, _)] rfl rfl kr_ rfl (QAt.y Wt.none (Yd.assign rfl))) (all_c (QF.mk [13, 7, 3] [(41, _), (35, _), (31, _)] rfl rfl kr_ rfl (QAt.y Wt.none (Yd.slice (e := 5) (s := 1) (i := a) (j := a + k) kr_ kr_ rfl ⟨_, _, rfl, rfl⟩ ⟨_, _, rfl, by omega⟩ (by omega) (by omega)))) (all_c (QF.mk [12, 11] [(40, _), (39, _)] rfl rfl kr_ rfl (QAt.y Wt.none (Yd.add rfl rfl (by omega) (by omega)))) (all_c (QF.mk [] [] rfl rfl kr_ rfl (QAt.y Wt.none (Yd.move rfl))) (all_c (QF.mk [10] [(38, _)] rfl rfl kr_ rfl (QAt.rd Wt.none (Rd.load1 kr_ rfl mem_ (by rfl)))) (all_c (QF.mk [9] [(37, _)] rfl rfl kr_ rfl (QAt.y Wt.none (Yd.fieldAddr (k := 1) kr_ rfl))) (all_c (QF.mk [8] [(36, _)] rfl rfl kr_ rfl (QAt.y Wt.none (Yd.notNil rfl))) (all_c (QF.mk [] [] rfl rfl kr_ rfl (QAt.y Wt.none (Yd.move rfl))) (all_c (QF.mk [6] [(34, _)] rfl rfl kr_ rfl (QAt.rd Wt.none (Rd.load1 kr_ rfl mem_ (by rfl)))) (all_c (QF.mk [5] [(33, _)] rfl rfl kr_ rfl (QAt.y Wt.none (Yd.fieldAddr (k := 1) kr_ rfl))) (all_c (QF.mk [4] [(32, _)] rfl rfl kr_ rfl (QAt.y Wt.none (Yd.notNil rfl))) (all_c (QF.mk [] [] rfl rfl kr_ rfl (QAt.y Wt.none (Yd.move rfl))) (all_c (QF.mk [2] [(30, _)] rfl rfl kr_ rfl (QAt.rd Wt.none (Rd.load1 kr_ rfl mem_ (by rfl)))) (all_c (QF.mk [1] [(29, _)] rfl rfl kr_ rfl (QAt.y Wt.none (Yd.fieldAddr (k := 0) kr_ rfl))) (all_c (QF.mk [0] [(28, _)] rfl rfl kr_ rfl (QAt.y Wt.none (Yd.notNil rfl))) (all_c (QF.mk [] [] rfl rfl kr_ rfl (QAt.y Wt.none (Yd.move rfl))) (all_n))))))))))))))))) ?_
   change DN _ _ _ _ _ _ ([(6, _), (42, _), (41, _), (40, _), (39, _), (38, _), (37, _), (36, _), (35, _), (34, _), (33, _), (32, _), (31, _), (30, _), (29, _), (28, _)] ++ _) _
   refine ts_ ?_
   refine WC.region ?_
   refine m_ rfl rfl ?_
   refine m_ rfl rfl ?_
   refine n_ rfl rfl ?_
   refine f_ 1 kr_ rfl rfl ?_
   refine d_ kr_ rfl mem_ (by rfl) rfl ?_
   refine m_ rfl rfl ?_
   refine WL.y rfl (Yd.add rfl rfl (by omega) (by omega)) ?_
   refine n_ rfl rfl ?_
   refine f_ 1 kr_ rfl rfl ?_
   refine WL.s (Hd.store1s kr_ rfl rfl (by rfl) fr_ (by rfl) (by first | (simp only [List.set_cons_zero, List.set_cons_succ, Nat.zero_add, Nat.add_zero, Nat.reduceAdd]; rfl) | rfl) ⟨rfl, ?_⟩)
   refine ntsr_ ?_
   refine m_ rfl rfl ?_
   refine WL.c rfl (Ent.func Tryz.call40 rfl) (copy_spec _ ((b.drop a).take k) H hcut (by omega)) (Sp.p sp_) ?_
   rintro x1 H1 ⟨C1, hC1, rfl⟩
   refine a_ rfl rfl ?_
   refine a_ rfl rfl ?_
   refine nt_ ?_
   refine WC.ret ?_
   refine DN.fit (C := C1 ++ (row p [.slice bo b.length bc_, .int .i64 ((a : Int) + k), .bool sh] 107 :: H)) sp_ ?_
   refine DN.ret2 Tryz.results80 rfl rfl ?_
   rw [hs0]
   exact ⟨_, C1, a + k, rfl, by unfold rdGot; rw [hs0]; exact hC1, hs2.2, by unfold rdRest; rw [hs0, if_neg (by decide), List.drop_drop], by rw [hs2.1]; rfl⟩
theorem rnum2_tells (p : Nat) (v : Value) (b : List (BitVec 8)) (a : Nat) (sh : Bool) (H : List Ck) (hv : Bs v b H) (hl : b.length ≤ 1000000) (ha : a ≤ b.length) (k : Nat) (hk : k ≤ 8) : Tells Tryz.prog 52 [.pointer (some ⟨p, 0, none⟩), .int .i64 k] (row p [v, .int .i64 (a : Nat), .bool sh] 107 :: H) fun r H' => ∃ a', r = .int .u64 (beN (rdGot (b.drop a) sh k)).toNat ∧ a' ≤ b.length ∧ b.drop a' = rdRest (b.drop a) sh k ∧ H' = row p [v, .int .i64 (a' : Nat), .bool (rdShort (b.drop a) sh k)] 107 :: H := by
 refine Tells.enter Tryz.func52 rfl Tryz.ntmps52 rfl ?_
 intro w0 R
 refine sr_ ?_
 refine WL.y rfl (Yd.assign (v := .int .u64 ((0#64).toNat : Int)) rfl) ?_
 refine ntsr_ ?_
 refine m_ rfl rfl ?_
 refine m_ rfl rfl ?_
 refine WL.c rfl (Ent.func Tryz.call80 rfl) (rtake_tells p v b a sh H hv hl ha k (by omega)) (Sp.p sp_) ?_
 rintro x1 H1 ⟨w, A, a', rfl, hA, ha', hrest, rfl⟩
 obtain ⟨wo, wc, rfl, _⟩ := hA.form
 refine m_ rfl rfl ?_
 refine x_ rfl rfl rfl ?_
 refine x_ rfl rfl rfl ?_
 refine a_ rfl rfl ?_
 refine a_ rfl rfl ?_
 refine ntsr_ ?_
 refine m_ rfl rfl ?_
 refine WL.r rfl (Ent.func Tryz.call81 rfl) (rof_reads _ (rdGot (b.drop a) sh k) _ (hA.bs.mono gr_) (by have := rdGot_len (b.drop a) sh k; omega)) ?_
 refine a_ rfl rfl ?_
 refine nt_ ?_
 refine WC.ret ?_
 refine DN.fit (C := row p [v, .int .i64 (a' : Nat), .bool (rdShort (b.drop a) sh k)] 107 :: H) sp_ ?_
 refine DN.ret1 Tryz.results52 rfl ?_
 exact ⟨a', rfl, ha', hrest, rfl⟩
theorem rtext2_tells (p : Nat) (v : Value) (b : List (BitVec 8)) (a : Nat) (sh : Bool) (H : List Ck) (hv : Bs v b H) (hl : b.length ≤ 1000000) (ha : a ≤ b.length) : Tells Tryz.prog 53 [.pointer (some ⟨p, 0, none⟩)] (row p [v, .int .i64 (a : Nat), .bool sh] 107 :: H) fun r H' => ∃ A a', Bs r (txGot (b.drop a) sh) A ∧ a' ≤ b.length ∧ b.drop a' = rdRest (b.drop a) sh (txN (b.drop a)) ∧ H' = A ++ (row p [v, .int .i64 (a' : Nat), .bool (rdShort (b.drop a) sh (txN (b.drop a)))] 107 :: H) := by
 refine Tells.enter Tryz.func53 rfl Tryz.ntmps53 rfl ?_
 intro w0 R
 obtain ⟨bo, bc_, rfl, hbc⟩ := hv.form
 have htx := txN_le (b.drop a)
 refine sr_ ?_
 refine a_ rfl rfl ?_
 refine ntsr_ ?_
 refine a_ rfl rfl ?_
 refine nt_ ?_
 refine WC.cutK (fun _z : Unit => True) (fun _z : Unit => [(3, .int .i64 (((b.drop a).headD 0#8).toNat : Int))]) (fun _z : Unit => row p [.slice bo b.length bc_, .int .i64 (a : Nat), .bool sh] 107 :: H) ?_ ?_
 ·refine WC.seq ?_
  refine WC.draw 10 kr_ rfl ?_
  refine WA.float (N := 10) rfl ?_
  refine WAF.add (i := 0) (d := 6) rfl (QF.mk [] [] rfl rfl kr_ rfl (QAt.y Wt.none (Yd.move rfl))) ?_
  refine WAF.add (i := 1) (d := 7) rfl (QF.mk [0] [(6, _)] rfl rfl kr_ rfl (QAt.y Wt.none (Yd.notNil rfl))) ?_
  refine WAF.add (i := 2) (d := 8) rfl (QF.mk [1] [(7, _)] rfl rfl kr_ rfl (QAt.y Wt.none (Yd.fieldAddr (k := 1) kr_ rfl))) ?_
  refine WAF.add (i := 3) (d := 9) rfl (QF.mk [2] [(8, _)] rfl rfl kr_ rfl (QAt.rd Wt.none (Rd.load1 kr_ rfl mem_ (by rfl)))) ?_
  refine WAF.add (i := 4) (d := 10) rfl (QF.mk [] [] rfl rfl kr_ rfl (QAt.y Wt.none (Yd.move rfl))) ?_
  refine WAF.add (i := 5) (d := 11) rfl (QF.mk [4] [(10, _)] rfl rfl kr_ rfl (QAt.y Wt.none (Yd.notNil rfl))) ?_
  refine WAF.add (i := 6) (d := 12) rfl (QF.mk [5] [(11, _)] rfl rfl kr_ rfl (QAt.y Wt.none (Yd.fieldAddr (k := 0) kr_ rfl))) ?_
  refine WAF.add (i := 7) (d := 13) rfl (QF.mk [6] [(12, _)] rfl rfl kr_ rfl (QAt.rd Wt.none (Rd.load1 kr_ rfl mem_ (by rfl)))) ?_
  refine WAF.add (i := 8) (d := 14) rfl (QF.mk [7] [(13, _)] rfl rfl kr_ rfl (QAt.y Wt.none (Yd.len (e := 5) kr_ rfl))) ?_
  refine WAF.add (i := 9) (d := 15) rfl (QF.mk [8, 3] [(14, _), (9, _)] rfl rfl kr_ rfl (QAt.y Wt.none (Yd.lss rfl rfl))) ?_
  refine WAF.done (pd := [(9, 15), (8, 14), (7, 13), (6, 12), (5, 11), (4, 10), (3, 9), (2, 8), (1, 7), (0, 6)]) rfl kr_ kr_ (all_c rfl (all_c rfl (all_c rfl (all_c rfl (all_c rfl (all_c rfl (all_c rfl (all_c rfl (all_c rfl (all_c rfl (all_n))))))))))) (all_c (QF.mk [8, 3] [(14, _), (9, _)] rfl rfl kr_ rfl (QAt.y Wt.none (Yd.lss rfl rfl))) (all_c (QF.mk [7] [(13, _)] rfl rfl kr_ rfl (QAt.y Wt.none (Yd.len (e := 5) kr_ rfl))) (all_c (QF.mk [6] [(12, _)] rfl rfl kr_ rfl (QAt.rd Wt.none (Rd.load1 kr_ rfl mem_ (by rfl)))) (all_c (QF.mk [5] [(11, _)] rfl rfl kr_ rfl (QAt.y Wt.none (Yd.fieldAddr (k := 0) kr_ rfl))) (all_c (QF.mk [4] [(10, _)] rfl rfl kr_ rfl (QAt.y Wt.none (Yd.notNil rfl))) (all_c (QF.mk [] [] rfl rfl kr_ rfl (QAt.y Wt.none (Yd.move rfl))) (all_c (QF.mk [2] [(8, _)] rfl rfl kr_ rfl (QAt.rd Wt.none (Rd.load1 kr_ rfl mem_ (by rfl)))) (all_c (QF.mk [1] [(7, _)] rfl rfl kr_ rfl (QAt.y Wt.none (Yd.fieldAddr (k := 1) kr_ rfl))) (all_c (QF.mk [0] [(6, _)] rfl rfl kr_ rfl (QAt.y Wt.none (Yd.notNil rfl))) (all_c (QF.mk [] [] rfl rfl kr_ rfl (QAt.y Wt.none (Yd.move rfl))) (all_n))))))))))) ?_
  change DN _ _ _ _ _ _ ([(15, _), (14, _), (13, _), (12, _), (11, _), (10, _), (9, _), (8, _), (7, _), (6, _)] ++ _) _
  refine DN.then_normal ?_
  refine WC.ite rfl (fun h15 => ?_) (fun h15 => ?_)
  ·refine WC.draw 12 kr_ rfl ?_
   refine WA.float (N := 12) rfl ?_
   refine WAF.add (i := 0) (d := 16) rfl (QF.mk [] [] rfl rfl kr_ rfl (QAt.y Wt.none (Yd.move rfl))) ?_
   refine WAF.add (i := 1) (d := 17) rfl (QF.mk [0] [(16, _)] rfl rfl kr_ rfl (QAt.y Wt.none (Yd.notNil rfl))) ?_
   refine WAF.add (i := 2) (d := 18) rfl (QF.mk [1] [(17, _)] rfl rfl kr_ rfl (QAt.y Wt.none (Yd.fieldAddr (k := 0) kr_ rfl))) ?_
   refine WAF.add (i := 3) (d := 19) rfl (QF.mk [2] [(18, _)] rfl rfl kr_ rfl (QAt.rd Wt.none (Rd.load1 kr_ rfl mem_ (by rfl)))) ?_
   refine WAF.add (i := 4) (d := 20) rfl (QF.mk [] [] rfl rfl kr_ rfl (QAt.y Wt.none (Yd.move rfl))) ?_
   refine WAF.add (i := 5) (d := 21) rfl (QF.mk [4] [(20, _)] rfl rfl kr_ rfl (QAt.y Wt.none (Yd.notNil rfl))) ?_
   refine WAF.add (i := 6) (d := 22) rfl (QF.mk [5] [(21, _)] rfl rfl kr_ rfl (QAt.y Wt.none (Yd.fieldAddr (k := 1) kr_ rfl))) ?_
   refine WAF.add (i := 7) (d := 23) rfl (QF.mk [6] [(22, _)] rfl rfl kr_ rfl (QAt.rd Wt.none (Rd.load1 kr_ rfl mem_ (by rfl)))) ?_
   have hlt : a < b.length := by omega
   have hhd : (b.drop a).headD 0#8 = b[a] := by rw [List.drop_eq_getElem_cons hlt]; rfl
   obtain ⟨lb, lf, lcs, lT, lfr, lex, elo, _, hlm, hlcs⟩ := Rs.lies hv (by omega)
   rw [hhd]
   refine WAF.add (i := 8) (d := 24) rfl (QF.mk [7, 3] [(23, _), (19, _)] rfl rfl kr_ rfl (QAt.y Wt.none (Yd.indexAddr (e := 5) (s := 1) (b := lb) (o := lf) (n := b.length) (c := bc_) kr_ kr_ (congrArg (fun q => some (Value.slice q b.length bc_)) elo) rfl (by omega) (by omega)))) ?_
   refine WAF.add (i := 9) (d := 25) rfl (QF.mk [8] [(24, _)] rfl rfl kr_ rfl (QAt.rd Wt.none (Rd.load1 (v := .int .u8 b[a].toNat) (b := lb) (o := lf + (a : Int).toNat * 1) (cs := lcs) kr_ rfl (Gr.get2 gr_ hlm) (rs_cell1 hlcs (bc_get hlt))))) ?_
   refine WAF.add (i := 10) (d := 26) rfl (QF.mk [9] [(25, _)] rfl rfl kr_ rfl (QAt.y Wt.none (Yd.int8 _ kr_ kr_ rfl rfl))) ?_
   refine WAF.step (pd := [(10, 26), (9, 25), (8, 24), (7, 23), (6, 22), (5, 21), (4, 20), (3, 19), (2, 18), (1, 17), (0, 16)]) [(11, [10, 9, 8, 7, 6, 5, 4, 3, 2, 1, 0])] rfl kr_ kr_ (all_c rfl (all_c rfl (all_c rfl (all_c rfl (all_c rfl (all_c rfl (all_c rfl (all_c rfl (all_c rfl (all_c rfl (all_c rfl (all_n)))))))))))) (all_c (QF.mk [9] [(25, _)] rfl rfl kr_ rfl (QAt.y Wt.none (Yd.int8 _ kr_ kr_ rfl rfl))) (all_c (QF.mk [8] [(24, _)] rfl rfl kr_ rfl (QAt.rd Wt.none (Rd.load1 (v := .int .u8 b[a].toNat) (b := lb) (o := lf + (a : Int).toNat * 1) (cs := lcs) kr_ rfl (Gr.get2 gr_ hlm) (rs_cell1 hlcs (bc_get hlt))))) (all_c (QF.mk [7, 3] [(23, _), (19, _)] rfl rfl kr_ rfl (QAt.y Wt.none (Yd.indexAddr (e := 5) (s := 1) (b := lb) (o := lf) (n := b.length) (c := bc_) kr_ kr_ (congrArg (fun q => some (Value.slice q b.length bc_)) elo) rfl (by omega) (by omega)))) (all_c (QF.mk [6] [(22, _)] rfl rfl kr_ rfl (QAt.rd Wt.none (Rd.load1 kr_ rfl mem_ (by rfl)))) (all_c (QF.mk [5] [(21, _)] rfl rfl kr_ rfl (QAt.y Wt.none (Yd.fieldAddr (k := 1) kr_ rfl))) (all_c (QF.mk [4] [(20, _)] rfl rfl kr_ rfl (QAt.y Wt.none (Yd.notNil rfl))) (all_c (QF.mk [] [] rfl rfl kr_ rfl (QAt.y Wt.none (Yd.move rfl))) (all_c (QF.mk [2] [(18, _)] rfl rfl kr_ rfl (QAt.rd Wt.none (Rd.load1 kr_ rfl mem_ (by rfl)))) (all_c (QF.mk [1] [(17, _)] rfl rfl kr_ rfl (QAt.y Wt.none (Yd.fieldAddr (k := 0) kr_ rfl))) (all_c (QF.mk [0] [(16, _)] rfl rfl kr_ rfl (QAt.y Wt.none (Yd.notNil rfl))) (all_c (QF.mk [] [] rfl rfl kr_ rfl (QAt.y Wt.none (Yd.move rfl))) (all_n)))))))))))) (all_c ?_ (all_n))
   ·change SO _ _ _ _ _ _ 11 ([(26, _), (25, _), (24, _), (23, _), (22, _), (21, _), (20, _), (19, _), (18, _), (17, _), (16, _)] ++ _) _ _
    refine SO.y rfl Wt.none rfl (Yd.assign rfl) ?_
    change WAF _ _ _ _ _ _ [] _ [11, 10, 9, 8, 7, 6, 5, 4, 3, 2, 1, 0] ((3, _) :: ([(26, _), (25, _), (24, _), (23, _), (22, _), (21, _), (20, _), (19, _), (18, _), (17, _), (16, _)] ++ _)) _
    refine WAF.done (pd := []) rfl kr_ kr_ (all_n) (all_n) ?_
    change DN _ _ _ _ _ _ ([] ++ _) _
    exact DN.reachK (()) (trivial) (Sx.put rfl (sx_)) (Sp.all sp_)
  ·refine WC.skip ?_
   rw [show ((b.drop a).headD 0#8) = 0#8 by rw [List.drop_of_length_le (by omega)]; rfl]
   exact DN.reachK (()) (trivial) (Sx.put rfl (sx_)) (Sp.all sp_)
 ·intro _ _
  refine sr_ ?_
  refine m_ rfl rfl ?_
  refine m_ rfl rfl ?_
  refine WL.y rfl (Yd.add rfl rfl (by omega) (by omega)) ?_
  refine WL.renamed (t := 30) (v := .int .i64 ((txN (b.drop a) : Nat) : Int)) rfl (congrArg (Value.int .i64) (by unfold txN; omega)) ?_
  refine WL.c rfl (Ent.func Tryz.call80 rfl) (rtake_tells p _ b a sh H hv hl ha (txN (b.drop a)) (by omega)) (Sp.p sp_) ?_
  rintro x1 H1 ⟨w, A, a', rfl, hA, ha', hrest, rfl⟩
  obtain ⟨got, hgot⟩ : ∃ got, got = rdGot (b.drop a) sh (txN (b.drop a)) := ⟨_, rfl⟩
  rw [← hgot] at hA
  have htg : txGot (b.drop a) sh = got.drop 1 := by rw [hgot]; rfl
  obtain ⟨wo, wc, rfl, hwc⟩ := hA.form
  refine m_ rfl rfl ?_
  refine x_ rfl rfl rfl ?_
  refine x_ rfl rfl rfl ?_
  refine a_ rfl rfl ?_
  refine a_ rfl rfl ?_
  refine nt_ ?_
  refine WC.seq ?_
  refine sr_ ?_
  refine m_ rfl rfl ?_
  refine WL.y rfl (Yd.notB rfl) ?_
  refine nt_ ?_
  refine WC.cond rfl (fun h35 => ?_) (fun h35 => ?_)
  ·have hs1 : rdShort (b.drop a) sh (txN (b.drop a)) = true := by simpa using h35
   have hg0 : got = [] := by rw [hgot]; unfold rdGot; rw [hs1]; rfl
   refine sr_ ?_
   refine a_ rfl rfl ?_
   refine nt_ ?_
   refine WC.ret ?_
   refine DN.then_ret ?_
   refine DN.fit (C := row p [.slice bo b.length bc_, .int .i64 (a' : Nat), .bool (rdShort (b.drop a) sh (txN (b.drop a)))] 107 :: H) sp_ ?_
   refine DN.ret1 Tryz.results53 rfl ?_
   exact ⟨[], a', by rw [htg, hg0]; exact .inl ⟨_, _, rfl, rfl, rfl⟩, ha', hrest, rfl⟩
  ·have hs0 : rdShort (b.drop a) sh (txN (b.drop a)) = false := by simpa using h35
   have hgl : 1 ≤ got.length := by
     have h9 := hs0
     unfold rdShort at h9
     rw [Bool.or_eq_false_iff, decide_eq_false_iff_not] at h9
     rw [hgot]; unfold rdGot; rw [hs0, if_neg (by decide), List.length_take]
     have : 1 ≤ txN (b.drop a) := by unfold txN; omega
     omega
   refine WC.skip ?_
   refine ts_ ?_
   refine WC.region ?_
   refine m_ rfl rfl ?_
   refine WL.y rfl (Yd.slice (e := 5) (s := 1) (i := 1) (j := got.length) kr_ kr_ rfl ⟨_, _, rfl, rfl⟩ rfl (by omega) (by omega)) ?_
   refine a_ rfl rfl ?_
   refine nt_ ?_
   refine WC.ret ?_
   refine DN.fit (C := A ++ (row p [.slice bo b.length bc_, .int .i64 (a' : Nat), .bool (rdShort (b.drop a) sh (txN (b.drop a)))] 107 :: H)) sp_ ?_
   refine DN.ret1 Tryz.results53 rfl ?_
   exact ⟨A, a', by rw [htg]; have := hA.bs.sub (i := 1) (j := got.length) hgl (Nat.le_refl _); rw [List.take_of_length_le (by simp)] at this; exact this, ha', hrest, rfl⟩
end Go.Proofs.YtkamlondepceiaaGreat

set_option linter.unusedVariables false
set_option linter.unusedSimpArgs false
set_option maxHeartbeats 4000000
namespace Go.Proofs.YtkamlondepceiaaGreat
open Go.SL
theorem rencode_tells (w : Wk) (v : Value) (H : List Ck) (hv : Bs v w.name H) (hl : w.name.length ≤ 1000000) : Tells Tryz.prog 12 [.agg (wkc w v).toArray] H fun r H' => ∃ x A, r = .tuple #[x, .int .i64 (encE w)] ∧ Ob 5 x (encB w) A ∧ H' = A ++ H := by
 refine Tells.enter Tryz.func12 rfl Tryz.ntmps12 rfl ?_
 intro w0 R
 obtain ⟨no, nc, rfl, hnc⟩ := hv.form
 refine sr_ ?_
 refine WL.h rfl (Hd.boxA rfl fun b1 => ⟨_, rfl, ?_⟩)
 refine a_ rfl rfl ?_
 refine a_ rfl rfl ?_
 refine nt_ ?_
 refine WC.seq ?_
 refine WC.cutK (fun z : Bool => z = !decide (wkGood w)) (fun z : Bool => [(27, .bool z)]) (fun z : Bool => row b1 (wkc w (.slice no w.name.length nc)) 24 :: H) ?_ ?_
 ·refine WC.region ?_
  refine f_ 0 kr_ rfl rfl ?_
  refine d_ kr_ rfl mem_ (by rfl) rfl ?_
  refine WL.y rfl (Yd.lss rfl rfl) ?_
  refine m_ rfl rfl ?_
  refine WL.partP (t := 7) rfl (fun hg7 => ?_) (fun hg7 => ?_)
  ·iterate 3 refine gn_ 7 rfl rfl rfl rfl ?_
   refine WL.y rfl (Yd.pickT rfl rfl) ?_
   refine m_ rfl rfl ?_
   iterate 3 refine gn_ 12 rfl rfl rfl rfl ?_
   refine WL.y rfl (Yd.pickT rfl rfl) ?_
   refine m_ rfl rfl ?_
   iterate 3 refine gn_ 17 rfl rfl rfl rfl ?_
   refine WL.y rfl (Yd.pickT rfl rfl) ?_
   refine m_ rfl rfl ?_
   iterate 4 refine gn_ 22 rfl rfl rfl rfl ?_
   refine WL.y rfl (Yd.pickT rfl rfl) ?_
   refine WL.nil ?_
   exact DN.reachK (_) (wk_z (by unfold wkGood; simp only [decide_eq_true_eq, eq_self, true_iff, Bool.false_eq_true, false_iff]; omega)) (Sx.put rfl (sx_)) (Sp.all sp_)
  ·refine gy_ 7 rfl rfl rfl (Yd.fieldAddr (k := 0) kr_ rfl) ?_
   refine WL.gh (dj := 7) rfl rfl rfl (Hd.load1 kr_ rfl mem_ (by rfl) ⟨_, rfl, ?_⟩)
   refine gy_ 7 rfl rfl rfl (Yd.gtr rfl rfl) ?_
   refine WL.y rfl (Yd.pickF rfl rfl) ?_
   refine m_ rfl rfl ?_
   refine WL.partP (t := 12) rfl (fun hg12 => ?_) (fun hg12 => ?_)
   ·iterate 3 refine gn_ 12 rfl rfl rfl rfl ?_
    refine WL.y rfl (Yd.pickT rfl rfl) ?_
    refine m_ rfl rfl ?_
    iterate 3 refine gn_ 17 rfl rfl rfl rfl ?_
    refine WL.y rfl (Yd.pickT rfl rfl) ?_
    refine m_ rfl rfl ?_
    iterate 4 refine gn_ 22 rfl rfl rfl rfl ?_
    refine WL.y rfl (Yd.pickT rfl rfl) ?_
    refine WL.nil ?_
    exact DN.reachK (_) (wk_z (by unfold wkGood; simp only [decide_eq_true_eq, eq_self, true_iff, Bool.false_eq_true, false_iff]; omega)) (Sx.put rfl (sx_)) (Sp.all sp_)
   ·refine gy_ 12 rfl rfl rfl (Yd.fieldAddr (k := 1) kr_ rfl) ?_
    refine WL.gh (dj := 12) rfl rfl rfl (Hd.load1 kr_ rfl mem_ (by rfl) ⟨_, rfl, ?_⟩)
    refine gy_ 12 rfl rfl rfl (Yd.lss rfl rfl) ?_
    refine WL.y rfl (Yd.pickF rfl rfl) ?_
    refine m_ rfl rfl ?_
    refine WL.partP (t := 17) rfl (fun hg17 => ?_) (fun hg17 => ?_)
    ·iterate 3 refine gn_ 17 rfl rfl rfl rfl ?_
     refine WL.y rfl (Yd.pickT rfl rfl) ?_
     refine m_ rfl rfl ?_
     iterate 4 refine gn_ 22 rfl rfl rfl rfl ?_
     refine WL.y rfl (Yd.pickT rfl rfl) ?_
     refine WL.nil ?_
     exact DN.reachK (_) (wk_z (by unfold wkGood; simp only [decide_eq_true_eq, eq_self, true_iff, Bool.false_eq_true, false_iff]; omega)) (Sx.put rfl (sx_)) (Sp.all sp_)
    ·refine gy_ 17 rfl rfl rfl (Yd.fieldAddr (k := 1) kr_ rfl) ?_
     refine WL.gh (dj := 17) rfl rfl rfl (Hd.load1 kr_ rfl mem_ (by rfl) ⟨_, rfl, ?_⟩)
     refine gy_ 17 rfl rfl rfl (Yd.gtr rfl rfl) ?_
     refine WL.y rfl (Yd.pickF rfl rfl) ?_
     refine m_ rfl rfl ?_
     refine WL.partP (t := 22) rfl (fun hg22 => ?_) (fun hg22 => ?_)
     ·iterate 4 refine gn_ 22 rfl rfl rfl rfl ?_
      refine WL.y rfl (Yd.pickT rfl rfl) ?_
      refine WL.nil ?_
      exact DN.reachK (_) (wk_z (by unfold wkGood; simp only [decide_eq_true_eq, eq_self, true_iff, Bool.false_eq_true, false_iff]; omega)) (Sx.put rfl (sx_)) (Sp.all sp_)
     ·refine gy_ 22 rfl rfl rfl (Yd.fieldAddr (k := 2) kr_ rfl) ?_
      refine WL.gh (dj := 22) rfl rfl rfl (Hd.load1 kr_ rfl mem_ (by rfl) ⟨_, rfl, ?_⟩)
      refine gy_ 22 rfl rfl rfl (Yd.len (e := 5) kr_ rfl) ?_
      refine gy_ 22 rfl rfl rfl (Yd.gtr rfl rfl) ?_
      refine WL.y rfl (Yd.pickF rfl rfl) ?_
      refine WL.nil ?_
      exact DN.reachK (_) (wk_z (by unfold wkGood; simp only [decide_eq_true_eq, eq_self, true_iff, Bool.false_eq_true, false_iff]; omega)) (Sx.put rfl (sx_)) (Sp.all sp_)
 ·intro z hz
  refine WC.cond rfl (fun h27 => ?_) (fun h27 => ?_)
  ·have hb : ¬ wkGood w := by rw [hz] at h27; simpa using h27
   refine sr_ ?_
   refine a_ rfl rfl ?_
   refine a_ rfl rfl ?_
   refine nt_ ?_
   refine WC.ret ?_
   refine DN.then_ret ?_
   refine DN.fit (C := H) sp_ ?_
   refine DN.ret2 Tryz.results12 rfl rfl ?_
   rw [(enc_bad hb).1, (enc_bad hb).2]
   exact ⟨_, [], rfl, Ob.nil _, rfl⟩
  ·have hg : wkGood w := by rw [hz] at h27; simpa using h27
   have hF : FVs H ((fdc ⟨1, BitVec.ofInt 64 w.what, []⟩ (.slice none 0 0)) ++ (fdc ⟨4, BitVec.ofInt 64 w.n, []⟩ (.slice none 0 0)) ++ (fdc ⟨0, 0#64, w.name⟩ (.slice no w.name.length nc))) (fsW w) := FVs.cons (f := ⟨1, BitVec.ofInt 64 w.what, []⟩) (.inl ⟨_, _, rfl, rfl, rfl⟩) (FVs.cons (f := ⟨4, BitVec.ofInt 64 w.n, []⟩) (.inl ⟨_, _, rfl, rfl, rfl⟩) (FVs.cons (f := ⟨0, 0#64, w.name⟩) hv .nil))
   refine WC.skip ?_
   refine ts_ ?_
   refine WC.region ?_
   refine f_ 0 kr_ rfl rfl ?_
   refine d_ kr_ rfl mem_ (by rfl) rfl ?_
   refine WL.y rfl (Yd.to64 _ kr_ kr_ rfl rfl) ?_
   refine WL.y rfl (Yd.buildL (pl := [(0, 1), (1, 1), (2, 1)]) (zs := [.int .i64 0, .int .u64 0, .slice none 0 0]) (parts := [(0, .const (.int .i64 1)), (1, .tmp 30)]) (vs := [(0, _), (1, _)]) (cells := [_, _, .slice none 0 0]) kr_ kr_ rfl rfl) ?_
   refine f_ 1 kr_ rfl rfl ?_
   refine d_ kr_ rfl mem_ (by rfl) rfl ?_
   refine WL.y rfl (Yd.to64 _ kr_ kr_ rfl rfl) ?_
   refine WL.y rfl (Yd.buildL (pl := [(0, 1), (1, 1), (2, 1)]) (zs := [.int .i64 0, .int .u64 0, .slice none 0 0]) (parts := [(0, .const (.int .i64 4)), (1, .tmp 34)]) (vs := [(0, _), (1, _)]) (cells := [_, _, .slice none 0 0]) kr_ kr_ rfl rfl) ?_
   refine f_ 2 kr_ rfl rfl ?_
   refine d_ kr_ rfl mem_ (by rfl) rfl ?_
   refine WL.y rfl (Yd.buildL (pl := [(0, 1), (1, 1), (2, 1)]) (zs := [.int .i64 0, .int .u64 0, .slice none 0 0]) (parts := [(2, .tmp 37)]) (vs := [(2, _)]) (cells := [.int .i64 0, .int .u64 0, _]) kr_ kr_ rfl rfl) ?_
   refine WL.h rfl (Hd.buildSlice (e := 98) (sz := 3) (zs := [.int .i64 0, .int .u64 0, .slice none 0 0]) (parts := [(0, .tmp 31), (1, .tmp 35), (2, .tmp 38)]) (vs := [(0, .agg (fdc ⟨1, BitVec.ofInt 64 w.what, []⟩ (.slice none 0 0)).toArray), (1, .agg (fdc ⟨4, BitVec.ofInt 64 w.n, []⟩ (.slice none 0 0)).toArray), (2, .agg (fdc ⟨0, 0#64, w.name⟩ (.slice no w.name.length nc)).toArray)]) (cells := (fdc ⟨1, BitVec.ofInt 64 w.what, []⟩ (.slice none 0 0)) ++ (fdc ⟨4, BitVec.ofInt 64 w.n, []⟩ (.slice none 0 0)) ++ (fdc ⟨0, 0#64, w.name⟩ (.slice no w.name.length nc))) kr_ kr_ kr_ rfl kr_ kr_ fun b39 => ⟨_, rfl, ?_⟩)
   refine WL.c rfl (Ent.func Tryz.call46 rfl) (rput_tells _ ((fdc ⟨1, BitVec.ofInt 64 w.what, []⟩ (.slice none 0 0)) ++ (fdc ⟨4, BitVec.ofInt 64 w.n, []⟩ (.slice none 0 0)) ++ (fdc ⟨0, 0#64, w.name⟩ (.slice no w.name.length nc))) (fsW w) (row b39 ((fdc ⟨1, BitVec.ofInt 64 w.what, []⟩ (.slice none 0 0)) ++ (fdc ⟨4, BitVec.ofInt 64 w.n, []⟩ (.slice none 0 0)) ++ (fdc ⟨0, 0#64, w.name⟩ (.slice no w.name.length nc))) 98 :: H) (.inr ⟨b39, 0, 3, _, 98, (0, 0), true, rfl, Nat.le_refl _, List.mem_cons_self, rfl⟩) (hF.mono gr_) (by show 3 ≤ 3000; omega) (wfs_small w hl)) (Sp.p sp_) ?_
   rintro x1 H1 ⟨x2, A, rfl, hA, rfl⟩
   rw [putL_W hg] at hA ⊢
   refine x_ rfl rfl rfl ?_
   refine x_ rfl rfl rfl ?_
   refine a_ rfl rfl ?_
   refine a_ rfl rfl ?_
   refine nt_ ?_
   refine WC.ret ?_
   refine DN.fit (C := A ++ H) sp_ ?_
   refine DN.ret2 Tryz.results12 rfl rfl ?_
   rw [(enc_good hg).1, (enc_good hg).2]
   exact ⟨_, A, rfl, hA, rfl⟩
theorem rdecode_tells (v : Value) (b : List (BitVec 8)) (H : List Ck) (hv : Bs v b H) (hl : b.length ≤ 900000) : Tells Tryz.prog 14 [v] H fun r H' => ∃ x A, r = .tuple #[.agg (wkc (decW b) x).toArray, .int .i64 (decE b)] ∧ Bs x (decW b).name A ∧ H' = A ++ H := by
 refine Tells.enter Tryz.func14 rfl Tryz.ntmps14 rfl ?_
 intro w0 R
 obtain ⟨bo, bc9, rfl, hbc⟩ := hv.form
 have hq0 : b.drop 0 = (rW b).bs := rfl
 refine sr_ ?_
 refine WL.h rfl (Hd.alloc (zs := [.int .i64 0, .int .i64 0, .slice none 0 0]) kr_ fun b2 => ⟨_, rfl, ?_⟩)
 refine a_ rfl rfl ?_
 refine ntsr_ ?_
 refine m_ rfl rfl ?_
 refine WL.y rfl (Yd.buildL (pl := [(0, 1), (1, 1), (2, 1)]) (zs := [.slice none 0 0, .int .i64 0, .bool false]) (parts := [(0, .tmp 8)]) (vs := [(0, _)]) (cells := [_, .int .i64 0, .bool false]) kr_ kr_ rfl rfl) ?_
 refine WL.h rfl (Hd.boxA rfl fun p => ⟨_, rfl, ?_⟩)
 refine a_ rfl rfl ?_
 refine ntsr_ ?_
 refine m_ rfl rfl ?_
 refine WL.c rfl (Ent.func Tryz.call52 rfl) (rnum2_tells p (.slice bo b.length bc9) b 0 (rW b).sh H hv (by omega) (Nat.zero_le _) 1 (by omega)) (Sp.p sp_) ?_
 rintro x1 H1 ⟨a1, rfl, ha1, hd1, rfl⟩
 rw [hq0] at hd1 ⊢
 change b.drop a1 = ((rW b).on 1).bs at hd1
 refine WL.renamed (t := 12) (v := .int .u64 (((rW b).u8.toNat : Nat) : Int)) rfl (congrArg (fun q : Nat => Value.int .u64 (q : Int)) (Rst.u8_nat2 (rW b))) ?_
 refine WL.y rfl (Yd.toInt kr_ kr_ rfl (by omega) (by omega)) ?_
 refine WL.y rfl (Yd.buildL (pl := [(0, 1), (1, 1), (2, 1)]) (zs := [.int .i64 0, .int .i64 0, .slice none 0 0]) (parts := [(0, .tmp 13)]) (vs := [(0, _)]) (cells := [_, .int .i64 0, .slice none 0 0]) kr_ kr_ rfl rfl) ?_
 refine WL.h rfl (Hd.alloc (zs := [.int .i64 0, .int .i64 0, .slice none 0 0]) kr_ fun b5 => ⟨_, rfl, ?_⟩)
 refine WL.s (Hd.storeAll (n := 3) kr_ rfl rfl (by rfl) one_ fr_ (by rfl) ⟨rfl, ?_⟩)
 refine ntsr_ ?_
 refine m_ rfl rfl ?_
 refine WL.c rfl (Ent.func Tryz.call52 rfl) (rnum2_tells p (.slice bo b.length bc9) b a1 ((rW b).on 1).sh H hv (by omega) ha1 4 (by omega)) (Sp.p sp_) ?_
 rintro x2 H2 ⟨a2, rfl, ha2, hd2, rfl⟩
 rw [hd1] at hd2 ⊢
 change b.drop a2 = (((rW b).on 1).on 4).bs at hd2
 refine WL.renamed (t := 16) (v := .int .u64 ((((rW b).on 1).u32.toNat : Nat) : Int)) rfl (congrArg (fun q : Nat => Value.int .u64 (q : Int)) (Rst.u32_nat ((rW b).on 1))) ?_
 refine WL.y rfl (Yd.toInt kr_ kr_ rfl (by omega) (by omega)) ?_
 refine f_ 1 kr_ rfl rfl ?_
 refine WL.s (Hd.store1s kr_ rfl rfl (by rfl) fr_ (by rfl) (by first | (simp only [List.set_cons_zero, List.set_cons_succ, Nat.zero_add, Nat.add_zero, Nat.reduceAdd]; rfl) | rfl) ⟨rfl, ?_⟩)
 refine ntsr_ ?_
 refine m_ rfl rfl ?_
 refine WL.c rfl (Ent.func Tryz.call53 rfl) (rtext2_tells p (.slice bo b.length bc9) b a2 (((rW b).on 1).on 4).sh H hv (by omega) ha2) (Sp.p sp_) ?_
 rintro x3 H3 ⟨A3, a3, hA3, ha3, hd3, rfl⟩
 rw [hd2] at hA3 hd3 ⊢
 obtain ⟨o3, c3, rfl, _⟩ := hA3.form
 refine f_ 2 kr_ rfl rfl ?_
 refine WL.s (Hd.store1s kr_ rfl rfl (by rfl) fr_ (by rfl) (by first | (simp only [List.set_cons_zero, List.set_cons_succ, Nat.zero_add, Nat.add_zero, Nat.reduceAdd]; rfl) | rfl) ⟨rfl, ?_⟩)
 refine ntsr_ ?_
 refine WL.h rfl (Hd.loadAll (n := 3) kr_ rfl mem_ (by rfl) ⟨_, rfl, ?_⟩)
 refine WL.c rfl (Ent.func Tryz.call12 rfl) (rencode_tells (wkOf b) (.slice o3 (wkOf b).name.length c3) A3 hA3 (Nat.le_trans (txGot_len _ _) (by decide))) (Sp.p sp_) ?_
 rintro x4 H4 ⟨x5, A5, rfl, hA5, rfl⟩
 obtain ⟨o5, c5, rfl, _⟩ := hA5.form
 refine m_ rfl rfl ?_
 refine x_ rfl rfl rfl ?_
 refine x_ rfl rfl rfl ?_
 refine a_ rfl rfl ?_
 refine a_ rfl rfl ?_
 refine nt_ ?_
 refine WC.seq ?_
 refine WC.cutK (fun z : Bool => z = decide (decBad b)) (fun z : Bool => [(35, .bool z)]) (fun z : Bool => row b5 (wkc (wkOf b) (.slice o3 (wkOf b).name.length c3)) 24 :: (A3 ++ (row b2 [.int .i64 0, .int .i64 0, .slice none 0 0] 24 :: H))) ?_ ?_
 ·refine WC.region ?_
  refine m_ rfl rfl ?_
  refine WL.y rfl (Yd.neq rfl rfl) ?_
  refine m_ rfl rfl ?_
  refine WL.partP (t := 29) rfl (fun hg29 => ?_) (fun hg29 => ?_)
  ·iterate 5 refine gn_ 29 rfl rfl rfl rfl ?_
   refine WL.y rfl (Yd.pickT rfl rfl) ?_
   refine WL.nil ?_
   exact DN.reachS (_) (by first | exact wrg_a hg29 | exact wrg_b hg29) (Sx.put rfl (sx_)) sp_
  ·refine gy_ 29 rfl rfl rfl (Yd.move rfl) ?_
   refine WL.gh (dj := 29) rfl rfl rfl (Hd.toStr (e := 5) (bs := encB (wkOf b)) kr_ kr_ Tryz.underlying9 rfl (hA5.bs.mono gr_) ⟨_, rfl, ?_⟩)
   refine gy_ 29 rfl rfl rfl (Yd.move rfl) ?_
   refine WL.gh (dj := 29) rfl rfl rfl (Hd.toStr (e := 5) (bs := b) kr_ kr_ Tryz.underlying9 rfl (hv.mono gr_) ⟨_, rfl, ?_⟩)
   refine gy_ 29 rfl rfl rfl (Yd.neqS rfl rfl) ?_
   refine WL.y rfl (Yd.pickF rfl rfl) ?_
   refine WL.nil ?_
   exact DN.reachS (_) (by first | exact wrg_a hg29 | exact wrg_b hg29) (Sx.put rfl (sx_)) sp_
 ·intro z9 hz9
  refine WC.cond rfl (fun h35 => ?_) (fun h35 => ?_)
  ·have hb : decBad b := of_decide_eq_true (hz9.symm.trans h35)
   refine sr_ ?_
   refine WL.y rfl (Yd.buildL (pl := [(0, 1), (1, 1), (2, 1)]) (zs := [.int .i64 0, .int .i64 0, .slice none 0 0]) (parts := []) (vs := []) (cells := [.int .i64 0, .int .i64 0, .slice none 0 0]) kr_ kr_ rfl rfl) ?_
   refine WL.s (Hd.storeAll (n := 3) kr_ rfl rfl (by rfl) one_ fr_ (by rfl) ⟨rfl, ?_⟩)
   refine a_ rfl rfl ?_
   refine nt_ ?_
   refine WC.ret ?_
   refine DN.then_ret ?_
   refine DN.retCT (s := 3) H Tryz.results14 kr_ rfl rfl mem_ (by rfl) sp_ ?_
   rw [show decW b = Wk.z from if_pos hb, show decE b = 120 from if_pos hb]
   exact ⟨_, [], rfl, .inl ⟨_, _, rfl, rfl, rfl⟩, rfl⟩
  ·have hb : ¬ decBad b := of_decide_eq_false (hz9.symm.trans h35)
   refine WC.skip ?_
   refine ts_ ?_
   refine WC.region ?_
   refine WL.h rfl (Hd.loadAll (n := 3) kr_ rfl mem_ (by rfl) ⟨_, rfl, ?_⟩)
   refine WL.s (Hd.storeAll (n := 3) kr_ rfl rfl (by rfl) one_ fr_ (by rfl) ⟨rfl, ?_⟩)
   refine a_ rfl rfl ?_
   refine nt_ ?_
   refine WC.ret ?_
   refine DN.retCT (s := 3) (A3 ++ H) Tryz.results14 kr_ rfl rfl mem_ (by rfl) sp_ ?_
   rw [show decW b = wkOf b from if_neg hb, show decE b = 0 from if_neg hb]
   exact ⟨_, A3, rfl, hA3, rfl⟩
end Go.Proofs.YtkamlondepceiaaGreat

set_option linter.unusedVariables false
set_option linter.unusedSimpArgs false
set_option maxHeartbeats 4000000
namespace Go.Proofs.YtkamlondepceiaaGreat
open Go.SL
theorem step_tells (ep o : BitVec 32) (st : Int) (u : Bool) (w : Wk) (v : Value) (H : List Ck) (hv : Bs v w.name H) (hl : w.name.length ≤ 1000000) : Tells Tryz.prog 39 [.int .u32 ep.toNat, .int .u32 o.toNat, .int .i64 st, .bool u, .agg (wkc w v).toArray] H fun r H' => ∃ x A, r = .agg (ntc (stepW ep o st u (encB w)) (.slice none 0 0) x).toArray ∧ Ob 5 x (encB w) A ∧ H' = A ++ H := by
 refine Tells.enter Tryz.func39 rfl Tryz.ntmps39 rfl ?_
 intro w0 R
 obtain ⟨no, nc, rfl, hnc⟩ := hv.form
 refine sr_ ?_
 refine WL.h rfl (Hd.boxA rfl fun b9 => ⟨_, rfl, ?_⟩)
 refine WL.h rfl (Hd.alloc (zs := [.int .i64 0, .int .u32 0, .int .u32 0, .int .u64 0, .int .u64 0, .int .u32 0, .int .i64 0, .bool false, .int .i64 0, .slice none 0 0, .slice none 0 0]) kr_ fun b10 => ⟨_, rfl, ?_⟩)
 refine ntsr_ ?_
 refine WL.h rfl (Hd.loadAll (n := 3) kr_ rfl mem_ (by rfl) ⟨_, rfl, ?_⟩)
 refine WL.c rfl (Ent.func Tryz.call12 rfl) (rencode_tells w _ H hv hl) (Sp.p sp_) ?_
 rintro x0 H9 ⟨x, A, rfl, hA, rfl⟩
 obtain ⟨xo, xc, rfl, _⟩ := hA.form
 refine m_ rfl rfl ?_
 refine x_ rfl rfl rfl ?_
 refine x_ rfl rfl rfl ?_
 refine a_ rfl rfl ?_
 refine a_ rfl rfl ?_
 refine ntsr_ ?_
 iterate 5 refine m_ rfl rfl ?_
 refine WL.y rfl (Yd.buildL (pl := [(0, 1), (1, 1), (2, 1), (3, 1), (4, 1), (5, 1), (6, 1), (7, 1), (8, 1), (9, 1), (10, 1)]) (zs := [.int .i64 0, .int .u32 0, .int .u32 0, .int .u64 0, .int .u64 0, .int .u32 0, .int .i64 0, .bool false, .int .i64 0, .slice none 0 0, .slice none 0 0]) (parts := [(0, .const (.int .i64 7)), (1, .tmp 18), (5, .tmp 19), (6, .tmp 20), (7, .tmp 21), (10, .tmp 22)]) (vs := [(0, _), (1, _), (5, _), (6, _), (7, _), (10, _)]) (cells := [_, _, .int .u32 0, .int .u64 0, .int .u64 0, _, _, _, .int .i64 0, .slice none 0 0, _]) kr_ kr_ rfl rfl) ?_
 refine WL.s (Hd.storeAll (n := 11) kr_ rfl rfl (by rfl) one_ fr_ (by rfl) ⟨rfl, ?_⟩)
 refine nt_ ?_
 refine WC.ret ?_
 refine DN.retCS (s := 11) (A ++ H) Tryz.results39 kr_ rfl mem_ (by rfl) sp_ ?_
 exact ⟨_, A, rfl, hA, rfl⟩
end Go.Proofs.YtkamlondepceiaaGreat

set_option linter.unusedVariables false
set_option linter.unusedSimpArgs false
set_option maxHeartbeats 4000000
namespace Go.Proofs.YtkamlondepceiaaGreat
open Go.SL
theorem note_tells (a : As) (vn vd : Value) (H : List Ck) (hn : Bs vn a.w.name H) (hd : Bs vd a.data H) (hl : a.w.name.length ≤ 1000000) : Tells Tryz.prog 20 [.agg (asc a vn vd).toArray] H fun r H' => ∃ x A, r = .agg (ntc (noteA a) (.slice none 0 0) x).toArray ∧ Bs x (noteA a).data (A ++ H) ∧ H' = A ++ H := by
 refine Tells.enter Tryz.func20 rfl Tryz.ntmps20 rfl ?_
 intro w0 R
 obtain ⟨no, nc, rfl, hnc⟩ := hn.form
 obtain ⟨do_, dc, rfl, hdc⟩ := hd.form
 refine sr_ ?_
 refine WL.h rfl (Hd.boxA rfl fun b1 => ⟨_, rfl, ?_⟩)
 refine WL.h rfl (Hd.alloc (zs := [.int .i64 0, .int .u32 0, .int .u32 0, .int .u64 0, .int .u64 0, .int .u32 0, .int .i64 0, .bool false, .int .i64 0, .slice none 0 0, .slice none 0 0]) kr_ fun b2 => ⟨_, rfl, ?_⟩)
 refine ntsr_ ?_
 refine f_ 0 kr_ rfl rfl ?_
 refine d_ kr_ rfl mem_ (by rfl) rfl ?_
 refine f_ 1 kr_ rfl rfl ?_
 refine d_ kr_ rfl mem_ (by rfl) rfl ?_
 refine f_ 2 kr_ rfl rfl ?_
 refine d_ kr_ rfl mem_ (by rfl) rfl ?_
 refine f_ 3 kr_ rfl rfl ?_
 refine d_ kr_ rfl mem_ (by rfl) rfl ?_
 refine f_ 4 kr_ rfl rfl ?_
 refine WL.h rfl (Hd.loadA (n := 3) (vs := [_, _, _]) kr_ rfl mem_ (by rfl) (by rfl) ⟨_, rfl, ?_⟩)
 refine WL.c rfl (Ent.func Tryz.call39 rfl) (step_tells a.ep a.o a.st a.u a.w _ H hn hl) (Sp.p sp_) ?_
 rintro x0 H9 ⟨x, A, rfl, hA, rfl⟩
 obtain ⟨xo, xc, rfl, _⟩ := hA.form
 refine WL.h rfl (Hd.alloc (zs := [.int .i64 0, .int .u32 0, .int .u32 0, .int .u64 0, .int .u64 0, .int .u32 0, .int .i64 0, .bool false, .int .i64 0, .slice none 0 0, .slice none 0 0]) kr_ fun b3 => ⟨_, rfl, ?_⟩)
 refine WL.s (Hd.storeAll (n := 11) kr_ rfl rfl (by rfl) one_ fr_ (by rfl) ⟨rfl, ?_⟩)
 refine nt_ ?_
 refine WC.seq ?_
 refine sr_ ?_
 refine f_ 7 kr_ rfl rfl ?_
 refine d_ kr_ rfl mem_ (by rfl) rfl ?_
 refine WL.y rfl (Yd.len (e := 5) kr_ rfl) ?_
 refine WL.y rfl (Yd.gtr rfl rfl) ?_
 refine nt_ ?_
 refine WC.ite rfl (fun h18 => ?_) (fun h18 => ?_)
 ·have hp : 0 < a.data.length := by omega
  refine WC.region ?_
  refine f_ 7 kr_ rfl rfl ?_
  refine d_ kr_ rfl mem_ (by rfl) rfl ?_
  refine f_ 10 kr_ rfl rfl ?_
  refine WL.s (Hd.store1s kr_ rfl rfl (by rfl) fr_ (by rfl) (by first | (simp only [List.set_cons_zero, List.set_cons_succ, Nat.zero_add, Nat.add_zero, Nat.reduceAdd]; rfl) | rfl) ⟨rfl, ?_⟩)
  refine ntsr_ ?_
  refine WL.h rfl (Hd.loadAll (n := 11) kr_ rfl mem_ (by rfl) ⟨_, rfl, ?_⟩)
  refine WL.s (Hd.storeAll (n := 11) kr_ rfl rfl (by rfl) one_ fr_ (by rfl) ⟨rfl, ?_⟩)
  refine nt_ ?_
  refine WC.ret ?_
  refine DN.retCS (s := 11) H Tryz.results20 kr_ rfl mem_ (by rfl) sp_ ?_
  refine ⟨.slice do_ a.data.length dc, [], ?_, ?_, rfl⟩
  · unfold noteA; rw [if_pos hp]; try rfl
  · unfold noteA; rw [if_pos hp]; exact hd
 ·have hp : ¬ 0 < a.data.length := by omega
  refine WC.skip ?_
  refine ts_ ?_
  refine WC.region ?_
  refine WL.h rfl (Hd.loadAll (n := 11) kr_ rfl mem_ (by rfl) ⟨_, rfl, ?_⟩)
  refine WL.s (Hd.storeAll (n := 11) kr_ rfl rfl (by rfl) one_ fr_ (by rfl) ⟨rfl, ?_⟩)
  refine nt_ ?_
  refine WC.ret ?_
  refine DN.retCS (s := 11) (A ++ H) Tryz.results20 kr_ rfl mem_ (by rfl) sp_ ?_
  refine ⟨.slice xo (encB a.w).length xc, A, ?_, ?_, rfl⟩
  · unfold noteA; rw [if_neg hp]; try rfl
  · unfold noteA; rw [if_neg hp]; exact hA.bs.mono gr_
end Go.Proofs.YtkamlondepceiaaGreat

set_option linter.unusedVariables false
set_option linter.unusedSimpArgs false
set_option maxHeartbeats 4000000
namespace Go.Proofs.YtkamlondepceiaaGreat
open Go.SL
theorem same05_reads (a b : Nt) (vk vd uk ud : Value) (H : List Ck) (h1 : Bs vk a.key H) (h2 : Bs vd a.data H) (h3 : Bs uk b.key H) (h4 : Bs ud b.data H) : Reads Tryz.prog 34 [.agg (ntc a vk vd).toArray, .agg (ntc b uk ud).toArray] H (.bool (sameNt a b)) := by
 refine Tells.enter Tryz.func34 rfl Tryz.ntmps34 rfl ?_
 intro w0 R
 obtain ⟨o1, c1, rfl, _⟩ := h1.form
 obtain ⟨o2, c2, rfl, _⟩ := h2.form
 obtain ⟨o3, c3, rfl, _⟩ := h3.form
 obtain ⟨o4, c4, rfl, _⟩ := h4.form
 refine sr_ ?_
 refine WL.h rfl (Hd.boxA rfl fun b2 => ⟨_, rfl, ?_⟩)
 refine WL.h rfl (Hd.boxA rfl fun b3 => ⟨_, rfl, ?_⟩)
 refine a_ rfl rfl ?_
 refine ntsr_ ?_
 refine f_ 0 kr_ rfl rfl ?_
 refine d_ kr_ rfl mem_ (by rfl) rfl ?_
 refine f_ 0 kr_ rfl rfl ?_
 refine d_ kr_ rfl mem_ (by rfl) rfl ?_
 refine WL.y rfl (Yd.eql rfl rfl) ?_
 refine m_ rfl rfl ?_
 refine WL.partP (t := 10) rfl (fun hg10 => ?_) (fun hg10 => ?_)
 ·refine gy_ 10 rfl rfl rfl (Yd.fieldAddr (k := 1) kr_ rfl) ?_
  refine WL.gh (dj := 10) rfl rfl rfl (Hd.load1 kr_ rfl mem_ (by rfl) ⟨_, rfl, ?_⟩)
  refine gy_ 10 rfl rfl rfl (Yd.fieldAddr (k := 1) kr_ rfl) ?_
  refine WL.gh (dj := 10) rfl rfl rfl (Hd.load1 kr_ rfl mem_ (by rfl) ⟨_, rfl, ?_⟩)
  refine gy_ 10 rfl rfl rfl (Yd.eql32 _ _ rfl rfl rfl rfl) ?_
  refine WL.y rfl (Yd.pickT rfl rfl) ?_
  refine m_ rfl rfl ?_
  refine WL.partP (t := 17) rfl (fun hg17 => ?_) (fun hg17 => ?_)
  ·refine gy_ 17 rfl rfl rfl (Yd.fieldAddr (k := 2) kr_ rfl) ?_
   refine WL.gh (dj := 17) rfl rfl rfl (Hd.load1 kr_ rfl mem_ (by rfl) ⟨_, rfl, ?_⟩)
   refine gy_ 17 rfl rfl rfl (Yd.fieldAddr (k := 2) kr_ rfl) ?_
   refine WL.gh (dj := 17) rfl rfl rfl (Hd.load1 kr_ rfl mem_ (by rfl) ⟨_, rfl, ?_⟩)
   refine gy_ 17 rfl rfl rfl (Yd.eql32 _ _ rfl rfl rfl rfl) ?_
   refine WL.y rfl (Yd.pickT rfl rfl) ?_
   refine m_ rfl rfl ?_
   refine WL.partP (t := 24) rfl (fun hg24 => ?_) (fun hg24 => ?_)
   ·refine gy_ 24 rfl rfl rfl (Yd.fieldAddr (k := 3) kr_ rfl) ?_
    refine WL.gh (dj := 24) rfl rfl rfl (Hd.load1 kr_ rfl mem_ (by rfl) ⟨_, rfl, ?_⟩)
    refine gy_ 24 rfl rfl rfl (Yd.fieldAddr (k := 3) kr_ rfl) ?_
    refine WL.gh (dj := 24) rfl rfl rfl (Hd.load1 kr_ rfl mem_ (by rfl) ⟨_, rfl, ?_⟩)
    refine gy_ 24 rfl rfl rfl (Yd.eql64 _ _ rfl rfl rfl rfl) ?_
    refine WL.y rfl (Yd.pickT rfl rfl) ?_
    refine m_ rfl rfl ?_
    refine WL.partP (t := 31) rfl (fun hg31 => ?_) (fun hg31 => ?_)
    ·refine gy_ 31 rfl rfl rfl (Yd.fieldAddr (k := 4) kr_ rfl) ?_
     refine WL.gh (dj := 31) rfl rfl rfl (Hd.load1 kr_ rfl mem_ (by rfl) ⟨_, rfl, ?_⟩)
     refine gy_ 31 rfl rfl rfl (Yd.fieldAddr (k := 4) kr_ rfl) ?_
     refine WL.gh (dj := 31) rfl rfl rfl (Hd.load1 kr_ rfl mem_ (by rfl) ⟨_, rfl, ?_⟩)
     refine gy_ 31 rfl rfl rfl (Yd.eql64 _ _ rfl rfl rfl rfl) ?_
     refine WL.y rfl (Yd.pickT rfl rfl) ?_
     refine m_ rfl rfl ?_
     refine WL.partP (t := 38) rfl (fun hg38 => ?_) (fun hg38 => ?_)
     ·refine gy_ 38 rfl rfl rfl (Yd.fieldAddr (k := 5) kr_ rfl) ?_
      refine WL.gh (dj := 38) rfl rfl rfl (Hd.load1 kr_ rfl mem_ (by rfl) ⟨_, rfl, ?_⟩)
      refine gy_ 38 rfl rfl rfl (Yd.fieldAddr (k := 5) kr_ rfl) ?_
      refine WL.gh (dj := 38) rfl rfl rfl (Hd.load1 kr_ rfl mem_ (by rfl) ⟨_, rfl, ?_⟩)
      refine gy_ 38 rfl rfl rfl (Yd.eql32 _ _ rfl rfl rfl rfl) ?_
      refine WL.y rfl (Yd.pickT rfl rfl) ?_
      refine m_ rfl rfl ?_
      refine WL.partP (t := 45) rfl (fun hg45 => ?_) (fun hg45 => ?_)
      ·refine gy_ 45 rfl rfl rfl (Yd.fieldAddr (k := 6) kr_ rfl) ?_
       refine WL.gh (dj := 45) rfl rfl rfl (Hd.load1 kr_ rfl mem_ (by rfl) ⟨_, rfl, ?_⟩)
       refine gy_ 45 rfl rfl rfl (Yd.fieldAddr (k := 6) kr_ rfl) ?_
       refine WL.gh (dj := 45) rfl rfl rfl (Hd.load1 kr_ rfl mem_ (by rfl) ⟨_, rfl, ?_⟩)
       refine gy_ 45 rfl rfl rfl (Yd.eql rfl rfl) ?_
       refine WL.y rfl (Yd.pickT rfl rfl) ?_
       refine m_ rfl rfl ?_
       refine WL.partP (t := 52) rfl (fun hg52 => ?_) (fun hg52 => ?_)
       ·refine gy_ 52 rfl rfl rfl (Yd.fieldAddr (k := 7) kr_ rfl) ?_
        refine WL.gh (dj := 52) rfl rfl rfl (Hd.load1 kr_ rfl mem_ (by rfl) ⟨_, rfl, ?_⟩)
        refine gy_ 52 rfl rfl rfl (Yd.fieldAddr (k := 7) kr_ rfl) ?_
        refine WL.gh (dj := 52) rfl rfl rfl (Hd.load1 kr_ rfl mem_ (by rfl) ⟨_, rfl, ?_⟩)
        refine gy_ 52 rfl rfl rfl (Yd.eqlB Tryz.underlying4 rfl rfl) ?_
        refine WL.y rfl (Yd.pickT rfl rfl) ?_
        refine m_ rfl rfl ?_
        refine WL.part (t := 59) rfl (fun hg59 => ?_) (fun hg59 => ?_)
        ·refine gy_ 59 rfl rfl rfl (Yd.fieldAddr (k := 8) kr_ rfl) ?_
         refine WL.gh (dj := 59) rfl rfl rfl (Hd.load1 kr_ rfl mem_ (by rfl) ⟨_, rfl, ?_⟩)
         refine gy_ 59 rfl rfl rfl (Yd.fieldAddr (k := 8) kr_ rfl) ?_
         refine WL.gh (dj := 59) rfl rfl rfl (Hd.load1 kr_ rfl mem_ (by rfl) ⟨_, rfl, ?_⟩)
         refine gy_ 59 rfl rfl rfl (Yd.eql rfl rfl) ?_
         refine WL.y rfl (Yd.pickT rfl rfl) ?_
         refine m_ rfl rfl ?_
         refine WL.partP (t := 66) rfl (fun hg66 => ?_) (fun hg66 => ?_)
         ·refine gy_ 66 rfl rfl rfl (Yd.fieldAddr (k := 9) kr_ rfl) ?_
          refine WL.gh (dj := 66) rfl rfl rfl (Hd.load1 kr_ rfl mem_ (by rfl) ⟨_, rfl, ?_⟩)
          refine WL.gh (dj := 66) rfl rfl rfl (Hd.toStr (e := 5) (bs := a.key) kr_ kr_ Tryz.underlying9 rfl (h1.mono gr_) ⟨_, rfl, ?_⟩)
          refine gy_ 66 rfl rfl rfl (Yd.fieldAddr (k := 9) kr_ rfl) ?_
          refine WL.gh (dj := 66) rfl rfl rfl (Hd.load1 kr_ rfl mem_ (by rfl) ⟨_, rfl, ?_⟩)
          refine WL.gh (dj := 66) rfl rfl rfl (Hd.toStr (e := 5) (bs := b.key) kr_ kr_ Tryz.underlying9 rfl (h3.mono gr_) ⟨_, rfl, ?_⟩)
          refine gy_ 66 rfl rfl rfl (Yd.eqlS rfl rfl) ?_
          refine WL.y rfl (Yd.pickT rfl rfl) ?_
          refine m_ rfl rfl ?_
          refine WL.partP (t := 75) rfl (fun hg75 => ?_) (fun hg75 => ?_)
          ·refine gy_ 75 rfl rfl rfl (Yd.fieldAddr (k := 10) kr_ rfl) ?_
           refine WL.gh (dj := 75) rfl rfl rfl (Hd.load1 kr_ rfl mem_ (by rfl) ⟨_, rfl, ?_⟩)
           refine WL.gh (dj := 75) rfl rfl rfl (Hd.toStr (e := 5) (bs := a.data) kr_ kr_ Tryz.underlying9 rfl (h2.mono gr_) ⟨_, rfl, ?_⟩)
           refine gy_ 75 rfl rfl rfl (Yd.fieldAddr (k := 10) kr_ rfl) ?_
           refine WL.gh (dj := 75) rfl rfl rfl (Hd.load1 kr_ rfl mem_ (by rfl) ⟨_, rfl, ?_⟩)
           refine WL.gh (dj := 75) rfl rfl rfl (Hd.toStr (e := 5) (bs := b.data) kr_ kr_ Tryz.underlying9 rfl (h4.mono gr_) ⟨_, rfl, ?_⟩)
           refine gy_ 75 rfl rfl rfl (Yd.eqlS rfl rfl) ?_
           refine WL.y rfl (Yd.pickT rfl rfl) ?_
           refine a_ rfl rfl ?_
           refine nt_ ?_
           refine WC.ret ?_
           refine DN.fit (C := H) sp_ ?_
           refine DN.ret1 Tryz.results34 rfl ?_
           exact ⟨by congr 1; symm; simp only [sameNt, *, decide_true, decide_false, Bool.true_and, Bool.false_and], rfl⟩
          ·iterate 7 refine gn_ 75 rfl rfl rfl rfl ?_
           refine WL.y rfl (Yd.pickF rfl rfl) ?_
           refine a_ rfl rfl ?_
           refine nt_ ?_
           refine WC.ret ?_
           refine DN.fit (C := H) sp_ ?_
           refine DN.ret1 Tryz.results34 rfl ?_
           exact ⟨by congr 1; symm; simp only [sameNt, *, decide_true, decide_false, Bool.true_and, Bool.false_and], rfl⟩
         ·iterate 7 refine gn_ 66 rfl rfl rfl rfl ?_
          refine WL.y rfl (Yd.pickF rfl rfl) ?_
          refine m_ rfl rfl ?_
          iterate 7 refine gn_ 75 rfl rfl rfl rfl ?_
          refine WL.y rfl (Yd.pickF rfl rfl) ?_
          refine a_ rfl rfl ?_
          refine nt_ ?_
          refine WC.ret ?_
          refine DN.fit (C := H) sp_ ?_
          refine DN.ret1 Tryz.results34 rfl ?_
          exact ⟨by congr 1; symm; simp only [sameNt, *, decide_true, decide_false, Bool.true_and, Bool.false_and], rfl⟩
        ·iterate 5 refine gn_ 59 rfl rfl rfl rfl ?_
         refine WL.y rfl (Yd.pickF rfl rfl) ?_
         refine m_ rfl rfl ?_
         iterate 7 refine gn_ 66 rfl rfl rfl rfl ?_
         refine WL.y rfl (Yd.pickF rfl rfl) ?_
         refine m_ rfl rfl ?_
         iterate 7 refine gn_ 75 rfl rfl rfl rfl ?_
         refine WL.y rfl (Yd.pickF rfl rfl) ?_
         refine a_ rfl rfl ?_
         refine nt_ ?_
         refine WC.ret ?_
         refine DN.fit (C := H) sp_ ?_
         refine DN.ret1 Tryz.results34 rfl ?_
         exact ⟨by congr 1; symm; simp only [sameNt, *, decide_true, decide_false, Bool.true_and, Bool.false_and], rfl⟩
       ·iterate 5 refine gn_ 52 rfl rfl rfl rfl ?_
        refine WL.y rfl (Yd.pickF rfl rfl) ?_
        refine m_ rfl rfl ?_
        iterate 5 refine gn_ 59 rfl rfl rfl rfl ?_
        refine WL.y rfl (Yd.pickF rfl rfl) ?_
        refine m_ rfl rfl ?_
        iterate 7 refine gn_ 66 rfl rfl rfl rfl ?_
        refine WL.y rfl (Yd.pickF rfl rfl) ?_
        refine m_ rfl rfl ?_
        iterate 7 refine gn_ 75 rfl rfl rfl rfl ?_
        refine WL.y rfl (Yd.pickF rfl rfl) ?_
        refine a_ rfl rfl ?_
        refine nt_ ?_
        refine WC.ret ?_
        refine DN.fit (C := H) sp_ ?_
        refine DN.ret1 Tryz.results34 rfl ?_
        exact ⟨by congr 1; symm; simp only [sameNt, *, decide_true, decide_false, Bool.true_and, Bool.false_and], rfl⟩
      ·iterate 5 refine gn_ 45 rfl rfl rfl rfl ?_
       refine WL.y rfl (Yd.pickF rfl rfl) ?_
       refine m_ rfl rfl ?_
       iterate 5 refine gn_ 52 rfl rfl rfl rfl ?_
       refine WL.y rfl (Yd.pickF rfl rfl) ?_
       refine m_ rfl rfl ?_
       iterate 5 refine gn_ 59 rfl rfl rfl rfl ?_
       refine WL.y rfl (Yd.pickF rfl rfl) ?_
       refine m_ rfl rfl ?_
       iterate 7 refine gn_ 66 rfl rfl rfl rfl ?_
       refine WL.y rfl (Yd.pickF rfl rfl) ?_
       refine m_ rfl rfl ?_
       iterate 7 refine gn_ 75 rfl rfl rfl rfl ?_
       refine WL.y rfl (Yd.pickF rfl rfl) ?_
       refine a_ rfl rfl ?_
       refine nt_ ?_
       refine WC.ret ?_
       refine DN.fit (C := H) sp_ ?_
       refine DN.ret1 Tryz.results34 rfl ?_
       exact ⟨by congr 1; symm; simp only [sameNt, *, decide_true, decide_false, Bool.true_and, Bool.false_and], rfl⟩
     ·iterate 5 refine gn_ 38 rfl rfl rfl rfl ?_
      refine WL.y rfl (Yd.pickF rfl rfl) ?_
      refine m_ rfl rfl ?_
      iterate 5 refine gn_ 45 rfl rfl rfl rfl ?_
      refine WL.y rfl (Yd.pickF rfl rfl) ?_
      refine m_ rfl rfl ?_
      iterate 5 refine gn_ 52 rfl rfl rfl rfl ?_
      refine WL.y rfl (Yd.pickF rfl rfl) ?_
      refine m_ rfl rfl ?_
      iterate 5 refine gn_ 59 rfl rfl rfl rfl ?_
      refine WL.y rfl (Yd.pickF rfl rfl) ?_
      refine m_ rfl rfl ?_
      iterate 7 refine gn_ 66 rfl rfl rfl rfl ?_
      refine WL.y rfl (Yd.pickF rfl rfl) ?_
      refine m_ rfl rfl ?_
      iterate 7 refine gn_ 75 rfl rfl rfl rfl ?_
      refine WL.y rfl (Yd.pickF rfl rfl) ?_
      refine a_ rfl rfl ?_
      refine nt_ ?_
      refine WC.ret ?_
      refine DN.fit (C := H) sp_ ?_
      refine DN.ret1 Tryz.results34 rfl ?_
      exact ⟨by congr 1; symm; simp only [sameNt, *, decide_true, decide_false, Bool.true_and, Bool.false_and], rfl⟩
    ·iterate 5 refine gn_ 31 rfl rfl rfl rfl ?_
     refine WL.y rfl (Yd.pickF rfl rfl) ?_
     refine m_ rfl rfl ?_
     iterate 5 refine gn_ 38 rfl rfl rfl rfl ?_
     refine WL.y rfl (Yd.pickF rfl rfl) ?_
     refine m_ rfl rfl ?_
     iterate 5 refine gn_ 45 rfl rfl rfl rfl ?_
     refine WL.y rfl (Yd.pickF rfl rfl) ?_
     refine m_ rfl rfl ?_
     iterate 5 refine gn_ 52 rfl rfl rfl rfl ?_
     refine WL.y rfl (Yd.pickF rfl rfl) ?_
     refine m_ rfl rfl ?_
     iterate 5 refine gn_ 59 rfl rfl rfl rfl ?_
     refine WL.y rfl (Yd.pickF rfl rfl) ?_
     refine m_ rfl rfl ?_
     iterate 7 refine gn_ 66 rfl rfl rfl rfl ?_
     refine WL.y rfl (Yd.pickF rfl rfl) ?_
     refine m_ rfl rfl ?_
     iterate 7 refine gn_ 75 rfl rfl rfl rfl ?_
     refine WL.y rfl (Yd.pickF rfl rfl) ?_
     refine a_ rfl rfl ?_
     refine nt_ ?_
     refine WC.ret ?_
     refine DN.fit (C := H) sp_ ?_
     refine DN.ret1 Tryz.results34 rfl ?_
     exact ⟨by congr 1; symm; simp only [sameNt, *, decide_true, decide_false, Bool.true_and, Bool.false_and], rfl⟩
   ·iterate 5 refine gn_ 24 rfl rfl rfl rfl ?_
    refine WL.y rfl (Yd.pickF rfl rfl) ?_
    refine m_ rfl rfl ?_
    iterate 5 refine gn_ 31 rfl rfl rfl rfl ?_
    refine WL.y rfl (Yd.pickF rfl rfl) ?_
    refine m_ rfl rfl ?_
    iterate 5 refine gn_ 38 rfl rfl rfl rfl ?_
    refine WL.y rfl (Yd.pickF rfl rfl) ?_
    refine m_ rfl rfl ?_
    iterate 5 refine gn_ 45 rfl rfl rfl rfl ?_
    refine WL.y rfl (Yd.pickF rfl rfl) ?_
    refine m_ rfl rfl ?_
    iterate 5 refine gn_ 52 rfl rfl rfl rfl ?_
    refine WL.y rfl (Yd.pickF rfl rfl) ?_
    refine m_ rfl rfl ?_
    iterate 5 refine gn_ 59 rfl rfl rfl rfl ?_
    refine WL.y rfl (Yd.pickF rfl rfl) ?_
    refine m_ rfl rfl ?_
    iterate 7 refine gn_ 66 rfl rfl rfl rfl ?_
    refine WL.y rfl (Yd.pickF rfl rfl) ?_
    refine m_ rfl rfl ?_
    iterate 7 refine gn_ 75 rfl rfl rfl rfl ?_
    refine WL.y rfl (Yd.pickF rfl rfl) ?_
    refine a_ rfl rfl ?_
    refine nt_ ?_
    refine WC.ret ?_
    refine DN.fit (C := H) sp_ ?_
    refine DN.ret1 Tryz.results34 rfl ?_
    exact ⟨by congr 1; symm; simp only [sameNt, *, decide_true, decide_false, Bool.true_and, Bool.false_and], rfl⟩
  ·iterate 5 refine gn_ 17 rfl rfl rfl rfl ?_
   refine WL.y rfl (Yd.pickF rfl rfl) ?_
   refine m_ rfl rfl ?_
   iterate 5 refine gn_ 24 rfl rfl rfl rfl ?_
   refine WL.y rfl (Yd.pickF rfl rfl) ?_
   refine m_ rfl rfl ?_
   iterate 5 refine gn_ 31 rfl rfl rfl rfl ?_
   refine WL.y rfl (Yd.pickF rfl rfl) ?_
   refine m_ rfl rfl ?_
   iterate 5 refine gn_ 38 rfl rfl rfl rfl ?_
   refine WL.y rfl (Yd.pickF rfl rfl) ?_
   refine m_ rfl rfl ?_
   iterate 5 refine gn_ 45 rfl rfl rfl rfl ?_
   refine WL.y rfl (Yd.pickF rfl rfl) ?_
   refine m_ rfl rfl ?_
   iterate 5 refine gn_ 52 rfl rfl rfl rfl ?_
   refine WL.y rfl (Yd.pickF rfl rfl) ?_
   refine m_ rfl rfl ?_
   iterate 5 refine gn_ 59 rfl rfl rfl rfl ?_
   refine WL.y rfl (Yd.pickF rfl rfl) ?_
   refine m_ rfl rfl ?_
   iterate 7 refine gn_ 66 rfl rfl rfl rfl ?_
   refine WL.y rfl (Yd.pickF rfl rfl) ?_
   refine m_ rfl rfl ?_
   iterate 7 refine gn_ 75 rfl rfl rfl rfl ?_
   refine WL.y rfl (Yd.pickF rfl rfl) ?_
   refine a_ rfl rfl ?_
   refine nt_ ?_
   refine WC.ret ?_
   refine DN.fit (C := H) sp_ ?_
   refine DN.ret1 Tryz.results34 rfl ?_
   exact ⟨by congr 1; symm; simp only [sameNt, *, decide_true, decide_false, Bool.true_and, Bool.false_and], rfl⟩
 ·iterate 5 refine gn_ 10 rfl rfl rfl rfl ?_
  refine WL.y rfl (Yd.pickF rfl rfl) ?_
  refine m_ rfl rfl ?_
  iterate 5 refine gn_ 17 rfl rfl rfl rfl ?_
  refine WL.y rfl (Yd.pickF rfl rfl) ?_
  refine m_ rfl rfl ?_
  iterate 5 refine gn_ 24 rfl rfl rfl rfl ?_
  refine WL.y rfl (Yd.pickF rfl rfl) ?_
  refine m_ rfl rfl ?_
  iterate 5 refine gn_ 31 rfl rfl rfl rfl ?_
  refine WL.y rfl (Yd.pickF rfl rfl) ?_
  refine m_ rfl rfl ?_
  iterate 5 refine gn_ 38 rfl rfl rfl rfl ?_
  refine WL.y rfl (Yd.pickF rfl rfl) ?_
  refine m_ rfl rfl ?_
  iterate 5 refine gn_ 45 rfl rfl rfl rfl ?_
  refine WL.y rfl (Yd.pickF rfl rfl) ?_
  refine m_ rfl rfl ?_
  iterate 5 refine gn_ 52 rfl rfl rfl rfl ?_
  refine WL.y rfl (Yd.pickF rfl rfl) ?_
  refine m_ rfl rfl ?_
  iterate 5 refine gn_ 59 rfl rfl rfl rfl ?_
  refine WL.y rfl (Yd.pickF rfl rfl) ?_
  refine m_ rfl rfl ?_
  iterate 7 refine gn_ 66 rfl rfl rfl rfl ?_
  refine WL.y rfl (Yd.pickF rfl rfl) ?_
  refine m_ rfl rfl ?_
  iterate 7 refine gn_ 75 rfl rfl rfl rfl ?_
  refine WL.y rfl (Yd.pickF rfl rfl) ?_
  refine a_ rfl rfl ?_
  refine nt_ ?_
  refine WC.ret ?_
  refine DN.fit (C := H) sp_ ?_
  refine DN.ret1 Tryz.results34 rfl ?_
  exact ⟨by congr 1; symm; simp only [sameNt, *, decide_true, decide_false, Bool.true_and, Bool.false_and], rfl⟩
end Go.Proofs.YtkamlondepceiaaGreat

set_option linter.unusedVariables false
set_option linter.unusedSimpArgs false
set_option maxHeartbeats 4000000
namespace Go.Proofs.YtkamlondepceiaaGreat
open Go.SL
theorem kn_good : GoodL knG ∧ AccL knU ∧ (([3] : List Int).findIdx? Do.badRoom).isSome = false ∧ ([3] : List Int).length ≤ 60 := by
  refine ⟨⟨by decide, by decide, fun g hg => ?_⟩, ⟨by decide, by decide, fun g hg => ?_⟩, by decide, by decide⟩
  · simp only [knG, List.mem_cons, List.not_mem_nil, or_false] at hg
    subst hg
    unfold goodB; decide
  · simp only [knU, List.mem_cons, List.not_mem_nil, or_false] at hg
    subst hg
    unfold accB; decide
theorem kn_inv : CInv knG knU [3] kn0c :=
  new_inv (SInv.start (by decide) (by decide) fun g hg => ⟨kn_good.1.2.2 g hg, (by decide : ∀ g ∈ knG, g.gone = 0) g hg⟩) (PInv.start kn_good.2.1) (DInv.start (roomsOk_of (by decide)) (by decide))
theorem kn_told {K S : List Gd} {g : Gd} (hK : K = [g]) (h : ToldK Gd.name sLt K S) : S = [g] := by
  subst hK
  exact List.perm_singleton.1 h.perm
theorem kn_step (e : BitVec 32) (u : Bool) : stepW e 7#32 0 u (encB knW) = knN e u := rfl
theorem known12 (H : List Ck) : Reads Tryz.prog 9 [] H (.bool true) := by
 refine Tells.enter Tryz.func9 rfl Tryz.ntmps9 rfl ?_
 intro w0 R
 refine sr_ ?_
 refine a_ rfl rfl ?_
 refine ntsr_ ?_
 refine WL.y rfl (Yd.buildL (pl := [(0, 1), (1, 1)]) (zs := [.string ⟨#[]⟩, .int .i64 0]) (parts := [(0, .const (.string ⟨#[97]⟩)), (1, .const (.int .i64 5))]) (vs := [(0, _), (1, _)]) (cells := [_, _]) kr_ kr_ rfl rfl) ?_
 refine WL.h rfl (Hd.buildSlice (e := 73) (sz := 2) (zs := [.string ⟨#[]⟩, .int .i64 0]) (parts := [(0, .tmp 11)]) (vs := [(0, .agg (cellsG ⟨⟨#[97]⟩, 5, 0⟩).toArray)]) (cells := knG.flatMap cellsG) kr_ kr_ kr_ rfl kr_ kr_ fun b12 => ⟨_, rfl, ?_⟩)
 refine WL.y rfl (Yd.buildL (pl := [(0, 1), (1, 1), (2, 1)]) (zs := [.string ⟨#[]⟩, .int .i64 0, .int .i64 0]) (parts := [(0, .const (.string ⟨#[97, 110, 110]⟩)), (1, .const (.int .i64 9))]) (vs := [(0, _), (1, _)]) (cells := [_, _, .int .i64 0]) kr_ kr_ rfl rfl) ?_
 refine WL.h rfl (Hd.buildSlice (e := 71) (sz := 3) (zs := [.string ⟨#[]⟩, .int .i64 0, .int .i64 0]) (parts := [(0, .tmp 13)]) (vs := [(0, .agg (cellsU ⟨⟨#[97, 110, 110]⟩, 9, 0⟩).toArray)]) (cells := knU.flatMap cellsU) kr_ kr_ kr_ rfl kr_ kr_ fun b14 => ⟨_, rfl, ?_⟩)
 refine WL.h rfl (Hd.build1 (e := 3) (z := .int .i64 0) kr_ kr_ kr_ rfl (by rfl) fun b15 => ⟨_, rfl, ?_⟩)
 refine WL.c rfl (Ent.func Tryz.call31 rfl) (cnew_tells _ _ _ knG knU [3] (by decide) (row b15 (ic [3]) 3 :: (row b14 (knU.flatMap cellsU) 71 :: (row b12 (knG.flatMap cellsG) 73 :: H))) (.inr ⟨b12, 0, 1, knG.flatMap cellsG, 73, (0, 0), true, rfl, Nat.le_refl _, List.mem_cons_of_mem _ (List.mem_cons_of_mem _ List.mem_cons_self), rfl⟩) (.inr ⟨b14, 0, 1, knU.flatMap cellsU, 71, (0, 0), true, rfl, Nat.le_refl _, List.mem_cons_of_mem _ List.mem_cons_self, rfl⟩) (.inr ⟨b15, 0, 1, ic [3], 3, (0, 0), true, rfl, Nat.le_refl _, List.mem_cons_self, rfl⟩) (by decide) (by decide) (by decide)) (Sp.p sp_) ?_
 intro x H9 h9
 obtain ⟨p, C0, rfl, h0, rfl⟩ := (h9.resolve_right fun q => q.1 kn_good).2
 have inv0 := kn_inv
 refine m_ rfl rfl ?_
 refine x_ rfl rfl rfl ?_
 refine x_ rfl rfl rfl ?_
 refine a_ rfl rfl ?_
 refine a_ rfl rfl ?_
 refine nt_ ?_
 refine WC.seq ?_
 refine sr_ ?_
 refine m_ rfl rfl ?_
 refine WL.y rfl (Yd.neq rfl rfl) ?_
 refine WL.renamed (t := 20) (v := .bool false) rfl (congrArg Value.bool (by decide)) ?_
 refine m_ rfl rfl ?_
 refine gy_ 21 rfl rfl rfl (Yd.move rfl) ?_
 refine gy_ 21 rfl rfl rfl (Yd.eqlNil Tryz.underlying40 rfl rfl) ?_
 refine WL.renamed (t := 23) (v := .bool false) rfl (congrArg Value.bool (rfl)) ?_
 refine WL.y rfl (Yd.pickF rfl rfl) ?_
 refine nt_ ?_
 refine WC.no rfl ?_
 refine WC.skip ?_
 refine ts_ ?_
 refine WC.region ?_
 refine WL.h rfl (Hd.buildBytes (e := 5) [97#8] kr_ kr_ kr_ rfl rfl kr_ fun b25 => ⟨_, rfl, ?_⟩)
 refine WL.h rfl (Hd.markB (e := 5) kr_ kr_ rfl fr_ ⟨_, rfl, ?_⟩)
 refine WL.y rfl (Yd.buildL (pl := [(0, 1), (1, 1), (2, 1)]) (zs := [.int .i64 0, .int .i64 0, .slice none 0 0]) (parts := [(0, .const (.int .i64 1)), (1, .const (.int .i64 2)), (2, .tmp 26)]) (vs := [(0, _), (1, _), (2, _)]) (cells := [_, _, _]) kr_ kr_ rfl rfl) ?_
 refine WL.h rfl (Hd.alloc (zs := [.int .i64 0, .int .i64 0, .slice none 0 0]) kr_ fun b3 => ⟨_, rfl, ?_⟩)
 refine WL.s (Hd.storeAll (n := 3) kr_ rfl rfl (by rfl) one_ fr_ (by rfl) ⟨rfl, ?_⟩)
 refine ntsr_ ?_
 refine m_ rfl rfl ?_
 refine WL.h rfl (Hd.loadAll (n := 3) kr_ rfl mem_ (by rfl) ⟨_, rfl, ?_⟩)
 refine WL.c rfl (Ent.func Tryz.call39 rfl) (step_tells 1#32 7#32 0 false knW _ [⟨b25, .cells (bc [97#8]).toArray 5 ((bc [97#8]).length, (bc [97#8]).length + 1), true⟩] (bs_marked rfl List.mem_cons_self) (by decide)) (Sp.p sp_) ?_
 rintro q1 Hq1 ⟨x1, A1, rfl, hA1, rfl⟩
 rw [kn_step]
 obtain ⟨xo1, xc1, rfl, _⟩ := hA1.form
 refine WL.c rfl (Ent.func Tryz.call22 rfl) (serve_tells p kn0c C0 h0 inv0 (knN 1#32 false) (.slice none 0 0) (.slice xo1 (encB knW).length xc1) A1 (.inl ⟨_, _, rfl, rfl, rfl⟩) hA1.bs) (Sp.p sp_) ?_
 rintro r1 Hs1 ⟨C1, w1, D1, rfl, h1, hD1, rfl⟩
 have inv1 := serve_inv inv0 (knN 1#32 false)
 obtain ⟨s1, hs1⟩ : ∃ t, t = serveS kn0c (knN 1#32 false) := ⟨_, rfl⟩
 obtain ⟨n1, hn1⟩ : ∃ t, t = serveN kn0c (knN 1#32 false) := ⟨_, rfl⟩
 rw [← hs1] at h1 inv1
 rw [← hn1] at hD1 ⊢
 obtain ⟨wo1, wc1, rfl, _⟩ := hD1.form
 refine WL.h rfl (Hd.alloc (zs := [.int .i64 0, .int .u32 0, .int .u32 0, .int .u64 0, .int .u64 0, .int .u32 0, .int .i64 0, .bool false, .int .i64 0, .slice none 0 0, .slice none 0 0]) kr_ fun b4 => ⟨_, rfl, ?_⟩)
 refine WL.s (Hd.storeAll (n := 11) kr_ rfl rfl (by rfl) (ntc_one rfl rfl) fr_ (by rfl) ⟨rfl, ?_⟩)
 refine ntsr_ ?_
 refine m_ rfl rfl ?_
 refine WL.c rfl (Ent.func Tryz.call25 rfl) (cgoods_tells p s1 C1 h1 (by rw [hs1, kn_s1]; decide)) (Sp.p sp_) ?_
 rintro g2 Hg2 ⟨S2, G2, hT2, ho2, rfl⟩
 obtain rfl := kn_told (g := ⟨⟨#[97]⟩, 3, 0⟩) (by rw [hs1]; exact kn_s1) hT2
 obtain ⟨go2, gc2, rfl, _⟩ := ho2.form
 obtain ⟨g2b, g2f, g2s, g2T, g2fr, g2ex, rfl, _, hg2m, hg2s⟩ := ho2.rs.lies (by decide)
 refine a_ rfl rfl ?_
 refine ntsr_ ?_
 refine m_ rfl rfl ?_
 refine WL.h rfl (Hd.loadAll (n := 3) kr_ rfl mem_ (by rfl) ⟨_, rfl, ?_⟩)
 refine WL.c rfl (Ent.func Tryz.call39 rfl) (step_tells 1#32 7#32 0 false knW _ [⟨b25, .cells (bc [97#8]).toArray 5 ((bc [97#8]).length, (bc [97#8]).length + 1), true⟩] (bs_marked rfl List.mem_cons_self) (by decide)) (Sp.p sp_) ?_
 rintro q3 Hq3 ⟨x3, A3, rfl, hA3, rfl⟩
 rw [kn_step]
 obtain ⟨xo3, xc3, rfl, _⟩ := hA3.form
 refine WL.c rfl (Ent.func Tryz.call22 rfl) (serve_tells p s1 C1 h1 inv1 (knN 1#32 false) (.slice none 0 0) (.slice xo3 (encB knW).length xc3) A3 (.inl ⟨_, _, rfl, rfl, rfl⟩) hA3.bs) (Sp.p sp_) ?_
 rintro r3 Hs3 ⟨C3, w3, D3, rfl, h3, hD3, rfl⟩
 have inv3 := serve_inv inv1 (knN 1#32 false)
 obtain ⟨s3, hs3⟩ : ∃ t, t = serveS s1 (knN 1#32 false) := ⟨_, rfl⟩
 obtain ⟨n3, hn3⟩ : ∃ t, t = serveN s1 (knN 1#32 false) := ⟨_, rfl⟩
 rw [← hs3] at h3 inv3
 rw [← hn3] at hD3 ⊢
 obtain ⟨wo3, wc3, rfl, _⟩ := hD3.form
 refine WL.h rfl (Hd.alloc (zs := [.int .i64 0, .int .u32 0, .int .u32 0, .int .u64 0, .int .u64 0, .int .u32 0, .int .i64 0, .bool false, .int .i64 0, .slice none 0 0, .slice none 0 0]) kr_ fun b6 => ⟨_, rfl, ?_⟩)
 refine WL.s (Hd.storeAll (n := 11) kr_ rfl rfl (by rfl) one_ fr_ (by rfl) ⟨rfl, ?_⟩)
 refine ntsr_ ?_
 refine m_ rfl rfl ?_
 refine WL.h rfl (Hd.loadAll (n := 3) kr_ rfl mem_ (by rfl) ⟨_, rfl, ?_⟩)
 refine WL.c rfl (Ent.func Tryz.call39 rfl) (step_tells 0#32 7#32 0 false knW _ [⟨b25, .cells (bc [97#8]).toArray 5 ((bc [97#8]).length, (bc [97#8]).length + 1), true⟩] (bs_marked rfl List.mem_cons_self) (by decide)) (Sp.p sp_) ?_
 rintro q4 Hq4 ⟨x4, A4, rfl, hA4, rfl⟩
 rw [kn_step]
 obtain ⟨xo4, xc4, rfl, _⟩ := hA4.form
 refine WL.c rfl (Ent.func Tryz.call22 rfl) (serve_tells p s3 C3 h3 inv3 (knN 0#32 false) (.slice none 0 0) (.slice xo4 (encB knW).length xc4) A4 (.inl ⟨_, _, rfl, rfl, rfl⟩) hA4.bs) (Sp.p sp_) ?_
 rintro r4 Hs4 ⟨C4, w4, D4, rfl, h4, hD4, rfl⟩
 have inv4 := serve_inv inv3 (knN 0#32 false)
 obtain ⟨s4, hs4⟩ : ∃ t, t = serveS s3 (knN 0#32 false) := ⟨_, rfl⟩
 obtain ⟨n4, hn4⟩ : ∃ t, t = serveN s3 (knN 0#32 false) := ⟨_, rfl⟩
 rw [← hs4] at h4 inv4
 rw [← hn4] at hD4 ⊢
 obtain ⟨wo4, wc4, rfl, _⟩ := hD4.form
 refine WL.h rfl (Hd.alloc (zs := [.int .i64 0, .int .u32 0, .int .u32 0, .int .u64 0, .int .u64 0, .int .u32 0, .int .i64 0, .bool false, .int .i64 0, .slice none 0 0, .slice none 0 0]) kr_ fun b7 => ⟨_, rfl, ?_⟩)
 refine WL.s (Hd.storeAll (n := 11) kr_ rfl rfl (by rfl) one_ fr_ (by rfl) ⟨rfl, ?_⟩)
 refine ntsr_ ?_
 refine m_ rfl rfl ?_
 refine WL.h rfl (Hd.loadAll (n := 3) kr_ rfl mem_ (by rfl) ⟨_, rfl, ?_⟩)
 refine WL.c rfl (Ent.func Tryz.call39 rfl) (step_tells 1#32 7#32 0 true knW _ [⟨b25, .cells (bc [97#8]).toArray 5 ((bc [97#8]).length, (bc [97#8]).length + 1), true⟩] (bs_marked rfl List.mem_cons_self) (by decide)) (Sp.p sp_) ?_
 rintro q6 Hq6 ⟨x6, A6, rfl, hA6, rfl⟩
 rw [kn_step]
 obtain ⟨xo6, xc6, rfl, _⟩ := hA6.form
 refine WL.c rfl (Ent.func Tryz.call22 rfl) (serve_tells p s4 C4 h4 inv4 (knN 1#32 true) (.slice none 0 0) (.slice xo6 (encB knW).length xc6) A6 (.inl ⟨_, _, rfl, rfl, rfl⟩) hA6.bs) (Sp.p sp_) ?_
 rintro r6 Hs6 ⟨C6, w6, D6, rfl, h6, hD6, rfl⟩
 have inv6 := serve_inv inv4 (knN 1#32 true)
 obtain ⟨s6, hs6⟩ : ∃ t, t = serveS s4 (knN 1#32 true) := ⟨_, rfl⟩
 obtain ⟨n6, hn6⟩ : ∃ t, t = serveN s4 (knN 1#32 true) := ⟨_, rfl⟩
 rw [← hs6] at h6 inv6
 rw [← hn6] at hD6 ⊢
 obtain ⟨wo6, wc6, rfl, _⟩ := hD6.form
 refine WL.h rfl (Hd.alloc (zs := [.int .i64 0, .int .u32 0, .int .u32 0, .int .u64 0, .int .u64 0, .int .u32 0, .int .i64 0, .bool false, .int .i64 0, .slice none 0 0, .slice none 0 0]) kr_ fun b8 => ⟨_, rfl, ?_⟩)
 refine WL.s (Hd.storeAll (n := 11) kr_ rfl rfl (by rfl) one_ fr_ (by rfl) ⟨rfl, ?_⟩)
 refine ntsr_ ?_
 refine m_ rfl rfl ?_
 have e6 : s6.K = [⟨⟨#[97]⟩, 5, 0⟩] ∧ s6.e = 1#32 ∧ s6.ef.length = 2 := by rw [hs6, hs4, hs3, hs1]; exact kn_K4
 refine WL.c rfl (Ent.func Tryz.call25 rfl) (cgoods_tells p s6 C6 h6 (by rw [e6.1]; decide)) (Sp.p sp_) ?_
 rintro g5 Hg5 ⟨S5, G5, hT5, ho5, rfl⟩
 obtain rfl := kn_told (g := ⟨⟨#[97]⟩, 5, 0⟩) (e6.1) hT5
 obtain ⟨go5, gc5, rfl, _⟩ := ho5.form
 obtain ⟨g5b, g5f, g5s, g5T, g5fr, g5ex, rfl, _, hg5m, hg5s⟩ := ho5.rs.lies (by decide)
 refine a_ rfl rfl ?_
 refine ntsr_ ?_
 refine f_ 0 kr_ rfl rfl ?_
 refine d_ kr_ rfl mem_ (by rfl) rfl ?_
 refine WL.y rfl (Yd.eql rfl rfl) ?_
 refine WL.renamed (t := 50) (v := .bool true) rfl (congrArg Value.bool (decide_eq_true (by rw [hn1]; exact kn_n1.1))) ?_
 refine m_ rfl rfl ?_
 refine gy_ 51 rfl rfl rfl (Yd.fieldAddr (k := 8) kr_ rfl) ?_
 refine WL.gh (dj := 51) rfl rfl rfl (Hd.load1 kr_ rfl mem_ (by rfl) ⟨_, rfl, ?_⟩)
 refine gy_ 51 rfl rfl rfl (Yd.eql rfl rfl) ?_
 refine WL.renamed (t := 54) (v := .bool true) rfl (congrArg Value.bool (decide_eq_true (by rw [hn1]; exact kn_n1.2))) ?_
 refine WL.y rfl (Yd.pickT rfl rfl) ?_
 refine m_ rfl rfl ?_
 refine gy_ 56 rfl rfl rfl (Yd.move rfl) ?_
 refine gy_ 56 rfl rfl rfl (Yd.len (e := 73) kr_ rfl) ?_
 refine gy_ 56 rfl rfl rfl (Yd.eql rfl rfl) ?_
 refine WL.renamed (t := 59) (v := .bool true) rfl (congrArg Value.bool (by decide)) ?_
 refine WL.y rfl (Yd.pickT rfl rfl) ?_
 refine m_ rfl rfl ?_
 refine gy_ 61 rfl rfl rfl (Yd.move rfl) ?_
 refine gy_ 61 rfl rfl rfl (Yd.indexAddr (e := 73) (s := 2) kr_ kr_ rfl rfl (by decide) (by decide)) ?_
 refine gy_ 61 rfl rfl rfl (Yd.fieldAddr (k := 1) kr_ rfl) ?_
 refine WL.gh (dj := 61) rfl rfl rfl (Hd.load1 (v := .int .i64 3) (b := g2b) (o := g2f + ((0 : Nat) : Int).toNat * 2 + 1) (cs := g2s) kr_ rfl (Gr.get gr_ hg2m) (cell_at2 (L := [⟨⟨#[97]⟩, 3, 0⟩]) cellsG_len hg2s (by decide) (by decide)) ⟨_, rfl, ?_⟩)
 refine gy_ 61 rfl rfl rfl (Yd.eql rfl rfl) ?_
 refine WL.renamed (t := 66) (v := .bool true) rfl (congrArg Value.bool (by decide)) ?_
 refine WL.y rfl (Yd.pickT rfl rfl) ?_
 refine m_ rfl rfl ?_
 refine WL.gh (dj := 68) rfl rfl rfl (Hd.loadAll (n := 11) kr_ rfl mem_ (by rfl) ⟨_, rfl, ?_⟩)
 refine WL.gh (dj := 68) rfl rfl rfl (Hd.loadAll (n := 11) kr_ rfl mem_ (by rfl) ⟨_, rfl, ?_⟩)
 refine WL.grf (dj := 68) rfl rfl rfl (Ent.func Tryz.call34 rfl) (same05_reads n1 n3 _ _ _ _ (D1 ++ D3) (by rw [hn1, serve_key]; exact .inl ⟨_, _, rfl, rfl, rfl⟩) (hD1.bs.mono gr_) (by rw [hn3, serve_key]; exact .inl ⟨_, _, rfl, rfl, rfl⟩) (hD3.bs.mono gr_)) sp_ ?_
 refine WL.renamed (t := 71) (v := .bool true) rfl (congrArg Value.bool (by rw [show n3 = n1 by rw [hn3, hs1, hn1]; exact kn_n2]; exact sameNt_refl n1)) ?_
 refine WL.y rfl (Yd.pickT rfl rfl) ?_
 refine m_ rfl rfl ?_
 refine gy_ 73 rfl rfl rfl (Yd.fieldAddr (k := 0) kr_ rfl) ?_
 refine WL.gh (dj := 73) rfl rfl rfl (Hd.load1 kr_ rfl mem_ (by rfl) ⟨_, rfl, ?_⟩)
 refine gy_ 73 rfl rfl rfl (Yd.eql rfl rfl) ?_
 refine WL.renamed (t := 76) (v := .bool true) rfl (congrArg Value.bool (decide_eq_true (by rw [hn4, hs3, hs1]; exact kn_n3.1))) ?_
 refine WL.y rfl (Yd.pickT rfl rfl) ?_
 refine m_ rfl rfl ?_
 refine gy_ 78 rfl rfl rfl (Yd.fieldAddr (k := 8) kr_ rfl) ?_
 refine WL.gh (dj := 78) rfl rfl rfl (Hd.load1 kr_ rfl mem_ (by rfl) ⟨_, rfl, ?_⟩)
 refine gy_ 78 rfl rfl rfl (Yd.eql rfl rfl) ?_
 refine WL.renamed (t := 81) (v := .bool true) rfl (congrArg Value.bool (decide_eq_true (by rw [hn4, hs3, hs1]; exact kn_n3.2))) ?_
 refine WL.y rfl (Yd.pickT rfl rfl) ?_
 refine m_ rfl rfl ?_
 refine gy_ 83 rfl rfl rfl (Yd.fieldAddr (k := 8) kr_ rfl) ?_
 refine WL.gh (dj := 83) rfl rfl rfl (Hd.load1 kr_ rfl mem_ (by rfl) ⟨_, rfl, ?_⟩)
 refine gy_ 83 rfl rfl rfl (Yd.eql rfl rfl) ?_
 refine WL.renamed (t := 86) (v := .bool true) rfl (congrArg Value.bool (decide_eq_true (by rw [hn6, hs4, hs3, hs1]; exact kn_n4))) ?_
 refine WL.y rfl (Yd.pickT rfl rfl) ?_
 refine m_ rfl rfl ?_
 refine gy_ 88 rfl rfl rfl (Yd.move rfl) ?_
 refine gy_ 88 rfl rfl rfl (Yd.indexAddr (e := 73) (s := 2) kr_ kr_ rfl rfl (by decide) (by decide)) ?_
 refine gy_ 88 rfl rfl rfl (Yd.fieldAddr (k := 1) kr_ rfl) ?_
 refine WL.gh (dj := 88) rfl rfl rfl (Hd.load1 (v := .int .i64 5) (b := g5b) (o := g5f + ((0 : Nat) : Int).toNat * 2 + 1) (cs := g5s) kr_ rfl (Gr.get gr_ hg5m) (cell_at2 (L := [⟨⟨#[97]⟩, 5, 0⟩]) cellsG_len hg5s (by decide) (by decide)) ⟨_, rfl, ?_⟩)
 refine gy_ 88 rfl rfl rfl (Yd.eql rfl rfl) ?_
 refine WL.renamed (t := 93) (v := .bool true) rfl (congrArg Value.bool (by decide)) ?_
 refine WL.y rfl (Yd.pickT rfl rfl) ?_
 refine m_ rfl rfl ?_
 refine gy_ 95 rfl rfl rfl (Yd.move rfl) ?_
 refine WL.grf (dj := 95) rfl rfl rfl (Ent.func Tryz.call24 rfl) (cepoch_reads p s6 C6 h6) sp_ ?_
 refine gy_ 95 rfl rfl rfl (Yd.eql32 _ (1#32) rfl rfl rfl rfl) ?_
 refine WL.renamed (t := 98) (v := .bool true) rfl (congrArg Value.bool (decide_eq_true (by rw [e6.2.1]))) ?_
 refine WL.y rfl (Yd.pickT rfl rfl) ?_
 refine m_ rfl rfl ?_
 refine gy_ 100 rfl rfl rfl (Yd.move rfl) ?_
 refine WL.gc (dj := 100) rfl rfl rfl (Ent.func Tryz.call21 rfl) (ceffs_tells p s6 C6 h6 (by rw [e6.2.2]; decide)) (Sp.p sp_) ?_
 rintro f9 Hf9 ⟨E9, hE9, rfl⟩
 obtain ⟨fo, fc, rfl, _⟩ := hE9.form
 rw [e6.2.2]
 refine gy_ 100 rfl rfl rfl (Yd.len (e := 111) kr_ rfl) ?_
 refine gy_ 100 rfl rfl rfl (Yd.eql rfl rfl) ?_
 refine WL.renamed (t := 104) (v := .bool true) rfl (congrArg Value.bool (by decide)) ?_
 refine WL.y rfl (Yd.pickT rfl rfl) ?_
 refine a_ rfl rfl ?_
 refine nt_ ?_
 refine WC.ret ?_
 refine DN.fit (C := H) sp_ ?_
 refine DN.ret1 Tryz.results9 rfl ?_
 exact ⟨rfl, rfl⟩
end Go.Proofs.YtkamlondepceiaaGreat
