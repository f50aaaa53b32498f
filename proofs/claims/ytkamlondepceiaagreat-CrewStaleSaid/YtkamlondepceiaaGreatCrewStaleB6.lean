/-
  Lemmas and walks that CrewStale stands on (part 6); no condition.
-/
import Derived.Orders
import Derived.Tactics
import Derived.Scope
import Derived.Below
import Derived.WalkKit
import Derived.KernelRfl
import Derived.Laws.RangeString
import Derived.Laws.StructEq
import Derived.Lib.AppendZerosOnto
import Derived.Laws.CopyRow
import Derived.Lib.Overlaps
import Derived.Laws.IdiomStrings
import Derived.Deep.Quiet
import Derived.Lib.Bytealg
import Derived.Shelf.SlSortCmp.NoneTotal
import Derived.ProofKit
import Derived.OpenShut
import Derived.ShutString
import Derived.ChangeOld
import Derived.Test.YtkamlondepceiaaGreatRows
import Derived.Ground.SlsfProg
import Derived.Shelf.Small.Strs
import Derived.Test.YtkamlondepceiaaGreatCrewStaleB5

set_option linter.unusedVariables false
set_option linter.unusedSimpArgs false
set_option maxHeartbeats 8000000
namespace Go.Proofs.YtkamlondepceiaaGreat
open Go.SL
theorem law_CrewStale (v : Value) (l : List As) (xs : List Value) (H : List Ck) (ha : AskL v l xs H) (hm : l.length ≤ 9223372036854775807) : Reads Tryz.prog 5 [v] H (.bool true) := by
 refine Tells.enter Tryz.func5 rfl Tryz.ntmps5 rfl ?_
 intro w0 R
 have ha9 := ha
 obtain ⟨hv, hx, hA⟩ := ha
 obtain ⟨vo, vc, rfl, hvc⟩ := hv.form
 refine sr_ ?_
 refine a_ rfl rfl ?_
 refine ntsr_ ?_
 refine WL.ca rfl (Ent.func Tryz.call18 rfl) (small_tells H) ?_
 rintro q0 H0 ⟨p, C0, rfl, h0, rfl⟩
 have inv0 := sm_inv
 refine a_ rfl rfl ?_
 refine nt_ ?_
 refine WC.seq ?_
 refine sr_ ?_
 refine m_ rfl rfl ?_
 refine WL.y rfl (Yd.eqlNil Tryz.underlying40 rfl rfl) ?_
 refine WL.renamed (t := 14) (v := .bool false) rfl (congrArg Value.bool (rfl)) ?_
 refine m_ rfl rfl ?_
 refine gy_ 15 rfl rfl rfl (Yd.buildL (pl := [(0, 1), (1, 1), (2, 1)]) (zs := [.slice none 0 0, .slice none 0 0, .slice none 0 0]) (parts := []) (vs := []) (cells := [.slice none 0 0, .slice none 0 0, .slice none 0 0]) kr_ kr_ rfl rfl) ?_
 refine gy_ 15 rfl rfl rfl (Yd.move rfl) ?_
 refine WL.gc (dj := 15) rfl rfl rfl (Ent.func Tryz.call19 rfl) (long_reads _ _ _ _ [] [] [] l xs H (.inl ⟨none, 0, rfl, rfl, rfl⟩) (.inl ⟨none, 0, rfl, rfl, rfl⟩) (.inl ⟨none, 0, rfl, rfl, rfl⟩) ha9 (by decide) (by decide) (by decide) hm) (Sp.p sp_) ?_
 rintro q Hq ⟨hHq, z, rfl, hz⟩
 have hHq := hHq.symm
 subst hHq
 refine WL.y rfl (Yd.pickF rfl rfl) ?_
 refine nt_ ?_
 refine WC.cond rfl (fun h19 => ?_) (fun h19 => ?_)
 ·refine sr_ ?_
  refine m_ rfl rfl ?_
  refine WL.y rfl (Yd.neqNil Tryz.underlying40 rfl rfl) ?_
  refine WL.renamed (t := 21) (v := .bool true) rfl (congrArg Value.bool (rfl)) ?_
  refine m_ rfl rfl ?_
  refine WL.gr (dj := 22) rfl rfl rfl (Ent.func Tryz.call9 rfl) (known12 _) ?_
  refine WL.y rfl (Yd.pickT rfl rfl) ?_
  refine a_ rfl rfl ?_
  refine nt_ ?_
  refine WC.ret ?_
  refine DN.then_ret ?_
  refine DN.fit (C := H) sp_ ?_
  refine DN.ret1 Tryz.results5 rfl ?_
  exact ⟨rfl, rfl⟩
 ·have hnl := hz h19
  refine WC.skip ?_
  refine ts_ ?_
  refine sr_ ?_
  refine a_ rfl rfl ?_
  refine nt_ ?_
  refine WC.block ?_
  refine WC.loopS (fun z : Nat × Cw × List Ck => z.1 ≤ l.length ∧ CwAt 189 198 203 3 5 118 111 22 116 p z.2.1 z.2.2 ∧ CInv smG smU [3, 5] z.2.1) (fun z : Nat × Cw × List Ck => [(4, .int .i64 (z.1 : Int))]) (fun z : Nat × Cw × List Ck => z.2.2 ++ H) (fun z : Nat × Cw × List Ck => l.length - z.1) (⟨0, (Cw.new smG smU [3, 5]), C0⟩) (show 0 ≤ l.length ∧ CwAt 189 198 203 3 5 118 111 22 116 p ((Cw.new smG smU [3, 5])) C0 ∧ CInv smG smU [3, 5] ((Cw.new smG smU [3, 5])) from ⟨Nat.zero_le _, h0, inv0⟩) (Sx.put rfl (sx_)) sp_ ?_
  rintro ⟨i, s, C⟩ hI
  replace hI : i ≤ l.length ∧ CwAt 189 198 203 3 5 118 111 22 116 p s C ∧ CInv smG smU [3, 5] s := hI
  obtain ⟨hi, h, inv⟩ := hI
  change WC _ _ _ _ _ _ ([(4, .int .i64 (i : Int))] ++ _) (C ++ H)
  refine WC.seq ?_
  refine sr_ ?_
  refine m_ rfl rfl ?_
  refine m_ rfl rfl ?_
  refine WL.y rfl (Yd.len (e := 54) kr_ rfl) ?_
  refine WL.y rfl (Yd.lss rfl rfl) ?_
  refine m_ rfl rfl ?_
  refine WL.partP (t := 29) rfl (fun hg29 => ?_) (fun hg29 => ?_)
  ·refine gy_ 29 rfl rfl rfl (Yd.move rfl) ?_
   refine gy_ 29 rfl rfl rfl (Yd.lss rfl rfl) ?_
   refine WL.y rfl (Yd.pickT rfl rfl) ?_
   refine nt_ ?_
   refine WC.ite rfl (fun h32 => ?_) (fun h32 => ?_)
   ·have hlt : i < l.length := by omega
    obtain ⟨hw1, hw2⟩ := hnl.2.2.2 i hlt (by omega)
    obtain ⟨vn, vd, hcell, hkn, hkd, _⟩ := hA i hlt
    obtain ⟨ko, kc, rfl, _⟩ := hkn.form
    obtain ⟨eo, ec, rfl, _⟩ := hkd.form
    obtain ⟨hmK, hmU⟩ := inv_many inv
    have hme := inv.ef
    have hmk := inv.ck.1
    refine WC.skip ?_
    refine ts_ ?_
    refine WC.block ?_
    refine sr_ ?_
    refine m_ rfl rfl ?_
    refine m_ rfl rfl ?_
    refine WL.elemA (e := 54) (s := 8) kr_ kr_ kr_ rfl rfl (rfl) (hv.mono gr_) (hcell) (by rfl) (by omega) (hlt) rfl rfl ?_
    intro p37
    refine WL.c rfl (Ent.func Tryz.call20 rfl) (note_tells l[i] _ _ H hkn hkd (by omega)) (Sp.p sp_) ?_
    rintro q1 Hq1 ⟨x, A, rfl, hbx, rfl⟩
    have hnl9 := note_len l[i]
    obtain ⟨n0, hn0⟩ : ∃ m, m = noteA l[i] := ⟨_, rfl⟩
    rw [← hn0] at hbx hnl9 ⊢
    obtain ⟨xo, xc, rfl, _⟩ := hbx.form
    refine WL.h rfl (Hd.alloc (zs := [.int .i64 0, .int .u32 0, .int .u32 0, .int .u64 0, .int .u64 0, .int .u32 0, .int .i64 0, .bool false, .int .i64 0, .slice none 0 0, .slice none 0 0]) kr_ fun b5 => ⟨_, rfl, ?_⟩)
    refine WL.s (Hd.storeAll (n := 11) kr_ rfl rfl (by rfl) one_ fr_ (by rfl) ⟨rfl, ?_⟩)
    refine ntsr_ ?_
    refine f_ 1 kr_ rfl rfl ?_
    refine d_ kr_ rfl mem_ (by rfl) rfl ?_
    refine WL.y rfl (Yd.rem32 _ (6#32) rfl rfl rfl rfl (by decide)) ?_
    refine f_ 1 kr_ rfl rfl ?_
    obtain ⟨n, hn⟩ : ∃ m, m = ({ n0 with epoch := n0.epoch % 6#32 } : Nt) := ⟨_, rfl⟩
    have hbn : Bs (.slice xo n.data.length xc) n.data (A ++ H) := by rw [hn]; exact hbx
    refine WL.s (Hd.store1s (cs' := (ntc n (.slice none 0 0) (.slice xo n.data.length xc))) kr_ rfl rfl (by rfl) fr_ (by rfl) (by subst hn; rfl) ⟨rfl, ?_⟩)
    refine ntsr_ ?_
    refine m_ rfl rfl ?_
    refine WL.rf rfl (Ent.func Tryz.call24 rfl) (cepoch_reads p s C h) sp_ ?_
    refine a_ rfl rfl ?_
    refine ntsr_ ?_
    refine m_ rfl rfl ?_
    refine WL.c rfl (Ent.func Tryz.call25 rfl) (cgoods_tells p s C h (by omega)) (Sp.p sp_) ?_
    rintro q Hq ⟨S1, Cs1, hT1, ho1, rfl⟩
    have hl1 := hT1.perm.length_eq
    obtain ⟨so1, sc1, rfl, _⟩ := ho1.form
    refine a_ rfl rfl ?_
    refine ntsr_ ?_
    refine m_ rfl rfl ?_
    refine WL.c rfl (Ent.func Tryz.call26 rfl) (caccs_tells p s C h (by omega)) (Sp.p sp_) ?_
    rintro q Hq ⟨T1, Ct1, hU1, hq1, rfl⟩
    have hlU1 := hU1.perm.length_eq
    obtain ⟨to1, tc1, rfl, _⟩ := hq1.form
    refine a_ rfl rfl ?_
    refine ntsr_ ?_
    refine m_ rfl rfl ?_
    refine WL.c rfl (Ent.func Tryz.call21 rfl) (ceffs_tells p s C h (by omega)) (Sp.p sp_) ?_
    rintro q Hq ⟨Ce1, he1, rfl⟩
    obtain ⟨fo1, fc1, rfl, _⟩ := he1.form
    refine a_ rfl rfl ?_
    refine ntsr_ ?_
    refine m_ rfl rfl ?_
    refine WL.h rfl (Hd.loadAll (n := 11) kr_ rfl mem_ (by rfl) ⟨_, rfl, ?_⟩)
    refine WL.c rfl (Ent.func Tryz.call22 rfl) (serve_tells p s C h inv n _ _ (A ++ H) (by rw [hn, hn0]; exact .inl ⟨_, _, rfl, rfl, rfl⟩) hbn) (Sp.p sp_) ?_
    rintro q2 Hq2 ⟨C2, w2, D2, rfl, h2, hD2, rfl⟩
    have inv2 := serve_inv inv n
    have hk2 := serve_key s n
    have hst := stale_of inv.ck n
    obtain ⟨s2, hs2⟩ : ∃ t, t = serveS s n := ⟨_, rfl⟩
    obtain ⟨a2, ha2⟩ : ∃ t, t = serveN s n := ⟨_, rfl⟩
    rw [← hs2] at h2 inv2 hst
    rw [← ha2] at hD2 hk2 hst ⊢
    obtain ⟨wo2, wc2, rfl, _⟩ := hD2.form
    obtain ⟨hmK2, hmU2⟩ := inv_many inv2
    have hme2 := inv2.ef
    have hmk2 := inv2.ck.1
    refine WL.h rfl (Hd.alloc (zs := [.int .i64 0, .int .u32 0, .int .u32 0, .int .u64 0, .int .u64 0, .int .u32 0, .int .i64 0, .bool false, .int .i64 0, .slice none 0 0, .slice none 0 0]) kr_ fun b10 => ⟨_, rfl, ?_⟩)
    refine WL.s (Hd.storeAll (n := 11) kr_ rfl rfl (by rfl) (ntc_one rfl rfl) fr_ (by rfl) ⟨rfl, ?_⟩)
    refine nt_ ?_
    refine WC.cutK (fun y : Bool => s2.K = s.K ∧ s2.U = s.U ∧ s2.ef = s.ef → y = true) (fun y : Bool => [(11, .bool y)]) (fun y : Bool => row b10 (ntc a2 (.slice none 0 0) (.slice wo2 a2.data.length wc2)) 52 :: (row b5 (ntc n (.slice none 0 0) (.slice xo n.data.length xc)) 52 :: (C2 ++ H))) ?_ ?_
    ·refine WC.region ?_
     refine m_ rfl rfl ?_
     refine WL.c rfl (Ent.func Tryz.call25 rfl) (cgoods_tells p s2 C2 h2 (by omega)) (Sp.p sp_) ?_
     rintro q Hq ⟨S2, Cs2, hT2, ho2, rfl⟩
     have hl2 := hT2.perm.length_eq
     obtain ⟨so2, sc2, rfl, _⟩ := ho2.form
     refine m_ rfl rfl ?_
     refine WL.rf rfl (Ent.func Tryz.call27 rfl) (sameGoods_reads _ _ S2 S1 (Cs2 ++ Cs1) (ho2.rs.mono gr_) (ho1.rs.mono gr_) (by omega) (by omega)) sp_ ?_
     refine m_ rfl rfl ?_
     refine WL.partP (t := 59) rfl (fun hg59 => ?_) (fun hg59 => ?_)
     ·refine gy_ 59 rfl rfl rfl (Yd.move rfl) ?_
      refine WL.gc (dj := 59) rfl rfl rfl (Ent.func Tryz.call26 rfl) (caccs_tells p s2 C2 h2 (by omega)) (Sp.p sp_) ?_
      rintro q Hq ⟨T2, Ct2, hU2, hq2, rfl⟩
      have hlU2 := hU2.perm.length_eq
      obtain ⟨to2, tc2, rfl, _⟩ := hq2.form
      refine gy_ 59 rfl rfl rfl (Yd.move rfl) ?_
      refine WL.grf (dj := 59) rfl rfl rfl (Ent.func Tryz.call28 rfl) (sameAccs_reads _ _ T2 T1 (Ct2 ++ Ct1) (hq2.rs.mono gr_) (hq1.rs.mono gr_) (by omega) (by omega)) sp_ ?_
      refine WL.y rfl (Yd.pickT rfl rfl) ?_
      refine m_ rfl rfl ?_
      refine WL.partP (t := 65) rfl (fun hg65 => ?_) (fun hg65 => ?_)
      ·refine gy_ 65 rfl rfl rfl (Yd.move rfl) ?_
       refine WL.gc (dj := 65) rfl rfl rfl (Ent.func Tryz.call21 rfl) (ceffs_tells p s2 C2 h2 (by omega)) (Sp.p sp_) ?_
       rintro q Hq ⟨Ce2, he2, rfl⟩
       obtain ⟨fo2, fc2, rfl, _⟩ := he2.form
       refine gy_ 65 rfl rfl rfl (Yd.move rfl) ?_
       refine WL.grf (dj := 65) rfl rfl rfl (Ent.func Tryz.call29 rfl) (sameEffs_reads _ _ s2.ef s.ef (Ce2 ++ Ce1) (he2.rs.mono gr_) (he1.rs.mono gr_) (by omega) (by omega)) sp_ ?_
       refine WL.y rfl (Yd.pickT rfl rfl) ?_
       refine a_ rfl rfl ?_
       refine WL.nil ?_
       exact DN.reachS (_) (fun q => decide_eq_true q.2.2) (Sx.put rfl (sx_)) sp_
      ·iterate 4 refine gn_ 65 rfl rfl rfl rfl ?_
       refine WL.y rfl (Yd.pickF rfl rfl) ?_
       refine a_ rfl rfl ?_
       refine WL.nil ?_
       exact DN.reachS (_) (fun q => absurd (tellU inv.pu.knd hU1 (by rw [← q.2.1]; exact hU2)).symm hg65) (Sx.put rfl (sx_)) sp_
     ·iterate 4 refine gn_ 59 rfl rfl rfl rfl ?_
      refine WL.y rfl (Yd.pickF rfl rfl) ?_
      refine m_ rfl rfl ?_
      iterate 4 refine gn_ 65 rfl rfl rfl rfl ?_
      refine WL.y rfl (Yd.pickF rfl rfl) ?_
      refine a_ rfl rfl ?_
      refine WL.nil ?_
      exact DN.reachS (_) (fun q => absurd (by rw [tellG inv.st.knd hT1 (by rw [← q.1]; exact hT2)]) hg59) (Sx.put rfl (sx_)) sp_
    ·intro y hy
     refine WC.seq ?_
     rcases hst with ⟨h8, hae, hce, hlt9, hst9⟩ | ⟨h9, hlt9, hae, hao, hap, hst9⟩ | ⟨h6, hae, hcc, hst9⟩
     ·refine WC.region ?_
      refine f_ 0 kr_ rfl rfl ?_
      refine d_ kr_ rfl mem_ (by rfl) rfl ?_
      refine nt_ ?_
      refine WC.block ?_
      refine sr_ ?_
      refine WL.y rfl (Yd.eql rfl rfl) ?_
      refine WL.renamed (t := 74) (v := .bool true) rfl (congrArg Value.bool (decide_eq_true h8)) ?_
      refine a_ rfl rfl ?_
      refine nt_ ?_
      refine WC.yes rfl ?_
      refine WC.seq ?_
      refine WC.draw 31 kr_ rfl ?_
      refine WA.float (N := 31) rfl ?_
      refine WAF.add (i := 0) (d := 75) rfl (QF.mk [] [] rfl rfl kr_ rfl (QAt.y Wt.none (Yd.fieldAddr (k := 1) kr_ rfl))) ?_
      refine WAF.add (i := 1) (d := 76) rfl (QF.mk [0] [(75, _)] rfl rfl kr_ rfl (QAt.rd Wt.none (Rd.load1 kr_ rfl mem_ (by rfl)))) ?_
      refine WAF.add (i := 2) (d := 77) rfl (QF.mk [] [] rfl rfl kr_ rfl (QAt.y Wt.none (Yd.fieldAddr (k := 1) kr_ rfl))) ?_
      refine WAF.add (i := 3) (d := 78) rfl (QF.mk [2] [(77, _)] rfl rfl kr_ rfl (QAt.rd Wt.none (Rd.load1 kr_ rfl mem_ (by rfl)))) ?_
      refine WAF.add (i := 4) (d := 79) rfl (QF.mk [3, 1] [(78, _), (76, _)] rfl rfl kr_ rfl (QAt.y Wt.none (Yd.neq32 _ _ rfl rfl rfl rfl))) ?_
      refine WAF.ren (v := .bool false) (congrArg Value.bool (by simp [hae])) ?_
      refine WAF.add (i := 5) (d := 80) rfl (QF.mk [4] [(79, _)] rfl rfl kr_ rfl (QAt.y Wt.none (Yd.move rfl))) ?_
      refine WAF.add (i := 6) (d := 81) rfl (QF.mk [5] [(80, _)] rfl rfl kr_ rfl (QAt.y (Wt.yes (dj := 80) rfl rfl) (Yd.move rfl))) ?_
      refine WAF.add (i := 7) (d := 82) rfl (QF.mk [6, 5] [(81, _), (80, _)] rfl rfl kr_ rfl (QAt.rf (Wt.yes (dj := 80) rfl rfl) (Ent.func Tryz.call24 rfl) (cepoch_reads p s2 C2 h2) sp_)) ?_
      refine WAF.add (i := 8) (d := 83) rfl (QF.mk [5] [(80, _)] rfl rfl kr_ rfl (QAt.y (Wt.yes (dj := 80) rfl rfl) (Yd.fieldAddr (k := 1) kr_ rfl))) ?_
      refine WAF.add (i := 9) (d := 84) rfl (QF.mk [8, 5] [(83, _), (80, _)] rfl rfl kr_ rfl (QAt.rd (Wt.yes (dj := 80) rfl rfl) (Rd.load1 kr_ rfl mem_ (by rfl)))) ?_
      refine WAF.add (i := 10) (d := 85) rfl (QF.mk [9, 7, 5] [(84, _), (82, _), (80, _)] rfl rfl kr_ rfl (QAt.y (Wt.yes (dj := 80) rfl rfl) (Yd.neq32 _ _ rfl rfl rfl rfl))) ?_
      refine WAF.ren (v := .bool false) (congrArg Value.bool (by simp [hce])) ?_
      refine WAF.add (i := 11) (d := 86) rfl (QF.mk [10, 5] [(85, _), (80, _)] rfl rfl kr_ rfl (QAt.y Wt.none (Yd.pickF rfl rfl))) ?_
      refine WAF.add (i := 12) (d := 87) rfl (QF.mk [11, 7] [(86, _), (82, _)] rfl rfl kr_ rfl (QAt.y Wt.none (Yd.move rfl))) ?_
      refine WAF.add (i := 13) (d := 88) rfl (QF.mk [12] [(87, _)] rfl rfl kr_ rfl (QAt.y (Wt.yes (dj := 87) rfl rfl) (Yd.fieldAddr (k := 1) kr_ rfl))) ?_
      refine WAF.add (i := 14) (d := 89) rfl (QF.mk [13, 12] [(88, _), (87, _)] rfl rfl kr_ rfl (QAt.rd (Wt.yes (dj := 87) rfl rfl) (Rd.load1 kr_ rfl mem_ (by rfl)))) ?_
      refine WAF.add (i := 15) (d := 90) rfl (QF.mk [12] [(87, _)] rfl rfl kr_ rfl (QAt.y (Wt.yes (dj := 87) rfl rfl) (Yd.move rfl))) ?_
      refine WAF.add (i := 16) (d := 91) rfl (QF.mk [15, 14, 12] [(90, _), (89, _), (87, _)] rfl rfl kr_ rfl (QAt.y (Wt.yes (dj := 87) rfl rfl) (Yd.lss rfl rfl))) ?_
      refine WAF.ren (v := .bool false) (congrArg Value.bool (decide_eq_false (by omega))) ?_
      refine WAF.add (i := 17) (d := 92) rfl (QF.mk [16, 12] [(91, _), (87, _)] rfl rfl kr_ rfl (QAt.y Wt.none (Yd.pickF rfl rfl))) ?_
      refine WAF.add (i := 18) (d := 93) rfl (QF.mk [17, 12] [(92, _), (87, _)] rfl rfl kr_ rfl (QAt.y Wt.none (Yd.move rfl))) ?_
      refine WAF.add (i := 19) (d := 94) rfl (QF.mk [18] [(93, _)] rfl rfl kr_ rfl (QAt.y (Wt.yes (dj := 93) rfl rfl) (Yd.move rfl))) ?_
      refine WAF.add (i := 20) (d := 95) rfl (QF.mk [19, 18] [(94, _), (93, _)] rfl rfl kr_ rfl (QAt.y (Wt.yes (dj := 93) rfl rfl) (Yd.notB rfl))) ?_
      refine WAF.add (i := 21) (d := 96) rfl (QF.mk [20, 18] [(95, _), (93, _)] rfl rfl kr_ rfl (QAt.y (Wt.yes (dj := 93) rfl rfl) (Yd.move rfl))) ?_
      refine WAF.part (fun hg96 => ?_) (fun hg96 => ?_)
      ·refine WAF.add (i := 22) (d := 97) rfl (QF.mk [21] [(96, _)] rfl rfl kr_ rfl (QAt.y (Wt.yes (dj := 96) rfl rfl) (Yd.move rfl))) ?_
       refine WAF.add (i := 25) (d := 100) rfl (QF.mk [21] [(96, _)] rfl rfl kr_ rfl (QAt.y (Wt.yes (dj := 96) rfl rfl) (Yd.move rfl))) ?_
       refine WAF.add (i := 26) (d := 101) rfl (QF.mk [25, 21] [(100, _), (96, _)] rfl rfl kr_ rfl (QAt.y (Wt.yes (dj := 96) rfl rfl) (Yd.len (e := 111) kr_ rfl))) ?_
       refine WAF.add (i := 27) (d := 102) rfl (QF.mk [26, 21] [(101, _), (96, _)] rfl rfl kr_ rfl (QAt.y (Wt.yes (dj := 96) rfl rfl) (Yd.add rfl rfl (by omega) (by omega)))) ?_
       refine WAF.step (pd := [(27, 102), (26, 101), (25, 100), (22, 97), (21, 96), (20, 95), (19, 94), (18, 93), (17, 92), (16, 91), (15, 90), (14, 89), (13, 88), (12, 87), (11, 86), (10, 85), (9, 84), (8, 83), (7, 82), (6, 81), (5, 80), (4, 79), (3, 78), (2, 77), (1, 76), (0, 75)]) [(23, [22, 21])] rfl kr_ kr_ (all_c rfl (all_c rfl (all_c rfl (all_c rfl (all_c rfl (all_c rfl (all_c rfl (all_c rfl (all_c rfl (all_c rfl (all_c rfl (all_c rfl (all_c rfl (all_c rfl (all_c rfl (all_c rfl (all_c rfl (all_c rfl (all_c rfl (all_c rfl (all_c rfl (all_c rfl (all_c rfl (all_c rfl (all_c rfl (all_c rfl (all_n))))))))))))))))))))))))))) (all_c (QF.mk [26, 21] [(101, _), (96, _)] rfl rfl kr_ rfl (QAt.y (Wt.yes (dj := 96) rfl rfl) (Yd.add rfl rfl (by omega) (by omega)))) (all_c (QF.mk [25, 21] [(100, _), (96, _)] rfl rfl kr_ rfl (QAt.y (Wt.yes (dj := 96) rfl rfl) (Yd.len (e := 111) kr_ rfl))) (all_c (QF.mk [21] [(96, _)] rfl rfl kr_ rfl (QAt.y (Wt.yes (dj := 96) rfl rfl) (Yd.move rfl))) (all_c (QF.mk [21] [(96, _)] rfl rfl kr_ rfl (QAt.y (Wt.yes (dj := 96) rfl rfl) (Yd.move rfl))) (all_c (QF.ren (congrArg Value.bool hg96) (QF.mk [20, 18] [(95, _), (93, _)] rfl rfl kr_ rfl (QAt.y (Wt.yes (dj := 93) rfl rfl) (Yd.move rfl)))) (all_c (QF.mk [19, 18] [(94, _), (93, _)] rfl rfl kr_ rfl (QAt.y (Wt.yes (dj := 93) rfl rfl) (Yd.notB rfl))) (all_c (QF.mk [18] [(93, _)] rfl rfl kr_ rfl (QAt.y (Wt.yes (dj := 93) rfl rfl) (Yd.move rfl))) (all_c (QF.mk [17, 12] [(92, _), (87, _)] rfl rfl kr_ rfl (QAt.y Wt.none (Yd.move rfl))) (all_c (QF.mk [16, 12] [(91, _), (87, _)] rfl rfl kr_ rfl (QAt.y Wt.none (Yd.pickF rfl rfl))) (all_c (QF.ren (congrArg Value.bool (decide_eq_false (by omega))) (QF.mk [15, 14, 12] [(90, _), (89, _), (87, _)] rfl rfl kr_ rfl (QAt.y (Wt.yes (dj := 87) rfl rfl) (Yd.lss rfl rfl)))) (all_c (QF.mk [12] [(87, _)] rfl rfl kr_ rfl (QAt.y (Wt.yes (dj := 87) rfl rfl) (Yd.move rfl))) (all_c (QF.mk [13, 12] [(88, _), (87, _)] rfl rfl kr_ rfl (QAt.rd (Wt.yes (dj := 87) rfl rfl) (Rd.load1 kr_ rfl mem_ (by rfl)))) (all_c (QF.mk [12] [(87, _)] rfl rfl kr_ rfl (QAt.y (Wt.yes (dj := 87) rfl rfl) (Yd.fieldAddr (k := 1) kr_ rfl))) (all_c (QF.mk [11, 7] [(86, _), (82, _)] rfl rfl kr_ rfl (QAt.y Wt.none (Yd.move rfl))) (all_c (QF.mk [10, 5] [(85, _), (80, _)] rfl rfl kr_ rfl (QAt.y Wt.none (Yd.pickF rfl rfl))) (all_c (QF.ren (congrArg Value.bool (by simp [hce])) (QF.mk [9, 7, 5] [(84, _), (82, _), (80, _)] rfl rfl kr_ rfl (QAt.y (Wt.yes (dj := 80) rfl rfl) (Yd.neq32 _ _ rfl rfl rfl rfl)))) (all_c (QF.mk [8, 5] [(83, _), (80, _)] rfl rfl kr_ rfl (QAt.rd (Wt.yes (dj := 80) rfl rfl) (Rd.load1 kr_ rfl mem_ (by rfl)))) (all_c (QF.mk [5] [(80, _)] rfl rfl kr_ rfl (QAt.y (Wt.yes (dj := 80) rfl rfl) (Yd.fieldAddr (k := 1) kr_ rfl))) (all_c (QF.mk [6, 5] [(81, _), (80, _)] rfl rfl kr_ rfl (QAt.rf (Wt.yes (dj := 80) rfl rfl) (Ent.func Tryz.call24 rfl) (cepoch_reads p s2 C2 h2) sp_)) (all_c (QF.mk [5] [(80, _)] rfl rfl kr_ rfl (QAt.y (Wt.yes (dj := 80) rfl rfl) (Yd.move rfl))) (all_c (QF.mk [4] [(79, _)] rfl rfl kr_ rfl (QAt.y Wt.none (Yd.move rfl))) (all_c (QF.ren (congrArg Value.bool (by simp [hae])) (QF.mk [3, 1] [(78, _), (76, _)] rfl rfl kr_ rfl (QAt.y Wt.none (Yd.neq32 _ _ rfl rfl rfl rfl)))) (all_c (QF.mk [2] [(77, _)] rfl rfl kr_ rfl (QAt.rd Wt.none (Rd.load1 kr_ rfl mem_ (by rfl)))) (all_c (QF.mk [] [] rfl rfl kr_ rfl (QAt.y Wt.none (Yd.fieldAddr (k := 1) kr_ rfl))) (all_c (QF.mk [0] [(75, _)] rfl rfl kr_ rfl (QAt.rd Wt.none (Rd.load1 kr_ rfl mem_ (by rfl)))) (all_c (QF.mk [] [] rfl rfl kr_ rfl (QAt.y Wt.none (Yd.fieldAddr (k := 1) kr_ rfl))) (all_n))))))))))))))))))))))))))) (all_c ?_ (all_n))
       ·change SO _ _ _ _ _ _ 23 ([(97, _), (96, _)] ++ _) _ _
        refine SO.c rfl (Wt.yes (dj := 96) rfl rfl) rfl (Ent.func Tryz.call21 rfl) (ceffs_tells p s2 C2 h2 (by omega)) (Sp.p sp_) ?_
        rintro q Hq ⟨Ce3, he3, rfl⟩
        obtain ⟨fo3, fc3, rfl, _⟩ := he3.form
        change WAF _ _ _ _ _ _ [(27, 102, _), (26, 101, _), (25, 100, _), (20, 95, _), (19, 94, _), (18, 93, _), (17, 92, _), (16, 91, _), (15, 90, _), (14, 89, _), (13, 88, _), (12, 87, _), (11, 86, _), (10, 85, _), (9, 84, _), (8, 83, _), (7, 82, _), (6, 81, _), (5, 80, _), (4, 79, _), (3, 78, _), (2, 77, _), (1, 76, _), (0, 75, _)] _ [23, 22, 21] ((98, _) :: ([(97, _), (96, _)] ++ _)) _
        refine WAF.add (i := 24) (d := 99) rfl (QF.mk [] [] rfl rfl kr_ rfl (QAt.y (Wt.yes (dj := 96) rfl rfl) (Yd.len (e := 111) kr_ rfl))) ?_
        refine WAF.add (i := 28) (d := 103) rfl (QF.mk [24, 27] [(99, _), (102, _)] rfl rfl kr_ rfl (QAt.y (Wt.yes (dj := 96) rfl rfl) (Yd.neq rfl rfl))) ?_
        refine WAF.ren (v := .bool false) (congrArg Value.bool (decide_eq_false (fun e => by rcases hst9 with q | q; (rw [hy q] at hg96; cases hg96); exact e (by omega)))) ?_
        refine WAF.add (i := 29) (d := 104) rfl (QF.mk [28, 18] [(103, _), (93, _)] rfl rfl kr_ rfl (QAt.y (Wt.yes (dj := 93) rfl rfl) (Yd.pickT rfl rfl))) ?_
        refine WAF.add (i := 30) (d := 105) rfl (QF.mk [29, 18] [(104, _), (93, _)] rfl rfl kr_ rfl (QAt.y Wt.none (Yd.pickF rfl rfl))) ?_
        refine WAF.done (pd := [(30, 105), (29, 104), (28, 103), (24, 99), (27, 102), (26, 101), (25, 100), (20, 95), (19, 94), (18, 93), (17, 92), (16, 91), (15, 90), (14, 89), (13, 88), (12, 87), (11, 86), (10, 85), (9, 84), (8, 83), (7, 82), (6, 81), (5, 80), (4, 79), (3, 78), (2, 77), (1, 76), (0, 75)]) rfl kr_ kr_ (all_c rfl (all_c rfl (all_c rfl (all_c rfl (all_c rfl (all_c rfl (all_c rfl (all_c rfl (all_c rfl (all_c rfl (all_c rfl (all_c rfl (all_c rfl (all_c rfl (all_c rfl (all_c rfl (all_c rfl (all_c rfl (all_c rfl (all_c rfl (all_c rfl (all_c rfl (all_c rfl (all_c rfl (all_c rfl (all_c rfl (all_c rfl (all_c rfl (all_n))))))))))))))))))))))))))))) (all_c (QF.mk [29, 18] [(104, _), (93, _)] rfl rfl kr_ rfl (QAt.y Wt.none (Yd.pickF rfl rfl))) (all_c (QF.mk [28, 18] [(103, _), (93, _)] rfl rfl kr_ rfl (QAt.y (Wt.yes (dj := 93) rfl rfl) (Yd.pickT rfl rfl))) (all_c (QF.ren (congrArg Value.bool (decide_eq_false (fun e => by rcases hst9 with q | q; (rw [hy q] at hg96; cases hg96); exact e (by omega)))) (QF.mk [24, 27] [(99, _), (102, _)] rfl rfl kr_ rfl (QAt.y (Wt.yes (dj := 96) rfl rfl) (Yd.neq rfl rfl)))) (all_c (QF.mk [] [] rfl rfl kr_ rfl (QAt.y (Wt.yes (dj := 96) rfl rfl) (Yd.len (e := 111) kr_ rfl))) (all_c (QF.mk [26] [(101, _)] rfl rfl kr_ rfl (QAt.y (Wt.yes (dj := 96) rfl rfl) (Yd.add rfl rfl (by omega) (by omega)))) (all_c (QF.mk [25] [(100, _)] rfl rfl kr_ rfl (QAt.y (Wt.yes (dj := 96) rfl rfl) (Yd.len (e := 111) kr_ rfl))) (all_c (QF.mk [] [] rfl rfl kr_ rfl (QAt.y (Wt.yes (dj := 96) rfl rfl) (Yd.move rfl))) (all_c (QF.mk [19, 18] [(94, _), (93, _)] rfl rfl kr_ rfl (QAt.y (Wt.yes (dj := 93) rfl rfl) (Yd.notB rfl))) (all_c (QF.mk [18] [(93, _)] rfl rfl kr_ rfl (QAt.y (Wt.yes (dj := 93) rfl rfl) (Yd.move rfl))) (all_c (QF.mk [17, 12] [(92, _), (87, _)] rfl rfl kr_ rfl (QAt.y Wt.none (Yd.move rfl))) (all_c (QF.mk [16, 12] [(91, _), (87, _)] rfl rfl kr_ rfl (QAt.y Wt.none (Yd.pickF rfl rfl))) (all_c (QF.ren (congrArg Value.bool (decide_eq_false (by omega))) (QF.mk [15, 14, 12] [(90, _), (89, _), (87, _)] rfl rfl kr_ rfl (QAt.y (Wt.yes (dj := 87) rfl rfl) (Yd.lss rfl rfl)))) (all_c (QF.mk [12] [(87, _)] rfl rfl kr_ rfl (QAt.y (Wt.yes (dj := 87) rfl rfl) (Yd.move rfl))) (all_c (QF.mk [13, 12] [(88, _), (87, _)] rfl rfl kr_ rfl (QAt.rd (Wt.yes (dj := 87) rfl rfl) (Rd.load1 kr_ rfl mem_ (by rfl)))) (all_c (QF.mk [12] [(87, _)] rfl rfl kr_ rfl (QAt.y (Wt.yes (dj := 87) rfl rfl) (Yd.fieldAddr (k := 1) kr_ rfl))) (all_c (QF.mk [11, 7] [(86, _), (82, _)] rfl rfl kr_ rfl (QAt.y Wt.none (Yd.move rfl))) (all_c (QF.mk [10, 5] [(85, _), (80, _)] rfl rfl kr_ rfl (QAt.y Wt.none (Yd.pickF rfl rfl))) (all_c (QF.ren (congrArg Value.bool (by simp [hce])) (QF.mk [9, 7, 5] [(84, _), (82, _), (80, _)] rfl rfl kr_ rfl (QAt.y (Wt.yes (dj := 80) rfl rfl) (Yd.neq32 _ _ rfl rfl rfl rfl)))) (all_c (QF.mk [8, 5] [(83, _), (80, _)] rfl rfl kr_ rfl (QAt.rd (Wt.yes (dj := 80) rfl rfl) (Rd.load1 kr_ rfl mem_ (by rfl)))) (all_c (QF.mk [5] [(80, _)] rfl rfl kr_ rfl (QAt.y (Wt.yes (dj := 80) rfl rfl) (Yd.fieldAddr (k := 1) kr_ rfl))) (all_c (QF.mk [6, 5] [(81, _), (80, _)] rfl rfl kr_ rfl (QAt.rf (Wt.yes (dj := 80) rfl rfl) (Ent.func Tryz.call24 rfl) (cepoch_reads p s2 C2 h2) sp_)) (all_c (QF.mk [5] [(80, _)] rfl rfl kr_ rfl (QAt.y (Wt.yes (dj := 80) rfl rfl) (Yd.move rfl))) (all_c (QF.mk [4] [(79, _)] rfl rfl kr_ rfl (QAt.y Wt.none (Yd.move rfl))) (all_c (QF.ren (congrArg Value.bool (by simp [hae])) (QF.mk [3, 1] [(78, _), (76, _)] rfl rfl kr_ rfl (QAt.y Wt.none (Yd.neq32 _ _ rfl rfl rfl rfl)))) (all_c (QF.mk [2] [(77, _)] rfl rfl kr_ rfl (QAt.rd Wt.none (Rd.load1 kr_ rfl mem_ (by rfl)))) (all_c (QF.mk [] [] rfl rfl kr_ rfl (QAt.y Wt.none (Yd.fieldAddr (k := 1) kr_ rfl))) (all_c (QF.mk [0] [(75, _)] rfl rfl kr_ rfl (QAt.rd Wt.none (Rd.load1 kr_ rfl mem_ (by rfl)))) (all_c (QF.mk [] [] rfl rfl kr_ rfl (QAt.y Wt.none (Yd.fieldAddr (k := 1) kr_ rfl))) (all_n))))))))))))))))))))))))))))) ?_
        change DN _ _ _ _ _ _ ([(105, _), (104, _), (103, _), (99, _), (102, _), (101, _), (100, _), (95, _), (94, _), (93, _), (92, _), (91, _), (90, _), (89, _), (88, _), (87, _), (86, _), (85, _), (84, _), (83, _), (82, _), (81, _), (80, _), (79, _), (78, _), (77, _), (76, _), (75, _)] ++ _) _
        refine DN.then_normal ?_
        refine WC.no rfl ?_
        refine WC.skip ?_
        refine DN.block_normal ?_
        refine DN.block_normal ?_
        refine DN.then_normal ?_
        refine WC.region ?_
        refine m_ rfl rfl ?_
        refine WL.y rfl (Yd.add rfl rfl (by omega) (by omega)) ?_
        refine a_ rfl rfl ?_
        refine WL.nil ?_
        exact DN.againS (⟨i + 1, s2, C2⟩) (show (i + 1) ≤ l.length ∧ CwAt 189 198 203 3 5 118 111 22 116 p s2 C2 ∧ CInv smG smU [3, 5] s2 from ⟨by omega, h2, inv2⟩) (show l.length - (i + 1) < l.length - i by omega) (Sx.put rfl (sx_)) sp_
      ·refine WAF.add (i := 22) (d := 97) rfl (QF.mk [21] [(96, _)] rfl rfl kr_ rfl (QAt.gn rfl rfl rfl)) ?_
       refine WAF.add (i := 23) (d := 98) rfl (QF.mk [22, 21] [(97, _), (96, _)] rfl rfl kr_ rfl (QAt.gn rfl rfl rfl)) ?_
       refine WAF.add (i := 24) (d := 99) rfl (QF.mk [23, 21] [(98, _), (96, _)] rfl rfl kr_ rfl (QAt.gn rfl rfl rfl)) ?_
       refine WAF.add (i := 25) (d := 100) rfl (QF.mk [21] [(96, _)] rfl rfl kr_ rfl (QAt.gn rfl rfl rfl)) ?_
       refine WAF.add (i := 26) (d := 101) rfl (QF.mk [25, 21] [(100, _), (96, _)] rfl rfl kr_ rfl (QAt.gn rfl rfl rfl)) ?_
       refine WAF.add (i := 27) (d := 102) rfl (QF.mk [26, 21] [(101, _), (96, _)] rfl rfl kr_ rfl (QAt.gn rfl rfl rfl)) ?_
       refine WAF.add (i := 28) (d := 103) rfl (QF.mk [27, 24, 21] [(102, _), (99, _), (96, _)] rfl rfl kr_ rfl (QAt.gn rfl rfl rfl)) ?_
       refine WAF.add (i := 29) (d := 104) rfl (QF.mk [28, 21, 18] [(103, _), (96, _), (93, _)] rfl rfl kr_ rfl (QAt.y (Wt.yes (dj := 93) rfl rfl) (Yd.pickF rfl rfl))) ?_
       refine WAF.add (i := 30) (d := 105) rfl (QF.mk [29, 18] [(104, _), (93, _)] rfl rfl kr_ rfl (QAt.y Wt.none (Yd.pickF rfl rfl))) ?_
       refine WAF.done (pd := [(30, 105), (29, 104), (28, 103), (27, 102), (26, 101), (25, 100), (24, 99), (23, 98), (22, 97), (21, 96), (20, 95), (19, 94), (18, 93), (17, 92), (16, 91), (15, 90), (14, 89), (13, 88), (12, 87), (11, 86), (10, 85), (9, 84), (8, 83), (7, 82), (6, 81), (5, 80), (4, 79), (3, 78), (2, 77), (1, 76), (0, 75)]) rfl kr_ kr_ (all_c rfl (all_c rfl (all_c rfl (all_c rfl (all_c rfl (all_c rfl (all_c rfl (all_c rfl (all_c rfl (all_c rfl (all_c rfl (all_c rfl (all_c rfl (all_c rfl (all_c rfl (all_c rfl (all_c rfl (all_c rfl (all_c rfl (all_c rfl (all_c rfl (all_c rfl (all_c rfl (all_c rfl (all_c rfl (all_c rfl (all_c rfl (all_c rfl (all_c rfl (all_c rfl (all_c rfl (all_n)))))))))))))))))))))))))))))))) (all_c (QF.mk [29, 18] [(104, _), (93, _)] rfl rfl kr_ rfl (QAt.y Wt.none (Yd.pickF rfl rfl))) (all_c (QF.mk [28, 21, 18] [(103, _), (96, _), (93, _)] rfl rfl kr_ rfl (QAt.y (Wt.yes (dj := 93) rfl rfl) (Yd.pickF rfl rfl))) (all_c (QF.mk [27, 24, 21] [(102, _), (99, _), (96, _)] rfl rfl kr_ rfl (QAt.gn rfl rfl rfl)) (all_c (QF.mk [26, 21] [(101, _), (96, _)] rfl rfl kr_ rfl (QAt.gn rfl rfl rfl)) (all_c (QF.mk [25, 21] [(100, _), (96, _)] rfl rfl kr_ rfl (QAt.gn rfl rfl rfl)) (all_c (QF.mk [21] [(96, _)] rfl rfl kr_ rfl (QAt.gn rfl rfl rfl)) (all_c (QF.mk [23, 21] [(98, _), (96, _)] rfl rfl kr_ rfl (QAt.gn rfl rfl rfl)) (all_c (QF.mk [22, 21] [(97, _), (96, _)] rfl rfl kr_ rfl (QAt.gn rfl rfl rfl)) (all_c (QF.mk [21] [(96, _)] rfl rfl kr_ rfl (QAt.gn rfl rfl rfl)) (all_c (QF.ren (congrArg Value.bool hg96) (QF.mk [20, 18] [(95, _), (93, _)] rfl rfl kr_ rfl (QAt.y (Wt.yes (dj := 93) rfl rfl) (Yd.move rfl)))) (all_c (QF.mk [19, 18] [(94, _), (93, _)] rfl rfl kr_ rfl (QAt.y (Wt.yes (dj := 93) rfl rfl) (Yd.notB rfl))) (all_c (QF.mk [18] [(93, _)] rfl rfl kr_ rfl (QAt.y (Wt.yes (dj := 93) rfl rfl) (Yd.move rfl))) (all_c (QF.mk [17, 12] [(92, _), (87, _)] rfl rfl kr_ rfl (QAt.y Wt.none (Yd.move rfl))) (all_c (QF.mk [16, 12] [(91, _), (87, _)] rfl rfl kr_ rfl (QAt.y Wt.none (Yd.pickF rfl rfl))) (all_c (QF.ren (congrArg Value.bool (decide_eq_false (by omega))) (QF.mk [15, 14, 12] [(90, _), (89, _), (87, _)] rfl rfl kr_ rfl (QAt.y (Wt.yes (dj := 87) rfl rfl) (Yd.lss rfl rfl)))) (all_c (QF.mk [12] [(87, _)] rfl rfl kr_ rfl (QAt.y (Wt.yes (dj := 87) rfl rfl) (Yd.move rfl))) (all_c (QF.mk [13, 12] [(88, _), (87, _)] rfl rfl kr_ rfl (QAt.rd (Wt.yes (dj := 87) rfl rfl) (Rd.load1 kr_ rfl mem_ (by rfl)))) (all_c (QF.mk [12] [(87, _)] rfl rfl kr_ rfl (QAt.y (Wt.yes (dj := 87) rfl rfl) (Yd.fieldAddr (k := 1) kr_ rfl))) (all_c (QF.mk [11, 7] [(86, _), (82, _)] rfl rfl kr_ rfl (QAt.y Wt.none (Yd.move rfl))) (all_c (QF.mk [10, 5] [(85, _), (80, _)] rfl rfl kr_ rfl (QAt.y Wt.none (Yd.pickF rfl rfl))) (all_c (QF.ren (congrArg Value.bool (by simp [hce])) (QF.mk [9, 7, 5] [(84, _), (82, _), (80, _)] rfl rfl kr_ rfl (QAt.y (Wt.yes (dj := 80) rfl rfl) (Yd.neq32 _ _ rfl rfl rfl rfl)))) (all_c (QF.mk [8, 5] [(83, _), (80, _)] rfl rfl kr_ rfl (QAt.rd (Wt.yes (dj := 80) rfl rfl) (Rd.load1 kr_ rfl mem_ (by rfl)))) (all_c (QF.mk [5] [(80, _)] rfl rfl kr_ rfl (QAt.y (Wt.yes (dj := 80) rfl rfl) (Yd.fieldAddr (k := 1) kr_ rfl))) (all_c (QF.mk [6, 5] [(81, _), (80, _)] rfl rfl kr_ rfl (QAt.rf (Wt.yes (dj := 80) rfl rfl) (Ent.func Tryz.call24 rfl) (cepoch_reads p s2 C2 h2) sp_)) (all_c (QF.mk [5] [(80, _)] rfl rfl kr_ rfl (QAt.y (Wt.yes (dj := 80) rfl rfl) (Yd.move rfl))) (all_c (QF.mk [4] [(79, _)] rfl rfl kr_ rfl (QAt.y Wt.none (Yd.move rfl))) (all_c (QF.ren (congrArg Value.bool (by simp [hae])) (QF.mk [3, 1] [(78, _), (76, _)] rfl rfl kr_ rfl (QAt.y Wt.none (Yd.neq32 _ _ rfl rfl rfl rfl)))) (all_c (QF.mk [2] [(77, _)] rfl rfl kr_ rfl (QAt.rd Wt.none (Rd.load1 kr_ rfl mem_ (by rfl)))) (all_c (QF.mk [] [] rfl rfl kr_ rfl (QAt.y Wt.none (Yd.fieldAddr (k := 1) kr_ rfl))) (all_c (QF.mk [0] [(75, _)] rfl rfl kr_ rfl (QAt.rd Wt.none (Rd.load1 kr_ rfl mem_ (by rfl)))) (all_c (QF.mk [] [] rfl rfl kr_ rfl (QAt.y Wt.none (Yd.fieldAddr (k := 1) kr_ rfl))) (all_n)))))))))))))))))))))))))))))))) ?_
       change DN _ _ _ _ _ _ ([(105, _), (104, _), (103, _), (102, _), (101, _), (100, _), (99, _), (98, _), (97, _), (96, _), (95, _), (94, _), (93, _), (92, _), (91, _), (90, _), (89, _), (88, _), (87, _), (86, _), (85, _), (84, _), (83, _), (82, _), (81, _), (80, _), (79, _), (78, _), (77, _), (76, _), (75, _)] ++ _) _
       refine DN.then_normal ?_
       refine WC.no rfl ?_
       refine WC.skip ?_
       refine DN.block_normal ?_
       refine DN.block_normal ?_
       refine DN.then_normal ?_
       refine WC.region ?_
       refine m_ rfl rfl ?_
       refine WL.y rfl (Yd.add rfl rfl (by omega) (by omega)) ?_
       refine a_ rfl rfl ?_
       refine WL.nil ?_
       exact DN.againS (⟨i + 1, s2, C2⟩) (show (i + 1) ≤ l.length ∧ CwAt 189 198 203 3 5 118 111 22 116 p s2 C2 ∧ CInv smG smU [3, 5] s2 from ⟨by omega, h2, inv2⟩) (show l.length - (i + 1) < l.length - i by omega) (Sx.put rfl (sx_)) sp_
     ·refine WC.region ?_
      refine f_ 0 kr_ rfl rfl ?_
      refine d_ kr_ rfl mem_ (by rfl) rfl ?_
      refine nt_ ?_
      refine WC.block ?_
      refine sr_ ?_
      refine WL.y rfl (Yd.eql rfl rfl) ?_
      refine WL.renamed (t := 74) (v := .bool false) rfl (congrArg Value.bool (by rw [h9]; decide)) ?_
      refine a_ rfl rfl ?_
      refine nt_ ?_
      refine WC.no rfl ?_
      refine sr_ ?_
      refine WL.y rfl (Yd.eql rfl rfl) ?_
      refine WL.renamed (t := 107) (v := .bool true) rfl (congrArg Value.bool (decide_eq_true h9)) ?_
      refine a_ rfl rfl ?_
      refine nt_ ?_
      refine WC.yes rfl ?_
      refine sr_ ?_
      refine f_ 1 kr_ rfl rfl ?_
      refine d_ kr_ rfl mem_ (by rfl) rfl ?_
      refine m_ rfl rfl ?_
      refine WL.y rfl (Yd.geq rfl rfl) ?_
      refine WL.renamed (t := 111) (v := .bool false) rfl (congrArg Value.bool (decide_eq_false (by omega))) ?_
      refine m_ rfl rfl ?_
      refine gy_ 112 rfl rfl rfl (Yd.fieldAddr (k := 1) kr_ rfl) ?_
      refine WL.gh (dj := 112) rfl rfl rfl (Hd.load1 kr_ rfl mem_ (by rfl) ⟨_, rfl, ?_⟩)
      refine gy_ 112 rfl rfl rfl (Yd.move rfl) ?_
      refine gy_ 112 rfl rfl rfl (Yd.neq32 _ _ rfl rfl rfl rfl) ?_
      refine WL.renamed (t := 116) (v := .bool false) rfl (congrArg Value.bool (by simp [hae])) ?_
      refine WL.y rfl (Yd.pickF rfl rfl) ?_
      refine m_ rfl rfl ?_
      refine gy_ 118 rfl rfl rfl (Yd.fieldAddr (k := 5) kr_ rfl) ?_
      refine WL.gh (dj := 118) rfl rfl rfl (Hd.load1 kr_ rfl mem_ (by rfl) ⟨_, rfl, ?_⟩)
      refine gy_ 118 rfl rfl rfl (Yd.fieldAddr (k := 5) kr_ rfl) ?_
      refine WL.gh (dj := 118) rfl rfl rfl (Hd.load1 kr_ rfl mem_ (by rfl) ⟨_, rfl, ?_⟩)
      refine gy_ 118 rfl rfl rfl (Yd.neq32 _ _ rfl rfl rfl rfl) ?_
      refine WL.renamed (t := 123) (v := .bool false) rfl (congrArg Value.bool (by simp [hao])) ?_
      refine WL.y rfl (Yd.pickF rfl rfl) ?_
      refine m_ rfl rfl ?_
      refine gy_ 125 rfl rfl rfl (Yd.fieldAddr (k := 6) kr_ rfl) ?_
      refine WL.gh (dj := 125) rfl rfl rfl (Hd.load1 kr_ rfl mem_ (by rfl) ⟨_, rfl, ?_⟩)
      refine gy_ 125 rfl rfl rfl (Yd.fieldAddr (k := 6) kr_ rfl) ?_
      refine WL.gh (dj := 125) rfl rfl rfl (Hd.load1 kr_ rfl mem_ (by rfl) ⟨_, rfl, ?_⟩)
      refine gy_ 125 rfl rfl rfl (Yd.neq rfl rfl) ?_
      refine WL.renamed (t := 130) (v := .bool false) rfl (congrArg Value.bool (by simp [hap])) ?_
      refine WL.y rfl (Yd.pickF rfl rfl) ?_
      refine m_ rfl rfl ?_
      refine gy_ 132 rfl rfl rfl (Yd.move rfl) ?_
      refine gy_ 132 rfl rfl rfl (Yd.notB rfl) ?_
      refine WL.renamed (t := 134) (v := .bool false) rfl (congrArg Value.bool (by rw [hy ⟨by rw [hst9], by rw [hst9], by rw [hst9]⟩]; rfl)) ?_
      refine WL.y rfl (Yd.pickF rfl rfl) ?_
      refine m_ rfl rfl ?_
      refine gy_ 136 rfl rfl rfl (Yd.move rfl) ?_
      refine WL.grf (dj := 136) rfl rfl rfl (Ent.func Tryz.call24 rfl) (cepoch_reads p s2 C2 h2) sp_ ?_
      refine gy_ 136 rfl rfl rfl (Yd.move rfl) ?_
      refine gy_ 136 rfl rfl rfl (Yd.neq32 _ _ rfl rfl rfl rfl) ?_
      refine WL.renamed (t := 140) (v := .bool false) rfl (congrArg Value.bool (by simp [hst9])) ?_
      refine WL.y rfl (Yd.pickF rfl rfl) ?_
      refine nt_ ?_
      refine WC.no rfl ?_
      refine WC.skip ?_
      refine DN.block_normal ?_
      refine DN.block_normal ?_
      refine DN.then_normal ?_
      refine WC.region ?_
      refine m_ rfl rfl ?_
      refine WL.y rfl (Yd.add rfl rfl (by omega) (by omega)) ?_
      refine a_ rfl rfl ?_
      refine WL.nil ?_
      exact DN.againS (⟨i + 1, s2, C2⟩) (show (i + 1) ≤ l.length ∧ CwAt 189 198 203 3 5 118 111 22 116 p s2 C2 ∧ CInv smG smU [3, 5] s2 from ⟨by omega, h2, inv2⟩) (show l.length - (i + 1) < l.length - i by omega) (Sx.put rfl (sx_)) sp_
     ·refine WC.region ?_
      refine f_ 0 kr_ rfl rfl ?_
      refine d_ kr_ rfl mem_ (by rfl) rfl ?_
      refine nt_ ?_
      refine WC.block ?_
      refine sr_ ?_
      refine WL.y rfl (Yd.eql rfl rfl) ?_
      refine WL.renamed (t := 74) (v := .bool false) rfl (congrArg Value.bool (by rw [h6]; decide)) ?_
      refine a_ rfl rfl ?_
      refine nt_ ?_
      refine WC.no rfl ?_
      refine sr_ ?_
      refine WL.y rfl (Yd.eql rfl rfl) ?_
      refine WL.renamed (t := 107) (v := .bool false) rfl (congrArg Value.bool (by rw [h6]; decide)) ?_
      refine a_ rfl rfl ?_
      refine nt_ ?_
      refine WC.no rfl ?_
      refine sr_ ?_
      refine WL.y rfl (Yd.eql rfl rfl) ?_
      refine WL.renamed (t := 143) (v := .bool true) rfl (congrArg Value.bool (decide_eq_true h6)) ?_
      refine a_ rfl rfl ?_
      refine nt_ ?_
      refine WC.yes rfl ?_
      refine sr_ ?_
      refine f_ 1 kr_ rfl rfl ?_
      refine d_ kr_ rfl mem_ (by rfl) rfl ?_
      refine m_ rfl rfl ?_
      refine WL.y rfl (Yd.neq32 _ _ rfl rfl rfl rfl) ?_
      refine WL.renamed (t := 147) (v := .bool false) rfl (congrArg Value.bool (by simp [hae])) ?_
      refine m_ rfl rfl ?_
      refine gy_ 148 rfl rfl rfl (Yd.fieldAddr (k := 8) kr_ rfl) ?_
      refine WL.gh (dj := 148) rfl rfl rfl (Hd.load1 kr_ rfl mem_ (by rfl) ⟨_, rfl, ?_⟩)
      refine gy_ 148 rfl rfl rfl (Yd.lss rfl rfl) ?_
      refine WL.renamed (t := 151) (v := .bool false) rfl (congrArg Value.bool (decide_eq_false (by omega))) ?_
      refine WL.y rfl (Yd.pickF rfl rfl) ?_
      refine m_ rfl rfl ?_
      refine gy_ 153 rfl rfl rfl (Yd.fieldAddr (k := 8) kr_ rfl) ?_
      refine WL.gh (dj := 153) rfl rfl rfl (Hd.load1 kr_ rfl mem_ (by rfl) ⟨_, rfl, ?_⟩)
      refine gy_ 153 rfl rfl rfl (Yd.gtr rfl rfl) ?_
      refine WL.renamed (t := 156) (v := .bool false) rfl (congrArg Value.bool (decide_eq_false (by omega))) ?_
      refine WL.y rfl (Yd.pickF rfl rfl) ?_
      refine m_ rfl rfl ?_
      refine gy_ 158 rfl rfl rfl (Yd.move rfl) ?_
      refine gy_ 158 rfl rfl rfl (Yd.notB rfl) ?_
      refine WL.renamed (t := 160) (v := .bool false) rfl (congrArg Value.bool (by rw [hy ⟨by rw [hst9], by rw [hst9], by rw [hst9]⟩]; rfl)) ?_
      refine WL.y rfl (Yd.pickF rfl rfl) ?_
      refine m_ rfl rfl ?_
      refine gy_ 162 rfl rfl rfl (Yd.move rfl) ?_
      refine WL.grf (dj := 162) rfl rfl rfl (Ent.func Tryz.call24 rfl) (cepoch_reads p s2 C2 h2) sp_ ?_
      refine gy_ 162 rfl rfl rfl (Yd.move rfl) ?_
      refine gy_ 162 rfl rfl rfl (Yd.neq32 _ _ rfl rfl rfl rfl) ?_
      refine WL.renamed (t := 166) (v := .bool false) rfl (congrArg Value.bool (by simp [hst9])) ?_
      refine WL.y rfl (Yd.pickF rfl rfl) ?_
      refine nt_ ?_
      refine WC.no rfl ?_
      refine WC.skip ?_
      refine DN.block_normal ?_
      refine DN.block_normal ?_
      refine DN.then_normal ?_
      refine WC.region ?_
      refine m_ rfl rfl ?_
      refine WL.y rfl (Yd.add rfl rfl (by omega) (by omega)) ?_
      refine a_ rfl rfl ?_
      refine WL.nil ?_
      exact DN.againS (⟨i + 1, s2, C2⟩) (show (i + 1) ≤ l.length ∧ CwAt 189 198 203 3 5 118 111 22 116 p s2 C2 ∧ CInv smG smU [3, 5] s2 from ⟨by omega, h2, inv2⟩) (show l.length - (i + 1) < l.length - i by omega) (Sx.put rfl (sx_)) sp_
   ·refine WC.exit ?_
    refine DN.then_exit ?_
    refine DN.then_exit ?_
    refine DN.block_exit ?_
    refine ts_ ?_
    refine WC.region ?_
    refine WL.r rfl (Ent.func Tryz.call9 rfl) (known12 _) ?_
    refine a_ rfl rfl ?_
    refine nt_ ?_
    refine WC.ret ?_
    refine DN.fit (C := H) sp_ ?_
    refine DN.ret1 Tryz.results5 rfl ?_
    exact ⟨rfl, rfl⟩
  ·refine gn_ 29 rfl rfl rfl rfl ?_
   refine gn_ 29 rfl rfl rfl rfl ?_
   refine WL.y rfl (Yd.pickF rfl rfl) ?_
   refine nt_ ?_
   refine WC.no rfl ?_
   refine WC.exit ?_
   refine DN.then_exit ?_
   refine DN.then_exit ?_
   refine DN.block_exit ?_
   refine ts_ ?_
   refine WC.region ?_
   refine WL.r rfl (Ent.func Tryz.call9 rfl) (known12 _) ?_
   refine a_ rfl rfl ?_
   refine nt_ ?_
   refine WC.ret ?_
   refine DN.fit (C := H) sp_ ?_
   refine DN.ret1 Tryz.results5 rfl ?_
   exact ⟨rfl, rfl⟩
end Go.Proofs.YtkamlondepceiaaGreat
