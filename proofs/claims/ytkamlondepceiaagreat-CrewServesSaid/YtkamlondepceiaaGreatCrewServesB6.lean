/-
  Lemmas and walks that CrewServes stands on (part 6); no condition.
-/
import Derived.Orders
import Derived.Tactics
import Derived.Scope
import Derived.Below
import Derived.WalkKit
import Derived.KernelRfl
import Derived.Laws.RangeString
import Derived.Laws.StructEq
import Derived.Lib.AppendZerosOnto
import Derived.Laws.CopyRow
import Derived.Lib.Overlaps
import Derived.Laws.IdiomStrings
import Derived.Deep.Quiet
import Derived.Lib.Bytealg
import Derived.Shelf.SlSortCmp.NoneTotal
import Derived.ProofKit
import Derived.OpenShut
import Derived.ShutString
import Derived.ChangeOld
import Derived.Test.YtkamlondepceiaaGreatRows
import Derived.Ground.SlsfProg
import Derived.Shelf.Small.Strs
import Derived.Test.YtkamlondepceiaaGreatCrewServesB5

set_option linter.unusedVariables false
set_option linter.unusedSimpArgs false
set_option maxHeartbeats 4000000
namespace Go.Proofs.YtkamlondepceiaaGreat
open Go.SL
theorem rkeep_tells (e : BitVec 32) (v : Value) (ks : List Kp) (H : List Ck) (hv : KV v ks H) (hl : ks.length ≤ 1000) (hb : ∀ k ∈ ks, k.asked.length ≤ 1000000 ∧ k.reply.length ≤ 1000000) (n : Nt) (vk vd : Value) (hvk : Bs vk n.key H) (hvd : Bs vd n.data H) (code : Int) (vr : Value) (reply : List (BitVec 8)) (hvr : Bs vr reply H) : Tells Tryz.prog 73 [.agg #[.int .u32 e.toNat, v], .agg (ntc n vk vd).toArray, .int .i64 code, vr] H fun r H' => ∃ w D, r = .tuple #[.agg #[.int .u32 (keepK e ks n code reply).1.toNat, w], .int .i64 (keepK e ks n code reply).2.2] ∧ FAt 5 118 w (keepK e ks n code reply).2.1 D ∧ H' = D ++ H := by
 refine Tells.enter Tryz.func73 rfl Tryz.ntmps73 rfl ?_
 intro w0 R
 obtain ⟨ao, c, rfl, hc⟩ := hv.form
 obtain ⟨ko, kcap, rfl, hkc⟩ := hvk.form
 obtain ⟨do_, dc, rfl, hdc⟩ := hvd.form
 obtain ⟨ro, rc, rfl, hrc⟩ := hvr.form
 refine sr_ (WL.h rfl (Hd.boxA rfl fun b4 => ⟨_, rfl, ?_⟩))
 refine WL.h rfl (Hd.boxA rfl fun b5 => ⟨_, rfl, ?_⟩)
 refine WL.h rfl (Hd.alloc (zs := [.int .u32 0, .slice none 0 0]) kr_ fun b8 => ⟨_, rfl, ?_⟩)
 refine a_ rfl rfl (ntsr_ (WL.h rfl (Hd.loadAll (n := 2) kr_ rfl mem_ (by rfl) ⟨_, rfl, ?_⟩)))
 refine WL.h rfl (Hd.loadAll (n := 11) kr_ rfl mem_ (by rfl) ⟨_, rfl, ?_⟩)
 refine WL.c rfl (Ent.func Tryz.call69 rfl) (rask_tells e _ ks H hv hl n _ _ hvk hvd) (Sp.p sp_) ?_
 rintro x H9 ⟨wa, wr, rfl, hA, hB, hH9⟩
 rw [hH9]
 clear hH9 H9
 obtain ⟨q, hq⟩ : ∃ q, q = askK e ks n := ⟨_, rfl⟩
 rw [← hq] at hA hB ⊢
 obtain ⟨act, kk, er⟩ := q
 dsimp only at hA hB ⊢
 obtain ⟨oa, ca, rfl, _⟩ := hA.form
 obtain ⟨or_, cr, rfl, _⟩ := hB.form
 refine m_ rfl rfl ?_
 iterate 3 refine x_ rfl rfl rfl ?_
 refine WL.h rfl (Hd.alloc (zs := [.int .u32 0, .int .i64 0, .bool false, .slice none 0 0, .int .i64 0, .slice none 0 0]) kr_ fun b11 => ⟨_, rfl, ?_⟩)
 refine a_ rfl rfl (WL.s (Hd.storeAll (n := 6) kr_ rfl rfl (by rfl) (kc_one rfl rfl) fr_ (by rfl) ⟨rfl, ?_⟩))
 refine a_ rfl rfl (nt_ (WC.seq (sr_ (m_ rfl rfl (WL.y rfl (Yd.neq rfl rfl) (nt_ (WC.ite rfl (fun h26 => ?_) (fun h26 => ?_))))))))
 refine sr_ (WL.y rfl (Yd.buildL (pl := [(0, 1), (1, 1)]) (zs := [.int .u32 0, .slice none 0 0]) (parts := []) (vs := []) (cells := [.int .u32 0, .slice none 0 0]) kr_ kr_ rfl rfl) ?_)
 refine m_ rfl rfl (WL.s (Hd.storeAll (n := 2) kr_ rfl rfl (by rfl) one_ fr_ (by rfl) ⟨rfl, ?_⟩))
 refine a_ rfl rfl (nt_ (WC.ret (DN.then_ret (DN.retCT (s := 2) (H) Tryz.results73 kr_ rfl rfl mem_ (by rfl) sp_ ?_))))
 rw [keepK_err (by rw [← hq]; exact h26), ← hq]
 exact ⟨_, [], rfl, FAt.nil _ _, rfl⟩
 have h0 : (askK e ks n).2.2 = 0 := by rw [← hq]; exact Classical.byContradiction h26
 have hgo := askK_ok h0
 have hck := good_chk hgo.1
 have hrs := right_step (code := code) (reply := reply) hgo.1
 refine WC.skip (ts_ (WC.cutK (fun z : Bool => z = true ↔ keepBad (act, kk, er) (stepK n code reply)) (fun z : Bool => [(55, .bool z)]) (fun z : Bool => row b11 (kc kk (.slice oa kk.asked.length ca) (.slice or_ kk.reply.length cr)) 118 :: (row b8 [.int .u32 0, .slice none 0 0] 82 :: row b5 (ntc n (.slice ko n.key.length kcap) (.slice do_ n.data.length dc)) 52 :: row b4 [.int .u32 e.toNat, .slice ao ks.length c] 82 :: H)) ?_ ?_))
 refine WC.region (m_ rfl rfl (WL.y rfl (Yd.lss rfl rfl) (m_ rfl rfl (WL.partP (t := 31) rfl (fun hg31 => ?_) (fun hg31 => ?_)))))
 refine gn_ 31 rfl rfl rfl rfl (gn_ 31 rfl rfl rfl rfl (WL.y rfl (Yd.pickT rfl rfl) (m_ rfl rfl ?_)))
 iterate 3 refine gn_ 35 rfl rfl rfl rfl ?_
 refine WL.y rfl (Yd.pickT rfl rfl) (m_ rfl rfl ?_)
 iterate 3 refine gn_ 40 rfl rfl rfl rfl ?_
 refine gu_ 43 rfl rfl rfl (gu_ 43 rfl rfl rfl (gn_ 40 rfl rfl rfl rfl (WL.y rfl (Yd.pickT rfl rfl) (m_ rfl rfl ?_))))
 iterate 3 refine gn_ 48 rfl rfl rfl rfl ?_
 refine gu_ 51 rfl rfl rfl (gu_ 51 rfl rfl rfl (gn_ 48 rfl rfl rfl rfl (WL.y rfl (Yd.pickT rfl rfl) (WL.nil ?_))))
 exact DN.reachK (_) (by
     unfold keepBad
     rw [hrs]
     show _ ↔ _ ∨ (act = 3 ∧ code ≠ 2) ∨ (act = 4 ∧ code ≠ 1)
     simp only [decide_eq_true_eq, eq_self, true_iff, Bool.false_eq_true, false_iff]
     omega) (Sx.put rfl (sx_)) (Sp.all sp_)
 refine gy_ 31 rfl rfl rfl (Yd.move rfl) (gy_ 31 rfl rfl rfl (Yd.gtr rfl rfl) (WL.y rfl (Yd.pickF rfl rfl) (m_ rfl rfl (WL.partP (t := 35) rfl (fun hg35 => ?_) (fun hg35 => ?_)))))
 iterate 3 refine gn_ 35 rfl rfl rfl rfl ?_
 refine WL.y rfl (Yd.pickT rfl rfl) (m_ rfl rfl ?_)
 iterate 3 refine gn_ 40 rfl rfl rfl rfl ?_
 refine gu_ 43 rfl rfl rfl (gu_ 43 rfl rfl rfl (gn_ 40 rfl rfl rfl rfl (WL.y rfl (Yd.pickT rfl rfl) (m_ rfl rfl ?_))))
 iterate 3 refine gn_ 48 rfl rfl rfl rfl ?_
 refine gu_ 51 rfl rfl rfl (gu_ 51 rfl rfl rfl (gn_ 48 rfl rfl rfl rfl (WL.y rfl (Yd.pickT rfl rfl) (WL.nil ?_))))
 exact DN.reachK (_) (by
     unfold keepBad
     rw [hrs]
     show _ ↔ _ ∨ (act = 3 ∧ code ≠ 2) ∨ (act = 4 ∧ code ≠ 1)
     simp only [decide_eq_true_eq, eq_self, true_iff, Bool.false_eq_true, false_iff]
     omega) (Sx.put rfl (sx_)) (Sp.all sp_)
 refine gy_ 35 rfl rfl rfl (Yd.move rfl) (gy_ 35 rfl rfl rfl (Yd.len (e := 5) kr_ rfl) ?_)
 refine gy_ 35 rfl rfl rfl (Yd.gtr rfl rfl) (WL.y rfl (Yd.pickF rfl rfl) (m_ rfl rfl (WL.partP (t := 40) rfl (fun hg40 => ?_) (fun hg40 => ?_))))
 iterate 3 refine gn_ 40 rfl rfl rfl rfl ?_
 refine gu_ 43 rfl rfl rfl (gu_ 43 rfl rfl rfl (gn_ 40 rfl rfl rfl rfl (WL.y rfl (Yd.pickT rfl rfl) (m_ rfl rfl ?_))))
 iterate 3 refine gn_ 48 rfl rfl rfl rfl ?_
 refine gu_ 51 rfl rfl rfl (gu_ 51 rfl rfl rfl (gn_ 48 rfl rfl rfl rfl (WL.y rfl (Yd.pickT rfl rfl) (WL.nil ?_))))
 exact DN.reachK (_) (by
     unfold keepBad
     rw [hrs]
     show _ ↔ _ ∨ (act = 3 ∧ code ≠ 2) ∨ (act = 4 ∧ code ≠ 1)
     simp only [decide_eq_true_eq, eq_self, true_iff, Bool.false_eq_true, false_iff]
     omega) (Sx.put rfl (sx_)) (Sp.all sp_)
 refine gy_ 40 rfl rfl rfl (Yd.move rfl) (gy_ 40 rfl rfl rfl (Yd.eql rfl rfl) (gy_ 40 rfl rfl rfl (Yd.move rfl) (WL.partP (t := 43) rfl (fun hg43 => ?_) (fun hg43 => ?_))))
 refine gy_ 43 rfl rfl rfl (Yd.move rfl) (gy_ 43 rfl rfl rfl (Yd.neq rfl rfl) (gy_ 40 rfl rfl rfl (Yd.pickT rfl rfl) (WL.y rfl (Yd.pickF rfl rfl) (m_ rfl rfl (WL.partP (t := 48) rfl (fun hg48 => ?_) (fun hg48 => ?_))))))
 iterate 3 refine gn_ 48 rfl rfl rfl rfl ?_
 refine gu_ 51 rfl rfl rfl (gu_ 51 rfl rfl rfl (gn_ 48 rfl rfl rfl rfl (WL.y rfl (Yd.pickT rfl rfl) (WL.nil ?_))))
 exact DN.reachK (_) (by
     unfold keepBad
     rw [hrs]
     show _ ↔ _ ∨ (act = 3 ∧ code ≠ 2) ∨ (act = 4 ∧ code ≠ 1)
     simp only [decide_eq_true_eq, eq_self, true_iff, Bool.false_eq_true, false_iff]
     omega) (Sx.put rfl (sx_)) (Sp.all sp_)
 refine gy_ 48 rfl rfl rfl (Yd.move rfl) (gy_ 48 rfl rfl rfl (Yd.eql rfl rfl) (gy_ 48 rfl rfl rfl (Yd.move rfl) (WL.partP (t := 51) rfl (fun hg51 => ?_) (fun hg51 => ?_))))
 refine gy_ 51 rfl rfl rfl (Yd.move rfl) (gy_ 51 rfl rfl rfl (Yd.neq rfl rfl) (gy_ 48 rfl rfl rfl (Yd.pickT rfl rfl) (WL.y rfl (Yd.pickF rfl rfl) (WL.nil ?_))))
 exact DN.reachK (_) (by
     unfold keepBad
     rw [hrs]
     show _ ↔ _ ∨ (act = 3 ∧ code ≠ 2) ∨ (act = 4 ∧ code ≠ 1)
     simp only [decide_eq_true_eq, eq_self, true_iff, Bool.false_eq_true, false_iff]
     omega) (Sx.put rfl (sx_)) (Sp.all sp_)
 refine gn_ 51 rfl rfl rfl rfl (gn_ 51 rfl rfl rfl rfl (gy_ 48 rfl rfl rfl (Yd.pickF rfl rfl) (WL.y rfl (Yd.pickF rfl rfl) (WL.nil ?_))))
 exact DN.reachK (_) (by
     unfold keepBad
     rw [hrs]
     show _ ↔ _ ∨ (act = 3 ∧ code ≠ 2) ∨ (act = 4 ∧ code ≠ 1)
     simp only [decide_eq_true_eq, eq_self, true_iff, Bool.false_eq_true, false_iff]
     omega) (Sx.put rfl (sx_)) (Sp.all sp_)
 refine gn_ 43 rfl rfl rfl rfl (gn_ 43 rfl rfl rfl rfl (gy_ 40 rfl rfl rfl (Yd.pickF rfl rfl) (WL.y rfl (Yd.pickF rfl rfl) (m_ rfl rfl (gy_ 48 rfl rfl rfl (Yd.move rfl) (gy_ 48 rfl rfl rfl (Yd.eql rfl rfl) (gy_ 48 rfl rfl rfl (Yd.move rfl) (WL.partP (t := 51) rfl (fun hg51 => ?_) (fun hg51 => ?_)))))))))
 refine gy_ 51 rfl rfl rfl (Yd.move rfl) (gy_ 51 rfl rfl rfl (Yd.neq rfl rfl) (gy_ 48 rfl rfl rfl (Yd.pickT rfl rfl) (WL.y rfl (Yd.pickF rfl rfl) (WL.nil ?_))))
 exact DN.reachK (_) (by
     unfold keepBad
     rw [hrs]
     show _ ↔ _ ∨ (act = 3 ∧ code ≠ 2) ∨ (act = 4 ∧ code ≠ 1)
     simp only [decide_eq_true_eq, eq_self, true_iff, Bool.false_eq_true, false_iff]
     omega) (Sx.put rfl (sx_)) (Sp.all sp_)
 refine gn_ 51 rfl rfl rfl rfl (gn_ 51 rfl rfl rfl rfl (gy_ 48 rfl rfl rfl (Yd.pickF rfl rfl) (WL.y rfl (Yd.pickF rfl rfl) (WL.nil ?_))))
 exact DN.reachK (_) (by
     unfold keepBad
     rw [hrs]
     show _ ↔ _ ∨ (act = 3 ∧ code ≠ 2) ∨ (act = 4 ∧ code ≠ 1)
     simp only [decide_eq_true_eq, eq_self, true_iff, Bool.false_eq_true, false_iff]
     omega) (Sx.put rfl (sx_)) (Sp.all sp_)
 intro z55 hz55
 refine WC.cond rfl (fun h55 => ?_) (fun h55 => ?_)
 refine sr_ (WL.y rfl (Yd.buildL (pl := [(0, 1), (1, 1)]) (zs := [.int .u32 0, .slice none 0 0]) (parts := []) (vs := []) (cells := [.int .u32 0, .slice none 0 0]) kr_ kr_ rfl rfl) ?_)
 refine WL.s (Hd.storeAll (n := 2) kr_ rfl rfl (by rfl) one_ fr_ (by rfl) ⟨rfl, ?_⟩)
 refine a_ rfl rfl (nt_ (WC.ret (DN.then_ret (DN.retCT (s := 2) (H) Tryz.results73 kr_ rfl rfl mem_ (by rfl) sp_ ?_))))
 rw [keepK_bad (by rw [← hq]; exact h26) (by rw [← hq]; exact hz55.1 h55)]
 exact ⟨_, [], rfl, FAt.nil _ _, rfl⟩
 have hnb : ¬ keepBad (act, kk, er) (stepK n code reply) := fun h => by rw [hz55.2 h] at h55; cases h55
 have hrt : rightP (stepK n code reply) := Classical.byContradiction fun h => hnb (.inl h)
 have h200 := hck.1
 refine WC.skip (ts_ (WC.block (sr_ (m_ rfl rfl (WL.y rfl (Yd.eql rfl rfl) (a_ rfl rfl (nt_ (WC.ite rfl (fun h57 => ?_) (fun h57 => ?_)))))))))
 refine sr_ (WL.y rfl (Yd.buildL (pl := [(0, 1), (1, 1)]) (zs := [.int .u32 0, .slice none 0 0]) (parts := []) (vs := []) (cells := [.int .u32 0, .slice none 0 0]) kr_ kr_ rfl rfl) ?_)
 refine WL.s (Hd.storeAll (n := 2) kr_ rfl rfl (by rfl) one_ fr_ (by rfl) ⟨rfl, ?_⟩)
 refine a_ rfl rfl (nt_ (WC.ret (DN.block_ret (DN.then_ret (DN.retCT (s := 2) (H) Tryz.results73 kr_ rfl rfl mem_ (by rfl) sp_ ?_)))))
 rw [keepK_twice (by rw [← hq]; exact h26) (by rw [← hq]; exact fun h => by rw [hz55.2 h] at h55; cases h55) (by rw [← hq]; exact h57)]
 exact ⟨_, [], rfl, FAt.nil _ _, rfl⟩
 have hxn := new_key (code := code) (reply := reply) h0 (by rw [← hq]; exact h57)
 refine sr_ (f_ 1 kr_ rfl rfl ?_)
 refine d_ kr_ rfl mem_ (by rfl) rfl ?_
 refine WL.y rfl (Yd.len (e := 118) kr_ rfl) ?_
 refine WL.y rfl (Yd.eql rfl rfl) (a_ rfl rfl (nt_ (WC.ite rfl (fun h61 => ?_) (fun h61 => ?_))))
 refine sr_ (WL.y rfl (Yd.buildL (pl := [(0, 1), (1, 1)]) (zs := [.int .u32 0, .slice none 0 0]) (parts := []) (vs := []) (cells := [.int .u32 0, .slice none 0 0]) kr_ kr_ rfl rfl) ?_)
 refine WL.s (Hd.storeAll (n := 2) kr_ rfl rfl (by rfl) one_ fr_ (by rfl) ⟨rfl, ?_⟩)
 refine a_ rfl rfl (nt_ (WC.ret (DN.block_ret (DN.then_ret (DN.retCT (s := 2) (H) Tryz.results73 kr_ rfl rfl mem_ (by rfl) sp_ ?_)))))
 rw [keepK_full (by rw [← hq]; exact h26) (by rw [← hq]; exact fun h => by rw [hz55.2 h] at h55; cases h55) (by rw [← hq]; exact h57) (by omega)]
 exact ⟨_, [], rfl, FAt.nil _ _, rfl⟩
 refine WC.skip (DN.block_normal (DN.then_normal (WC.cutK (fun z : Nat × (Option Addr × Nat) × (Option Addr × Nat) × List Ck × List Ck => Ob 5 (.slice z.2.1.1 n.data.length z.2.1.2) n.data z.2.2.2.1 ∧ Ob 5 (.slice z.2.2.1.1 reply.length z.2.2.1.2) reply z.2.2.2.2) (fun z : Nat × (Option Addr × Nat) × (Option Addr × Nat) × List Ck × List Ck => [(13, .pointer (some ⟨z.1, 0, none⟩))]) (fun z : Nat × (Option Addr × Nat) × (Option Addr × Nat) × List Ck × List Ck => row z.1 (kc (stepK n code reply) (.slice z.2.1.1 n.data.length z.2.1.2) (.slice z.2.2.1.1 reply.length z.2.2.1.2)) 118 :: (z.2.2.2.1 ++ (z.2.2.2.2 ++ (row b11 (kc kk (.slice oa kk.asked.length ca) (.slice or_ kk.reply.length cr)) 118 :: (row b8 [.int .u32 0, .slice none 0 0] 82 :: row b5 (ntc n (.slice ko n.key.length kcap) (.slice do_ n.data.length dc)) 52 :: row b4 [.int .u32 e.toNat, .slice ao ks.length c] 82 :: H))))) ?_ ?_)))
 refine WC.draw 15 kr_ rfl ?_
 refine WAG.start (N := 15) rfl (wy_ 0 [] rfl (Yd.fieldAddr (k := 5) kr_ rfl) kr_ ?_)
 refine wq_ (wf_ (i := 1) [0] rfl (QAt.rd Wt.none (Rd.load1 kr_ rfl mem_ (by rfl))) kr_) kr_ ?_
 refine wy_ 2 [] rfl (Yd.fieldAddr (k := 6) kr_ rfl) kr_ ?_
 refine wq_ (wf_ (i := 3) [2] rfl (QAt.rd Wt.none (Rd.load1 kr_ rfl mem_ (by rfl))) kr_) kr_ ?_
 refine wy_ 4 [] rfl (Yd.fieldAddr (k := 7) kr_ rfl) kr_ ?_
 refine wq_ (wf_ (i := 5) [4] rfl (QAt.rd Wt.none (Rd.load1 kr_ rfl mem_ (by rfl))) kr_) kr_ ?_
 refine wy_ 6 [] rfl (Yd.fieldAddr (k := 10) kr_ rfl) kr_ ?_
 refine wq_ (wf_ (i := 7) [6] rfl (QAt.rd Wt.none (Rd.load1 kr_ rfl mem_ (by rfl))) kr_) kr_ ?_
 refine wy_ 9 [] rfl (Yd.move rfl) kr_ ?_
 refine wy_ 10 [] rfl (Yd.move rfl) kr_ ?_
 refine ws_ [(8, [7]), (13, [])] kr_ (all_c ?_ (all_c ?_ (all_n)))
 refine so_ (j := 8) [_] rfl ?_
 refine SO.c rfl Wt.none rfl (Ent.func Tryz.call40 rfl) (copy_spec _ n.data H hvd (by have := hrt.2.2.2.1; simp only [stepK] at this; omega)) (Sp.p sp_) ?_
 rintro x1 H1 ⟨C1, hC1, rfl⟩
 obtain ⟨o1, c1, rfl, hc1⟩ := hC1.form
 refine wk_ [_, _, _, _, _, _, _, _, _] (_ :: ([_] ++ _)) rfl rfl (all_c (wf_ [4] rfl (QAt.rd Wt.none (Rd.load1 kr_ rfl mem_ (by rfl))) kr_) (all_c (wf_ [2] rfl (QAt.rd Wt.none (Rd.load1 kr_ rfl mem_ (by rfl))) kr_) (all_c (wf_ [0] rfl (QAt.rd Wt.none (Rd.load1 kr_ rfl mem_ (by rfl))) kr_) all_n))) ?_
 refine ws_ [(11, [10]), (13, [])] kr_ (all_c ?_ (all_c ?_ (all_n)))
 refine so_ (j := 11) [_] rfl ?_
 refine SO.c rfl Wt.none rfl (Ent.func Tryz.call40 rfl) (copy_spec _ reply H hvr (by have := hrt.2.2.2.2.1; simp only [stepK] at this; omega)) (Sp.p sp_) ?_
 rintro x2 H2 ⟨C2, hC2, rfl⟩
 obtain ⟨o2, c2, rfl, hc2⟩ := hC2.form
 refine wk_ [_, _, _, _, _, _, _, _] (_ :: ([_] ++ _)) rfl rfl (all_c (wf_ [4] rfl (QAt.rd Wt.none (Rd.load1 kr_ rfl mem_ (by rfl))) kr_) (all_c (wf_ [2] rfl (QAt.rd Wt.none (Rd.load1 kr_ rfl mem_ (by rfl))) kr_) (all_c (wf_ [0] rfl (QAt.rd Wt.none (Rd.load1 kr_ rfl mem_ (by rfl))) kr_) all_n))) ?_
 refine wy_ 12 [9, 5, 3, 1] rfl (Yd.buildL (pl := [(0, 1), (1, 1), (2, 1), (3, 1), (4, 1), (5, 1)]) (zs := [.int .u32 0, .int .i64 0, .bool false, .slice none 0 0, .int .i64 0, .slice none 0 0]) (parts := [(0, .tmp 68), (1, .tmp 70), (2, .tmp 72), (3, .tmp 75), (4, .tmp 76), (5, .tmp 78)]) (vs := [(0, _), (1, _), (2, _), (3, _), (4, _), (5, _)]) (cells := [_, _, _, _, _, _]) kr_ kr_ rfl rfl) kr_ ?_
 refine ws_ [(13, [])] kr_ (all_c ?_ (all_n))
 refine so_ (j := 13) [] rfl (SO.h rfl Wt.none rfl (Hd.alloc (zs := [.int .u32 0, .int .i64 0, .bool false, .slice none 0 0, .int .i64 0, .slice none 0 0]) kr_ fun b13 => ⟨_, rfl, ?_⟩))
 refine wk_ [_, _, _, _, _, _, _, _, _] (_ :: ([] ++ _)) rfl rfl (all_c (wf_ [4] rfl (QAt.rd Wt.none (Rd.load1 kr_ rfl mem_ (by rfl))) kr_) (all_c (wf_ [2] rfl (QAt.rd Wt.none (Rd.load1 kr_ rfl mem_ (by rfl))) kr_) (all_c (wf_ [0] rfl (QAt.rd Wt.none (Rd.load1 kr_ rfl mem_ (by rfl))) kr_) all_n))) ?_
 refine ws_ [(14, [12, 9, 6, 5, 4, 3, 2, 1, 0])] kr_ (all_c ?_ (all_n))
 refine so_ (j := 14) [_, _, _, _, _, _, _, _, _] rfl (SO.s rfl Wt.none (Hd.storeAll (n := 6) kr_ rfl rfl (by rfl) one_ fr_ (by rfl) ⟨rfl, ?_⟩))
 refine wk_ [] (([_, _, _, _, _, _, _, _, _] ++ _)) rfl rfl all_n (wd_ [] rfl kr_ ?_)
 exact DN.reachK ((b13, (o1, c1), (o2, c2), C1, C2)) (⟨hC1, hC2⟩) (Sx.put rfl (sx_)) (Sp.all sp_)
 refine so_ (j := 13) [] rfl (SO.h rfl Wt.none rfl (Hd.alloc (zs := [.int .u32 0, .int .i64 0, .bool false, .slice none 0 0, .int .i64 0, .slice none 0 0]) kr_ fun b13 => ⟨_, rfl, ?_⟩))
 refine wk_ [_, _, _, _, _, _, _, _, _] (_ :: ([] ++ _)) rfl rfl (all_c (wf_ [4] rfl (QAt.rd Wt.none (Rd.load1 kr_ rfl mem_ (by rfl))) kr_) (all_c (wf_ [2] rfl (QAt.rd Wt.none (Rd.load1 kr_ rfl mem_ (by rfl))) kr_) (all_c (wf_ [0] rfl (QAt.rd Wt.none (Rd.load1 kr_ rfl mem_ (by rfl))) kr_) all_n))) ?_
 refine ws_ [(11, [10])] kr_ (all_c ?_ (all_n))
 refine so_ (j := 11) [_] rfl ?_
 refine SO.c rfl Wt.none rfl (Ent.func Tryz.call40 rfl) (copy_spec _ reply H hvr (by have := hrt.2.2.2.2.1; simp only [stepK] at this; omega)) (Sp.p sp_) ?_
 rintro x2 H2 ⟨C2, hC2, rfl⟩
 obtain ⟨o2, c2, rfl, hc2⟩ := hC2.form
 refine wk_ [_, _, _, _, _, _, _, _] (_ :: ([_] ++ _)) rfl rfl (all_c (wf_ [4] rfl (QAt.rd Wt.none (Rd.load1 kr_ rfl mem_ (by rfl))) kr_) (all_c (wf_ [2] rfl (QAt.rd Wt.none (Rd.load1 kr_ rfl mem_ (by rfl))) kr_) (all_c (wf_ [0] rfl (QAt.rd Wt.none (Rd.load1 kr_ rfl mem_ (by rfl))) kr_) all_n))) ?_
 refine wy_ 12 [9, 5, 3, 1] rfl (Yd.buildL (pl := [(0, 1), (1, 1), (2, 1), (3, 1), (4, 1), (5, 1)]) (zs := [.int .u32 0, .int .i64 0, .bool false, .slice none 0 0, .int .i64 0, .slice none 0 0]) (parts := [(0, .tmp 68), (1, .tmp 70), (2, .tmp 72), (3, .tmp 75), (4, .tmp 76), (5, .tmp 78)]) (vs := [(0, _), (1, _), (2, _), (3, _), (4, _), (5, _)]) (cells := [_, _, _, _, _, _]) kr_ kr_ rfl rfl) kr_ ?_
 refine ws_ [(14, [12, 9, 6, 5, 4, 3, 2, 1, 0])] kr_ (all_c ?_ (all_n))
 refine so_ (j := 14) [_, _, _, _, _, _, _, _, _] rfl (SO.s rfl Wt.none (Hd.storeAll (n := 6) kr_ rfl rfl (by rfl) one_ fr_ (by rfl) ⟨rfl, ?_⟩))
 refine wk_ [] (([_, _, _, _, _, _, _, _, _] ++ _)) rfl rfl all_n (wd_ [] rfl kr_ ?_)
 exact DN.reachK ((b13, (o1, c1), (o2, c2), C1, C2)) (⟨hC1, hC2⟩) (Sx.put rfl (sx_)) (Sp.all sp_)
 refine so_ (j := 13) [] rfl (SO.h rfl Wt.none rfl (Hd.alloc (zs := [.int .u32 0, .int .i64 0, .bool false, .slice none 0 0, .int .i64 0, .slice none 0 0]) kr_ fun b13 => ⟨_, rfl, ?_⟩))
 refine wk_ [_, _, _, _, _, _, _, _, _, _] (_ :: ([] ++ _)) rfl rfl (all_c (wf_ [6] rfl (QAt.rd Wt.none (Rd.load1 kr_ rfl mem_ (by rfl))) kr_) (all_c (wf_ [4] rfl (QAt.rd Wt.none (Rd.load1 kr_ rfl mem_ (by rfl))) kr_) (all_c (wf_ [2] rfl (QAt.rd Wt.none (Rd.load1 kr_ rfl mem_ (by rfl))) kr_) (all_c (wf_ [0] rfl (QAt.rd Wt.none (Rd.load1 kr_ rfl mem_ (by rfl))) kr_) all_n)))) ?_
 refine ws_ [(8, [7])] kr_ (all_c ?_ (all_n))
 refine so_ (j := 8) [_] rfl ?_
 refine SO.c rfl Wt.none rfl (Ent.func Tryz.call40 rfl) (copy_spec _ n.data H hvd (by have := hrt.2.2.2.1; simp only [stepK] at this; omega)) (Sp.p sp_) ?_
 rintro x1 H1 ⟨C1, hC1, rfl⟩
 obtain ⟨o1, c1, rfl, hc1⟩ := hC1.form
 refine wk_ [_, _, _, _, _, _, _, _, _] (_ :: ([_] ++ _)) rfl rfl (all_c (wf_ [4] rfl (QAt.rd Wt.none (Rd.load1 kr_ rfl mem_ (by rfl))) kr_) (all_c (wf_ [2] rfl (QAt.rd Wt.none (Rd.load1 kr_ rfl mem_ (by rfl))) kr_) (all_c (wf_ [0] rfl (QAt.rd Wt.none (Rd.load1 kr_ rfl mem_ (by rfl))) kr_) all_n))) ?_
 refine ws_ [(11, [10])] kr_ (all_c ?_ (all_n))
 refine so_ (j := 11) [_] rfl ?_
 refine SO.c rfl Wt.none rfl (Ent.func Tryz.call40 rfl) (copy_spec _ reply H hvr (by have := hrt.2.2.2.2.1; simp only [stepK] at this; omega)) (Sp.p sp_) ?_
 rintro x2 H2 ⟨C2, hC2, rfl⟩
 obtain ⟨o2, c2, rfl, hc2⟩ := hC2.form
 refine wk_ [_, _, _, _, _, _, _, _] (_ :: ([_] ++ _)) rfl rfl (all_c (wf_ [4] rfl (QAt.rd Wt.none (Rd.load1 kr_ rfl mem_ (by rfl))) kr_) (all_c (wf_ [2] rfl (QAt.rd Wt.none (Rd.load1 kr_ rfl mem_ (by rfl))) kr_) (all_c (wf_ [0] rfl (QAt.rd Wt.none (Rd.load1 kr_ rfl mem_ (by rfl))) kr_) all_n))) ?_
 refine wy_ 12 [9, 5, 3, 1] rfl (Yd.buildL (pl := [(0, 1), (1, 1), (2, 1), (3, 1), (4, 1), (5, 1)]) (zs := [.int .u32 0, .int .i64 0, .bool false, .slice none 0 0, .int .i64 0, .slice none 0 0]) (parts := [(0, .tmp 68), (1, .tmp 70), (2, .tmp 72), (3, .tmp 75), (4, .tmp 76), (5, .tmp 78)]) (vs := [(0, _), (1, _), (2, _), (3, _), (4, _), (5, _)]) (cells := [_, _, _, _, _, _]) kr_ kr_ rfl rfl) kr_ ?_
 refine ws_ [(14, [12, 9, 6, 5, 4, 3, 2, 1, 0])] kr_ (all_c ?_ (all_n))
 refine so_ (j := 14) [_, _, _, _, _, _, _, _, _] rfl (SO.s rfl Wt.none (Hd.storeAll (n := 6) kr_ rfl rfl (by rfl) one_ fr_ (by rfl) ⟨rfl, ?_⟩))
 refine wk_ [] (([_, _, _, _, _, _, _, _, _] ++ _)) rfl rfl all_n (wd_ [] rfl kr_ ?_)
 exact DN.reachK ((b13, (o1, c1), (o2, c2), C1, C2)) (⟨hC1, hC2⟩) (Sx.put rfl (sx_)) (Sp.all sp_)
 rintro ⟨b13, ⟨o1, c1⟩, ⟨o2, c2⟩, C1, C2⟩ ⟨hC1, hC2⟩
 dsimp only at hC1 hC2 ⊢
 refine sr_ (WL.h rfl (Hd.loadAll (n := 2) kr_ rfl mem_ (by rfl) ⟨_, rfl, ?_⟩))
 refine WL.c rfl (Ent.func Tryz.call108 rfl) (rcopy_tells e _ ks H hv hl hb) (Sp.p sp_) ?_
 rintro r2 H1 ⟨w, D, rfl, hF, rfl⟩
 obtain ⟨cs, CO, DO, hO2, hK2, rfl⟩ := hF
 obtain ⟨wo, wc, rfl, hwc⟩ := hO2.form
 have hcl := hK2.len
 refine WL.h rfl (Hd.alloc (zs := [.int .u32 0, .slice none 0 0]) kr_ fun b14 => ⟨_, rfl, ?_⟩)
 refine WL.s (Hd.storeAll (n := 2) kr_ rfl rfl (by rfl) one_ fr_ (by rfl) ⟨rfl, ?_⟩)
 refine ntsr_ (f_ 1 kr_ rfl rfl ?_)
 refine d_ kr_ rfl mem_ (by rfl) rfl ?_
 refine WL.y rfl (Yd.buildL (pl := [(0, 1), (1, 1)]) (zs := [.int .u32 0, .slice none 0 0]) (parts := [(0, .tmp 83)]) (vs := [(0, _)]) (cells := [_, .slice none 0 0]) kr_ kr_ rfl rfl) ?_
 refine WL.h rfl (Hd.alloc (zs := [.int .u32 0, .slice none 0 0]) kr_ fun b15 => ⟨_, rfl, ?_⟩)
 refine WL.s (Hd.storeAll (n := 2) kr_ rfl rfl (by rfl) one_ fr_ (by rfl) ⟨rfl, ?_⟩)
 refine ntsr_ (a_ rfl rfl (nt_ (WC.seq (sr_ (a_ rfl rfl (nt_ (WC.block ?_)))))))
 refine WC.loopS (fun z : Nat × Nat × Bool × Value × List Ck => z.1 ≤ ks.length ∧ z.2.2.1 = decide ((pos ks (stepK n code reply).num) < z.1) ∧ z.2.1 = (if (pos ks (stepK n code reply).num) < z.1 then z.1 + 1 else z.1) ∧ Own z.2.2.2.1 z.2.1 (layC cs (kc (stepK n code reply) (.slice o1 n.data.length c1) (.slice o2 reply.length c2)) (pos ks (stepK n code reply).num) z.1) 118 6 z.2.2.2.2) (fun z : Nat × Nat × Bool × Value × List Ck => [(17, .int .i64 (z.1 : Int)), (16, .bool z.2.2.1)]) (fun z : Nat × Nat × Bool × Value × List Ck => row b15 [.int .u32 n.epoch.toNat, z.2.2.2.1] 82 :: (z.2.2.2.2 ++ (row b14 [.int .u32 e.toNat, .slice wo ks.length wc] 82 :: (CO ++ (DO ++ (row b13 (kc (stepK n code reply) (.slice o1 n.data.length c1) (.slice o2 reply.length c2)) 118 :: (C1 ++ (C2 ++ (row b11 (kc kk (.slice oa kk.asked.length ca) (.slice or_ kk.reply.length cr)) 118 :: (row b8 [.int .u32 0, .slice none 0 0] 82 :: row b5 (ntc n (.slice ko n.key.length kcap) (.slice do_ n.data.length dc)) 52 :: row b4 [.int .u32 e.toNat, .slice ao ks.length c] 82 :: H)))))))))) (fun z : Nat × Nat × Bool × Value × List Ck => ks.length - z.1) (⟨0, 0, false, .slice none 0 0, []⟩) (show 0 ≤ ks.length ∧ false = decide ((pos ks (stepK n code reply).num) < 0) ∧ 0 = (if (pos ks (stepK n code reply).num) < 0 then 0 + 1 else 0) ∧ Own (.slice none 0 0) 0 (layC cs (kc (stepK n code reply) (.slice o1 n.data.length c1) (.slice o2 reply.length c2)) (pos ks (stepK n code reply).num) 0) 118 6 [] from ⟨Nat.zero_le _, (decide_eq_false (by omega)).symm, by rw [if_neg (by omega)], by rw [layC_zero]; exact Own.nil _ _⟩) (Sx.put rfl (Sx.put rfl (sx_))) sp_ ?_
 rintro ⟨i, m, ld, vl, Cl⟩ hI
 replace hI : i ≤ ks.length ∧ ld = decide ((pos ks (stepK n code reply).num) < i) ∧ m = (if (pos ks (stepK n code reply).num) < i then i + 1 else i) ∧ Own vl m (layC cs (kc (stepK n code reply) (.slice o1 n.data.length c1) (.slice o2 reply.length c2)) (pos ks (stepK n code reply).num) i) 118 6 Cl := hI
 obtain ⟨hi, hld, hm, hOl⟩ := hI
 change WC _ _ _ _ _ _ ([(17, .int .i64 (i : Int)), (16, .bool ld)] ++ _) (row b15 [.int .u32 n.epoch.toNat, vl] 82 :: (Cl ++ (row b14 [.int .u32 e.toNat, .slice wo ks.length wc] 82 :: (CO ++ (DO ++ (row b13 (kc (stepK n code reply) (.slice o1 n.data.length c1) (.slice o2 reply.length c2)) 118 :: (C1 ++ (C2 ++ (row b11 (kc kk (.slice oa kk.asked.length ca) (.slice or_ kk.reply.length cr)) 118 :: (row b8 [.int .u32 0, .slice none 0 0] 82 :: row b5 (ntc n (.slice ko n.key.length kcap) (.slice do_ n.data.length dc)) 52 :: row b4 [.int .u32 e.toNat, .slice ao ks.length c] 82 :: H))))))))))
 obtain ⟨lo, lc, rfl, hlc⟩ := hOl.form
 have hmi : m ≤ i + 1 := by rw [hm]; split <;> omega
 refine WC.seq (sr_ (m_ rfl rfl (f_ 1 kr_ rfl rfl ?_)))
 refine d_ kr_ rfl mem_ (by rfl) rfl ?_
 refine WL.y rfl (Yd.len (e := 118) kr_ rfl) ?_
 refine WL.y rfl (Yd.lss rfl rfl) (nt_ (WC.ite rfl (fun h89 => ?_) (fun h89 => ?_)))
 have hlt : i < ks.length := by omega
 obtain ⟨va, vr, hg, hva, hvr2⟩ := hK2.views.at i hlt
 obtain ⟨ao1, ac1, rfl, _⟩ := hva.form
 obtain ⟨ro1, rc1, rfl, _⟩ := hvr2.form
 have hri := chk_right hck hlt
 have hpl := pos_len (i := i) hck hxn hlt
 obtain ⟨lb, lf, lcs, lT, lfr, lex, elo, _, hlm, hlcs⟩ := hO2.rs.lies (by omega)
 refine WC.skip (ts_ (WC.block (WC.seq (WC.seq (WC.draw 11 kr_ rfl ?_)))))
 refine WAG.start (N := 11) rfl (wy_ 0 [] rfl (Yd.move rfl) kr_ ?_)
 refine wy_ 1 [0] rfl (Yd.notB rfl) kr_ ?_
 refine wy_ 2 [1] rfl (Yd.move rfl) kr_ ?_
 refine WAG.part (fun hg94 => ?_) (fun hg94 => ?_)
 refine wq_ (wf_ (i := 3) [2] rfl (QAt.rd (Wt.yes (dj := 94) rfl rfl) (Rd.loadAll (n := 6) kr_ rfl mem_ (by rfl))) kr_) kr_ ?_
 refine wg_ 4 [2] 94 rfl rfl (Yd.fieldAddr (k := 1) kr_ rfl) kr_ ?_
 refine wq_ (wf_ (i := 5) [4, 2] rfl (QAt.rd (Wt.yes (dj := 94) rfl rfl) (Rd.load1 kr_ rfl mem_ (by rfl))) kr_) kr_ ?_
 refine wg_ 6 [2] 94 rfl rfl (Yd.move rfl) kr_ ?_
 refine wg_ 7 [6, 5, 2] 94 rfl rfl (Yd.indexAddr (e := 118) (s := 6) (b := lb) (o := lf) (n := ks.length) (c := wc) kr_ kr_ (congrArg (fun q => some (Value.slice q ks.length wc)) elo) rfl (by omega) (by omega)) kr_ ?_
 refine wq_ (wf_ (i := 8) [7, 2] rfl (QAt.rd (Wt.yes (dj := 94) rfl rfl) (Rd.loadA (n := 6) (b := lb) (o := lf + (i : Int).toNat * 6) (cs := lcs) (vs := kc ks[i] (.slice ao1 ks[i].asked.length ac1) (.slice ro1 ks[i].reply.length rc1)) kr_ rfl (Gr.get gr_ hlm) rfl (rs_cell hlcs (by omega) hg))) kr_) kr_ ?_
 refine wq_ (wf_ (i := 9) [8, 3, 2] rfl (QAt.rf (Wt.yes (dj := 94) rfl rfl) (Ent.func Tryz.call115 rfl) (rless_reads (stepK n code reply) ks[i] _ _ _ _ rfl rfl rfl rfl _) Sp.sn) kr_) kr_ ?_
 refine wy_ 10 [9, 2] rfl (Yd.pickT rfl rfl) kr_ ?_
 refine wd_ [_, _, _, _, _, _, _, _, _, _, _] rfl kr_ ?_
 refine DN.then_normal (WC.cond rfl (fun h102 => ?_) (fun h102 => ?_))
 have hpi : (pos ks (stepK n code reply).num) = i := by
   rw [lessK_num hrt hri] at h102
   exact lay_at (hpl.2 (of_decide_eq_true h102)) (by rw [hld] at hg94; simpa using hg94)
 refine sr_ (f_ 1 kr_ rfl rfl ?_)
 refine d_ kr_ rfl mem_ (by rfl) rfl ?_
 refine WL.h rfl (Hd.loadAll (n := 6) kr_ rfl mem_ (by rfl) ⟨_, rfl, ?_⟩)
 refine WL.h rfl (Hd.buildA (e := 118) (sz := 6) (zs := [.int .u32 0, .int .i64 0, .bool false, .slice none 0 0, .int .i64 0, .slice none 0 0]) kr_ kr_ kr_ rfl rfl (by rfl) kr_ fun b106 => ⟨_, rfl, ?_⟩)
 refine WL.h rfl (Hd.appendRow (e := 118) (sz := 6) (bytes := 80) (zs := [.int .u32 0, .int .i64 0, .bool false, .slice none 0 0, .int .i64 0, .slice none 0 0]) kr_ kr_ rfl (by omega) rfl rfl (hOl) sp_ mem_ (by rfl) (kc_one (by rfl) (by rfl)) (by simp only [maxLen]; omega) (by omega) fun v2 C2 h2 => ⟨_, rfl, ?_⟩)
 obtain ⟨lo2, lc2, rfl, hlc2⟩ := h2.form
 refine f_ 1 kr_ rfl rfl ?_
 refine WL.s (Hd.store1s kr_ rfl rfl (by rfl) fr_ (by rfl) (by first | (simp only [List.set_cons_zero, List.set_cons_succ, Nat.zero_add, Nat.add_zero, Nat.reduceAdd]; rfl) | rfl) ⟨rfl, ?_⟩)
 refine ntr_ (a_ rfl rfl (nt_ (WC.draw 11 kr_ rfl ?_)))
 refine WAG.start (N := 11) rfl (wy_ 0 [] rfl (Yd.fieldAddr (k := 1) kr_ rfl) kr_ ?_)
 refine wq_ (wf_ (i := 1) [0] rfl (QAt.rd Wt.none (Rd.load1 kr_ rfl mem_ (by rfl))) kr_) kr_ ?_
 refine wy_ 2 [] rfl (Yd.fieldAddr (k := 1) kr_ rfl) kr_ ?_
 refine wq_ (wf_ (i := 3) [2] rfl (QAt.rd Wt.none (Rd.load1 kr_ rfl mem_ (by rfl))) kr_) kr_ ?_
 refine wy_ 4 [] rfl (Yd.move rfl) kr_ ?_
 refine wy_ 5 [4, 3] rfl (Yd.indexAddr (e := 118) (s := 6) (b := lb) (o := lf) (n := ks.length) (c := wc) kr_ kr_ (congrArg (fun q => some (Value.slice q ks.length wc)) elo) rfl (by omega) (by omega)) kr_ ?_
 refine wq_ (wf_ (i := 6) [5] rfl (QAt.rd Wt.none (Rd.loadA (n := 6) (b := lb) (o := lf + (i : Int).toNat * 6) (cs := lcs) (vs := kc ks[i] (.slice ao1 ks[i].asked.length ac1) (.slice ro1 ks[i].reply.length rc1)) kr_ rfl (Gr.get gr_ hlm) rfl (rs_cell hlcs (by omega) hg))) kr_) kr_ ?_
 refine ws_ [(7, [6])] kr_ (all_c ?_ (all_n))
 refine so_ (j := 7) [_] rfl (SO.h rfl Wt.none rfl (Hd.buildA (e := 118) (sz := 6) (zs := [.int .u32 0, .int .i64 0, .bool false, .slice none 0 0, .int .i64 0, .slice none 0 0]) kr_ kr_ kr_ rfl rfl (by rfl) kr_ fun b116 => ⟨_, rfl, ?_⟩))
 refine wk_ [_, _, _, _, _, _] (_ :: ([_] ++ _)) rfl rfl (all_c (wf_ [2] rfl (QAt.rd Wt.none (Rd.load1 kr_ rfl mem_ (by rfl))) kr_) (all_c (wf_ [0] rfl (QAt.rd Wt.none (Rd.load1 kr_ rfl mem_ (by rfl))) kr_) all_n)) ?_
 refine ws_ [(8, [1])] kr_ (all_c ?_ (all_n))
 refine so_ (j := 8) [_] rfl ?_
 refine SO.h rfl Wt.none rfl (Hd.appendRow (e := 118) (sz := 6) (bytes := 80) (zs := [.int .u32 0, .int .i64 0, .bool false, .slice none 0 0, .int .i64 0, .slice none 0 0]) kr_ kr_ rfl (by omega) rfl rfl (by first | exact h2 | exact hOl) sp_ mem_ (by rfl) (kc_one (by rfl) (by rfl)) (by simp only [maxLen]; omega) (by omega) fun v3 C3 h3 => ⟨_, rfl, ?_⟩)
 obtain ⟨lo3, lc3, rfl, hlc3⟩ := h3.form
 refine wk_ [_, _, _, _, _] (_ :: ([_] ++ _)) rfl rfl (all_c (wf_ [2] rfl (QAt.rd Wt.none (Rd.load1 kr_ rfl mem_ (by rfl))) kr_) all_n) ?_
 refine wy_ 9 [5, 4, 3, 2, 0] rfl (Yd.fieldAddr (k := 1) kr_ rfl) kr_ ?_
 refine ws_ [(10, [9, 5, 4, 3, 2, 0])] kr_ (all_c ?_ (all_n))
 refine so_ (j := 10) [_, _, _, _, _, _] rfl ?_
 refine SO.s rfl Wt.none (Hd.store1s kr_ rfl rfl (by rfl) fr_ (by rfl) (by first | (simp only [List.set_cons_zero, List.set_cons_succ, Nat.zero_add, Nat.add_zero, Nat.reduceAdd]; rfl) | rfl) ⟨rfl, ?_⟩)
 refine wk_ [] (([_, _, _, _, _, _] ++ _)) rfl rfl all_n (wd_ [] rfl kr_ ?_)
 refine DN.block_normal (DN.then_normal (WC.region (m_ rfl rfl (WL.y rfl (Yd.add rfl rfl (by omega) (by omega)) ?_))))
 refine a_ rfl rfl (WL.nil ?_)
 first
 | (have h9 : (pos ks (stepK n code reply).num) = i := hpi
    exact DN.againS (i + 1, m + 1 + 1, true, .slice lo3 (m + 1 + 1) lc3, C3) ⟨by show i + 1 ≤ ks.length; omega, (decide_eq_true (show (pos ks (stepK n code reply).num) < i + 1 by omega)).symm, by show m + 1 + 1 = (if (pos ks (stepK n code reply).num) < i + 1 then i + 1 + 1 else i + 1); rw [hm, if_neg (by omega), if_pos (by omega)], by
     show Own (.slice lo3 (m + 1 + 1) lc3) (m + 1 + 1) (layC cs (kc (stepK n code reply) (.slice o1 n.data.length c1) (.slice o2 reply.length c2)) (pos ks (stepK n code reply).num) (i + 1)) _ 6 C3
     rw [layC_now hcl hlt hpi, hg]; exact h3⟩ (by show ks.length - (i + 1) < ks.length - i; omega) ((Sx.put rfl (Sx.put rfl (sx_)))) sp_)
 | (first
    | have h9 : (pos ks (stepK n code reply).num) < i ∨ i < (pos ks (stepK n code reply).num) := hpi
    | have h9 : (pos ks (stepK n code reply).num) < i ∨ i < (pos ks (stepK n code reply).num) := .inl (of_decide_eq_true (hld.symm.trans (by simpa using hg94)))
    exact DN.againS (i + 1, m + 1, ld, .slice lo3 (m + 1) lc3, C3) ⟨by show i + 1 ≤ ks.length; omega, by show ld = decide ((pos ks (stepK n code reply).num) < i + 1); rw [hld, Bool.eq_iff_iff, decide_eq_true_eq, decide_eq_true_eq]; omega, by show m + 1 = (if (pos ks (stepK n code reply).num) < i + 1 then i + 1 + 1 else i + 1); rw [hm]; split <;> split <;> omega, by
     show Own (.slice lo3 (m + 1) lc3) (m + 1) (layC cs (kc (stepK n code reply) (.slice o1 n.data.length c1) (.slice o2 reply.length c2)) (pos ks (stepK n code reply).num) (i + 1)) _ 6 C3
     rcases h9 with h | h
     · rw [layC_past hcl hlt h, hg]; exact h3
     rw [layC_not hcl hlt h, hg]; exact h3⟩ (by show ks.length - (i + 1) < ks.length - i; omega) ((Sx.put rfl (Sx.put rfl (sx_)))) sp_)
 have hpi : (pos ks (stepK n code reply).num) < i ∨ i < (pos ks (stepK n code reply).num) := by
   first
   | (left; rw [hld] at hg94; simpa using hg94; done)
   | (rw [lessK_num hrt hri] at h102
      have h9 := of_decide_eq_false h102
      right
      omega)
 refine WC.skip (DN.then_normal (WC.draw 11 kr_ rfl ?_))
 refine WAG.start (N := 11) rfl (wy_ 0 [] rfl (Yd.fieldAddr (k := 1) kr_ rfl) kr_ ?_)
 refine wq_ (wf_ (i := 1) [0] rfl (QAt.rd Wt.none (Rd.load1 kr_ rfl mem_ (by rfl))) kr_) kr_ ?_
 refine wy_ 2 [] rfl (Yd.fieldAddr (k := 1) kr_ rfl) kr_ ?_
 refine wq_ (wf_ (i := 3) [2] rfl (QAt.rd Wt.none (Rd.load1 kr_ rfl mem_ (by rfl))) kr_) kr_ ?_
 refine wy_ 4 [] rfl (Yd.move rfl) kr_ ?_
 refine wy_ 5 [4, 3] rfl (Yd.indexAddr (e := 118) (s := 6) (b := lb) (o := lf) (n := ks.length) (c := wc) kr_ kr_ (congrArg (fun q => some (Value.slice q ks.length wc)) elo) rfl (by omega) (by omega)) kr_ ?_
 refine wq_ (wf_ (i := 6) [5] rfl (QAt.rd Wt.none (Rd.loadA (n := 6) (b := lb) (o := lf + (i : Int).toNat * 6) (cs := lcs) (vs := kc ks[i] (.slice ao1 ks[i].asked.length ac1) (.slice ro1 ks[i].reply.length rc1)) kr_ rfl (Gr.get gr_ hlm) rfl (rs_cell hlcs (by omega) hg))) kr_) kr_ ?_
 refine ws_ [(7, [6])] kr_ (all_c ?_ (all_n))
 refine so_ (j := 7) [_] rfl (SO.h rfl Wt.none rfl (Hd.buildA (e := 118) (sz := 6) (zs := [.int .u32 0, .int .i64 0, .bool false, .slice none 0 0, .int .i64 0, .slice none 0 0]) kr_ kr_ kr_ rfl rfl (by rfl) kr_ fun b116 => ⟨_, rfl, ?_⟩))
 refine wk_ [_, _, _, _, _, _] (_ :: ([_] ++ _)) rfl rfl (all_c (wf_ [2] rfl (QAt.rd Wt.none (Rd.load1 kr_ rfl mem_ (by rfl))) kr_) (all_c (wf_ [0] rfl (QAt.rd Wt.none (Rd.load1 kr_ rfl mem_ (by rfl))) kr_) all_n)) ?_
 refine ws_ [(8, [1])] kr_ (all_c ?_ (all_n))
 refine so_ (j := 8) [_] rfl ?_
 refine SO.h rfl Wt.none rfl (Hd.appendRow (e := 118) (sz := 6) (bytes := 80) (zs := [.int .u32 0, .int .i64 0, .bool false, .slice none 0 0, .int .i64 0, .slice none 0 0]) kr_ kr_ rfl (by omega) rfl rfl (by first | exact h2 | exact hOl) sp_ mem_ (by rfl) (kc_one (by rfl) (by rfl)) (by simp only [maxLen]; omega) (by omega) fun v3 C3 h3 => ⟨_, rfl, ?_⟩)
 obtain ⟨lo3, lc3, rfl, hlc3⟩ := h3.form
 refine wk_ [_, _, _, _, _] (_ :: ([_] ++ _)) rfl rfl (all_c (wf_ [2] rfl (QAt.rd Wt.none (Rd.load1 kr_ rfl mem_ (by rfl))) kr_) all_n) ?_
 refine wy_ 9 [5, 4, 3, 2, 0] rfl (Yd.fieldAddr (k := 1) kr_ rfl) kr_ ?_
 refine ws_ [(10, [9, 5, 4, 3, 2, 0])] kr_ (all_c ?_ (all_n))
 refine so_ (j := 10) [_, _, _, _, _, _] rfl ?_
 refine SO.s rfl Wt.none (Hd.store1s kr_ rfl rfl (by rfl) fr_ (by rfl) (by first | (simp only [List.set_cons_zero, List.set_cons_succ, Nat.zero_add, Nat.add_zero, Nat.reduceAdd]; rfl) | rfl) ⟨rfl, ?_⟩)
 refine wk_ [] (([_, _, _, _, _, _] ++ _)) rfl rfl all_n (wd_ [] rfl kr_ ?_)
 refine DN.block_normal (DN.then_normal (WC.region (m_ rfl rfl (WL.y rfl (Yd.add rfl rfl (by omega) (by omega)) ?_))))
 refine a_ rfl rfl (WL.nil ?_)
 first
 | (have h9 : (pos ks (stepK n code reply).num) = i := hpi
    exact DN.againS (i + 1, m + 1 + 1, true, .slice lo3 (m + 1 + 1) lc3, C3) ⟨by show i + 1 ≤ ks.length; omega, (decide_eq_true (show (pos ks (stepK n code reply).num) < i + 1 by omega)).symm, by show m + 1 + 1 = (if (pos ks (stepK n code reply).num) < i + 1 then i + 1 + 1 else i + 1); rw [hm, if_neg (by omega), if_pos (by omega)], by
     show Own (.slice lo3 (m + 1 + 1) lc3) (m + 1 + 1) (layC cs (kc (stepK n code reply) (.slice o1 n.data.length c1) (.slice o2 reply.length c2)) (pos ks (stepK n code reply).num) (i + 1)) _ 6 C3
     rw [layC_now hcl hlt hpi, hg]; exact h3⟩ (by show ks.length - (i + 1) < ks.length - i; omega) ((Sx.put rfl (Sx.put rfl (sx_)))) sp_)
 | (first
    | have h9 : (pos ks (stepK n code reply).num) < i ∨ i < (pos ks (stepK n code reply).num) := hpi
    | have h9 : (pos ks (stepK n code reply).num) < i ∨ i < (pos ks (stepK n code reply).num) := .inl (of_decide_eq_true (hld.symm.trans (by simpa using hg94)))
    exact DN.againS (i + 1, m + 1, ld, .slice lo3 (m + 1) lc3, C3) ⟨by show i + 1 ≤ ks.length; omega, by show ld = decide ((pos ks (stepK n code reply).num) < i + 1); rw [hld, Bool.eq_iff_iff, decide_eq_true_eq, decide_eq_true_eq]; omega, by show m + 1 = (if (pos ks (stepK n code reply).num) < i + 1 then i + 1 + 1 else i + 1); rw [hm]; split <;> split <;> omega, by
     show Own (.slice lo3 (m + 1) lc3) (m + 1) (layC cs (kc (stepK n code reply) (.slice o1 n.data.length c1) (.slice o2 reply.length c2)) (pos ks (stepK n code reply).num) (i + 1)) _ 6 C3
     rcases h9 with h | h
     · rw [layC_past hcl hlt h, hg]; exact h3
     rw [layC_not hcl hlt h, hg]; exact h3⟩ (by show ks.length - (i + 1) < ks.length - i; omega) ((Sx.put rfl (Sx.put rfl (sx_)))) sp_)
 refine wn_ 3 [2] 94 rfl rfl kr_ ?_
 refine wn_ 4 [2] 94 rfl rfl kr_ ?_
 refine wn_ 5 [4, 2] 94 rfl rfl kr_ ?_
 refine wn_ 6 [2] 94 rfl rfl kr_ ?_
 refine wn_ 7 [6, 5, 2] 94 rfl rfl kr_ ?_
 refine wn_ 8 [7, 2] 94 rfl rfl kr_ ?_
 refine wn_ 9 [8, 3, 2] 94 rfl rfl kr_ ?_
 refine wy_ 10 [9, 2] rfl (Yd.pickF rfl rfl) kr_ ?_
 refine wd_ [_, _, _, _, _, _, _, _, _, _, _] rfl kr_ ?_
 refine DN.then_normal (WC.no rfl (WC.skip (DN.then_normal (WC.draw 11 kr_ rfl ?_))))
 refine WAG.start (N := 11) rfl (wy_ 0 [] rfl (Yd.fieldAddr (k := 1) kr_ rfl) kr_ ?_)
 refine wq_ (wf_ (i := 1) [0] rfl (QAt.rd Wt.none (Rd.load1 kr_ rfl mem_ (by rfl))) kr_) kr_ ?_
 refine wy_ 2 [] rfl (Yd.fieldAddr (k := 1) kr_ rfl) kr_ ?_
 refine wq_ (wf_ (i := 3) [2] rfl (QAt.rd Wt.none (Rd.load1 kr_ rfl mem_ (by rfl))) kr_) kr_ ?_
 refine wy_ 4 [] rfl (Yd.move rfl) kr_ ?_
 refine wy_ 5 [4, 3] rfl (Yd.indexAddr (e := 118) (s := 6) (b := lb) (o := lf) (n := ks.length) (c := wc) kr_ kr_ (congrArg (fun q => some (Value.slice q ks.length wc)) elo) rfl (by omega) (by omega)) kr_ ?_
 refine wq_ (wf_ (i := 6) [5] rfl (QAt.rd Wt.none (Rd.loadA (n := 6) (b := lb) (o := lf + (i : Int).toNat * 6) (cs := lcs) (vs := kc ks[i] (.slice ao1 ks[i].asked.length ac1) (.slice ro1 ks[i].reply.length rc1)) kr_ rfl (Gr.get gr_ hlm) rfl (rs_cell hlcs (by omega) hg))) kr_) kr_ ?_
 refine ws_ [(7, [6])] kr_ (all_c ?_ (all_n))
 refine so_ (j := 7) [_] rfl (SO.h rfl Wt.none rfl (Hd.buildA (e := 118) (sz := 6) (zs := [.int .u32 0, .int .i64 0, .bool false, .slice none 0 0, .int .i64 0, .slice none 0 0]) kr_ kr_ kr_ rfl rfl (by rfl) kr_ fun b116 => ⟨_, rfl, ?_⟩))
 refine wk_ [_, _, _, _, _, _] (_ :: ([_] ++ _)) rfl rfl (all_c (wf_ [2] rfl (QAt.rd Wt.none (Rd.load1 kr_ rfl mem_ (by rfl))) kr_) (all_c (wf_ [0] rfl (QAt.rd Wt.none (Rd.load1 kr_ rfl mem_ (by rfl))) kr_) all_n)) ?_
 refine ws_ [(8, [1])] kr_ (all_c ?_ (all_n))
 refine so_ (j := 8) [_] rfl ?_
 refine SO.h rfl Wt.none rfl (Hd.appendRow (e := 118) (sz := 6) (bytes := 80) (zs := [.int .u32 0, .int .i64 0, .bool false, .slice none 0 0, .int .i64 0, .slice none 0 0]) kr_ kr_ rfl (by omega) rfl rfl (by first | exact h2 | exact hOl) sp_ mem_ (by rfl) (kc_one (by rfl) (by rfl)) (by simp only [maxLen]; omega) (by omega) fun v3 C3 h3 => ⟨_, rfl, ?_⟩)
 obtain ⟨lo3, lc3, rfl, hlc3⟩ := h3.form
 refine wk_ [_, _, _, _, _] (_ :: ([_] ++ _)) rfl rfl (all_c (wf_ [2] rfl (QAt.rd Wt.none (Rd.load1 kr_ rfl mem_ (by rfl))) kr_) all_n) ?_
 refine wy_ 9 [5, 4, 3, 2, 0] rfl (Yd.fieldAddr (k := 1) kr_ rfl) kr_ ?_
 refine ws_ [(10, [9, 5, 4, 3, 2, 0])] kr_ (all_c ?_ (all_n))
 refine so_ (j := 10) [_, _, _, _, _, _] rfl ?_
 refine SO.s rfl Wt.none (Hd.store1s kr_ rfl rfl (by rfl) fr_ (by rfl) (by first | (simp only [List.set_cons_zero, List.set_cons_succ, Nat.zero_add, Nat.add_zero, Nat.reduceAdd]; rfl) | rfl) ⟨rfl, ?_⟩)
 refine wk_ [] (([_, _, _, _, _, _] ++ _)) rfl rfl all_n (wd_ [] rfl kr_ ?_)
 refine DN.block_normal (DN.then_normal (WC.region (m_ rfl rfl (WL.y rfl (Yd.add rfl rfl (by omega) (by omega)) ?_))))
 refine a_ rfl rfl (WL.nil ?_)
 first
 | (have h9 : (pos ks (stepK n code reply).num) = i := hpi
    exact DN.againS (i + 1, m + 1 + 1, true, .slice lo3 (m + 1 + 1) lc3, C3) ⟨by show i + 1 ≤ ks.length; omega, (decide_eq_true (show (pos ks (stepK n code reply).num) < i + 1 by omega)).symm, by show m + 1 + 1 = (if (pos ks (stepK n code reply).num) < i + 1 then i + 1 + 1 else i + 1); rw [hm, if_neg (by omega), if_pos (by omega)], by
     show Own (.slice lo3 (m + 1 + 1) lc3) (m + 1 + 1) (layC cs (kc (stepK n code reply) (.slice o1 n.data.length c1) (.slice o2 reply.length c2)) (pos ks (stepK n code reply).num) (i + 1)) _ 6 C3
     rw [layC_now hcl hlt hpi, hg]; exact h3⟩ (by show ks.length - (i + 1) < ks.length - i; omega) ((Sx.put rfl (Sx.put rfl (sx_)))) sp_)
 | (first
    | have h9 : (pos ks (stepK n code reply).num) < i ∨ i < (pos ks (stepK n code reply).num) := hpi
    | have h9 : (pos ks (stepK n code reply).num) < i ∨ i < (pos ks (stepK n code reply).num) := .inl (of_decide_eq_true (hld.symm.trans (by simpa using hg94)))
    exact DN.againS (i + 1, m + 1, ld, .slice lo3 (m + 1) lc3, C3) ⟨by show i + 1 ≤ ks.length; omega, by show ld = decide ((pos ks (stepK n code reply).num) < i + 1); rw [hld, Bool.eq_iff_iff, decide_eq_true_eq, decide_eq_true_eq]; omega, by show m + 1 = (if (pos ks (stepK n code reply).num) < i + 1 then i + 1 + 1 else i + 1); rw [hm]; split <;> split <;> omega, by
     show Own (.slice lo3 (m + 1) lc3) (m + 1) (layC cs (kc (stepK n code reply) (.slice o1 n.data.length c1) (.slice o2 reply.length c2)) (pos ks (stepK n code reply).num) (i + 1)) _ 6 C3
     rcases h9 with h | h
     · rw [layC_past hcl hlt h, hg]; exact h3
     rw [layC_not hcl hlt h, hg]; exact h3⟩ (by show ks.length - (i + 1) < ks.length - i; omega) ((Sx.put rfl (Sx.put rfl (sx_)))) sp_)
 obtain rfl : i = ks.length := by omega
 refine WC.exit (DN.then_exit (DN.then_exit (DN.block_exit (ts_ (sr_ (m_ rfl rfl (WL.y rfl (Yd.notB rfl) (nt_ (WC.cond rfl (fun h120 => ?_) (fun h120 => ?_))))))))))
 have hpe : (pos ks (stepK n code reply).num) = ks.length := by
   have h9 : ¬ (pos ks (stepK n code reply).num) < ks.length := by rw [hld] at h120; simpa using h120
   have := pos_le ks (stepK n code reply).num
   omega
 refine WC.region (f_ 1 kr_ rfl rfl ?_)
 refine d_ kr_ rfl mem_ (by rfl) rfl ?_
 refine WL.h rfl (Hd.loadAll (n := 6) kr_ rfl mem_ (by rfl) ⟨_, rfl, ?_⟩)
 refine WL.h rfl (Hd.buildA (e := 118) (sz := 6) (zs := [.int .u32 0, .int .i64 0, .bool false, .slice none 0 0, .int .i64 0, .slice none 0 0]) kr_ kr_ kr_ rfl rfl (by rfl) kr_ fun b124 => ⟨_, rfl, ?_⟩)
 refine WL.h rfl (Hd.appendRow (e := 118) (sz := 6) (bytes := 80) (zs := [.int .u32 0, .int .i64 0, .bool false, .slice none 0 0, .int .i64 0, .slice none 0 0]) kr_ kr_ rfl (by omega) rfl rfl (hOl) sp_ mem_ (by rfl) (kc_one (by rfl) (by rfl)) (by simp only [maxLen]; omega) (by omega) fun v4 C4 h4 => ⟨_, rfl, ?_⟩)
 obtain ⟨lo4, lc4, rfl, hlc4⟩ := h4.form
 refine f_ 1 kr_ rfl rfl ?_
 refine WL.s (Hd.store1s kr_ rfl rfl (by rfl) fr_ (by rfl) (by first | (simp only [List.set_cons_zero, List.set_cons_succ, Nat.zero_add, Nat.add_zero, Nat.reduceAdd]; rfl) | rfl) ⟨rfl, ?_⟩)
 refine ntsr_ (WL.h rfl (Hd.loadAll (n := 2) kr_ rfl mem_ (by rfl) ⟨_, rfl, ?_⟩))
 refine WL.s (Hd.storeAll (n := 2) kr_ rfl rfl (by rfl) one_ fr_ (by rfl) ⟨rfl, ?_⟩)
 refine a_ rfl rfl (nt_ (WC.ret ?_))
 obtain ⟨D7, hK7, hp7⟩ := hK2.ins (k := stepK n code reply) (pos_le ks (stepK n code reply).num) hC1 hC2
 refine DN.fit (C := row b8 [.int .u32 n.epoch.toNat, .slice lo4 (m + 1) lc4] 82 :: (C4 ++ ((DO ++ (C1 ++ C2)) ++ H))) sp_ ?_
 refine DN.blocks (row b8 [.int .u32 n.epoch.toNat, .slice lo4 (m + 1) lc4] 82 :: (C4 ++ (D7 ++ H))) (List.Perm.cons _ (List.Perm.append_left _ (hp7.symm.append_right _))) (DN.retCT (s := 2) (C4 ++ (D7 ++ H)) Tryz.results73 kr_ rfl rfl mem_ (by rfl) sp_ ?_)
 rw [keepK_ok (by rw [← hq]; exact h26) (by rw [← hq]; exact fun h => by rw [hz55.2 h] at h55; cases h55) (by rw [← hq]; exact h57) (by omega)]
 exact ⟨_, C4 ++ D7, rfl, ⟨_, C4, D7, by rw [insAt_len _ (pos_le _ _)]; rw [show m = ks.length by rw [hm, if_neg (by omega)]] at h4 ⊢; exact h4, by rw [layC_last hcl hpe]; exact hK7, rfl⟩, by rw [List.append_assoc]⟩
 have hpe : (pos ks (stepK n code reply).num) < ks.length := by rw [hld] at h120; simpa using h120
 refine WC.skip (ts_ (WC.region (WL.h rfl (Hd.loadAll (n := 2) kr_ rfl mem_ (by rfl) ⟨_, rfl, ?_⟩))))
 refine WL.s (Hd.storeAll (n := 2) kr_ rfl rfl (by rfl) one_ fr_ (by rfl) ⟨rfl, ?_⟩)
 refine a_ rfl rfl (nt_ (WC.ret ?_))
 obtain ⟨D7, hK7, hp7⟩ := hK2.ins (k := stepK n code reply) (pos_le ks (stepK n code reply).num) hC1 hC2
 refine DN.fit (C := row b8 [.int .u32 n.epoch.toNat, .slice lo m lc] 82 :: (Cl ++ ((DO ++ (C1 ++ C2)) ++ H))) sp_ ?_
 refine DN.blocks (row b8 [.int .u32 n.epoch.toNat, .slice lo m lc] 82 :: (Cl ++ (D7 ++ H))) (List.Perm.cons _ (List.Perm.append_left _ (hp7.symm.append_right _))) (DN.retCT (s := 2) (Cl ++ (D7 ++ H)) Tryz.results73 kr_ rfl rfl mem_ (by rfl) sp_ ?_)
 rw [keepK_ok (by rw [← hq]; exact h26) (by rw [← hq]; exact fun h => by rw [hz55.2 h] at h55; cases h55) (by rw [← hq]; exact h57) (by omega)]
 exact ⟨_, Cl ++ D7, rfl, ⟨_, Cl, D7, by rw [insAt_len _ (pos_le _ _)]; rw [show m = ks.length + 1 by rw [hm, if_pos hpe]] at hOl ⊢; exact hOl, by rw [layC_end hcl hpe]; exact hK7, rfl⟩, by rw [List.append_assoc]⟩
end Go.Proofs.YtkamlondepceiaaGreat

set_option linter.unusedVariables false
set_option linter.unusedSimpArgs false
set_option maxHeartbeats 4000000
namespace Go.Proofs.YtkamlondepceiaaGreat
open Go.SL
theorem rcserve_tells {g0 : List Gd} {u0 : List Au} {r0 : List Int} (q : Nat) (s : Cw) (C : List Ck) (h : RcAt 147 73 215 151 71 217 155 3 157 5 118 111 22 87 q g0 u0 r0 s C) (inv : CInv g0 u0 r0 s) (hyl : s.Y.length ≤ 100000) (n : Nt) (vk vd : Value) (H : List Ck) (hvk : Bs vk n.key H) (hvd : Bs vd n.data H) : Tells Tryz.prog 33 [.pointer (some ⟨q, 0, none⟩), .agg (ntc n vk vd).toArray] (C ++ H) fun r H' => ∃ C' w A, r = .agg (ntc (serveN s n) (.slice none 0 0) w).toArray ∧ RcAt 147 73 215 151 71 217 155 3 157 5 118 111 22 87 q g0 u0 r0 (serveS s n) C' ∧ Bs w (serveN s n).data A ∧ H' = C' ++ (A ++ H) := by
 refine Tells.enter Tryz.func33 rfl Tryz.ntmps33 rfl ?_
 intro w0 R
 have hAt := h
 have hck := inv.ck
 have h200 := hck.1
 have hefl := inv.ef
 have hnol := inv.no
 have hbnd : ∀ k ∈ s.ks, k.asked.length ≤ 1000000 ∧ k.reply.length ≤ 1000000 := fun k hk => by have := (hck.2.1 k hk).2.2.2; exact ⟨by omega, by omega⟩
 obtain ⟨ps, pp, pd, vL, vE, vN, CS, CP, CD, CF, CE, us, CN, DZ, F1, A1, F2, rfl, hS, hR, hP, hF2, hD, hF, hE, hN, hO⟩ := h
 obtain ⟨lo, lc, rfl⟩ := hF.form
 obtain ⟨eo, ec, rfl, hec⟩ := hE.form
 obtain ⟨no, nc, rfl, hnc⟩ := hN.form
 obtain ⟨ko, kc9, rfl, hkc⟩ := hvk.form
 obtain ⟨do_, dc, rfl, hdc⟩ := hvd.form
 obtain ⟨z9, hq⟩ : ∃ z, z = askK s.e s.ks n := ⟨_, rfl⟩
 have hkr : z9.2.1.reply.length ≤ 255 := by rw [hq]; exact ask_reply hck
 obtain ⟨act, kk, er⟩ := z9
 have hkr : kk.reply.length ≤ 255 := hkr
 have hq1 : (askK s.e s.ks n).1 = act := by rw [← hq]
 have hq2 : (askK s.e s.ks n).2.1 = kk := by rw [← hq]
 have hq3 : (askK s.e s.ks n).2.2 = er := by rw [← hq]
 refine sr_ (WL.h rfl (Hd.boxA rfl fun b3 => ⟨_, rfl, ?_⟩))
 refine WL.h rfl (Hd.alloc (zs := [.int .i64 0, .int .u32 0, .int .u32 0, .int .u64 0, .int .u64 0, .int .u32 0, .int .i64 0, .bool false, .int .i64 0, .slice none 0 0, .slice none 0 0]) kr_ fun b4 => ⟨_, rfl, ?_⟩)
 refine nt_ (WC.cutK (fun z : Nat × (Option Addr × Nat) × (Option Addr × Nat) => Bs (.slice z.2.1.1 kk.asked.length z.2.1.2) kk.asked (CF ++ H) ∧ Bs (.slice z.2.2.1 kk.reply.length z.2.2.2) kk.reply (CF ++ H)) (fun z : Nat × (Option Addr × Nat) × (Option Addr × Nat) => [(5, .int .i64 act), (6, .pointer (some ⟨z.1, 0, none⟩)), (7, .int .i64 er)]) (fun z : Nat × (Option Addr × Nat) × (Option Addr × Nat) => row z.1 (kc kk (.slice z.2.1.1 kk.asked.length z.2.1.2) (.slice z.2.2.1 kk.reply.length z.2.2.2)) 118 :: (row b4 [.int .i64 0, .int .u32 0, .int .u32 0, .int .u64 0, .int .u64 0, .int .u32 0, .int .i64 0, .bool false, .int .i64 0, .slice none 0 0, .slice none 0 0] 52 :: (row b3 (ntc n (.slice ko n.key.length kc9) (.slice do_ n.data.length dc)) 52 :: ((row q [.pointer (some ⟨ps, 0, none⟩), .pointer (some ⟨pp, 0, none⟩), .pointer (some ⟨pd, 0, none⟩), .int .u32 s.e.toNat, .slice lo s.ks.length lc, .slice eo s.ef.length ec, .slice no s.no.length nc] 87 :: (CS ++ (CP ++ (CD ++ (CF ++ (CE ++ (CN ++ DZ))))))) ++ H)))) ?_ ?_)
 refine WC.draw 14 kr_ rfl ?_
 refine WAG.start (N := 14) rfl (wy_ 0 [] rfl (Yd.move rfl) kr_ ?_)
 refine wy_ 1 [0] rfl (Yd.notNil rfl) kr_ ?_
 refine wy_ 2 [1] rfl (Yd.fieldAddr (k := 3) kr_ rfl) kr_ ?_
 refine wq_ (wf_ (i := 3) [2] rfl (QAt.rd Wt.none (Rd.loadA (n := 2) (vs := [_, _]) kr_ rfl mem_ (by rfl) (by rfl))) kr_) kr_ ?_
 refine wq_ (wf_ (i := 4) [] rfl (QAt.rd Wt.none (Rd.loadAll (n := 11) kr_ rfl mem_ (by rfl))) kr_) kr_ ?_
 refine ws_ [(5, [4, 3]), (10, [])] kr_ (all_c ?_ (all_c ?_ (all_n)))
 refine so_ (j := 5) [_, _] rfl (SO.c rfl Wt.none rfl (Ent.func Tryz.call69 rfl) (rask_tells s.e _ s.ks (CF ++ H) (hF.kv.mono gr_) (by omega) n _ _ (hvk.mono gr_) (hvd.mono gr_)) (Sp.p sp_) ?_)
 rintro x H9 ⟨wa, wr, rfl, hA, hB, hH9⟩
 rw [hH9]
 clear hH9 H9
 rw [← hq] at hA hB ⊢
 dsimp only at hA hB ⊢
 obtain ⟨oa, ca, rfl, _⟩ := hA.form
 obtain ⟨or_, cr, rfl, _⟩ := hB.form
 refine wk_ [_, _, _] (_ :: ([_, _] ++ _)) rfl rfl all_n (wy_ 6 [] rfl (Yd.move rfl) kr_ ?_)
 refine wy_ 7 [6] rfl (Yd.extract rfl rfl) kr_ ?_
 refine wy_ 8 [6] rfl (Yd.extract rfl rfl) kr_ ?_
 refine wy_ 9 [6] rfl (Yd.extract rfl rfl) kr_ ?_
 refine ws_ [(10, [])] kr_ (all_c ?_ (all_n))
 refine so_ (j := 10) [] rfl (SO.h rfl Wt.none rfl (Hd.alloc (zs := [.int .u32 0, .int .i64 0, .bool false, .slice none 0 0, .int .i64 0, .slice none 0 0]) kr_ fun b6 => ⟨_, rfl, ?_⟩))
 refine wk_ [_, _, _, _, _, _, _] (_ :: ([] ++ _)) rfl rfl all_n (wy_ 11 [7, 6, 2, 1, 0] rfl (Yd.assign rfl) kr_ ?_)
 refine ws_ [(12, [11, 8, 7, 6, 2, 1, 0])] kr_ (all_c ?_ (all_n))
 refine so_ (j := 12) [_, _, _, _, _, _, _] rfl (SO.s rfl Wt.none (Hd.storeAll (n := 6) kr_ rfl rfl (by rfl) (kc_one rfl rfl) fr_ (by rfl) ⟨rfl, ?_⟩))
 refine wk_ [_] (([_, _, _, _, _, _, _] ++ _)) rfl rfl all_n (wy_ 13 [9] rfl (Yd.assign rfl) kr_ ?_)
 refine wd_ [_, _] rfl kr_ ?_
 exact DN.reachS ((b6, (oa, ca), (or_, cr))) (⟨hA, hB⟩) (Sx.put rfl (Sx.put rfl (Sx.put rfl (sx_)))) sp_
 refine so_ (j := 10) [] rfl (SO.h rfl Wt.none rfl (Hd.alloc (zs := [.int .u32 0, .int .i64 0, .bool false, .slice none 0 0, .int .i64 0, .slice none 0 0]) kr_ fun b6 => ⟨_, rfl, ?_⟩))
 refine wk_ [_, _, _, _, _] (_ :: ([] ++ _)) rfl rfl (all_c (wf_ [] rfl (QAt.rd Wt.none (Rd.loadAll (n := 11) kr_ rfl mem_ (by rfl))) kr_) (all_c (wf_ [2] rfl (QAt.rd Wt.none (Rd.loadA (n := 2) (vs := [_, _]) kr_ rfl mem_ (by rfl) (by rfl))) kr_) all_n)) ?_
 refine ws_ [(5, [4, 3])] kr_ (all_c ?_ (all_n))
 refine so_ (j := 5) [_, _] rfl (SO.c rfl Wt.none rfl (Ent.func Tryz.call69 rfl) (rask_tells s.e _ s.ks (CF ++ H) (hF.kv.mono gr_) (by omega) n _ _ (hvk.mono gr_) (hvd.mono gr_)) (Sp.p sp_) ?_)
 rintro x H9 ⟨wa, wr, rfl, hA, hB, hH9⟩
 rw [hH9]
 clear hH9 H9
 rw [← hq] at hA hB ⊢
 dsimp only at hA hB ⊢
 obtain ⟨oa, ca, rfl, _⟩ := hA.form
 obtain ⟨or_, cr, rfl, _⟩ := hB.form
 refine wk_ [_, _, _] (_ :: ([_, _] ++ _)) rfl rfl all_n (wy_ 6 [] rfl (Yd.move rfl) kr_ ?_)
 refine wy_ 7 [6] rfl (Yd.extract rfl rfl) kr_ ?_
 refine wy_ 8 [6] rfl (Yd.extract rfl rfl) kr_ ?_
 refine wy_ 9 [6] rfl (Yd.extract rfl rfl) kr_ ?_
 refine wy_ 11 [7, 6, 2, 1, 0] rfl (Yd.assign rfl) kr_ ?_
 refine ws_ [(12, [11, 8, 7, 6, 2, 1, 0])] kr_ (all_c ?_ (all_n))
 refine so_ (j := 12) [_, _, _, _, _, _, _] rfl (SO.s rfl Wt.none (Hd.storeAll (n := 6) kr_ rfl rfl (by rfl) (kc_one rfl rfl) fr_ (by rfl) ⟨rfl, ?_⟩))
 refine wk_ [_] (([_, _, _, _, _, _, _] ++ _)) rfl rfl all_n (wy_ 13 [9] rfl (Yd.assign rfl) kr_ ?_)
 refine wd_ [_, _] rfl kr_ ?_
 exact DN.reachS ((b6, (oa, ca), (or_, cr))) (⟨hA, hB⟩) (Sx.put rfl (Sx.put rfl (Sx.put rfl (sx_)))) sp_
 rintro ⟨b6, ⟨oa, ca⟩, ⟨or_, cr⟩⟩ ⟨hA, hB⟩
 dsimp only at hA hB ⊢
 refine WC.seq (sr_ (m_ rfl rfl (WL.y rfl (Yd.eql rfl rfl) (nt_ (WC.ite rfl (fun h20 => ?_) (fun h20 => ?_))))))
 refine WC.seq (WC.draw 13 kr_ rfl ?_)
 refine WAG.start (N := 13) rfl (wy_ 0 [] rfl (Yd.move rfl) kr_ ?_)
 refine wy_ 1 [0] rfl (Yd.notNil rfl) kr_ ?_
 refine wy_ 2 [1] rfl (Yd.fieldAddr (k := 3) kr_ rfl) kr_ ?_
 refine wy_ 3 [2] rfl (Yd.fieldAddr (k := 0) kr_ rfl) kr_ ?_
 refine wq_ (wf_ (i := 4) [3] rfl (QAt.rd Wt.none (Rd.load1 kr_ rfl mem_ (by rfl))) kr_) kr_ ?_
 refine wy_ 5 [] rfl (Yd.fieldAddr (k := 5) kr_ rfl) kr_ ?_
 refine wq_ (wf_ (i := 6) [5] rfl (QAt.rd Wt.none (Rd.load1 kr_ rfl mem_ (by rfl))) kr_) kr_ ?_
 refine wy_ 7 [] rfl (Yd.fieldAddr (k := 6) kr_ rfl) kr_ ?_
 refine wq_ (wf_ (i := 8) [7] rfl (QAt.rd Wt.none (Rd.load1 kr_ rfl mem_ (by rfl))) kr_) kr_ ?_
 refine wy_ 9 [] rfl (Yd.fieldAddr (k := 7) kr_ rfl) kr_ ?_
 refine wq_ (wf_ (i := 10) [9] rfl (QAt.rd Wt.none (Rd.load1 kr_ rfl mem_ (by rfl))) kr_) kr_ ?_
 refine wy_ 11 [10, 8, 6, 4] rfl (Yd.buildL (pl := [(0, 1), (1, 1), (2, 1), (3, 1), (4, 1), (5, 1), (6, 1), (7, 1), (8, 1), (9, 1), (10, 1)]) (zs := [.int .i64 0, .int .u32 0, .int .u32 0, .int .u64 0, .int .u64 0, .int .u32 0, .int .i64 0, .bool false, .int .i64 0, .slice none 0 0, .slice none 0 0]) (parts := [(0, .const (.int .i64 9)), (1, .tmp 25), (5, .tmp 27), (6, .tmp 29), (7, .tmp 31)]) (vs := [(0, _), (1, _), (5, _), (6, _), (7, _)]) (cells := [_, _, .int .u32 0, .int .u64 0, .int .u64 0, _, _, _, .int .i64 0, .slice none 0 0, .slice none 0 0]) kr_ kr_ rfl rfl) kr_ ?_
 refine ws_ [(12, [11, 10, 9, 8, 7, 6, 5, 4, 3, 2, 1, 0])] kr_ (all_c ?_ (all_n))
 refine so_ (j := 12) [_, _, _, _, _, _, _, _, _, _, _, _] rfl (SO.s rfl Wt.none (Hd.storeAll (n := 11) kr_ rfl rfl (by rfl) one_ fr_ (by rfl) ⟨rfl, ?_⟩))
 refine wk_ [] (([_, _, _, _, _, _, _, _, _, _, _, _] ++ _)) rfl rfl all_n (wd_ [] rfl kr_ ?_)
 refine DN.then_normal (WC.ret (DN.then_ret (DN.retCS (s := 11) ((row q [.pointer (some ⟨ps, 0, none⟩), .pointer (some ⟨pp, 0, none⟩), .pointer (some ⟨pd, 0, none⟩), .int .u32 s.e.toNat, .slice lo s.ks.length lc, .slice eo s.ef.length ec, .slice no s.no.length nc] 87 :: (CS ++ (CP ++ (CD ++ (CF ++ (CE ++ (CN ++ DZ))))))) ++ H) Tryz.results33 kr_ rfl mem_ (by rfl) sp_ ?_)))
 rw [(serve_72 (hq3.trans h20)).1, (serve_72 (hq3.trans h20)).2]
 exact ⟨_, _, [], rfl, hAt, Bs_nil _, rfl⟩
 refine WC.skip (ts_ (sr_ (m_ rfl rfl (WL.y rfl (Yd.eql rfl rfl) (nt_ (WC.ite rfl (fun h34 => ?_) (fun h34 => ?_)))))))
 refine sr_ (m_ rfl rfl (WL.rf rfl (Ent.func Tryz.call70 rfl) (rcno_reads q s _ hAt 2) sp_ ?_))
 refine WL.s (Hd.storeAll (n := 11) kr_ rfl rfl (by rfl) (ntc_one rfl rfl) fr_ (by rfl) ⟨rfl, ?_⟩)
 refine nt_ (WC.ret (DN.then_ret (DN.retCS (s := 11) ((row q [.pointer (some ⟨ps, 0, none⟩), .pointer (some ⟨pp, 0, none⟩), .pointer (some ⟨pd, 0, none⟩), .int .u32 s.e.toNat, .slice lo s.ks.length lc, .slice eo s.ef.length ec, .slice no s.no.length nc] 87 :: (CS ++ (CP ++ (CD ++ (CF ++ (CE ++ (CN ++ DZ))))))) ++ H) Tryz.results33 kr_ rfl mem_ (by rfl) sp_ ?_)))
 rw [(serve_80 (fun e => h20 (hq3.symm.trans e)) (hq3.trans h34)).1, (serve_80 (fun e => h20 (hq3.symm.trans e)) (hq3.trans h34)).2]
 exact ⟨_, _, [], rfl, hAt, Bs_nil _, rfl⟩
 refine WC.skip (ts_ (sr_ (m_ rfl rfl (WL.y rfl (Yd.neq rfl rfl) (nt_ (WC.ite rfl (fun h38 => ?_) (fun h38 => ?_)))))))
 refine sr_ (m_ rfl rfl (WL.rf rfl (Ent.func Tryz.call70 rfl) (rcno_reads q s _ hAt 1) sp_ ?_))
 refine WL.s (Hd.storeAll (n := 11) kr_ rfl rfl (by rfl) (ntc_one rfl rfl) fr_ (by rfl) ⟨rfl, ?_⟩)
 refine nt_ (WC.ret (DN.then_ret (DN.retCS (s := 11) ((row q [.pointer (some ⟨ps, 0, none⟩), .pointer (some ⟨pp, 0, none⟩), .pointer (some ⟨pd, 0, none⟩), .int .u32 s.e.toNat, .slice lo s.ks.length lc, .slice eo s.ef.length ec, .slice no s.no.length nc] 87 :: (CS ++ (CP ++ (CD ++ (CF ++ (CE ++ (CN ++ DZ))))))) ++ H) Tryz.results33 kr_ rfl mem_ (by rfl) sp_ ?_)))
 rw [(serve_no (fun e => h20 (hq3.symm.trans e)) (fun e => h34 (hq3.symm.trans e)) (by rw [hq3]; exact h38)).1, (serve_no (fun e => h20 (hq3.symm.trans e)) (fun e => h34 (hq3.symm.trans e)) (by rw [hq3]; exact h38)).2]
 exact ⟨_, _, [], rfl, hAt, Bs_nil _, rfl⟩
 have her : (askK s.e s.ks n).2.2 = 0 := hq3.trans (Classical.byContradiction h38)
 have hgo := askK_ok her
 have hdl : n.data.length ≤ 1000 := by
   have h9 : noteBad n = false := by
     cases e9 : noteBad n
     · rfl
     exact absurd (.inr (.inr (.inl e9))) hgo.1
   have := (noteBad_step h9).2.2
   omega
 refine WC.skip (ts_ (WC.region (f_ 1 kr_ rfl rfl ?_)))
 refine d_ kr_ rfl mem_ (by rfl) rfl ?_
 refine f_ 5 kr_ rfl rfl ?_
 refine d_ kr_ rfl mem_ (by rfl) rfl ?_
 refine f_ 6 kr_ rfl rfl ?_
 refine d_ kr_ rfl mem_ (by rfl) rfl ?_
 refine f_ 7 kr_ rfl rfl ?_
 refine d_ kr_ rfl mem_ (by rfl) rfl ?_
 refine WL.y rfl (Yd.buildL (pl := [(0, 1), (1, 1), (2, 1), (3, 1), (4, 1), (5, 1), (6, 1), (7, 1), (8, 1), (9, 1), (10, 1)]) (zs := [.int .i64 0, .int .u32 0, .int .u32 0, .int .u64 0, .int .u64 0, .int .u32 0, .int .i64 0, .bool false, .int .i64 0, .slice none 0 0, .slice none 0 0]) (parts := [(0, .const (.int .i64 8)), (1, .tmp 42), (5, .tmp 44), (6, .tmp 46), (7, .tmp 48)]) (vs := [(0, _), (1, _), (5, _), (6, _), (7, _)]) (cells := [_, _, .int .u32 0, .int .u64 0, .int .u64 0, _, _, _, .int .i64 0, .slice none 0 0, .slice none 0 0]) kr_ kr_ rfl rfl) ?_
 refine WL.h rfl (Hd.alloc (zs := [.int .i64 0, .int .u32 0, .int .u32 0, .int .u64 0, .int .u64 0, .int .u32 0, .int .i64 0, .bool false, .int .i64 0, .slice none 0 0, .slice none 0 0]) kr_ fun b8 => ⟨_, rfl, ?_⟩)
 refine WL.s (Hd.storeAll (n := 11) (vs := ntc (doneN n 0 []) (.slice none 0 0) (.slice none 0 0)) kr_ rfl rfl (by rfl) (ntc_one rfl rfl) fr_ (by rfl) ⟨rfl, ?_⟩)
 refine nt_ (WC.seq (sr_ (m_ rfl rfl (WL.y rfl (Yd.eql rfl rfl) (nt_ (WC.ite rfl (fun h51 => ?_) (fun h51 => ?_)))))))
 refine WC.seq (WC.draw 14 kr_ rfl ?_)
 refine WAG.start (N := 14) rfl (wy_ 0 [] rfl (Yd.move rfl) kr_ ?_)
 refine wy_ 1 [] rfl (Yd.move rfl) kr_ ?_
 refine wy_ 2 [1] rfl (Yd.notNil rfl) kr_ ?_
 refine wy_ 3 [2] rfl (Yd.fieldAddr (k := 3) kr_ rfl) kr_ ?_
 refine wq_ (wf_ (i := 4) [3] rfl (QAt.rd Wt.none (Rd.loadA (n := 2) (vs := [_, _]) kr_ rfl mem_ (by rfl) (by rfl))) kr_) kr_ ?_
 refine wy_ 5 [] rfl (Yd.fieldAddr (k := 1) kr_ rfl) kr_ ?_
 refine wq_ (wf_ (i := 6) [5] rfl (QAt.rd Wt.none (Rd.load1 kr_ rfl mem_ (by rfl))) kr_) kr_ ?_
 refine ws_ [(7, [6, 4])] kr_ (all_c ?_ (all_n))
 refine so_ (j := 7) [_, _] rfl (SO.c rfl Wt.none rfl (Ent.func Tryz.call71 rfl) (rsee_tells s.e _ s.ks CF hF.kv (by omega) hbnd n.epoch) (Sp.p sp_) ?_)
 rintro x H9 ⟨ws, DS, rfl, hSF, rfl⟩
 obtain ⟨so, sc, rfl⟩ := hSF.form
 refine wk_ [_, _, _, _, _] (_ :: ([_, _] ++ _)) rfl rfl all_n (wy_ 8 [] rfl (Yd.move rfl) kr_ ?_)
 refine wy_ 9 [8] rfl (Yd.extract rfl rfl) kr_ ?_
 refine wy_ 10 [8] rfl (Yd.extract rfl rfl) kr_ ?_
 refine wy_ 11 [9, 8, 5, 3, 2, 1, 0] rfl (Yd.notNil rfl) kr_ ?_
 refine wy_ 12 [11, 9, 8, 5, 3, 2, 1, 0] rfl (Yd.fieldAddr (k := 3) kr_ rfl) kr_ ?_
 refine ws_ [(13, [12, 9, 8, 5, 3, 2, 1, 0])] kr_ (all_c ?_ (all_n))
 refine so_ (j := 13) [_, _, _, _, _, _, _, _] rfl ?_
 refine SO.s rfl Wt.none (Hd.storeP (n := 2) kr_ rfl rfl (by rfl) one_ fr_ (by show 0 + 3 + 2 ≤ 7; decide) (by rfl) ⟨rfl, ?_⟩)
 refine wk_ [_, _] (([_, _, _, _, _, _, _, _] ++ _)) rfl rfl all_n (wd_ [_, _] rfl kr_ ?_)
 refine ts_ (WC.region (f_ 4 kr_ rfl rfl ?_))
 refine d_ kr_ rfl mem_ (by rfl) rfl ?_
 refine f_ 8 kr_ rfl rfl ?_
 refine WL.s (Hd.store1s (cs' := ntc (doneN n kk.code []) (.slice none 0 0) (.slice none 0 0)) kr_ rfl rfl (by rfl) fr_ (by rfl) (by rfl) ⟨rfl, ?_⟩)
 refine ntsr_ (f_ 5 kr_ rfl rfl ?_)
 refine d_ kr_ rfl mem_ (by rfl) rfl ?_
 refine WL.c rfl (Ent.func Tryz.call40 rfl) (copy_spec _ kk.reply (CF ++ H) hB (by omega)) (Sp.p sp_) ?_
 rintro x H9 ⟨C70, h70, rfl⟩
 obtain ⟨o70, c70, rfl, _⟩ := h70.form
 refine f_ 10 kr_ rfl rfl ?_
 refine WL.s (Hd.store1s (cs' := ntc (doneN n kk.code []) (.slice none 0 0) (.slice o70 kk.reply.length c70)) kr_ rfl rfl (by rfl) fr_ (by rfl) (by rfl) ⟨rfl, ?_⟩)
 refine ntsr_ (WL.h rfl (Hd.loadAll (n := 11) kr_ rfl mem_ (by rfl) ⟨_, rfl, ?_⟩))
 refine WL.s (Hd.storeAll (n := 11) kr_ rfl rfl (by rfl) (ntc_one rfl rfl) fr_ (by rfl) ⟨rfl, ?_⟩)
 refine nt_ (WC.ret (DN.then_ret (DN.retCS (s := 11) ((row q [.pointer (some ⟨ps, 0, none⟩), .pointer (some ⟨pp, 0, none⟩), .pointer (some ⟨pd, 0, none⟩), .int .u32 (seeK s.e s.ks n.epoch).1.toNat, .slice so (seeK s.e s.ks n.epoch).2.1.length sc, .slice eo s.ef.length ec, .slice no s.no.length nc] 87 :: (CS ++ (CP ++ (CD ++ (DS ++ (CE ++ (CN ++ DZ))))))) ++ (C70 ++ H)) Tryz.results33 kr_ rfl mem_ (by rfl) sp_ ?_)))
 have g := serve_again (s := s) (n := n) (by rw [hq3]; exact h38) (hq1.trans h51)
 rw [hq2] at g
 rw [g.1, g.2]
 exact ⟨_, _, C70, rfl, ⟨ps, pp, pd, _, _, _, CS, CP, CD, DS, CE, us, CN, DZ, F1, A1, F2, rfl, hS, hR, hP, hF2, hD, hSF, hE, hN, hO⟩, h70.bs, rfl⟩
 refine WC.skip (ts_ (sr_ (m_ rfl rfl (n_ rfl rfl (f_ 3 kr_ rfl rfl ?_)))))
 refine f_ 1 kr_ rfl rfl ?_
 refine d_ kr_ rfl mem_ (by rfl) rfl ?_
 refine WL.y rfl (Yd.len (e := 118) kr_ rfl) ?_
 refine WL.y rfl (Yd.geq rfl rfl) (nt_ (WC.ite rfl (fun h79 => ?_) (fun h79 => ?_)))
 refine sr_ (m_ rfl rfl (WL.rf rfl (Ent.func Tryz.call70 rfl) (rcno_reads q s _ hAt 3) sp_ ?_))
 refine WL.s (Hd.storeAll (n := 11) kr_ rfl rfl (by rfl) (ntc_one rfl rfl) fr_ (by rfl) ⟨rfl, ?_⟩)
 refine nt_ (WC.ret (DN.then_ret (DN.retCS (s := 11) ((row q [.pointer (some ⟨ps, 0, none⟩), .pointer (some ⟨pp, 0, none⟩), .pointer (some ⟨pd, 0, none⟩), .int .u32 s.e.toNat, .slice lo s.ks.length lc, .slice eo s.ef.length ec, .slice no s.no.length nc] 87 :: (CS ++ (CP ++ (CD ++ (CF ++ (CE ++ (CN ++ DZ))))))) ++ H) Tryz.results33 kr_ rfl mem_ (by rfl) sp_ ?_)))
 rw [(serve_full (by rw [hq3]; exact h38) (by rw [hq1]; exact h51) (by omega)).1, (serve_full (by rw [hq3]; exact h38) (by rw [hq1]; exact h51) (by omega)).2]
 exact ⟨_, _, [], rfl, hAt, Bs_nil _, rfl⟩
 refine WC.skip (ts_ (WC.region (f_ 8 kr_ rfl rfl ?_)))
 refine WL.s (Hd.store1s (cs' := ntc (doneN n 2 []) (.slice none 0 0) (.slice none 0 0)) kr_ rfl rfl (by rfl) fr_ (by rfl) (by rfl) ⟨rfl, ?_⟩)
 refine nt_ (WC.cutK (fun c9 : Int => c9 = if act = 4 then 1 else 2) (fun c9 : Int => []) (fun c9 : Int => row b8 (ntc (doneN n c9 []) (.slice none 0 0) (.slice none 0 0)) 52 :: (row b4 [.int .i64 0, .int .u32 0, .int .u32 0, .int .u64 0, .int .u64 0, .int .u32 0, .int .i64 0, .bool false, .int .i64 0, .slice none 0 0, .slice none 0 0] 52 :: (row b3 (ntc n (.slice ko n.key.length kc9) (.slice do_ n.data.length dc)) 52 :: ((row q [.pointer (some ⟨ps, 0, none⟩), .pointer (some ⟨pp, 0, none⟩), .pointer (some ⟨pd, 0, none⟩), .int .u32 s.e.toNat, .slice lo s.ks.length lc, .slice eo s.ef.length ec, .slice no s.no.length nc] 87 :: (CS ++ (CP ++ (CD ++ (CF ++ (CE ++ (CN ++ DZ))))))) ++ H)))) ?_ ?_)
 refine sr_ (m_ rfl rfl (WL.y rfl (Yd.eql rfl rfl) (nt_ (WC.ite rfl (fun h84 => ?_) (fun h84 => ?_)))))
 refine WC.region (f_ 8 kr_ rfl rfl ?_)
 refine WL.s (Hd.store1s (cs' := ntc (doneN n 1 []) (.slice none 0 0) (.slice none 0 0)) kr_ rfl rfl (by rfl) fr_ (by rfl) (by rfl) ⟨rfl, ?_⟩)
 exact WL.nil (DN.reachS (1) ((if_pos h84).symm) (sx_) sp_)
 exact WC.skip (DN.reachS (2) ((if_neg h84).symm) (sx_) sp_)
 intro c9 hc9
 refine WC.cutK (fun z : Int × List (BitVec 8) × List Ck × (Option Addr × Nat) × List Ck => z.1 = codeOf s n act ∧ z.2.1 = replyOf s n act ∧ RcAt 147 73 215 151 71 217 155 3 157 5 118 111 22 87 q g0 u0 r0 (didS s n act) z.2.2.1 ∧ Bs (.slice z.2.2.2.1.1 z.2.1.length z.2.2.2.1.2) z.2.1 z.2.2.2.2) (fun z : Int × List (BitVec 8) × List Ck × (Option Addr × Nat) × List Ck => []) (fun z : Int × List (BitVec 8) × List Ck × (Option Addr × Nat) × List Ck => z.2.2.1 ++ (z.2.2.2.2 ++ (row b8 (ntc (doneN n z.1 []) (.slice none 0 0) (.slice z.2.2.2.1.1 z.2.1.length z.2.2.2.1.2)) 52 :: (row b4 [.int .i64 0, .int .u32 0, .int .u32 0, .int .u64 0, .int .u64 0, .int .u32 0, .int .i64 0, .bool false, .int .i64 0, .slice none 0 0, .slice none 0 0] 52 :: (row b3 (ntc n (.slice ko n.key.length kc9) (.slice do_ n.data.length dc)) 52 :: H))))) ?_ ?_
 refine sr_ (m_ rfl rfl (WL.y rfl (Yd.eql rfl rfl) (nt_ (WC.ite rfl (fun h87 => ?_) (fun h87 => ?_)))))
 refine sr_ (m_ rfl rfl (WL.h rfl (Hd.loadAll (n := 11) kr_ rfl mem_ (by rfl) ⟨_, rfl, ?_⟩)))
 refine WL.c rfl (Ent.func Tryz.call72 rfl) (rcdo_tells q s _ hAt inv.st inv.pu inv.dk hyl (by omega) n _ _ H ⟨_, _, rfl⟩ hvd hdl) (Sp.p sp_) ?_
 rintro x H9 ⟨C9, xr, AR, rfl, h9, hAR, rfl⟩
 obtain ⟨ro, rc, rfl, _⟩ := hAR.form
 refine m_ rfl rfl (x_ rfl rfl rfl (x_ rfl rfl rfl (f_ 8 kr_ rfl rfl ?_)))
 refine WL.s (Hd.store1s (cs' := ntc (doneN n (doV s n) []) (.slice none 0 0) (.slice none 0 0)) kr_ rfl rfl (by rfl) fr_ (by rfl) (by rfl) ⟨rfl, ?_⟩)
 refine f_ 10 kr_ rfl rfl ?_
 refine WL.s (Hd.store1s (cs' := ntc (doneN n (doV s n) []) (.slice none 0 0) (.slice ro (doR s n).length rc)) kr_ rfl rfl (by rfl) fr_ (by rfl) (by rfl) ⟨rfl, ?_⟩)
 refine ntsr_ (f_ 8 kr_ rfl rfl ?_)
 refine d_ kr_ rfl mem_ (by rfl) rfl ?_
 refine WL.y rfl (Yd.eql rfl rfl) (nt_ (WC.ite rfl (fun h98 => ?_) (fun h98 => ?_)))
 refine WC.draw 17 kr_ rfl ?_
 refine WAG.start (N := 17) rfl (wy_ 0 [] rfl (Yd.move rfl) kr_ ?_)
 refine wy_ 1 [] rfl (Yd.move rfl) kr_ ?_
 refine wy_ 2 [1] rfl (Yd.notNil rfl) kr_ ?_
 refine wy_ 3 [2] rfl (Yd.fieldAddr (k := 5) kr_ rfl) kr_ ?_
 obtain ⟨ps, pp, pd, vL, vE, vN, CS, CP, CD, CF, CE, us, CN, DZ, F1, A1, F2, rfl, hS, hR, hP, hF2, hD, hF, hE, hN, hO⟩ := h9
 obtain ⟨lo, lc, rfl⟩ := hF.form
 obtain ⟨eo, ec, rfl, hec⟩ := hE.form
 obtain ⟨no, nc, rfl, hnc⟩ := hN.form
 have hF9 : (doS s n).ef.length = s.ef.length := by rw [do_fence.2.2]
 refine wq_ (wf_ (i := 4) [3] rfl (QAt.rd Wt.none (Rd.load1 kr_ rfl mem_ (by rfl))) kr_) kr_ ?_
 refine wy_ 5 [] rfl (Yd.fieldAddr (k := 5) kr_ rfl) kr_ ?_
 refine wq_ (wf_ (i := 6) [5] rfl (QAt.rd Wt.none (Rd.load1 kr_ rfl mem_ (by rfl))) kr_) kr_ ?_
 refine wy_ 7 [] rfl (Yd.fieldAddr (k := 6) kr_ rfl) kr_ ?_
 refine wq_ (wf_ (i := 8) [7] rfl (QAt.rd Wt.none (Rd.load1 kr_ rfl mem_ (by rfl))) kr_) kr_ ?_
 refine wy_ 9 [] rfl (Yd.fieldAddr (k := 7) kr_ rfl) kr_ ?_
 refine wq_ (wf_ (i := 10) [9] rfl (QAt.rd Wt.none (Rd.load1 kr_ rfl mem_ (by rfl))) kr_) kr_ ?_
 refine wy_ 11 [10, 8, 6] rfl (Yd.buildL (pl := [(0, 1), (1, 1), (2, 1)]) (zs := [.int .u32 0, .int .i64 0, .bool false]) (parts := [(0, .tmp 105), (1, .tmp 107), (2, .tmp 109)]) (vs := [(0, _), (1, _), (2, _)]) (cells := [_, _, _]) kr_ kr_ rfl rfl) kr_ ?_
 refine ws_ [(12, [11])] kr_ (all_c ?_ (all_n))
 refine so_ (j := 12) [_] rfl (SO.h rfl Wt.none rfl (Hd.buildA (e := 111) (sz := 3) (zs := [.int .u32 0, .int .i64 0, .bool false]) kr_ kr_ kr_ rfl rfl (by rfl) kr_ fun b111 => ⟨_, rfl, ?_⟩))
 refine wk_ [_, _, _, _, _, _, _, _, _, _, _] (_ :: ([_] ++ _)) rfl rfl (all_c (wf_ [9] rfl (QAt.rd Wt.none (Rd.load1 kr_ rfl mem_ (by rfl))) kr_) (all_c (wf_ [7] rfl (QAt.rd Wt.none (Rd.load1 kr_ rfl mem_ (by rfl))) kr_) (all_c (wf_ [5] rfl (QAt.rd Wt.none (Rd.load1 kr_ rfl mem_ (by rfl))) kr_) (all_c (wf_ [3] rfl (QAt.rd Wt.none (Rd.load1 kr_ rfl mem_ (by rfl))) kr_) all_n)))) ?_
 refine ws_ [(13, [4])] kr_ (all_c ?_ (all_n))
 refine so_ (j := 13) [_] rfl ?_
 refine SO.h rfl Wt.none rfl (Hd.appendRow (e := 111) (sz := 3) (bytes := 24) (zs := [.int .u32 0, .int .i64 0, .bool false]) kr_ kr_ rfl (by omega) rfl rfl (hE) sp_ mem_ (by rfl) (efc_one (⟨n.order, n.step, n.undo⟩ : Ef)) (by simp only [maxLen]; omega) (by omega) fun v2 C2 h2 => ⟨_, rfl, ?_⟩)
 refine wk_ [_, _, _, _, _, _, _, _, _, _] (_ :: ([_] ++ _)) rfl rfl (all_c (wf_ [9] rfl (QAt.rd Wt.none (Rd.load1 kr_ rfl mem_ (by rfl))) kr_) (all_c (wf_ [7] rfl (QAt.rd Wt.none (Rd.load1 kr_ rfl mem_ (by rfl))) kr_) (all_c (wf_ [5] rfl (QAt.rd Wt.none (Rd.load1 kr_ rfl mem_ (by rfl))) kr_) all_n))) ?_
 obtain ⟨eo2, ec2, rfl, _⟩ := h2.form
 refine wy_ 14 [10, 9, 8, 7, 6, 5, 3, 2, 1, 0] rfl (Yd.notNil rfl) kr_ ?_
 refine wy_ 15 [14, 10, 9, 8, 7, 6, 5, 3, 2, 1, 0] rfl (Yd.fieldAddr (k := 5) kr_ rfl) kr_ ?_
 refine ws_ [(16, [15, 10, 9, 8, 7, 6, 5, 3, 2, 1, 0])] kr_ (all_c ?_ (all_n))
 refine so_ (j := 16) [_, _, _, _, _, _, _, _, _, _, _] rfl ?_
 refine SO.s rfl Wt.none (Hd.store1s kr_ rfl rfl (by rfl) fr_ (by rfl) (by first | (simp only [List.set_cons_zero, List.set_cons_succ, Nat.zero_add, Nat.add_zero, Nat.reduceAdd]; rfl) | rfl) ⟨rfl, ?_⟩)
 refine wk_ [_] (([_, _, _, _, _, _, _, _, _, _, _] ++ _)) rfl rfl all_n (wd_ [_] rfl kr_ ?_)
 exact DN.reachS ((doV s n, doR s n, row q [.pointer (some ⟨ps, 0, none⟩), .pointer (some ⟨pp, 0, none⟩), .pointer (some ⟨pd, 0, none⟩), .int .u32 (doS s n).e.toNat, .slice lo (doS s n).ks.length lc, .slice eo2 ((doS s n).ef.length + 1) ec2, .slice no (doS s n).no.length nc] 87 :: (CS ++ (CP ++ (CD ++ (CF ++ (C2 ++ (CN ++ DZ)))))), (ro, rc), AR)) (by have g := did_1 (s := s) (n := n) (by rw [h87]; decide) h87; exact ⟨g.1.symm, g.2.1.symm, by rw [g.2.2, if_pos (show doV s n = 1 from h98)]; exact ⟨ps, pp, pd, _, _, _, _, _, _, _, _, _, _, _, F1, _, F2, rfl, hS, hR, hP, hF2, hD, hF, by show Own _ ((doS s n).ef ++ [_]).length (((doS s n).ef ++ [_]).flatMap efc) _ 3 _; rw [List.length_append, List.flatMap_append]; exact h2, hN, hO⟩, hAR⟩) (sx_) sp_
 refine WC.skip ?_
 exact DN.reachS ((doV s n, doR s n, C9, (ro, rc), AR)) (by have g := did_1 (s := s) (n := n) (by rw [h87]; decide) h87; exact ⟨g.1.symm, g.2.1.symm, by rw [g.2.2, if_neg (show ¬ doV s n = 1 from h98)]; exact h9, hAR⟩) (sx_) sp_
 refine WC.skip ?_
 exact DN.reachS ((c9, [], row q [.pointer (some ⟨ps, 0, none⟩), .pointer (some ⟨pp, 0, none⟩), .pointer (some ⟨pd, 0, none⟩), .int .u32 s.e.toNat, .slice lo s.ks.length lc, .slice eo s.ef.length ec, .slice no s.no.length nc] 87 :: (CS ++ (CP ++ (CD ++ (CF ++ (CE ++ (CN ++ DZ)))))), (none, 0), [])) (by by_cases h4 : act = 4; (have g := did_4 (s := s) (n := n) h4; exact ⟨by rw [hc9, if_pos h4, g.1], g.2.1.symm, by rw [g.2.2]; exact hAt, Bs_nil _⟩); (have g := did_0 (s := s) (n := n) h4 h87; exact ⟨by rw [hc9, if_neg h4, g.1], g.2.1.symm, by rw [g.2.2]; exact hAt, Bs_nil _⟩)) (sx_) sp_
 clear hS hR hP hF2 hD hF hE hN hO hec hnc hA hB
 rintro ⟨cd9, rp, C9, ⟨ro, rc⟩, AR⟩ ⟨hcd, hrp, h9, hAR⟩
 dsimp only at hcd hrp h9 hAR ⊢
 have hdf := did_fence (s := s) (n := n) (act := act)
 obtain ⟨d, hdd⟩ : ∃ d, d = didS s n act := ⟨_, rfl⟩
 rw [← hdd] at h9 hdf
 have hbd : ∀ k ∈ d.ks, k.asked.length ≤ 1000000 ∧ k.reply.length ≤ 1000000 := by rw [hdf.2]; exact hbnd
 have hdl9 : d.ks.length = s.ks.length := by rw [hdf.2]
 obtain ⟨ps, pp, pd, vL, vE, vN, CS, CP, CD, CF, CE, us, CN, DZ, F1, A1, F2, rfl, hS, hR, hP, hF2, hD, hF, hE, hN, hO⟩ := h9
 obtain ⟨lo, lc, rfl⟩ := hF.form
 obtain ⟨eo, ec, rfl, hec⟩ := hE.form
 obtain ⟨no, nc, rfl, hnc⟩ := hN.form
 refine WC.seq (WC.draw 17 kr_ rfl ?_)
 refine WAG.start (N := 17) rfl (wy_ 0 [] rfl (Yd.move rfl) kr_ ?_)
 refine wy_ 1 [] rfl (Yd.move rfl) kr_ ?_
 refine wy_ 2 [1] rfl (Yd.notNil rfl) kr_ ?_
 refine wy_ 3 [2] rfl (Yd.fieldAddr (k := 3) kr_ rfl) kr_ ?_
 refine wq_ (wf_ (i := 4) [3] rfl (QAt.rd Wt.none (Rd.loadA (n := 2) (vs := [_, _]) kr_ rfl mem_ (by rfl) (by rfl))) kr_) kr_ ?_
 refine wq_ (wf_ (i := 5) [] rfl (QAt.rd Wt.none (Rd.loadAll (n := 11) kr_ rfl mem_ (by rfl))) kr_) kr_ ?_
 refine wy_ 6 [] rfl (Yd.fieldAddr (k := 8) kr_ rfl) kr_ ?_
 refine wq_ (wf_ (i := 7) [6] rfl (QAt.rd Wt.none (Rd.load1 kr_ rfl mem_ (by rfl))) kr_) kr_ ?_
 refine wy_ 8 [] rfl (Yd.fieldAddr (k := 10) kr_ rfl) kr_ ?_
 refine wq_ (wf_ (i := 9) [8] rfl (QAt.rd Wt.none (Rd.load1 kr_ rfl mem_ (by rfl))) kr_) kr_ ?_
 refine ws_ [(10, [9, 7, 5, 4])] kr_ (all_c ?_ (all_n))
 refine so_ (j := 10) [_, _, _, _] rfl (SO.c rfl Wt.none rfl (Ent.func Tryz.call73 rfl) (rkeep_tells d.e _ d.ks (CF ++ (AR ++ H)) (hF.kv.mono gr_) (by omega) hbd n _ _ (hvk.mono gr_) (hvd.mono gr_) cd9 _ rp (hAR.mono gr_)) (Sp.p sp_) ?_)
 rintro x H9 ⟨wk, DK, rfl, hKF, rfl⟩
 obtain ⟨ko2, kc2, rfl⟩ := hKF.form
 refine wk_ [_, _, _, _, _, _] (_ :: ([_, _, _, _] ++ _)) rfl rfl all_n (wy_ 11 [] rfl (Yd.move rfl) kr_ ?_)
 refine wy_ 12 [11] rfl (Yd.extract rfl rfl) kr_ ?_
 refine wy_ 13 [11] rfl (Yd.extract rfl rfl) kr_ ?_
 refine wy_ 14 [12, 11, 8, 6, 3, 2, 1, 0] rfl (Yd.notNil rfl) kr_ ?_
 refine wy_ 15 [14, 12, 11, 8, 6, 3, 2, 1, 0] rfl (Yd.fieldAddr (k := 3) kr_ rfl) kr_ ?_
 refine ws_ [(16, [15, 12, 11, 8, 6, 3, 2, 1, 0])] kr_ (all_c ?_ (all_n))
 refine so_ (j := 16) [_, _, _, _, _, _, _, _, _] rfl ?_
 refine SO.s rfl Wt.none (Hd.storeP (n := 2) kr_ rfl rfl (by rfl) one_ fr_ (by show 0 + 3 + 2 ≤ 7; decide) (by rfl) ⟨rfl, ?_⟩)
 refine wk_ [_, _] (([_, _, _, _, _, _, _, _, _] ++ _)) rfl rfl all_n (wd_ [_, _] rfl kr_ ?_)
 refine ts_ (WC.region (WL.h rfl (Hd.loadAll (n := 11) kr_ rfl mem_ (by rfl) ⟨_, rfl, ?_⟩)))
 refine WL.s (Hd.storeAll (n := 11) kr_ rfl rfl (by rfl) (ntc_one rfl rfl) fr_ (by rfl) ⟨rfl, ?_⟩)
 refine nt_ (WC.ret (DN.retCS (s := 11) ((row q [.pointer (some ⟨ps, 0, none⟩), .pointer (some ⟨pp, 0, none⟩), .pointer (some ⟨pd, 0, none⟩), .int .u32 (keepK d.e d.ks n cd9 rp).1.toNat, .slice ko2 (keepK d.e d.ks n cd9 rp).2.1.length kc2, .slice eo d.ef.length ec, .slice no d.no.length nc] 87 :: (CS ++ (CP ++ (CD ++ (DK ++ (CE ++ (CN ++ DZ))))))) ++ (AR ++ H)) Tryz.results33 kr_ rfl mem_ (by rfl) sp_ ?_))
 have g := serve_new (s := s) (n := n) (by rw [hq3]; exact h38) (by rw [hq1]; exact h51) (by omega)
 rw [hq1, ← hdd, ← hcd, ← hrp] at g
 rw [g.1, g.2]
 exact ⟨_, _, AR, rfl, ⟨ps, pp, pd, _, _, _, CS, CP, CD, DK, CE, us, CN, DZ, F1, A1, F2, rfl, hS, hR, hP, hF2, hD, hKF, hE, hN, hO⟩, hAR, rfl⟩
end Go.Proofs.YtkamlondepceiaaGreat

set_option linter.unusedVariables false
set_option linter.unusedSimpArgs false
set_option maxHeartbeats 4000000
namespace Go.Proofs.YtkamlondepceiaaGreat
open Go.SL
theorem lent_of {T : TypeId} {ao : Option Addr} {cap : Nat} {bs : List (BitVec 8)} {C : List Ck} (h : Ob T (.slice ao (bs.length + 2) cap) (bs ++ [91#8, 92#8]) C) (hl : bs.length ≤ 9223372036854775807) : Bs (.slice ao bs.length cap) bs C := by
  have := Bs.upto (j := bs.length) h.bs (by omega)
  simpa using this
theorem spoil_tells (xo : Option Addr) (xc n k : Nat) (l : List (BitVec 8)) (C : List Ck) (hC : Ob 5 (.slice xo (n + k) xc) l C) (hn : l.length = n + k) (hl : n ≤ 1000000) : Tells Tryz.prog 16 [.slice xo n xc] C fun r H' => H' = [] := by
 refine Tells.enter Tryz.func16 rfl Tryz.ntmps16 rfl ?_
 intro w0 R
 have hex : n = 0 ∨ ∃ b extra, xo = some ⟨b, 0, none⟩ ∧ C = [row b (bc l ++ extra) 5] := by
   rcases hC with ⟨he, h0, _⟩ | ⟨b, cap, extra, he, _, _, _, _, hCC⟩
   · left; omega
   simp only [Value.slice.injEq] at he
   obtain ⟨rfl, _, _⟩ := he
   exact .inr ⟨b, extra, rfl, hCC⟩
 refine sr_ (a_ rfl rfl (nt_ (WC.block (WC.loop (fun z : Nat × List (BitVec 8) × List Ck => z.1 ≤ n ∧ z.2.1.length = n + k ∧ (n = 0 ∨ ∃ b extra, xo = some ⟨b, 0, none⟩ ∧ z.2.2 = [row b (bc z.2.1 ++ extra) 5])) (fun z => [(0, .slice xo n xc), (2, .int .i64 z.1)]) (fun z => z.2.2) (fun z => n - z.1) (0, l, C) ⟨Nat.zero_le _, hn, hex⟩ ⟨rfl, rfl, trivial⟩ (List.Perm.refl _) ?_))))
 rintro ⟨i, ys, E⟩ ⟨hi, hys, he⟩
 simp only at hi hys he
 refine WC.seq (sr_ (m_ rfl rfl (m_ rfl rfl (WL.y rfl (Yd.len (e := 5) kr_ rfl) ?_))))
 refine WL.y rfl (Yd.lss rfl rfl) (nt_ (WC.ite rfl (fun h6 => ?_) (fun h6 => ?_)))
 have hlt : i < n := by omega
 obtain ⟨b, extra, rfl, rfl⟩ := he.resolve_left (by omega)
 refine WC.skip (ts_ (WC.block (WC.region ?_)))
 iterate 4 refine m_ rfl rfl ?_
 refine WL.y rfl (Yd.indexAddr (e := 5) (s := 1) kr_ kr_ rfl rfl (by omega) (by omega)) ?_
 refine WL.h rfl (Hd.load1 (v := .int .u8 (ys.getD i 0#8).toNat) (b := b) (cs := bc ys ++ extra) kr_ rfl List.mem_cons_self (by rw [show 0 + (i : Int).toNat * 1 = i by omega, List.getElem?_append_left (by rw [bc_length]; omega)]; exact bc_getD (by omega)) ⟨_, rfl, ?_⟩)
 refine WL.y rfl (Yd.xor8 _ (165#8) rfl rfl rfl rfl) (WL.y rfl (Yd.indexAddr (e := 5) (s := 1) kr_ kr_ rfl rfl (by omega) (by omega)) ?_)
 refine WL.s (Hd.store1 (b := b) (cs := bc ys ++ extra) (T' := 5) (D := []) kr_ rfl rfl rfl (List.Perm.refl _) (by simp [bc_length]; omega) ⟨rfl, ?_⟩)
 refine WL.nil (DN.block_normal (DN.then_normal (WC.region (m_ rfl rfl (WL.y rfl (Yd.add rfl rfl (by omega) (by omega)) ?_)))))
 refine a_ rfl rfl (WL.nil ?_)
 refine DN.again (i + 1, ys.set i (ys.getD i 0#8 ^^^ 165#8), [row b (bc (ys.set i (ys.getD i 0#8 ^^^ 165#8)) ++ extra) 5]) ⟨by show i + 1 ≤ n; omega, by simp [hys], .inr ⟨b, extra, rfl, rfl⟩⟩ (by show n - (i + 1) < n - i; omega) ⟨rfl, rfl, trivial⟩ ?_
 rw [show 0 + (i : Int).toNat * 1 = i by omega, set_front _ _ _ _ (by rw [bc_length]; omega), bc_set]
 try exact List.Perm.refl _
 exact WC.exit (DN.then_exit (DN.then_exit (DN.block_exit (DN.forget [] (List.nil_sublist _) (DN.end0 Tryz.results16 rfl)))))
theorem spoil_own (xo : Option Addr) (xc : Nat) (l : List (BitVec 8)) (C : List Ck) (hC : Ob 5 (.slice xo l.length xc) l C) (hl : l.length ≤ 1000000) : Tells Tryz.prog 16 [.slice xo l.length xc] C fun r H' => H' = [] := spoil_tells xo xc l.length 0 l C hC rfl hl
end Go.Proofs.YtkamlondepceiaaGreat

set_option linter.unusedVariables false
set_option linter.unusedSimpArgs false
set_option maxHeartbeats 4000000
namespace Go.Proofs.YtkamlondepceiaaGreat
open Go.SL
theorem lists_step {xs bs : List (List (BitVec 8))} {i : Nat} (ha : i < xs.length) (hb : i < bs.length) (h : xs.take i = bs.take i) (e : xs[i] = bs[i]) : xs.take (i + 1) = bs.take (i + 1) := by
  rw [List.take_succ_eq_append_getElem ha, List.take_succ_eq_append_getElem hb, h, e]
theorem sameLists_reads (u v : Value) (xs bs : List (List (BitVec 8))) (H : List Ck) (hu : Bss u xs H) (hv : Bss v bs H) (hl : xs.length ≤ 9223372036854775807) : Reads Tryz.prog 35 [u, v] H (.bool (decide (xs = bs))) := by
 refine Tells.enter Tryz.func35 rfl Tryz.ntmps35 rfl ?_
 intro w0 R
 obtain ⟨uo, uc, rfl, huc⟩ := Bss.form hu
 obtain ⟨vo, vc, rfl, hvc⟩ := Bss.form hv
 obtain ⟨us, hru, hul, hus⟩ := hu.open
 obtain ⟨vs, hrv, hvl, hvs⟩ := hv.open
 refine sr_ (a_ rfl rfl (nt_ (WC.seq (sr_ (m_ rfl rfl (WL.y rfl (Yd.len (e := 22) kr_ rfl) ?_))))))
 refine m_ rfl rfl (WL.y rfl (Yd.len (e := 22) kr_ rfl) ?_)
 refine WL.y rfl (Yd.neq rfl rfl) (nt_ (WC.ite rfl (fun h10 => ?_) (fun h10 => ?_)))
 have hne : xs ≠ bs := by rintro rfl; exact h10 rfl
 refine sr_ (a_ rfl rfl (nt_ (WC.ret (DN.then_ret (DN.ret1 Tryz.results35 rfl ?_)))))
 first | exact ⟨by rw [decide_eq_false hne], rfl⟩ | exact ⟨by rw [decide_eq_false]; rintro rfl; exact h27 rfl, rfl⟩ | exact ⟨by rw [decide_eq_true hsame], rfl⟩
 have hlen : xs.length = bs.length := by omega
 refine WC.skip (ts_ (sr_ (a_ rfl rfl (nt_ (WC.block (WC.loop (fun i : Nat => i ≤ xs.length ∧ xs.take i = bs.take i) (fun i => [(0, .slice uo xs.length uc), (1, .slice vo bs.length vc), (5, .int .i64 i)]) (fun _ => H) (fun i => xs.length - i) 0 ⟨Nat.zero_le _, rfl⟩ ⟨rfl, rfl, rfl, trivial⟩ (List.Perm.refl _) ?_))))))
 rintro i ⟨hi, hsame⟩
 refine WC.seq (sr_ (m_ rfl rfl (m_ rfl rfl (WL.y rfl (Yd.len (e := 22) kr_ rfl) ?_))))
 refine WL.y rfl (Yd.lss rfl rfl) (nt_ (WC.ite rfl (fun h14 => ?_) (fun h14 => ?_)))
 have hia : i < xs.length := by omega
 have hib : i < bs.length := by omega
 obtain ⟨a1, c1, hga, hxs⟩ := hus i hia
 obtain ⟨a2, c2, hgb, hbs⟩ := hvs i hib
 obtain ⟨ba, oa, csa, Ta, fra, exa, ea, hma, hca⟩ := hru.at (by intro e; have h9 := congrArg List.length e; simp only [List.length_nil] at h9; omega)
 obtain ⟨bb, ob, csb, Tb, frb, exb, eb, hmb, hcb⟩ := hrv.at (by intro e; have h9 := congrArg List.length e; simp only [List.length_nil] at h9; omega)
 subst ea eb
 have hla := hca i _ hga
 have hlb := hcb i _ hgb
 refine WC.skip (ts_ (WC.block (WC.seq (WC.draw 11 kr_ rfl ?_))))
 refine WAG.start (N := 11) rfl (wy_ 0 [] rfl (Yd.move rfl) kr_ ?_)
 refine wy_ 1 [] rfl (Yd.move rfl) kr_ ?_
 refine wy_ 2 [1, 0] rfl (Yd.indexAddr (e := 22) (s := 1) kr_ kr_ rfl rfl (by omega) (by omega)) kr_ ?_
 refine wq_ (wf_ (i := 3) [2] rfl (QAt.rd Wt.none (Rd.load1 (b := ba) (cs := csa.toList) kr_ rfl (by simpa using hma) (by simpa using hla))) kr_) kr_ ?_
 refine wy_ 5 [] rfl (Yd.move rfl) kr_ ?_
 refine wy_ 6 [] rfl (Yd.move rfl) kr_ ?_
 refine wy_ 7 [6, 5] rfl (Yd.indexAddr (e := 22) (s := 1) kr_ kr_ rfl rfl (by omega) (by omega)) kr_ ?_
 refine wq_ (wf_ (i := 8) [7] rfl (QAt.rd Wt.none (Rd.load1 (b := bb) (cs := csb.toList) kr_ rfl (by simpa using hmb) (by simpa using hlb))) kr_) kr_ ?_
 refine ws_ [(4, [3]), (9, [8])] kr_ (all_c ?_ (all_c ?_ (all_n)))
 refine so_ (j := 4) [_] rfl (SO.h rfl Wt.none rfl (Hd.toStr (e := 5) (bs := xs[i]) kr_ kr_ Tryz.underlying9 rfl hxs ⟨_, rfl, ?_⟩))
 refine wk_ [_, _, _, _, _, _, _] (_ :: ([_] ++ _)) rfl rfl (all_c (wf_ [7] rfl (QAt.rd Wt.none (Rd.load1 (b := bb) (cs := csb.toList) kr_ rfl (by simpa using hmb) (by simpa using hlb))) kr_) all_n) ?_
 refine ws_ [(9, [8])] kr_ (all_c ?_ (all_n))
 refine so_ (j := 9) [_] rfl (SO.h rfl Wt.none rfl (Hd.toStr (e := 5) (bs := bs[i]) kr_ kr_ Tryz.underlying9 rfl hbs ⟨_, rfl, ?_⟩))
 refine wk_ [_, _, _, _, _, _] (_ :: ([_] ++ _)) rfl rfl all_n (wy_ 10 [] rfl (Yd.neqS rfl rfl) kr_ ?_)
 refine wd_ [_, _, _, _, _, _, _] rfl kr_ ?_
 refine DN.then_normal (WC.ite rfl (fun h27 => ?_) (fun h27 => ?_))
 refine sr_ (a_ rfl rfl (nt_ (WC.ret (DN.block_ret (DN.then_ret (DN.then_ret (DN.block_ret (DN.then_ret (DN.ret1 Tryz.results35 rfl ?_)))))))))
 first | exact ⟨by rw [decide_eq_false hne], rfl⟩ | exact ⟨by rw [decide_eq_false]; rintro rfl; exact h27 rfl, rfl⟩ | exact ⟨by rw [decide_eq_true hsame], rfl⟩
 refine WC.skip (DN.block_normal (DN.then_normal (WC.region (m_ rfl rfl (WL.y rfl (Yd.add rfl rfl (by omega) (by omega)) ?_)))))
 exact a_ rfl rfl (WL.nil (DN.again (i + 1) ⟨by omega, lists_step hia hib hsame (by simpa [str_inj] using h27)⟩ (by omega) ⟨rfl, rfl, rfl, trivial⟩ (List.Perm.refl _)))
 refine so_ (j := 9) [_] rfl (SO.h rfl Wt.none rfl (Hd.toStr (e := 5) (bs := bs[i]) kr_ kr_ Tryz.underlying9 rfl hbs ⟨_, rfl, ?_⟩))
 refine wk_ [_, _, _, _, _, _, _] (_ :: ([_] ++ _)) rfl rfl (all_c (wf_ [2] rfl (QAt.rd Wt.none (Rd.load1 (b := ba) (cs := csa.toList) kr_ rfl (by simpa using hma) (by simpa using hla))) kr_) all_n) ?_
 refine ws_ [(4, [3])] kr_ (all_c ?_ (all_n))
 refine so_ (j := 4) [_] rfl (SO.h rfl Wt.none rfl (Hd.toStr (e := 5) (bs := xs[i]) kr_ kr_ Tryz.underlying9 rfl hxs ⟨_, rfl, ?_⟩))
 refine wk_ [_, _, _, _, _, _] (_ :: ([_] ++ _)) rfl rfl all_n (wy_ 10 [] rfl (Yd.neqS rfl rfl) kr_ ?_)
 refine wd_ [_, _, _, _, _, _, _] rfl kr_ ?_
 refine DN.then_normal (WC.ite rfl (fun h27 => ?_) (fun h27 => ?_))
 refine sr_ (a_ rfl rfl (nt_ (WC.ret (DN.block_ret (DN.then_ret (DN.then_ret (DN.block_ret (DN.then_ret (DN.ret1 Tryz.results35 rfl ?_)))))))))
 first | exact ⟨by rw [decide_eq_false hne], rfl⟩ | exact ⟨by rw [decide_eq_false]; rintro rfl; exact h27 rfl, rfl⟩ | exact ⟨by rw [decide_eq_true hsame], rfl⟩
 refine WC.skip (DN.block_normal (DN.then_normal (WC.region (m_ rfl rfl (WL.y rfl (Yd.add rfl rfl (by omega) (by omega)) ?_)))))
 exact a_ rfl rfl (WL.nil (DN.again (i + 1) ⟨by omega, lists_step hia hib hsame (by simpa [str_inj] using h27)⟩ (by omega) ⟨rfl, rfl, rfl, trivial⟩ (List.Perm.refl _)))
 have hii : i = xs.length := by omega
 subst hii
 rw [List.take_length, hlen, List.take_length] at hsame
 refine WC.exit (DN.then_exit (DN.then_exit (DN.block_exit (ts_ (WC.region (a_ rfl rfl (nt_ (WC.ret (DN.ret1 Tryz.results35 rfl ?_)))))))))
 first | exact ⟨by rw [decide_eq_false hne], rfl⟩ | exact ⟨by rw [decide_eq_false]; rintro rfl; exact h27 rfl, rfl⟩ | exact ⟨by rw [decide_eq_true hsame], rfl⟩
end Go.Proofs.YtkamlondepceiaaGreat

set_option linter.unusedVariables false
set_option linter.unusedSimpArgs false
set_option maxHeartbeats 4000000
namespace Go.Proofs.YtkamlondepceiaaGreat
open Go.SL
def ntZ : Nt := ⟨0, 0#32, 0#32, 0#64, 0#64, 0#32, 0, false, 0, [], []⟩
theorem serve_nil (n : Nt) (vk vd : Value) (h1 : vk.oneCell' = true) (h2 : vd.oneCell' = true) (H : List Ck) : Reads Tryz.prog 22 [.pointer none, .agg (ntc n vk vd).toArray] H (.agg (ntc ntZ (.slice none 0 0) (.slice none 0 0)).toArray) := by
 refine Tells.enter Tryz.func22 rfl Tryz.ntmps22 rfl ?_
 intro w0 R
 refine sr_ (WL.h rfl (Hd.boxA rfl fun b3 => ⟨_, rfl, ?_⟩))
 refine WL.h rfl (Hd.alloc (zs := [.int .i64 0, .int .u32 0, .int .u32 0, .int .u64 0, .int .u64 0, .int .u32 0, .int .i64 0, .bool false, .int .i64 0, .slice none 0 0, .slice none 0 0]) kr_ fun b4 => ⟨_, rfl, ?_⟩)
 refine nt_ (WC.seq (sr_ (m_ rfl rfl (WL.y rfl (Yd.eqlNil Tryz.underlying40 rfl rfl) (WL.renamed (t := 11) (v := .bool true) rfl (congrArg Value.bool (rfl)) (nt_ (WC.yes rfl (sr_ (WL.y rfl (Yd.buildL (pl := [(0, 1), (1, 1), (2, 1), (3, 1), (4, 1), (5, 1), (6, 1), (7, 1), (8, 1), (9, 1), (10, 1)]) (zs := [.int .i64 0, .int .u32 0, .int .u32 0, .int .u64 0, .int .u64 0, .int .u32 0, .int .i64 0, .bool false, .int .i64 0, .slice none 0 0, .slice none 0 0]) (parts := []) (vs := []) (cells := [.int .i64 0, .int .u32 0, .int .u32 0, .int .u64 0, .int .u64 0, .int .u32 0, .int .i64 0, .bool false, .int .i64 0, .slice none 0 0, .slice none 0 0]) kr_ kr_ rfl rfl) ?_)))))))))
 refine WL.s (Hd.storeAll (n := 11) (vs := ntc ntZ (.slice none 0 0) (.slice none 0 0)) kr_ rfl rfl (by rfl) (ntc_one rfl rfl) fr_ (by rfl) ⟨rfl, ?_⟩)
 refine nt_ (WC.ret (DN.then_ret (DN.retCS (s := 11) H Tryz.results22 kr_ rfl mem_ (by rfl) sp_ ?_)))
 exact ⟨rfl, rfl⟩
theorem epoch_nil (H : List Ck) : Reads Tryz.prog 24 [.pointer none] H (.int .u32 ((0#32 : BitVec 32).toNat : Int)) := by
 refine Tells.enter Tryz.func24 rfl Tryz.ntmps24 rfl ?_
 intro w0 R
 refine sr_ (WL.y rfl (Yd.assign (v := .int .u32 ((0#32).toNat : Int)) rfl) (nt_ (WC.seq (sr_ (m_ rfl rfl (WL.y rfl (Yd.eqlNil Tryz.underlying40 rfl rfl) (WL.renamed (t := 4) (v := .bool true) rfl (congrArg Value.bool (rfl)) (nt_ (WC.yes rfl (sr_ (WL.y rfl (Yd.assign (v := .int .u32 ((0#32).toNat : Int)) rfl) (nt_ (WC.ret ?_)))))))))))))
 exact DN.then_ret (DN.ret1 Tryz.results24 rfl (⟨rfl, rfl⟩))
theorem effects_nil (H : List Ck) : Reads Tryz.prog 21 [.pointer none] H (.slice none 0 0) := by
 refine Tells.enter Tryz.func21 rfl Tryz.ntmps21 rfl ?_
 intro w0 R
 refine sr_ (a_ rfl rfl (nt_ (WC.seq (sr_ (m_ rfl rfl (WL.y rfl (Yd.eqlNil Tryz.underlying40 rfl rfl) (WL.renamed (t := 4) (v := .bool true) rfl (congrArg Value.bool (rfl)) (nt_ (WC.yes rfl (sr_ (a_ rfl rfl (nt_ (WC.ret ?_)))))))))))))
 exact DN.then_ret (DN.ret1 Tryz.results21 rfl (⟨rfl, rfl⟩))
theorem notices_nil (H : List Ck) : Reads Tryz.prog 23 [.pointer none] H (.slice none 0 0) := by
 refine Tells.enter Tryz.func23 rfl Tryz.ntmps23 rfl ?_
 intro w0 R
 refine sr_ (a_ rfl rfl (nt_ (WC.seq (sr_ (m_ rfl rfl (WL.y rfl (Yd.eqlNil Tryz.underlying40 rfl rfl) (WL.renamed (t := 7) (v := .bool true) rfl (congrArg Value.bool (rfl)) (nt_ (WC.yes rfl (sr_ (a_ rfl rfl (nt_ (WC.ret ?_)))))))))))))
 exact DN.then_ret (DN.ret1 Tryz.results23 rfl (⟨rfl, rfl⟩))
theorem goods_nil (H : List Ck) : Reads Tryz.prog 25 [.pointer none] H (.slice none 0 0) := by
 refine Tells.enter Tryz.func25 rfl Tryz.ntmps25 rfl ?_
 intro w0 R
 refine sr_ (a_ rfl rfl (nt_ (WC.seq (sr_ (m_ rfl rfl (WL.y rfl (Yd.eqlNil Tryz.underlying40 rfl rfl) (WL.renamed (t := 4) (v := .bool true) rfl (congrArg Value.bool (rfl)) (nt_ (WC.yes rfl (sr_ (a_ rfl rfl (nt_ (WC.ret ?_)))))))))))))
 exact DN.then_ret (DN.ret1 Tryz.results25 rfl (⟨rfl, rfl⟩))
theorem accounts_nil (H : List Ck) : Reads Tryz.prog 26 [.pointer none] H (.slice none 0 0) := by
 refine Tells.enter Tryz.func26 rfl Tryz.ntmps26 rfl ?_
 intro w0 R
 refine sr_ (a_ rfl rfl (nt_ (WC.seq (sr_ (m_ rfl rfl (WL.y rfl (Yd.eqlNil Tryz.underlying40 rfl rfl) (WL.renamed (t := 4) (v := .bool true) rfl (congrArg Value.bool (rfl)) (nt_ (WC.yes rfl (sr_ (a_ rfl rfl (nt_ (WC.ret ?_)))))))))))))
 exact DN.then_ret (DN.ret1 Tryz.results26 rfl (⟨rfl, rfl⟩))
theorem room_nil (day : Int) (H : List Ck) : Reads Tryz.prog 30 [.pointer none, .int .i64 day] H (.int .i64 0) := by
 refine Tells.enter Tryz.func30 rfl Tryz.ntmps30 rfl ?_
 intro w0 R
 refine sr_ (a_ rfl rfl (nt_ (WC.seq (sr_ (m_ rfl rfl (WL.y rfl (Yd.eqlNil Tryz.underlying40 rfl rfl) (WL.renamed (t := 6) (v := .bool true) rfl (congrArg Value.bool (rfl)) (nt_ (WC.yes rfl (sr_ (a_ rfl rfl (nt_ (WC.ret ?_)))))))))))))
 exact DN.then_ret (DN.ret1 Tryz.results30 rfl (⟨rfl, rfl⟩))
end Go.Proofs.YtkamlondepceiaaGreat

set_option linter.unusedVariables false
set_option linter.unusedSimpArgs false
set_option maxHeartbeats 4000000
set_option maxRecDepth 100000
namespace Go.Proofs.YtkamlondepceiaaGreat.Do
open Go.SL
theorem goodOk {rs : List Int} (h : (rs.findIdx? badRoom).isSome = false) : RoomsOk rs := by
  intro j
  by_cases hj : j < rs.length
  · have h1 : rs.findIdx? badRoom = none := by
      cases e : rs.findIdx? badRoom with
      | none => rfl
      | some i => rw [e] at h; cases h
    have := (List.findIdx?_eq_none_iff.1 h1) rs[j] (List.getElem_mem hj)
    simp only [List.getD, List.getElem?_eq_getElem hj, Option.getD_some]
    simp [badRoom] at this
    exact this
  have e : rs[j]? = none := List.getElem?_eq_none (by omega)
  simp [List.getD, e]
end Go.Proofs.YtkamlondepceiaaGreat.Do

set_option linter.unusedVariables false
set_option linter.unusedSimpArgs false
set_option maxHeartbeats 8000000
namespace Go.Proofs.YtkamlondepceiaaGreat
open Go.SL
theorem law_CrewServes (v1 v2 v3 : Value) (gs : List Gd) (uu : List Au) (rs : List Int) (hg : ∀ g ∈ gs, g.gone = 0) (v : Value) (l : List As) (xs : List Value) (H : List Ck) (h1 : Rs v1 gs.length (gs.flatMap cellsG) H) (h2 : Rs v2 uu.length (uu.flatMap cellsU) H) (h3 : Rs v3 rs.length (ic rs) H) (hl1 : gs.length ≤ 9223372036854775807) (hl2 : uu.length ≤ 9223372036854775807) (hl3 : rs.length ≤ 9223372036854775807) (ha : AskL v l xs H) (hm : l.length ≤ 9223372036854775807) : Reads Tryz.prog 8 [.agg #[v1, v2, v3], v] H (.bool true) := by
 refine Tells.enter Tryz.func8 rfl Tryz.ntmps8 rfl ?_
 intro w0 R
 have ha9 := ha
 obtain ⟨hv, hx, hA⟩ := ha
 obtain ⟨g1, c1, rfl, _⟩ := h1.form
 obtain ⟨g2, c2, rfl, _⟩ := h2.form
 obtain ⟨g3, c3, rfl, _⟩ := h3.form
 obtain ⟨vo, vc, rfl, hvc⟩ := hv.form
 refine sr_ (WL.h rfl (Hd.boxA (vs := [.slice g1 gs.length c1, .slice g2 uu.length c2, .slice g3 rs.length c3]) rfl fun b2 => ⟨_, rfl, ?_⟩))
 refine a_ rfl rfl (nt_ (WC.seq (sr_ (WL.h rfl (Hd.loadAll (n := 3) kr_ rfl mem_ (by rfl) ⟨_, rfl, ?_⟩)))))
 refine m_ rfl rfl (WL.c rfl (Ent.func Tryz.call19 rfl) (long_reads _ _ _ _ gs uu rs l xs H h1 h2 h3 ha9 hl1 hl2 hl3 hm) (Sp.p sp_) ?_)
 rintro z9 Hq ⟨hHq, z, rfl, hz⟩
 have hHq := hHq.symm
 subst hHq
 refine nt_ (WC.cond rfl (fun h21 => ?_) (fun h21 => ?_))
 refine sr_ (WL.r rfl (Ent.func Tryz.call9 rfl) (known12 _) (a_ rfl rfl (nt_ (WC.ret (DN.then_ret (DN.fit (C := H) sp_ ?_))))))
 exact DN.ret1 Tryz.results8 rfl (⟨rfl, rfl⟩)
 have hnl := hz h21
 refine WC.skip (ts_ ?_)
 rcases Classical.em (GoodL gs ∧ AccL uu ∧ ((rs.findIdx? Do.badRoom).isSome = false ∧ rs.length ≤ 60)) with hALL | hALL
 refine WC.region (f_ 0 kr_ rfl rfl ?_)
 refine d_ kr_ rfl mem_ (by rfl) rfl ?_
 refine f_ 1 kr_ rfl rfl ?_
 refine d_ kr_ rfl mem_ (by rfl) rfl ?_
 refine f_ 2 kr_ rfl rfl ?_
 refine d_ kr_ rfl mem_ (by rfl) rfl ?_
 refine WL.c rfl (Ent.func Tryz.call31 rfl) (cnew_tells _ _ _ gs uu rs hg H h1 h2 h3 hl1 hl2 hl3) (Sp.p sp_) ?_
 intro z9 H9 h9
 first | (have hA9 : GoodL gs ∧ AccL uu ∧ ((rs.findIdx? Do.badRoom).isSome = false ∧ rs.length ≤ 60) := hALL; obtain ⟨p, C0, rfl, h0, rfl⟩ := (h9.resolve_right fun z => z.1 hALL).2; have inv0 : CInv gs uu rs (Cw.new gs uu rs) := new_inv (SInv.start hALL.1.1 hALL.1.2.1 fun g hg9 => ⟨hALL.1.2.2 g hg9, hg g hg9⟩) (PInv.start hALL.2.1) (DInv.start (Do.goodOk hALL.2.2.1) hALL.2.2.2)) | (obtain ⟨rfl, hH9⟩ := (h9.resolve_left fun z => hALL z.1).2; rw [hH9])
 refine m_ rfl rfl (x_ rfl rfl rfl (x_ rfl rfl rfl (a_ rfl rfl (a_ rfl rfl (ntsr_ (f_ 0 kr_ rfl rfl ?_))))))
 refine d_ kr_ rfl mem_ (by rfl) rfl ?_
 refine f_ 1 kr_ rfl rfl ?_
 refine d_ kr_ rfl mem_ (by rfl) rfl ?_
 refine f_ 2 kr_ rfl rfl ?_
 refine d_ kr_ rfl mem_ (by rfl) rfl ?_
 refine WL.c rfl (Ent.func Tryz.call32 rfl) (rcnew_tells _ _ _ gs uu rs hg H h1 h2 h3 hl1 hl2 hl3) (Sp.p sp_) ?_
 intro z9 H9 h9
 first | (have hA9 : GoodL gs ∧ AccL uu ∧ ((rs.findIdx? Do.badRoom).isSome = false ∧ rs.length ≤ 60) := hALL; obtain ⟨q, Q0, rfl, hq0, rfl⟩ := (h9.resolve_right fun z => z.1 hALL).2) | (obtain ⟨rfl, hH9⟩ := (h9.resolve_left fun z => hALL z.1).2; rw [hH9])
 refine m_ rfl rfl (x_ rfl rfl rfl (x_ rfl rfl rfl (a_ rfl rfl (a_ rfl rfl (nt_ (WC.seq (sr_ (m_ rfl rfl (WL.y rfl (Yd.neq rfl rfl) (WL.renamed (t := 44) (v := .bool false) rfl (congrArg Value.bool (by decide)) ?_))))))))))
 refine nt_ (WC.no rfl (WC.skip (ts_ (sr_ (m_ rfl rfl (WL.y rfl (Yd.eqlNil Tryz.underlying40 rfl rfl) (WL.renamed (t := 56) (v := .bool false) rfl (congrArg Value.bool (rfl)) (m_ rfl rfl (gy_ 57 rfl rfl rfl (Yd.move rfl) (gy_ 57 rfl rfl rfl (Yd.neq rfl rfl) (WL.renamed (t := 59) (v := .bool false) rfl (congrArg Value.bool (by decide)) ?_)))))))))))
 refine WL.y rfl (Yd.pickF rfl rfl) (nt_ (WC.no rfl (WC.skip (ts_ (sr_ (a_ rfl rfl (nt_ (WC.block (WC.loopS (fun z : Nat × Cw × List Ck × List Ck => z.1 ≤ l.length ∧ CwAt 189 198 203 3 5 118 111 22 116 p z.2.1 z.2.2.1 ∧ CInv gs uu rs z.2.1 ∧ RcAt 147 73 215 151 71 217 155 3 157 5 118 111 22 87 q gs uu rs z.2.1 z.2.2.2 ∧ z.2.1.Y.length ≤ z.1 ∧ z.1 ≤ 60) (fun z : Nat × Cw × List Ck × List Ck => [(9, .int .i64 (z.1 : Int))]) (fun z : Nat × Cw × List Ck × List Ck => z.2.2.1 ++ (z.2.2.2 ++ H)) (fun z : Nat × Cw × List Ck × List Ck => l.length - z.1) (⟨0, (Cw.new gs uu rs), C0, Q0⟩) (show 0 ≤ l.length ∧ CwAt 189 198 203 3 5 118 111 22 116 p ((Cw.new gs uu rs)) C0 ∧ CInv gs uu rs ((Cw.new gs uu rs)) ∧ RcAt 147 73 215 151 71 217 155 3 157 5 118 111 22 87 q gs uu rs ((Cw.new gs uu rs)) Q0 ∧ ((Cw.new gs uu rs)).Y.length ≤ 0 ∧ 0 ≤ 60 from ⟨Nat.zero_le _, h0, inv0, hq0, Nat.le_refl _, Nat.zero_le _⟩) (Sx.put rfl (sx_)) sp_ ?_)))))))))
 rintro ⟨i, s, C, Q⟩ hI
 replace hI : i ≤ l.length ∧ CwAt 189 198 203 3 5 118 111 22 116 p s C ∧ CInv gs uu rs s ∧ RcAt 147 73 215 151 71 217 155 3 157 5 118 111 22 87 q gs uu rs s Q ∧ s.Y.length ≤ i ∧ i ≤ 60 := hI
 obtain ⟨hi, h, inv, hQ, hyl, hi60⟩ := hI
 change WC _ _ _ _ _ _ ([(9, .int .i64 (i : Int))] ++ _) (C ++ (Q ++ H))
 refine WC.seq (sr_ (m_ rfl rfl (m_ rfl rfl (WL.y rfl (Yd.len (e := 54) kr_ rfl) ?_))))
 refine WL.y rfl (Yd.lss rfl rfl) (m_ rfl rfl (WL.partP (t := 65) rfl (fun hg65 => ?_) (fun hg65 => ?_)))
 refine gy_ 65 rfl rfl rfl (Yd.move rfl) (gy_ 65 rfl rfl rfl (Yd.lss rfl rfl) (WL.y rfl (Yd.pickT rfl rfl) (nt_ (WC.ite rfl (fun h68 => ?_) (fun h68 => ?_)))))
 have hlt : i < l.length := by omega
 obtain ⟨hw1, hw2⟩ := hnl.2.2.2 i hlt (by omega)
 obtain ⟨vn, vd, hcell, hkn, hkd, _⟩ := hA i hlt
 obtain ⟨ko, kc, rfl, _⟩ := hkn.form
 obtain ⟨eo, ec, rfl, _⟩ := hkd.form
 obtain ⟨hmK, hmU⟩ := inv_many inv
 have hme := inv.ef
 have hmk := inv.ck.1
 refine WC.skip (ts_ (WC.block (sr_ (m_ rfl rfl (m_ rfl rfl (WL.elemA (e := 54) (s := 8) kr_ kr_ kr_ rfl rfl (rfl) (hv.mono gr_) (hcell) (by rfl) (by omega) (hlt) rfl rfl ?_))))))
 intro p73
 refine WL.c rfl (Ent.func Tryz.call20 rfl) (note_tells l[i] _ _ H hkn hkd (by omega)) (Sp.p sp_) ?_
 rintro q1 Hq1 ⟨x, A, rfl, hbx, rfl⟩
 have hnl9 := note_len l[i]
 obtain ⟨n0, hn0⟩ : ∃ m, m = noteA l[i] := ⟨_, rfl⟩
 rw [← hn0] at hbx hnl9 ⊢
 obtain ⟨xo, xc, rfl, _⟩ := hbx.form
 have hk0 : n0.key = [] := by rw [hn0]; rfl
 refine WL.h rfl (Hd.alloc (zs := [.int .i64 0, .int .u32 0, .int .u32 0, .int .u64 0, .int .u64 0, .int .u32 0, .int .i64 0, .bool false, .int .i64 0, .slice none 0 0, .slice none 0 0]) kr_ fun b10 => ⟨_, rfl, ?_⟩)
 refine WL.s (Hd.storeAll (n := 11) kr_ rfl rfl (by rfl) (ntc_one rfl rfl) fr_ (by rfl) ⟨rfl, ?_⟩)
 refine ntsr_ (WL.h rfl (Hd.loadAll (n := 11) kr_ rfl mem_ (by rfl) ⟨_, rfl, ?_⟩))
 refine WL.h rfl (Hd.alloc (zs := [.int .i64 0, .int .u32 0, .int .u32 0, .int .u64 0, .int .u64 0, .int .u32 0, .int .i64 0, .bool false, .int .i64 0, .slice none 0 0, .slice none 0 0]) kr_ fun b11 => ⟨_, rfl, ?_⟩)
 refine WL.s (Hd.storeAll (n := 11) kr_ rfl rfl (by rfl) (ntc_one rfl rfl) fr_ (by rfl) ⟨rfl, ?_⟩)
 refine ntsr_ (f_ 10 kr_ rfl rfl ?_)
 refine d_ kr_ rfl mem_ (by rfl) rfl ?_
 refine WL.c rfl (Ent.func Tryz.call10 rfl) (lent_spec _ n0.data (A ++ H) hbx (by omega)) (Sp.p sp_) ?_
 rintro z9 H9 ⟨lo2, lc2, CX, rfl, hCX, rfl⟩
 refine f_ 10 kr_ rfl rfl ?_
 refine WL.s (Hd.store1s (cs' := ntc n0 (.slice none 0 0) (.slice lo2 n0.data.length lc2)) kr_ rfl rfl (by rfl) fr_ (by rfl) (by rfl) ⟨rfl, ?_⟩)
 refine ntsr_ (m_ rfl rfl (WL.h rfl (Hd.loadAll (n := 11) kr_ rfl mem_ (by rfl) ⟨_, rfl, ?_⟩)))
 refine WL.c rfl (Ent.func Tryz.call22 rfl) (serve_tells p s C h inv n0 _ _ CX (by rw [hk0]; exact .inl ⟨_, _, rfl, rfl, rfl⟩) (lent_of hCX (by omega))) (Sp.p sp_) ?_
 rintro z9 Hq2 ⟨C2, w2, D2, rfl, h2, hD2, rfl⟩
 have inv2 := serve_inv inv n0
 have hk2 := serve_key s n0
 have hdl2 := serve_data inv.ck n0
 have hY2 := serve_Y inv n0
 obtain ⟨s2, hs2⟩ : ∃ t, t = serveS s n0 := ⟨_, rfl⟩
 obtain ⟨a2, ha2⟩ : ∃ t, t = serveN s n0 := ⟨_, rfl⟩
 rw [← hs2] at h2 inv2 hY2
 rw [← ha2] at hD2 hk2 hdl2 ⊢
 obtain ⟨wo2, wc2, rfl, _⟩ := hD2.form
 obtain ⟨hmK2, hmU2⟩ := inv_many inv2
 have hme2 := inv2.ef
 have hmk2 := inv2.ck.1
 have hmn2 := inv2.no
 refine WL.h rfl (Hd.alloc (zs := [.int .i64 0, .int .u32 0, .int .u32 0, .int .u64 0, .int .u64 0, .int .u32 0, .int .i64 0, .bool false, .int .i64 0, .slice none 0 0, .slice none 0 0]) kr_ fun b12 => ⟨_, rfl, ?_⟩)
 refine WL.s (Hd.storeAll (n := 11) kr_ rfl rfl (by rfl) (ntc_one rfl rfl) fr_ (by rfl) ⟨rfl, ?_⟩)
 refine ntsr_ (m_ rfl rfl (WL.h rfl (Hd.loadAll (n := 11) kr_ rfl mem_ (by rfl) ⟨_, rfl, ?_⟩)))
 refine WL.c rfl (Ent.func Tryz.call33 rfl) (rcserve_tells q s Q hQ inv (by omega) n0 _ _ (A ++ H) (by rw [hk0]; exact .inl ⟨_, _, rfl, rfl, rfl⟩) hbx) (Sp.p sp_) ?_
 rintro z9 Hq3 ⟨Q2, w3, D3, rfl, hq2, hD3, rfl⟩
 rw [← hs2] at hq2
 rw [← ha2] at hD3 ⊢
 obtain ⟨wo3, wc3, rfl, _⟩ := hD3.form
 have hq2' := hq2
 obtain ⟨ps, pp, pd, vL, vE, vN, CS, CP, CD, CF, CE, us, CN, DZ, F1, A1, F2, rfl, hS, hR, hP, hF2, hD, hF, hE, hN, hO⟩ := hq2
 obtain ⟨lo, lc, rfl⟩ := hF.form
 obtain ⟨eo, ec, rfl, hec⟩ := hE.form
 obtain ⟨no, nc, rfl, hnc⟩ := hN.form
 refine WL.h rfl (Hd.alloc (zs := [.int .i64 0, .int .u32 0, .int .u32 0, .int .u64 0, .int .u64 0, .int .u32 0, .int .i64 0, .bool false, .int .i64 0, .slice none 0 0, .slice none 0 0]) kr_ fun b13 => ⟨_, rfl, ?_⟩)
 refine WL.s (Hd.storeAll (n := 11) kr_ rfl rfl (by rfl) (ntc_one rfl rfl) fr_ (by rfl) ⟨rfl, ?_⟩)
 refine ntsr_ (f_ 10 kr_ rfl rfl ?_)
 refine d_ kr_ rfl mem_ (by rfl) rfl ?_
 refine f_ 10 kr_ rfl rfl ?_
 refine d_ kr_ rfl mem_ (by rfl) rfl ?_
 refine WL.r rfl (Ent.func Tryz.call15 rfl) (whole_reads lo2 lc2 _ n0.data _ (hCX.bs.mono gr_) (hbx.mono gr_) (by omega)) ?_
 refine WL.renamed (t := 91) (v := .bool true) rfl (congrArg Value.bool (rfl)) (a_ rfl rfl (ntsr_ (f_ 10 kr_ rfl rfl ?_)))
 refine d_ kr_ rfl mem_ (by rfl) rfl ?_
 refine WL.c rfl (Ent.func Tryz.call16 rfl) (spoil_tells lo2 lc2 n0.data.length 2 _ CX hCX (by simp) (by omega)) (Sp.p sp_) ?_
 intro z9 H9 hH9
 subst hH9
 rw [List.nil_append]
 refine nt_ (WC.seq (WC.seq (WC.draw 18 kr_ rfl ?_)))
 refine WAG.start (N := 18) rfl (wq_ (wf_ (i := 0) [] rfl (QAt.rd Wt.none (Rd.loadAll (n := 11) kr_ rfl mem_ (by rfl))) kr_) kr_ ?_)
 refine wq_ (wf_ (i := 1) [] rfl (QAt.rd Wt.none (Rd.loadAll (n := 11) kr_ rfl mem_ (by rfl))) kr_) kr_ ?_
 refine wq_ (wf_ (i := 2) [1, 0] rfl (QAt.rf Wt.none (Ent.func Tryz.call34 rfl) (same05_reads a2 a2 _ _ _ _ (D2 ++ D3) (by rw [hk2]; exact .inl ⟨_, _, rfl, rfl, rfl⟩) (hD2.bs.mono gr_) (by rw [hk2]; exact .inl ⟨_, _, rfl, rfl, rfl⟩) (hD3.mono gr_)) sp_) kr_) kr_ ?_
 refine WAG.ren (v := .bool true) (congrArg Value.bool (sameNt_refl a2)) (wy_ 3 [2] rfl (Yd.notB rfl) kr_ ?_)
 refine wy_ 4 [3, 2] rfl (Yd.move rfl) kr_ ?_
 refine wg_ 5 [4] 99 rfl rfl (Yd.move rfl) kr_ ?_
 refine wg_ 6 [5, 4] 99 rfl rfl (Yd.notB rfl) kr_ ?_
 refine wy_ 7 [6, 4] rfl (Yd.pickF rfl rfl) kr_ ?_
 refine wy_ 8 [7, 4] rfl (Yd.move rfl) kr_ ?_
 refine wg_ 9 [8] 103 rfl rfl (Yd.move rfl) kr_ ?_
 refine wq_ (wf_ (i := 10) [9, 8] rfl (QAt.rf (Wt.yes (dj := 103) rfl rfl) (Ent.func Tryz.call24 rfl) (cepoch_reads p s2 C2 h2) sp_) kr_) kr_ ?_
 refine wg_ 11 [8] 103 rfl rfl (Yd.move rfl) kr_ ?_
 refine wg_ 12 [11, 8] 103 rfl rfl (Yd.notNil rfl) kr_ ?_
 refine wg_ 13 [12, 8] 103 rfl rfl (Yd.fieldAddr (k := 3) kr_ rfl) kr_ ?_
 refine wg_ 14 [13, 8] 103 rfl rfl (Yd.fieldAddr (k := 0) kr_ rfl) kr_ ?_
 refine wq_ (wf_ (i := 15) [14, 8] rfl (QAt.rd (Wt.yes (dj := 103) rfl rfl) (Rd.load1 kr_ rfl mem_ (by rfl))) kr_) kr_ ?_
 refine wg_ 16 [15, 10, 8] 103 rfl rfl (Yd.neq32 _ _ rfl rfl rfl rfl) kr_ ?_
 refine WAG.ren (v := .bool false) (congrArg Value.bool (decide_eq_false (fun h => h rfl))) ?_
 refine wy_ 17 [16, 8] rfl (Yd.pickF rfl rfl) kr_ ?_
 refine wd_ [_, _, _, _, _, _, _, _, _, _, _, _, _, _, _, _, _, _] rfl kr_ ?_
 refine DN.then_normal (WC.no rfl (WC.skip (ts_ (WC.region (f_ 10 kr_ rfl rfl ?_)))))
 refine d_ kr_ rfl mem_ (by rfl) rfl ?_
 refine WL.c rfl (Ent.func Tryz.call16 rfl) (spoil_own wo2 wc2 a2.data D2 hD2 (by omega)) (Sp.p sp_) ?_
 intro z9 H9 hH9
 subst hH9
 rw [List.nil_append]
 refine ntsr_ (m_ rfl rfl ?_)
 refine WL.c rfl (Ent.func Tryz.call23 rfl) (cnots_tells p s2 C2 h2 (by omega) (fun x hx => by have := inv2.small x hx; omega)) (Sp.p sp_) ?_
 rintro z9 Hq ⟨ws, O, D, hOO, hDD, rfl⟩
 obtain ⟨oo, oc, rfl, _⟩ := hOO.form
 have hwl := hOO.len
 refine a_ rfl rfl (nt_ (WC.seq (WC.seq (WC.draw 59 kr_ rfl ?_))))
 refine WAG.start (N := 59) rfl (wy_ 0 [] rfl (Yd.move rfl) kr_ ?_)
 refine wy_ 2 [] rfl (Yd.move rfl) kr_ ?_
 refine wy_ 3 [2] rfl (Yd.notNil rfl) kr_ ?_
 refine wy_ 4 [3] rfl (Yd.fieldAddr (k := 5) kr_ rfl) kr_ ?_
 refine wq_ (wf_ (i := 5) [4] rfl (QAt.rd Wt.none (Rd.load1 kr_ rfl mem_ (by rfl))) kr_) kr_ ?_
 refine ws_ [(1, [0])] kr_ (all_c ?_ (all_n))
 refine so_ (j := 1) [_] rfl (SO.c rfl Wt.none rfl (Ent.func Tryz.call21 rfl) (ceffs_tells p s2 C2 h2 (by omega)) (Sp.p sp_) ?_)
 rintro q Hq ⟨Ce2, he2, rfl⟩
 obtain ⟨fo2, fc2, rfl, _⟩ := he2.form
 refine wk_ [_, _, _, _] (_ :: ([_] ++ _)) rfl rfl (all_c (wf_ [4] rfl (QAt.rd Wt.none (Rd.load1 kr_ rfl mem_ (by rfl))) kr_) all_n) ?_
 refine wq_ (wf_ (i := 6) [5] rfl (QAt.rf Wt.none (Ent.func Tryz.call29 rfl) (sameEffs_reads _ _ s2.ef s2.ef (Ce2 ++ CE) (he2.rs.mono gr_) (hE.rs.mono gr_) (by omega) (by omega)) sp_) kr_) kr_ ?_
 refine WAG.ren (v := .bool true) (congrArg Value.bool (decide_eq_true rfl)) (wy_ 7 [6] rfl (Yd.notB rfl) kr_ ?_)
 refine wy_ 8 [7, 6] rfl (Yd.move rfl) kr_ ?_
 refine wg_ 9 [8] 126 rfl rfl (Yd.move rfl) kr_ ?_
 refine wg_ 10 [8] 126 rfl rfl (Yd.move rfl) kr_ ?_
 refine wg_ 11 [10, 8] 126 rfl rfl (Yd.notNil rfl) kr_ ?_
 refine wg_ 12 [11, 8] 126 rfl rfl (Yd.fieldAddr (k := 6) kr_ rfl) kr_ ?_
 refine wq_ (wf_ (i := 13) [12, 8] rfl (QAt.rd (Wt.yes (dj := 126) rfl rfl) (Rd.load1 kr_ rfl mem_ (by rfl))) kr_) kr_ ?_
 refine wq_ (wf_ (i := 14) [13, 9, 8] rfl (QAt.rf (Wt.yes (dj := 126) rfl rfl) (Ent.func Tryz.call35 rfl) (sameLists_reads _ _ s2.no s2.no ((O ++ D) ++ (CN ++ DZ)) ((Obs.bss hDD hOO).mono gr_) ((hO.bss hN).mono gr_) (by omega)) sp_) kr_) kr_ ?_
 refine WAG.ren (v := .bool true) (congrArg Value.bool (decide_eq_true rfl)) (wg_ 15 [14, 8] 126 rfl rfl (Yd.notB rfl) kr_ ?_)
 refine wy_ 16 [15, 8] rfl (Yd.pickF rfl rfl) kr_ ?_
 refine wy_ 17 [16, 14] rfl (Yd.move rfl) kr_ ?_
 refine wg_ 18 [17] 135 rfl rfl (Yd.move rfl) kr_ ?_
 refine wg_ 20 [17] 135 rfl rfl (Yd.move rfl) kr_ ?_
 refine wg_ 21 [20, 17] 135 rfl rfl (Yd.notNil rfl) kr_ ?_
 refine wg_ 22 [21, 17] 135 rfl rfl (Yd.fieldAddr (k := 0) kr_ rfl) kr_ ?_
 refine wq_ (wf_ (i := 23) [22, 17] rfl (QAt.rd (Wt.yes (dj := 135) rfl rfl) (Rd.load1 kr_ rfl mem_ (by rfl))) kr_) kr_ ?_
 refine ws_ [(19, [18, 17])] kr_ (all_c ?_ (all_n))
 refine so_ (j := 19) [_, _] rfl (SO.c rfl (Wt.yes (dj := 135) rfl rfl) rfl (Ent.func Tryz.call25 rfl) (cgoods_tells p s2 C2 h2 (by omega)) (Sp.p sp_) ?_)
 rintro q Hq ⟨S2, Cs2, hT2, ho2, rfl⟩
 have hl2 := hT2.perm.length_eq
 obtain ⟨so2, sc2, rfl, _⟩ := ho2.form
 have hvw := hR.vw inv2.st hT2
 have hvl := congrArg List.length hvw
 refine wk_ [_, _, _, _, _, _, _, _, _, _, _, _, _, _, _, _, _, _, _] (_ :: ([_, _] ++ _)) rfl rfl (all_c (wf_ [22] rfl (QAt.rd (Wt.yes (dj := 135) rfl rfl) (Rd.load1 kr_ rfl mem_ (by rfl))) kr_) (all_c (QF.ren (congrArg Value.bool (decide_eq_true rfl)) (wf_ [13, 9, 8] rfl (QAt.rf (Wt.yes (dj := 126) rfl rfl) (Ent.func Tryz.call35 rfl) (sameLists_reads _ _ s2.no s2.no ((O ++ D) ++ (CN ++ DZ)) ((Obs.bss hDD hOO).mono gr_) ((hO.bss hN).mono gr_) (by omega)) sp_) kr_)) (all_c (wf_ [12, 8] rfl (QAt.rd (Wt.yes (dj := 126) rfl rfl) (Rd.load1 kr_ rfl mem_ (by rfl))) kr_) (all_c (QF.ren (congrArg Value.bool (decide_eq_true rfl)) (wf_ [5] rfl (QAt.rf Wt.none (Ent.func Tryz.call29 rfl) (sameEffs_reads _ _ s2.ef s2.ef (Ce2 ++ CE) (he2.rs.mono gr_) (hE.rs.mono gr_) (by omega) (by omega)) sp_) kr_)) (all_c (wf_ [4] rfl (QAt.rd Wt.none (Rd.load1 kr_ rfl mem_ (by rfl))) kr_) all_n))))) ?_
 refine ws_ [(24, [23])] kr_ (all_c ?_ (all_n))
 refine so_ (j := 24) [_] rfl (SO.c rfl (Wt.yes (dj := 135) rfl rfl) rfl (Ent.func Tryz.call36 rfl) (St.rgoods_tells ps gs s2.K F1 s2.L A1 CS hS inv2.st hR) (Sp.p sp_) ?_)
 rintro z9 Hq ⟨Cs9, ho9, rfl⟩
 obtain ⟨so9, sc9, rfl, _⟩ := ho9.form
 refine wk_ [_, _, _, _, _, _, _, _, _, _, _, _, _, _, _, _, _, _] (_ :: ([_] ++ _)) rfl rfl (all_c (QF.ren (congrArg Value.bool (decide_eq_true rfl)) (wf_ [13, 9, 8] rfl (QAt.rf (Wt.yes (dj := 126) rfl rfl) (Ent.func Tryz.call35 rfl) (sameLists_reads _ _ s2.no s2.no ((O ++ D) ++ (CN ++ DZ)) ((Obs.bss hDD hOO).mono gr_) ((hO.bss hN).mono gr_) (by omega)) sp_) kr_)) (all_c (wf_ [12, 8] rfl (QAt.rd (Wt.yes (dj := 126) rfl rfl) (Rd.load1 kr_ rfl mem_ (by rfl))) kr_) (all_c (QF.ren (congrArg Value.bool (decide_eq_true rfl)) (wf_ [5] rfl (QAt.rf Wt.none (Ent.func Tryz.call29 rfl) (sameEffs_reads _ _ s2.ef s2.ef (Ce2 ++ CE) (he2.rs.mono gr_) (hE.rs.mono gr_) (by omega) (by omega)) sp_) kr_)) (all_c (wf_ [4] rfl (QAt.rd Wt.none (Rd.load1 kr_ rfl mem_ (by rfl))) kr_) all_n)))) ?_
 refine wq_ (wf_ (i := 25) [] rfl (QAt.rf (Wt.yes (dj := 135) rfl rfl) (Ent.func Tryz.call27 rfl) (sameGoods_reads _ _ S2 (vw s2.K F1) (Cs2 ++ Cs9) (ho2.rs.mono gr_) (ho9.rs.mono gr_) (by omega) (by omega)) sp_) kr_) kr_ ?_
 refine WAG.ren (v := .bool true) (congrArg Value.bool (decide_eq_true (by rw [hvw]))) ?_
 refine wg_ 26 [25] 135 rfl rfl (Yd.notB rfl) kr_ ?_
 refine wy_ 27 [26] rfl (Yd.pickF rfl rfl) kr_ ?_
 refine wy_ 28 [27, 25] rfl (Yd.move rfl) kr_ ?_
 refine wg_ 29 [28] 146 rfl rfl (Yd.move rfl) kr_ ?_
 refine wg_ 31 [28] 146 rfl rfl (Yd.move rfl) kr_ ?_
 refine wg_ 32 [31, 28] 146 rfl rfl (Yd.notNil rfl) kr_ ?_
 refine wg_ 33 [32, 28] 146 rfl rfl (Yd.fieldAddr (k := 1) kr_ rfl) kr_ ?_
 refine wq_ (wf_ (i := 34) [33, 28] rfl (QAt.rd (Wt.yes (dj := 146) rfl rfl) (Rd.load1 kr_ rfl mem_ (by rfl))) kr_) kr_ ?_
 refine ws_ [(30, [29, 28])] kr_ (all_c ?_ (all_n))
 refine so_ (j := 30) [_, _] rfl (SO.c rfl (Wt.yes (dj := 146) rfl rfl) rfl (Ent.func Tryz.call26 rfl) (caccs_tells p s2 C2 h2 (by omega)) (Sp.p sp_) ?_)
 rintro q Hq ⟨T2, Ct2, hU2, hq2, rfl⟩
 have hlU2 := hU2.perm.length_eq
 obtain ⟨to2, tc2, rfl, _⟩ := hq2.form
 have hvw2 := vwU_told inv2.pu hF2 hU2
 have hvl2 := congrArg List.length hvw2
 refine wk_ [_, _, _, _, _, _, _, _, _, _, _, _, _, _, _, _, _, _, _, _, _, _, _, _, _] (_ :: ([_, _] ++ _)) rfl rfl (all_c (wf_ [33] rfl (QAt.rd (Wt.yes (dj := 146) rfl rfl) (Rd.load1 kr_ rfl mem_ (by rfl))) kr_) (all_c (QF.ren (congrArg Value.bool (decide_eq_true (by rw [hvw]))) (wf_ [] rfl (QAt.rf (Wt.yes (dj := 135) rfl rfl) (Ent.func Tryz.call27 rfl) (sameGoods_reads _ _ S2 (vw s2.K F1) (Cs2 ++ Cs9) (ho2.rs.mono gr_) (ho9.rs.mono gr_) (by omega) (by omega)) sp_) kr_)) (all_c (QF.ren (congrArg Value.bool (decide_eq_true rfl)) (wf_ [13, 9, 8] rfl (QAt.rf (Wt.yes (dj := 126) rfl rfl) (Ent.func Tryz.call35 rfl) (sameLists_reads _ _ s2.no s2.no ((O ++ D) ++ (CN ++ DZ)) ((Obs.bss hDD hOO).mono gr_) ((hO.bss hN).mono gr_) (by omega)) sp_) kr_)) (all_c (wf_ [12, 8] rfl (QAt.rd (Wt.yes (dj := 126) rfl rfl) (Rd.load1 kr_ rfl mem_ (by rfl))) kr_) (all_c (QF.ren (congrArg Value.bool (decide_eq_true rfl)) (wf_ [5] rfl (QAt.rf Wt.none (Ent.func Tryz.call29 rfl) (sameEffs_reads _ _ s2.ef s2.ef (Ce2 ++ CE) (he2.rs.mono gr_) (hE.rs.mono gr_) (by omega) (by omega)) sp_) kr_)) (all_c (wf_ [4] rfl (QAt.rd Wt.none (Rd.load1 kr_ rfl mem_ (by rfl))) kr_) all_n)))))) ?_
 refine ws_ [(35, [34])] kr_ (all_c ?_ (all_n))
 refine so_ (j := 35) [_] rfl (SO.c rfl (Wt.yes (dj := 146) rfl rfl) rfl (Ent.func Tryz.call37 rfl) (Pu.raccs_tells pp uu s2.U F2 s2.Y CP hP inv2.pu hF2 (by omega)) (Sp.p sp_) ?_)
 rintro z9 Hq ⟨Ct9, hq9, rfl⟩
 obtain ⟨to9, tc9, rfl, _⟩ := hq9.form
 refine wk_ [_, _, _, _, _, _, _, _, _, _, _, _, _, _, _, _, _, _, _, _, _, _, _, _] (_ :: ([_] ++ _)) rfl rfl (all_c (QF.ren (congrArg Value.bool (decide_eq_true (by rw [hvw]))) (wf_ [] rfl (QAt.rf (Wt.yes (dj := 135) rfl rfl) (Ent.func Tryz.call27 rfl) (sameGoods_reads _ _ S2 (vw s2.K F1) (Cs2 ++ Cs9) (ho2.rs.mono gr_) (ho9.rs.mono gr_) (by omega) (by omega)) sp_) kr_)) (all_c (QF.ren (congrArg Value.bool (decide_eq_true rfl)) (wf_ [13, 9, 8] rfl (QAt.rf (Wt.yes (dj := 126) rfl rfl) (Ent.func Tryz.call35 rfl) (sameLists_reads _ _ s2.no s2.no ((O ++ D) ++ (CN ++ DZ)) ((Obs.bss hDD hOO).mono gr_) ((hO.bss hN).mono gr_) (by omega)) sp_) kr_)) (all_c (wf_ [12, 8] rfl (QAt.rd (Wt.yes (dj := 126) rfl rfl) (Rd.load1 kr_ rfl mem_ (by rfl))) kr_) (all_c (QF.ren (congrArg Value.bool (decide_eq_true rfl)) (wf_ [5] rfl (QAt.rf Wt.none (Ent.func Tryz.call29 rfl) (sameEffs_reads _ _ s2.ef s2.ef (Ce2 ++ CE) (he2.rs.mono gr_) (hE.rs.mono gr_) (by omega) (by omega)) sp_) kr_)) (all_c (wf_ [4] rfl (QAt.rd Wt.none (Rd.load1 kr_ rfl mem_ (by rfl))) kr_) all_n))))) ?_
 refine wq_ (wf_ (i := 36) [] rfl (QAt.rf (Wt.yes (dj := 146) rfl rfl) (Ent.func Tryz.call28 rfl) (sameAccs_reads _ _ T2 (vwU s2.U F2) (Ct2 ++ Ct9) (hq2.rs.mono gr_) (hq9.rs.mono gr_) (by omega) (by omega)) sp_) kr_) kr_ ?_
 refine WAG.ren (v := .bool true) (congrArg Value.bool (decide_eq_true hvw2)) (wg_ 37 [36] 146 rfl rfl (Yd.notB rfl) kr_ ?_)
 refine wy_ 38 [37] rfl (Yd.pickF rfl rfl) kr_ ?_
 refine wy_ 39 [38, 36] rfl (Yd.move rfl) kr_ ?_
 refine wg_ 40 [39] 157 rfl rfl (Yd.move rfl) kr_ ?_
 refine wq_ (wf_ (i := 41) [40, 39] rfl (QAt.rf (Wt.yes (dj := 157) rfl rfl) (Ent.func Tryz.call30 rfl) (croom_reads p s2 C2 h2 0) sp_) kr_) kr_ ?_
 refine wg_ 42 [39] 157 rfl rfl (Yd.move rfl) kr_ ?_
 refine wg_ 43 [42, 39] 157 rfl rfl (Yd.notNil rfl) kr_ ?_
 refine wg_ 44 [43, 39] 157 rfl rfl (Yd.fieldAddr (k := 2) kr_ rfl) kr_ ?_
 refine wq_ (wf_ (i := 45) [44, 39] rfl (QAt.rd (Wt.yes (dj := 157) rfl rfl) (Rd.load1 kr_ rfl mem_ (by rfl))) kr_) kr_ ?_
 refine wq_ (wf_ (i := 46) [45, 41, 39] rfl (QAt.rf (Wt.yes (dj := 157) rfl rfl) (Ent.func Tryz.call38 rfl) (Do.rroom_reads pd rs s2.rs s2.B CD hD inv2.dk 0) sp_) kr_) kr_ ?_
 refine wg_ 47 [46, 41, 39] 157 rfl rfl (Yd.neq rfl rfl) kr_ ?_
 refine WAG.ren (v := .bool false) (congrArg Value.bool (decide_eq_false (fun h => h rfl))) ?_
 refine wy_ 48 [47, 39] rfl (Yd.pickF rfl rfl) kr_ ?_
 refine wy_ 49 [48, 46] rfl (Yd.move rfl) kr_ ?_
 refine wg_ 50 [49] 167 rfl rfl (Yd.move rfl) kr_ ?_
 refine wq_ (wf_ (i := 51) [50, 49] rfl (QAt.rf (Wt.yes (dj := 167) rfl rfl) (Ent.func Tryz.call30 rfl) (croom_reads p s2 C2 h2 1) sp_) kr_) kr_ ?_
 refine wg_ 52 [49] 167 rfl rfl (Yd.move rfl) kr_ ?_
 refine wg_ 53 [52, 49] 167 rfl rfl (Yd.notNil rfl) kr_ ?_
 refine wg_ 54 [53, 49] 167 rfl rfl (Yd.fieldAddr (k := 2) kr_ rfl) kr_ ?_
 refine wq_ (wf_ (i := 55) [54, 49] rfl (QAt.rd (Wt.yes (dj := 167) rfl rfl) (Rd.load1 kr_ rfl mem_ (by rfl))) kr_) kr_ ?_
 refine wq_ (wf_ (i := 56) [55, 51, 49] rfl (QAt.rf (Wt.yes (dj := 167) rfl rfl) (Ent.func Tryz.call38 rfl) (Do.rroom_reads pd rs s2.rs s2.B CD hD inv2.dk 1) sp_) kr_) kr_ ?_
 refine wg_ 57 [56, 51, 49] 167 rfl rfl (Yd.neq rfl rfl) kr_ ?_
 refine WAG.ren (v := .bool false) (congrArg Value.bool (decide_eq_false (fun h => h rfl))) ?_
 refine wy_ 58 [57, 49] rfl (Yd.pickF rfl rfl) kr_ ?_
 refine wd_ [_, _, _, _, _, _, _, _, _, _, _, _, _, _, _, _, _, _, _, _, _, _, _, _, _, _, _, _, _, _, _, _, _, _, _, _, _, _, _, _, _, _, _, _, _, _, _] rfl kr_ ?_
 refine DN.then_normal (WC.no rfl (WC.skip (ts_ (WC.region (a_ rfl rfl (nt_ (WC.block (WC.loopS (fun z : Nat × List Ck => z.1 ≤ s2.no.length ∧ Obs 5 (ws.drop z.1) (s2.no.drop z.1) z.2) (fun z : Nat × List Ck => [(16, .int .i64 (z.1 : Int))]) (fun z : Nat × List Ck => O ++ (z.2 ++ (C2 ++ ((row q [.pointer (some ⟨ps, 0, none⟩), .pointer (some ⟨pp, 0, none⟩), .pointer (some ⟨pd, 0, none⟩), .int .u32 s2.e.toNat, .slice lo s2.ks.length lc, .slice eo s2.ef.length ec, .slice no s2.no.length nc] 87 :: (CS ++ (CP ++ (CD ++ (CF ++ (CE ++ (CN ++ DZ))))))) ++ H)))) (fun z : Nat × List Ck => s2.no.length - z.1) (⟨0, D⟩) (show 0 ≤ s2.no.length ∧ Obs 5 (ws.drop 0) (s2.no.drop 0) D from ⟨Nat.zero_le _, hDD⟩) (Sx.put rfl (sx_)) sp_ ?_))))))))
 rintro ⟨k, X⟩ hI
 replace hI : k ≤ s2.no.length ∧ Obs 5 (ws.drop k) (s2.no.drop k) X := hI
 obtain ⟨hk, hX⟩ := hI
 change WC _ _ _ _ _ _ ([(16, .int .i64 (k : Int))] ++ _) (O ++ (X ++ (C2 ++ ((row q [.pointer (some ⟨ps, 0, none⟩), .pointer (some ⟨pp, 0, none⟩), .pointer (some ⟨pd, 0, none⟩), .int .u32 s2.e.toNat, .slice lo s2.ks.length lc, .slice eo s2.ef.length ec, .slice no s2.no.length nc] 87 :: (CS ++ (CP ++ (CD ++ (CF ++ (CE ++ (CN ++ DZ))))))) ++ H))))
 refine WC.seq (sr_ (m_ rfl rfl (m_ rfl rfl (WL.y rfl (Yd.len (e := 22) kr_ rfl) ?_))))
 refine WL.y rfl (Yd.lss rfl rfl) (nt_ (WC.ite rfl (fun h180 => ?_) (fun h180 => ?_)))
 have hk9 : k < s2.no.length := by omega
 have hsm := inv2.small _ (List.getElem_mem hk9)
 obtain ⟨u, Ck9, D9, hu, rfl, hbu, hD9⟩ := hX.off hk9
 obtain ⟨uo, uc, rfl, _⟩ := hbu.form
 obtain ⟨mb, mf, ms, mT, mfr, mex, rfl, _, hmm, hms⟩ := hOO.rs.lies (by omega)
 refine WC.skip (ts_ (WC.block (WC.region (m_ rfl rfl (m_ rfl rfl (WL.y rfl (Yd.indexAddr (e := 22) (s := 1) kr_ kr_ rfl rfl (by omega) (by omega)) ?_))))))
 refine WL.h rfl (Hd.load1 (v := .slice uo s2.no[k].length uc) (b := mb) (o := mf + (k : Int).toNat * 1) (cs := ms) kr_ rfl (Gr.get gr_ hmm) (rs_cell1 hms hu) ⟨_, rfl, ?_⟩)
 refine WL.c rfl (Ent.func Tryz.call16 rfl) (spoil_own uo uc s2.no[k] Ck9 hbu (by omega)) (Sp.p sp_) ?_
 intro z9 H9 hH9
 subst hH9
 rw [List.nil_append]
 refine WL.nil (DN.block_normal (DN.then_normal (WC.region (m_ rfl rfl (WL.y rfl (Yd.add rfl rfl (by omega) (by omega)) ?_)))))
 exact a_ rfl rfl (WL.nil (DN.againS (⟨k + 1, D9⟩) (show (k + 1) ≤ s2.no.length ∧ Obs 5 (ws.drop (k + 1)) (s2.no.drop (k + 1)) D9 from ⟨by omega, hD9⟩) (show s2.no.length - (k + 1) < s2.no.length - k by omega) (Sx.put rfl (sx_)) sp_))
 refine WC.exit (DN.then_exit (DN.then_exit (DN.block_exit (DN.block_normal (DN.then_normal (WC.region (m_ rfl rfl (WL.y rfl (Yd.add rfl rfl (by omega) (by omega)) ?_))))))))
 exact a_ rfl rfl (WL.nil (DN.againS (⟨i + 1, s2, C2, (row q [.pointer (some ⟨ps, 0, none⟩), .pointer (some ⟨pp, 0, none⟩), .pointer (some ⟨pd, 0, none⟩), .int .u32 s2.e.toNat, .slice lo s2.ks.length lc, .slice eo s2.ef.length ec, .slice no s2.no.length nc] 87 :: (CS ++ (CP ++ (CD ++ (CF ++ (CE ++ (CN ++ DZ)))))))⟩) (show (i + 1) ≤ l.length ∧ CwAt 189 198 203 3 5 118 111 22 116 p s2 C2 ∧ CInv gs uu rs s2 ∧ RcAt 147 73 215 151 71 217 155 3 157 5 118 111 22 87 q gs uu rs s2 ((row q [.pointer (some ⟨ps, 0, none⟩), .pointer (some ⟨pp, 0, none⟩), .pointer (some ⟨pd, 0, none⟩), .int .u32 s2.e.toNat, .slice lo s2.ks.length lc, .slice eo s2.ef.length ec, .slice no s2.no.length nc] 87 :: (CS ++ (CP ++ (CD ++ (CF ++ (CE ++ (CN ++ DZ)))))))) ∧ s2.Y.length ≤ (i + 1) ∧ (i + 1) ≤ 60 from ⟨by omega, h2, inv2, hq2', by omega, by omega⟩) (show l.length - (i + 1) < l.length - i by omega) (Sx.put rfl (sx_)) sp_))
 refine WC.exit (DN.then_exit (DN.then_exit (DN.block_exit (ts_ (WC.region (a_ rfl rfl (ntsr_ (m_ rfl rfl (WL.y rfl (Yd.buildL (pl := [(0, 1), (1, 1), (2, 1), (3, 1), (4, 1), (5, 1), (6, 1), (7, 1), (8, 1), (9, 1), (10, 1)]) (zs := [.int .i64 0, .int .u32 0, .int .u32 0, .int .u64 0, .int .u64 0, .int .u32 0, .int .i64 0, .bool false, .int .i64 0, .slice none 0 0, .slice none 0 0]) (parts := [(0, .const (.int .i64 7)), (1, .const (.int .u32 1)), (5, .const (.int .u32 1))]) (vs := [(0, _), (1, _), (5, _)]) (cells := [_, _, .int .u32 0, .int .u64 0, .int .u64 0, _, .int .i64 0, .bool false, .int .i64 0, .slice none 0 0, .slice none 0 0]) kr_ kr_ rfl rfl) ?_)))))))))
 refine WL.rf rfl (Ent.func Tryz.call22 rfl) (serve_nil ⟨7, 1#32, 0#32, 0#64, 0#64, 1#32, 0, false, 0, [], []⟩ (.slice none 0 0) (.slice none 0 0) rfl rfl []) sp_ ?_
 refine WL.h rfl (Hd.alloc (zs := [.int .i64 0, .int .u32 0, .int .u32 0, .int .u64 0, .int .u64 0, .int .u32 0, .int .i64 0, .bool false, .int .i64 0, .slice none 0 0, .slice none 0 0]) kr_ fun b18 => ⟨_, rfl, ?_⟩)
 refine WL.s (Hd.storeAll (n := 11) kr_ rfl rfl (by rfl) one_ fr_ (by rfl) ⟨rfl, ?_⟩)
 refine ntsr_ (f_ 0 kr_ rfl rfl ?_)
 refine d_ kr_ rfl mem_ (by rfl) rfl ?_
 refine WL.y rfl (Yd.eql rfl rfl) (WL.renamed (t := 193) (v := .bool true) rfl (congrArg Value.bool (by decide)) ?_)
 refine m_ rfl rfl (gy_ 194 rfl rfl rfl (Yd.move rfl) (WL.grf (dj := 194) rfl rfl rfl (Ent.func Tryz.call24 rfl) (epoch_nil []) sp_ ?_))
 refine gy_ 194 rfl rfl rfl (Yd.eql32 _ (0#32) rfl rfl rfl rfl) (WL.renamed (t := 197) (v := .bool true) rfl (congrArg Value.bool (by decide)) ?_)
 refine WL.y rfl (Yd.pickT rfl rfl) (m_ rfl rfl (gy_ 199 rfl rfl rfl (Yd.move rfl) (WL.grf (dj := 199) rfl rfl rfl (Ent.func Tryz.call21 rfl) (effects_nil []) sp_ ?_)))
 refine gy_ 199 rfl rfl rfl (Yd.len (e := 111) kr_ rfl) ?_
 refine gy_ 199 rfl rfl rfl (Yd.eql rfl rfl) (WL.renamed (t := 203) (v := .bool true) rfl (congrArg Value.bool (by decide)) ?_)
 refine WL.y rfl (Yd.pickT rfl rfl) (m_ rfl rfl (gy_ 205 rfl rfl rfl (Yd.move rfl) (WL.grf (dj := 205) rfl rfl rfl (Ent.func Tryz.call23 rfl) (notices_nil []) sp_ ?_)))
 refine gy_ 205 rfl rfl rfl (Yd.len (e := 22) kr_ rfl) ?_
 refine gy_ 205 rfl rfl rfl (Yd.eql rfl rfl) (WL.renamed (t := 209) (v := .bool true) rfl (congrArg Value.bool (by decide)) ?_)
 refine WL.y rfl (Yd.pickT rfl rfl) (m_ rfl rfl (gy_ 211 rfl rfl rfl (Yd.move rfl) (WL.grf (dj := 211) rfl rfl rfl (Ent.func Tryz.call25 rfl) (goods_nil []) sp_ ?_)))
 refine gy_ 211 rfl rfl rfl (Yd.len (e := 73) kr_ rfl) ?_
 refine gy_ 211 rfl rfl rfl (Yd.eql rfl rfl) (WL.renamed (t := 215) (v := .bool true) rfl (congrArg Value.bool (by decide)) ?_)
 refine WL.y rfl (Yd.pickT rfl rfl) (m_ rfl rfl (gy_ 217 rfl rfl rfl (Yd.move rfl) (WL.grf (dj := 217) rfl rfl rfl (Ent.func Tryz.call26 rfl) (accounts_nil []) sp_ ?_)))
 refine gy_ 217 rfl rfl rfl (Yd.len (e := 71) kr_ rfl) ?_
 refine gy_ 217 rfl rfl rfl (Yd.eql rfl rfl) (WL.renamed (t := 221) (v := .bool true) rfl (congrArg Value.bool (by decide)) ?_)
 refine WL.y rfl (Yd.pickT rfl rfl) (m_ rfl rfl (gy_ 223 rfl rfl rfl (Yd.move rfl) (WL.grf (dj := 223) rfl rfl rfl (Ent.func Tryz.call30 rfl) (room_nil 0 []) sp_ ?_)))
 refine gy_ 223 rfl rfl rfl (Yd.eql rfl rfl) (WL.renamed (t := 226) (v := .bool true) rfl (congrArg Value.bool (by decide)) ?_)
 refine WL.y rfl (Yd.pickT rfl rfl) (m_ rfl rfl (WL.gr (dj := 228) rfl rfl rfl (Ent.func Tryz.call9 rfl) (known12 _) (WL.y rfl (Yd.pickT rfl rfl) (a_ rfl rfl (nt_ (WC.ret (DN.fit (C := H) sp_ ?_)))))))
 exact DN.ret1 Tryz.results8 rfl (⟨rfl, rfl⟩)
 refine gn_ 65 rfl rfl rfl rfl (gn_ 65 rfl rfl rfl rfl (WL.y rfl (Yd.pickF rfl rfl) (nt_ (WC.no rfl (WC.exit (DN.then_exit (DN.then_exit (DN.block_exit (ts_ (WC.region (a_ rfl rfl (ntsr_ (m_ rfl rfl ?_)))))))))))))
 refine WL.y rfl (Yd.buildL (pl := [(0, 1), (1, 1), (2, 1), (3, 1), (4, 1), (5, 1), (6, 1), (7, 1), (8, 1), (9, 1), (10, 1)]) (zs := [.int .i64 0, .int .u32 0, .int .u32 0, .int .u64 0, .int .u64 0, .int .u32 0, .int .i64 0, .bool false, .int .i64 0, .slice none 0 0, .slice none 0 0]) (parts := [(0, .const (.int .i64 7)), (1, .const (.int .u32 1)), (5, .const (.int .u32 1))]) (vs := [(0, _), (1, _), (5, _)]) (cells := [_, _, .int .u32 0, .int .u64 0, .int .u64 0, _, .int .i64 0, .bool false, .int .i64 0, .slice none 0 0, .slice none 0 0]) kr_ kr_ rfl rfl) ?_
 refine WL.rf rfl (Ent.func Tryz.call22 rfl) (serve_nil ⟨7, 1#32, 0#32, 0#64, 0#64, 1#32, 0, false, 0, [], []⟩ (.slice none 0 0) (.slice none 0 0) rfl rfl []) sp_ ?_
 refine WL.h rfl (Hd.alloc (zs := [.int .i64 0, .int .u32 0, .int .u32 0, .int .u64 0, .int .u64 0, .int .u32 0, .int .i64 0, .bool false, .int .i64 0, .slice none 0 0, .slice none 0 0]) kr_ fun b18 => ⟨_, rfl, ?_⟩)
 refine WL.s (Hd.storeAll (n := 11) kr_ rfl rfl (by rfl) one_ fr_ (by rfl) ⟨rfl, ?_⟩)
 refine ntsr_ (f_ 0 kr_ rfl rfl ?_)
 refine d_ kr_ rfl mem_ (by rfl) rfl ?_
 refine WL.y rfl (Yd.eql rfl rfl) (WL.renamed (t := 193) (v := .bool true) rfl (congrArg Value.bool (by decide)) ?_)
 refine m_ rfl rfl (gy_ 194 rfl rfl rfl (Yd.move rfl) (WL.grf (dj := 194) rfl rfl rfl (Ent.func Tryz.call24 rfl) (epoch_nil []) sp_ ?_))
 refine gy_ 194 rfl rfl rfl (Yd.eql32 _ (0#32) rfl rfl rfl rfl) (WL.renamed (t := 197) (v := .bool true) rfl (congrArg Value.bool (by decide)) ?_)
 refine WL.y rfl (Yd.pickT rfl rfl) (m_ rfl rfl (gy_ 199 rfl rfl rfl (Yd.move rfl) (WL.grf (dj := 199) rfl rfl rfl (Ent.func Tryz.call21 rfl) (effects_nil []) sp_ ?_)))
 refine gy_ 199 rfl rfl rfl (Yd.len (e := 111) kr_ rfl) ?_
 refine gy_ 199 rfl rfl rfl (Yd.eql rfl rfl) (WL.renamed (t := 203) (v := .bool true) rfl (congrArg Value.bool (by decide)) ?_)
 refine WL.y rfl (Yd.pickT rfl rfl) (m_ rfl rfl (gy_ 205 rfl rfl rfl (Yd.move rfl) (WL.grf (dj := 205) rfl rfl rfl (Ent.func Tryz.call23 rfl) (notices_nil []) sp_ ?_)))
 refine gy_ 205 rfl rfl rfl (Yd.len (e := 22) kr_ rfl) ?_
 refine gy_ 205 rfl rfl rfl (Yd.eql rfl rfl) (WL.renamed (t := 209) (v := .bool true) rfl (congrArg Value.bool (by decide)) ?_)
 refine WL.y rfl (Yd.pickT rfl rfl) (m_ rfl rfl (gy_ 211 rfl rfl rfl (Yd.move rfl) (WL.grf (dj := 211) rfl rfl rfl (Ent.func Tryz.call25 rfl) (goods_nil []) sp_ ?_)))
 refine gy_ 211 rfl rfl rfl (Yd.len (e := 73) kr_ rfl) ?_
 refine gy_ 211 rfl rfl rfl (Yd.eql rfl rfl) (WL.renamed (t := 215) (v := .bool true) rfl (congrArg Value.bool (by decide)) ?_)
 refine WL.y rfl (Yd.pickT rfl rfl) (m_ rfl rfl (gy_ 217 rfl rfl rfl (Yd.move rfl) (WL.grf (dj := 217) rfl rfl rfl (Ent.func Tryz.call26 rfl) (accounts_nil []) sp_ ?_)))
 refine gy_ 217 rfl rfl rfl (Yd.len (e := 71) kr_ rfl) ?_
 refine gy_ 217 rfl rfl rfl (Yd.eql rfl rfl) (WL.renamed (t := 221) (v := .bool true) rfl (congrArg Value.bool (by decide)) ?_)
 refine WL.y rfl (Yd.pickT rfl rfl) (m_ rfl rfl (gy_ 223 rfl rfl rfl (Yd.move rfl) (WL.grf (dj := 223) rfl rfl rfl (Ent.func Tryz.call30 rfl) (room_nil 0 []) sp_ ?_)))
 refine gy_ 223 rfl rfl rfl (Yd.eql rfl rfl) (WL.renamed (t := 226) (v := .bool true) rfl (congrArg Value.bool (by decide)) ?_)
 refine WL.y rfl (Yd.pickT rfl rfl) (m_ rfl rfl (WL.gr (dj := 228) rfl rfl rfl (Ent.func Tryz.call9 rfl) (known12 _) (WL.y rfl (Yd.pickT rfl rfl) (a_ rfl rfl (nt_ (WC.ret (DN.fit (C := H) sp_ ?_)))))))
 exact DN.ret1 Tryz.results8 rfl (⟨rfl, rfl⟩)
 refine WC.region (f_ 0 kr_ rfl rfl ?_)
 refine d_ kr_ rfl mem_ (by rfl) rfl ?_
 refine f_ 1 kr_ rfl rfl ?_
 refine d_ kr_ rfl mem_ (by rfl) rfl ?_
 refine f_ 2 kr_ rfl rfl ?_
 refine d_ kr_ rfl mem_ (by rfl) rfl ?_
 refine WL.c rfl (Ent.func Tryz.call31 rfl) (cnew_tells _ _ _ gs uu rs hg H h1 h2 h3 hl1 hl2 hl3) (Sp.p sp_) ?_
 intro z9 H9 h9
 first | (have hA9 : GoodL gs ∧ AccL uu ∧ ((rs.findIdx? Do.badRoom).isSome = false ∧ rs.length ≤ 60) := hALL; obtain ⟨p, C0, rfl, h0, rfl⟩ := (h9.resolve_right fun z => z.1 hALL).2; have inv0 : CInv gs uu rs (Cw.new gs uu rs) := new_inv (SInv.start hALL.1.1 hALL.1.2.1 fun g hg9 => ⟨hALL.1.2.2 g hg9, hg g hg9⟩) (PInv.start hALL.2.1) (DInv.start (Do.goodOk hALL.2.2.1) hALL.2.2.2)) | (obtain ⟨rfl, hH9⟩ := (h9.resolve_left fun z => hALL z.1).2; rw [hH9])
 refine m_ rfl rfl (x_ rfl rfl rfl (x_ rfl rfl rfl (a_ rfl rfl (a_ rfl rfl (ntsr_ (f_ 0 kr_ rfl rfl ?_))))))
 refine d_ kr_ rfl mem_ (by rfl) rfl ?_
 refine f_ 1 kr_ rfl rfl ?_
 refine d_ kr_ rfl mem_ (by rfl) rfl ?_
 refine f_ 2 kr_ rfl rfl ?_
 refine d_ kr_ rfl mem_ (by rfl) rfl ?_
 refine WL.c rfl (Ent.func Tryz.call32 rfl) (rcnew_tells _ _ _ gs uu rs hg H h1 h2 h3 hl1 hl2 hl3) (Sp.p sp_) ?_
 intro z9 H9 h9
 first | (have hA9 : GoodL gs ∧ AccL uu ∧ ((rs.findIdx? Do.badRoom).isSome = false ∧ rs.length ≤ 60) := hALL; obtain ⟨q, Q0, rfl, hq0, rfl⟩ := (h9.resolve_right fun z => z.1 hALL).2) | (obtain ⟨rfl, hH9⟩ := (h9.resolve_left fun z => hALL z.1).2; rw [hH9])
 refine m_ rfl rfl (x_ rfl rfl rfl (x_ rfl rfl rfl (a_ rfl rfl (a_ rfl rfl (nt_ (WC.seq (sr_ (m_ rfl rfl (WL.y rfl (Yd.neq rfl rfl) (WL.renamed (t := 44) (v := .bool true) rfl (congrArg Value.bool (by decide)) ?_))))))))))
 refine nt_ (WC.yes rfl (sr_ (m_ rfl rfl (WL.y rfl (Yd.eqlNil Tryz.underlying40 rfl rfl) (WL.renamed (t := 46) (v := .bool true) rfl (congrArg Value.bool (rfl)) (m_ rfl rfl (gy_ 47 rfl rfl rfl (Yd.move rfl) (gy_ 47 rfl rfl rfl (Yd.move rfl) (gy_ 47 rfl rfl rfl (Yd.eql rfl rfl) (WL.renamed (t := 50) (v := .bool true) rfl (congrArg Value.bool (by decide)) ?_))))))))))
 refine WL.y rfl (Yd.pickT rfl rfl) (m_ rfl rfl (WL.gr (dj := 52) rfl rfl rfl (Ent.func Tryz.call9 rfl) (known12 _) (WL.y rfl (Yd.pickT rfl rfl) (a_ rfl rfl (nt_ (WC.ret (DN.then_ret (DN.fit (C := H) sp_ ?_))))))))
 exact DN.ret1 Tryz.results8 rfl (⟨rfl, rfl⟩)
end Go.Proofs.YtkamlondepceiaaGreat
