/-
  Lemmas and walks that CrewServes stands on (part 4); no condition.
-/
import Derived.Orders
import Derived.Tactics
import Derived.Scope
import Derived.Below
import Derived.WalkKit
import Derived.KernelRfl
import Derived.Laws.RangeString
import Derived.Laws.StructEq
import Derived.Lib.AppendZerosOnto
import Derived.Laws.CopyRow
import Derived.Lib.Overlaps
import Derived.Laws.IdiomStrings
import Derived.Deep.Quiet
import Derived.Lib.Bytealg
import Derived.Shelf.SlSortCmp.NoneTotal
import Derived.ProofKit
import Derived.OpenShut
import Derived.ShutString
import Derived.ChangeOld
import Derived.Test.YtkamlondepceiaaGreatRows
import Derived.Ground.SlsfProg
import Derived.Shelf.Small.Strs
import Derived.Test.YtkamlondepceiaaGreatCrewServesB3

set_option linter.unusedVariables false
set_option linter.unusedSimpArgs false
set_option maxHeartbeats 2000000
namespace Go.Proofs.YtkamlondepceiaaGreat
open Go.SL
theorem check2_reads (e : BitVec 32) (v : Value) (ks : List Kp) (H : List Ck) (hv : KV v ks H) (hl : ks.length ≤ 9223372036854775807) : Reads Tryz.prog 82 [.agg #[.int .u32 e.toNat, v]] H (.int .i64 (if chk ks then 0 else 2)) := by
 refine Tells.enter Tryz.func82 rfl Tryz.ntmps82 rfl ?_
 intro w0 R
 obtain ⟨cs, hr, hk⟩ := hv
 obtain ⟨ao, c, rfl, hc⟩ := hr.form
 refine sr_ (WL.h rfl (Hd.boxA rfl fun b1 => ⟨_, rfl, ?_⟩))
 refine a_ rfl rfl (nt_ (WC.seq (sr_ (f_ 1 kr_ rfl rfl ?_))))
 refine d_ kr_ rfl mem_ (by rfl) rfl ?_
 refine WL.y rfl (Yd.len (e := 118) kr_ rfl) ?_
 refine WL.y rfl (Yd.gtr rfl rfl) (nt_ (WC.ite rfl (fun h8 => ?_) (fun h8 => ?_)))
 refine sr_ (a_ rfl rfl (nt_ (WC.ret (DN.then_ret (DN.fit (C := H) sp_ ?_)))))
 refine DN.ret1 Tryz.results82 rfl ?_
 first
   | exact ⟨by rw [if_pos hck], rfl⟩
   | exact ⟨by rw [if_neg hbad], rfl⟩
   | exact ⟨by rw [if_neg (fun h9 => by have := h9.1; omega)], rfl⟩
 refine WC.skip (ts_ (sr_ (f_ 1 kr_ rfl rfl ?_)))
 refine d_ kr_ rfl mem_ (by rfl) rfl ?_
 refine WL.y rfl (Yd.len (e := 118) kr_ rfl) ?_
 refine m_ rfl rfl (nt_ (WC.block (WC.loopS (fun z : Nat => z ≤ ks.length ∧ chk (ks.take z)) (fun z : Nat => [(12, .int .i64 (z : Int))]) (fun z : Nat => row b1 [.int .u32 e.toNat, .slice ao ks.length c] 82 :: H) (fun z : Nat => ks.length - z) (0) (show 0 ≤ ks.length ∧ chk (ks.take 0) from ⟨Nat.zero_le _, chk_take0 ks⟩) (Sx.put rfl (sx_)) sp_ ?_)))
 rintro i hI
 replace hI : i ≤ ks.length ∧ chk (ks.take i) := hI
 obtain ⟨hi, hck⟩ := hI
 change WC _ _ _ _ _ _ ([(12, .int .i64 (i : Int))] ++ _) (row b1 [.int .u32 e.toNat, .slice ao ks.length c] 82 :: H)
 refine sr_ (WL.y rfl (Yd.lss rfl rfl) (nt_ (WC.seq (WC.ite rfl (fun h13 => ?_) (fun h13 => ?_)))))
 have hlt : i < ks.length := by omega
 obtain ⟨va, vr, hg, hva, hvr⟩ := hk.at i hlt
 refine WC.skip (ts_ (WC.block (sr_ (m_ rfl rfl (WL.elemA (e := 118) (s := 6) kr_ kr_ kr_ rfl rfl (rfl) (hr.mono gr_) (hg) (by rfl) (by omega) (hlt) rfl rfl ?_)))))
 intro p15
 refine WL.h rfl (Hd.alloc (zs := [.int .u32 0, .int .i64 0, .bool false, .slice none 0 0, .int .i64 0, .slice none 0 0]) kr_ fun b4 => ⟨_, rfl, ?_⟩)
 refine a_ rfl rfl (WL.s (Hd.storeAll (n := 6) kr_ rfl rfl (by rfl) (kc_one (IsSl.of hva).one (IsSl.of hvr).one) fr_ (by rfl) ⟨rfl, ?_⟩))
 refine nt_ (WC.cutK (fun z : Bool => (z = true → ¬ chk ks) ∧ (z = true ∨ chk (ks.take (i + 1)))) (fun z : Bool => [(37, .bool z)]) (fun z : Bool => row b4 (kc ks[i] va vr) 118 :: (row b1 [.int .u32 e.toNat, .slice ao ks.length c] 82 :: H)) ?_ ?_)
 refine WC.draw 21 kr_ rfl ?_
 refine WAG.start (N := 21) rfl (wq_ (wf_ (i := 0) [] rfl (QAt.rd Wt.none (Rd.loadAll (n := 6) kr_ rfl mem_ (by rfl))) kr_) kr_ ?_)
 refine wq_ (wf_ (i := 1) [0] rfl (QAt.rf Wt.none (Ent.func Tryz.call92 rfl) (right_reads ks[i] va vr (IsSl.of hva) (IsSl.of hvr) _) Sp.sn) kr_) kr_ ?_
 refine wy_ 2 [1] rfl (Yd.notB rfl) kr_ ?_
 refine wy_ 3 [2, 1] rfl (Yd.move rfl) kr_ ?_
 refine WAG.part (fun hg20 => ?_) (fun hg20 => ?_)
 refine wn_ 4 [3] 20 rfl rfl kr_ ?_
 refine wn_ 5 [4, 3] 20 rfl rfl kr_ ?_
 refine wn_ 6 [5, 3] 20 rfl rfl kr_ ?_
 refine wu_ 7 [6] 23 rfl rfl kr_ ?_
 refine wu_ 8 [7, 6] 23 rfl rfl kr_ ?_
 refine wu_ 9 [6] 23 rfl rfl kr_ ?_
 refine wu_ 10 [9, 6] 23 rfl rfl kr_ ?_
 refine wu_ 11 [10, 8, 6] 23 rfl rfl kr_ ?_
 refine wu_ 12 [11, 6] 23 rfl rfl kr_ ?_
 refine wu_ 13 [12, 6] 23 rfl rfl kr_ ?_
 refine wu_ 14 [13, 6] 23 rfl rfl kr_ ?_
 refine wu_ 15 [6] 23 rfl rfl kr_ ?_
 refine wu_ 16 [15, 14, 6] 23 rfl rfl kr_ ?_
 refine wu_ 17 [16, 6] 23 rfl rfl kr_ ?_
 refine wu_ 18 [17, 14, 6] 23 rfl rfl kr_ ?_
 refine wn_ 19 [18, 6, 3] 20 rfl rfl kr_ ?_
 refine wy_ 20 [19, 3] rfl (Yd.pickT rfl rfl) kr_ ?_
 refine wd_ [_, _, _, _, _, _, _, _, _, _, _, _, _, _, _, _, _, _, _, _, _] rfl kr_ ?_
 exact DN.reachK (_) (⟨fun h => by
     first
     | (intro hc9; have hr9 := chk_right hc9 hlt; simp [hr9] at hg20; done)
     | (intro hc9; have h8 := chk_adj hc9 (by omega) hlt; simp only [decide_eq_true_eq, Kp.num] at h h8; omega)
     | (cases h; done), by
     first
     | exact .inl rfl
     | exact .inr (chk_step hck (by omega) hlt (by simpa using hg20) (.inl (by omega)))
     | (by_cases h9 : (ks[i - 1]'(by omega)).num < ks[i].num
        · exact .inr (chk_step hck (by omega) hlt (by simpa using hg20) (.inr h9))
        exact .inl (by simp only [decide_eq_true_eq, Kp.num] at h9 ⊢; omega))⟩) (Sx.put rfl (sx_)) (Sp.all sp_)
 refine wg_ 4 [3] 20 rfl rfl (Yd.move rfl) kr_ ?_
 refine wg_ 5 [4, 3] 20 rfl rfl (Yd.gtr rfl rfl) kr_ ?_
 refine wg_ 6 [5, 3] 20 rfl rfl (Yd.move rfl) kr_ ?_
 refine WAG.partP (fun hg23 => ?_) (fun hg23 => ?_)
 refine wg_ 7 [6] 23 rfl rfl (Yd.fieldAddr (k := 1) kr_ rfl) kr_ ?_
 refine wq_ (wf_ (i := 8) [7, 6] rfl (QAt.rd (Wt.yes (dj := 23) rfl rfl) (Rd.load1 kr_ rfl mem_ (by rfl))) kr_) kr_ ?_
 refine wg_ 9 [6] 23 rfl rfl (Yd.move rfl) kr_ ?_
 refine wg_ 10 [9, 6] 23 rfl rfl (Yd.sub rfl rfl (by omega) (by omega)) kr_ ?_
 obtain ⟨lb, lf, lcs, lT, lfr, lex, elo, _, hlm, hlcs⟩ := hr.lies (by omega)
 obtain ⟨va0, vr0, hg0, hva0, hvr0⟩ := hk.at (i - 1) (by omega)
 have hr0 : rightP (ks[i - 1]'(by omega)) := hck.2.1 _ (List.mem_take_iff_getElem.2 ⟨i - 1, by omega, rfl⟩)
 have hr1 : rightP ks[i] := by simpa using hg20
 refine wg_ 11 [10, 8, 6] 23 rfl rfl (Yd.indexAddr (e := 118) (s := 6) (b := lb) (o := lf) (n := ks.length) (c := c) kr_ kr_ (congrArg (fun q => some (Value.slice q ks.length c)) elo) rfl (by omega) (by omega)) kr_ ?_
 refine wq_ (wf_ (i := 12) [11, 6] rfl (QAt.rd (Wt.yes (dj := 23) rfl rfl) (Rd.loadA (n := 6) (b := lb) (o := lf + ((i : Int) - 1).toNat * 6) (cs := lcs) (vs := kc (ks[i - 1]'(by omega)) va0 vr0) kr_ rfl (Gr.get gr_ hlm) rfl (by rw [show ((i : Int) - 1).toNat = ((i - 1 : Nat) : Int).toNat by omega]; exact rs_cell hlcs (by rw [hk.len]; omega) hg0))) kr_) kr_ ?_
 refine wq_ (wf_ (i := 13) [12, 6] rfl (QAt.rf (Wt.yes (dj := 23) rfl rfl) (Ent.func Tryz.call94 rfl) (of_reads ks[i - 1] va0 vr0 (IsSl.of hva0).one (IsSl.of hvr0).one _) Sp.sn) kr_) kr_ ?_
 refine wq_ (wf_ (i := 14) [13, 6] rfl (QAt.rf (Wt.yes (dj := 23) rfl rfl) (Ent.func Tryz.call117 rfl) (number_reads _ _ _ hr0.2.1 hr0.2.2.1 _) Sp.sn) kr_) kr_ ?_
 refine wq_ (wf_ (i := 15) [6] rfl (QAt.rd (Wt.yes (dj := 23) rfl rfl) (Rd.loadAll (n := 6) kr_ rfl mem_ (by rfl))) kr_) kr_ ?_
 refine wq_ (wf_ (i := 16) [15, 14, 6] rfl (QAt.rf (Wt.yes (dj := 23) rfl rfl) (Ent.func Tryz.call94 rfl) (of_reads ks[i] va vr (IsSl.of hva).one (IsSl.of hvr).one _) Sp.sn) kr_) kr_ ?_
 refine wq_ (wf_ (i := 17) [16, 6] rfl (QAt.rf (Wt.yes (dj := 23) rfl rfl) (Ent.func Tryz.call117 rfl) (number_reads _ _ _ hr1.2.1 hr1.2.2.1 _) Sp.sn) kr_) kr_ ?_
 refine wg_ 18 [17, 14, 6] 23 rfl rfl (Yd.geq rfl rfl) kr_ ?_
 refine wg_ 19 [18, 6, 3] 20 rfl rfl (Yd.pickT rfl rfl) kr_ ?_
 refine wy_ 20 [19, 3] rfl (Yd.pickF rfl rfl) kr_ ?_
 refine wd_ [_, _, _, _, _, _, _, _, _, _, _, _, _, _, _, _, _, _, _, _, _] rfl kr_ ?_
 exact DN.reachK (_) (⟨fun h => by
     first
     | (intro hc9; have hr9 := chk_right hc9 hlt; simp [hr9] at hg20; done)
     | (intro hc9; have h8 := chk_adj hc9 (by omega) hlt; simp only [decide_eq_true_eq, Kp.num] at h h8; omega)
     | (cases h; done), by
     first
     | exact .inl rfl
     | exact .inr (chk_step hck (by omega) hlt (by simpa using hg20) (.inl (by omega)))
     | (by_cases h9 : (ks[i - 1]'(by omega)).num < ks[i].num
        · exact .inr (chk_step hck (by omega) hlt (by simpa using hg20) (.inr h9))
        exact .inl (by simp only [decide_eq_true_eq, Kp.num] at h9 ⊢; omega))⟩) (Sx.put rfl (sx_)) (Sp.all sp_)
 refine wn_ 7 [6] 23 rfl rfl kr_ ?_
 refine wn_ 8 [7, 6] 23 rfl rfl kr_ ?_
 refine wn_ 9 [6] 23 rfl rfl kr_ ?_
 refine wn_ 10 [9, 6] 23 rfl rfl kr_ ?_
 refine wn_ 11 [10, 8, 6] 23 rfl rfl kr_ ?_
 refine wn_ 12 [11, 6] 23 rfl rfl kr_ ?_
 refine wn_ 13 [12, 6] 23 rfl rfl kr_ ?_
 refine wn_ 14 [13, 6] 23 rfl rfl kr_ ?_
 refine wn_ 15 [6] 23 rfl rfl kr_ ?_
 refine wn_ 16 [15, 14, 6] 23 rfl rfl kr_ ?_
 refine wn_ 17 [16, 6] 23 rfl rfl kr_ ?_
 refine wn_ 18 [17, 14, 6] 23 rfl rfl kr_ ?_
 refine wg_ 19 [18, 6, 3] 20 rfl rfl (Yd.pickF rfl rfl) kr_ ?_
 refine wy_ 20 [19, 3] rfl (Yd.pickF rfl rfl) kr_ ?_
 refine wd_ [_, _, _, _, _, _, _, _, _, _, _, _, _, _, _, _, _, _, _, _, _] rfl kr_ ?_
 exact DN.reachK (_) (⟨fun h => by
     first
     | (intro hc9; have hr9 := chk_right hc9 hlt; simp [hr9] at hg20; done)
     | (intro hc9; have h8 := chk_adj hc9 (by omega) hlt; simp only [decide_eq_true_eq, Kp.num] at h h8; omega)
     | (cases h; done), by
     first
     | exact .inl rfl
     | exact .inr (chk_step hck (by omega) hlt (by simpa using hg20) (.inl (by omega)))
     | (by_cases h9 : (ks[i - 1]'(by omega)).num < ks[i].num
        · exact .inr (chk_step hck (by omega) hlt (by simpa using hg20) (.inr h9))
        exact .inl (by simp only [decide_eq_true_eq, Kp.num] at h9 ⊢; omega))⟩) (Sx.put rfl (sx_)) (Sp.all sp_)
 intro z37 hz37
 refine WC.cond rfl (fun h37 => ?_) (fun h37 => ?_)
 have hbad : ¬ chk ks := hz37.1 h37
 refine sr_ (a_ rfl rfl (nt_ (WC.ret (DN.block_ret (DN.then_ret (DN.then_ret (DN.block_ret (DN.then_ret (DN.fit (C := H) sp_ ?_)))))))))
 refine DN.ret1 Tryz.results82 rfl ?_
 first
   | exact ⟨by rw [if_pos hck], rfl⟩
   | exact ⟨by rw [if_neg hbad], rfl⟩
   | exact ⟨by rw [if_neg (fun h9 => by have := h9.1; omega)], rfl⟩
 have hnext : chk (ks.take (i + 1)) := by
   rcases hz37.2 with h | h
   · rw [h] at h37; cases h37
   exact h
 refine WC.skip (DN.block_normal (DN.then_normal (WC.region (WL.y rfl (Yd.add rfl rfl (by omega) (by omega)) ?_))))
 exact m_ rfl rfl (WL.nil (DN.againS (i + 1) (show (i + 1) ≤ ks.length ∧ chk (ks.take (i + 1)) from ⟨by omega, hnext⟩) (show ks.length - (i + 1) < ks.length - i by omega) (Sx.put rfl (sx_)) sp_))
 obtain rfl : i = ks.length := by omega
 rw [List.take_length] at hck
 refine WC.exit (DN.then_exit (DN.then_exit (DN.block_exit (ts_ (WC.region (a_ rfl rfl (nt_ (WC.ret (DN.fit (C := H) sp_ ?_)))))))))
 refine DN.ret1 Tryz.results82 rfl ?_
 first
   | exact ⟨by rw [if_pos hck], rfl⟩
   | exact ⟨by rw [if_neg hbad], rfl⟩
   | exact ⟨by rw [if_neg (fun h9 => by have := h9.1; omega)], rfl⟩
theorem against_reads (k : Kp) (va vr : Value) (h1 : va.oneCell' = true) (h2 : vr.oneCell' = true) (n : Nat) (h0 : 0 ≤ k.step) (h : k.step < 16) (H : List Ck) : Reads Tryz.prog 127 [.agg (kc k va vr).toArray, .int .u64 (n : Int)] H (.int .i64 (if k.num < n then -1 else if n < k.num then 1 else 0)) := by
 refine Tells.enter Tryz.func127 rfl Tryz.ntmps127 rfl ?_
 intro w0 R
 refine sr_ (WL.h rfl (Hd.boxA rfl fun b2 => ⟨_, rfl, ?_⟩))
 refine a_ rfl rfl (ntsr_ (WL.h rfl (Hd.loadAll (n := 6) kr_ rfl mem_ (by rfl) ⟨_, rfl, ?_⟩)))
 refine WL.r rfl (Ent.func Tryz.call94 rfl) (of_reads k va vr h1 h2 _) (WL.r rfl (Ent.func Tryz.call117 rfl) (number_reads _ _ _ h0 h _) (a_ rfl rfl (nt_ (WC.seq (WC.block (sr_ (m_ rfl rfl (m_ rfl rfl (WL.y rfl (Yd.lss rfl rfl) (a_ rfl rfl (nt_ (WC.ite rfl (fun h9 => ?_) (fun h9 => ?_)))))))))))))
 refine sr_ (a_ rfl rfl (nt_ (WC.ret (DN.block_ret (DN.then_ret (DN.fit (C := H) sp_ ?_))))))
 refine DN.ret1 Tryz.results127 rfl (⟨?_, rfl⟩)
 first
   | rw [if_pos (show k.num < n by unfold Kp.num; omega)]
   | rw [if_neg (show ¬ k.num < n by unfold Kp.num; omega), if_pos (show n < k.num by unfold Kp.num; omega)]
   | rw [if_neg (show ¬ k.num < n by unfold Kp.num; omega), if_neg (show ¬ n < k.num by unfold Kp.num; omega)]
 refine sr_ (m_ rfl rfl (m_ rfl rfl (WL.y rfl (Yd.gtr rfl rfl) (a_ rfl rfl (nt_ (WC.ite rfl (fun h13 => ?_) (fun h13 => ?_)))))))
 refine sr_ (a_ rfl rfl (nt_ (WC.ret (DN.block_ret (DN.then_ret (DN.fit (C := H) sp_ ?_))))))
 refine DN.ret1 Tryz.results127 rfl (⟨?_, rfl⟩)
 first
   | rw [if_pos (show k.num < n by unfold Kp.num; omega)]
   | rw [if_neg (show ¬ k.num < n by unfold Kp.num; omega), if_pos (show n < k.num by unfold Kp.num; omega)]
   | rw [if_neg (show ¬ k.num < n by unfold Kp.num; omega), if_neg (show ¬ n < k.num by unfold Kp.num; omega)]
 refine WC.skip (DN.block_normal (ts_ (WC.region (a_ rfl rfl (nt_ (WC.ret (DN.fit (C := H) sp_ ?_)))))))
 refine DN.ret1 Tryz.results127 rfl (⟨?_, rfl⟩)
 first
   | rw [if_pos (show k.num < n by unfold Kp.num; omega)]
   | rw [if_neg (show ¬ k.num < n by unfold Kp.num; omega), if_pos (show n < k.num by unfold Kp.num; omega)]
   | rw [if_neg (show ¬ k.num < n by unfold Kp.num; omega), if_neg (show ¬ n < k.num by unfold Kp.num; omega)]
theorem bsf_reads (v : Value) (ks : List Kp) (H : List Ck) (hv : KV v ks H) (hck : chk ks) (n : Nat) : Reads Tryz.prog 126 [v, .int .u64 (n : Int), .func (.func 127) #[] #[]] H (.tuple #[.int .i64 (pos ks n : Nat), .bool (getK ks n).isSome]) := by
 refine Tells.enter Tryz.func126 rfl Tryz.ntmps126 rfl ?_
 intro w0 R
 obtain ⟨cs, hr, hk⟩ := hv
 obtain ⟨ao, c, rfl, hc⟩ := hr.form
 have h200 := hck.1
 refine sr_ (a_ rfl rfl (a_ rfl rfl (ntsr_ (m_ rfl rfl (WL.y rfl (Yd.len (e := 118) kr_ rfl) ?_)))))
 refine a_ rfl rfl (ntsr_ (m_ rfl rfl (a_ rfl rfl (a_ rfl rfl (nt_ (WC.seq (WC.block (WC.loopS (fun z : Nat × Nat => z.1 ≤ z.2 ∧ z.2 ≤ ks.length ∧ (∀ t (ht : t < ks.length), t < z.1 → ks[t].num < n) ∧ (∀ t (ht : t < ks.length), z.2 ≤ t → n ≤ ks[t].num)) (fun z : Nat × Nat => [(9, .int .i64 (z.1 : Int)), (10, .int .i64 (z.2 : Int))]) (fun z : Nat × Nat => H) (fun z : Nat × Nat => z.2 - z.1) (⟨0, ks.length⟩) (show 0 ≤ ks.length ∧ ks.length ≤ ks.length ∧ (∀ t (ht : t < ks.length), t < 0 → ks[t].num < n) ∧ (∀ t (ht : t < ks.length), ks.length ≤ t → n ≤ ks[t].num) from ⟨Nat.zero_le _, Nat.le_refl _, fun t ht h => by omega, fun t ht h => by omega⟩) (Sx.put rfl (Sx.put rfl (sx_))) sp_ ?_))))))))
 rintro ⟨i, j⟩ hI
 replace hI : i ≤ j ∧ j ≤ ks.length ∧ (∀ t (ht : t < ks.length), t < i → ks[t].num < n) ∧ (∀ t (ht : t < ks.length), j ≤ t → n ≤ ks[t].num) := hI
 obtain ⟨hij, hj, hlo, hhi⟩ := hI
 change WC _ _ _ _ _ _ ([(9, .int .i64 (i : Int)), (10, .int .i64 (j : Int))] ++ _) (H)
 refine WC.seq (sr_ (m_ rfl rfl (m_ rfl rfl (WL.y rfl (Yd.lss rfl rfl) (nt_ (WC.ite rfl (fun h17 => ?_) (fun h17 => ?_)))))))
 have hm : (i + j) / 2 < ks.length := by omega
 obtain ⟨va, vr, hg, hva, hvr⟩ := hk.at ((i + j) / 2) hm
 have hrt := chk_right hck hm
 refine WC.skip (DN.then_normal (WC.block (sr_ (m_ rfl rfl (m_ rfl rfl (WL.y rfl (Yd.add rfl rfl (by omega) (by omega)) ?_))))))
 refine WL.y rfl (Yd.to64 _ kr_ kr_ rfl rfl) ?_
 refine WL.y rfl (Yd.shr64 _ 1 rfl rfl rfl rfl) ?_
 refine WL.renamed (t := 22) (v := .int .u64 (((i + j) / 2 : Nat) : Int)) rfl (congrArg (Value.int .u64) (by rw [BitVec.toNat_ushiftRight, BitVec.toNat_ofInt, Nat.shiftRight_eq_div_pow]; omega)) ?_
 refine WL.y rfl (Yd.toInt kr_ kr_ rfl (by omega) (by omega)) ?_
 refine a_ rfl rfl (ntsr_ ?_)
 iterate 3 refine m_ rfl rfl ?_
 refine WL.elemA (e := 118) (s := 6) kr_ kr_ kr_ rfl rfl (rfl) (hr.mono gr_) (hg) (by rfl) (by omega) (hm) rfl rfl ?_
 intro p27
 refine m_ rfl rfl (WL.r rfl (Ent.val Tryz.call127 rfl rfl) (against_reads _ va vr (IsSl.of hva).one (IsSl.of hvr).one n hrt.2.1 hrt.2.2.1 _) (WL.y rfl (Yd.lss rfl rfl) (nt_ (WC.ite rfl (fun h31 => ?_) (fun h31 => ?_)))))
 have hm2 : ks[(i + j) / 2].num < n := by
   revert h31
   split
   · intro _; assumption
   split <;> omega
 refine WC.region (m_ rfl rfl (WL.y rfl (Yd.add rfl rfl (by omega) (by omega)) ?_))
 refine a_ rfl rfl (WL.nil (DN.block_normal ?_))
 exact DN.againS (⟨(i + j) / 2 + 1, j⟩) (show ((i + j) / 2 + 1) ≤ j ∧ j ≤ ks.length ∧ (∀ t (ht : t < ks.length), t < ((i + j) / 2 + 1) → ks[t].num < n) ∧ (∀ t (ht : t < ks.length), j ≤ t → n ≤ ks[t].num) from ⟨by omega, by omega, fun t ht h => by
     rcases Nat.lt_or_ge t ((i + j) / 2) with h5 | h5
     · have := chk_lt hck h5 hm; omega
     obtain rfl : t = (i + j) / 2 := by omega
     exact hm2, hhi⟩) (show j - ((i + j) / 2 + 1) < j - i by omega) (Sx.put rfl (Sx.put rfl (sx_))) sp_
 have hm2 : ¬ ks[(i + j) / 2].num < n := by
   revert h31
   split
   · omega
   intro _; assumption
 refine WC.region (m_ rfl rfl (a_ rfl rfl (WL.nil (DN.block_normal ?_))))
 exact DN.againS (⟨i, (i + j) / 2⟩) (show i ≤ ((i + j) / 2) ∧ ((i + j) / 2) ≤ ks.length ∧ (∀ t (ht : t < ks.length), t < i → ks[t].num < n) ∧ (∀ t (ht : t < ks.length), ((i + j) / 2) ≤ t → n ≤ ks[t].num) from ⟨by omega, by omega, hlo, fun t ht h => by
     rcases Nat.lt_or_ge ((i + j) / 2) t with h5 | h5
     · have := chk_lt hck h5 ht; omega
     obtain rfl : t = (i + j) / 2 := by omega
     omega⟩) (show ((i + j) / 2) - i < j - i by omega) (Sx.put rfl (Sx.put rfl (sx_))) sp_
 obtain rfl : i = j := by omega
 have hpos : pos ks n = i := pos_eq hj hlo fun h => hhi i h (Nat.le_refl _)
 refine WC.exit (DN.then_exit (DN.then_exit (DN.block_exit (ts_ (WC.region ?_)))))
 iterate 3 refine m_ rfl rfl ?_
 refine WL.y rfl (Yd.lss rfl rfl) (m_ rfl rfl (WL.partP (t := 39) rfl (fun hg39 => ?_) (fun hg39 => ?_)))
 refine gy_ 39 rfl rfl rfl (Yd.move rfl) (gy_ 39 rfl rfl rfl (Yd.move rfl) (gy_ 39 rfl rfl rfl (Yd.move rfl) ?_))
 have hm : i < ks.length := by omega
 obtain ⟨va, vr, hg, hva, hvr⟩ := hk.at i hm
 have hrt := chk_right hck hm
 obtain ⟨lb, lf, lcs, lT, lfr, lex, elo, _, hlm, hlcs⟩ := hr.lies (by omega)
 refine gy_ 39 rfl rfl rfl (Yd.indexAddr (e := 118) (s := 6) (b := lb) (o := lf) (n := ks.length) (c := c) kr_ kr_ (congrArg (fun q => some (Value.slice q ks.length c)) elo) rfl (by omega) (by omega)) ?_
 refine WL.gh (dj := 39) rfl rfl rfl (Hd.loadA (n := 6) (b := lb) (o := lf + (i : Int).toNat * 6) (cs := lcs) (vs := kc ks[i] va vr) kr_ rfl hlm rfl (rs_cell hlcs (by rw [hk.len]; omega) hg) ⟨_, rfl, ?_⟩)
 refine gy_ 39 rfl rfl rfl (Yd.move rfl) (WL.gr (dj := 39) rfl rfl rfl (Ent.val Tryz.call127 rfl rfl) (against_reads _ va vr (IsSl.of hva).one (IsSl.of hvr).one n hrt.2.1 hrt.2.2.1 _) (gy_ 39 rfl rfl rfl (Yd.eql rfl rfl) (WL.y rfl (Yd.pickT rfl rfl) (a_ rfl rfl (a_ rfl rfl (nt_ (WC.ret (DN.ret2 Tryz.results126 rfl rfl ?_))))))))
 rotate_left
 iterate 8 refine gn_ 39 rfl rfl rfl rfl ?_
 refine WL.y rfl (Yd.pickF rfl rfl) (a_ rfl rfl (a_ rfl rfl (nt_ (WC.ret (DN.ret2 Tryz.results126 rfl rfl ?_)))))
 rotate_left
 all_goals
  refine ⟨?_, rfl⟩
  subst hpos
  refine congrArg (fun q => Value.tuple #[Value.int IntKind.i64 (pos ks n : Nat), Value.bool q]) ?_
  rcases getK_pos hck (n := n) with ⟨e1, e2⟩ | ⟨hi9, e1, e2⟩
  · rw [e1, Option.isSome_none]
    all_goals first
    | rfl
    | (have e3 := e2 (by omega)
       refine decide_eq_false fun h9 => ?_
       by_cases h5 : ks[pos ks n].num < n
       · rw [if_pos h5] at h9; omega
       rw [if_neg h5] at h9
       by_cases h6 : n < ks[pos ks n].num
       · rw [if_pos h6] at h9; omega
       omega)
  rw [e2, Option.isSome_some]
  first
  | (rw [decide_eq_true_eq, if_neg (by omega), if_neg (by omega)])
  | omega
end Go.Proofs.YtkamlondepceiaaGreat

set_option linter.unusedVariables false
set_option linter.unusedSimpArgs false
set_option maxHeartbeats 2000000
namespace Go.Proofs.YtkamlondepceiaaGreat
open Go.SL
theorem find_reads (e : BitVec 32) (v : Value) (ks : List Kp) (H : List Ck) (hv : KV v ks H) (hck : chk ks) (o : BitVec 32) (s : Int) (u : Bool) (h0 : 0 ≤ s) (h : s < 16) : Reads Tryz.prog 93 [.agg #[.int .u32 e.toNat, v], .agg (keyc o s u).toArray] H (.tuple #[.int .i64 (pos ks (numb o s u) : Nat), .bool (getK ks (numb o s u)).isSome]) := by
 refine Tells.enter Tryz.func93 rfl Tryz.ntmps93 rfl ?_
 intro w0 R
 refine sr_ (WL.h rfl (Hd.boxA rfl fun b2 => ⟨_, rfl, ?_⟩))
 refine WL.h rfl (Hd.boxA rfl fun b3 => ⟨_, rfl, ?_⟩)
 refine a_ rfl rfl (a_ rfl rfl (nt_ (WC.seq (WC.draw 9 kr_ rfl ?_))))
 refine WAG.start (N := 9) rfl (wy_ 0 [] rfl (Yd.fieldAddr (k := 1) kr_ rfl) kr_ ?_)
 refine wq_ (wf_ (i := 1) [0] rfl (QAt.rd Wt.none (Rd.load1 kr_ rfl mem_ (by rfl))) kr_) kr_ ?_
 refine wq_ (wf_ (i := 2) [] rfl (QAt.rd Wt.none (Rd.loadAll (n := 3) kr_ rfl mem_ (by rfl))) kr_) kr_ ?_
 refine wq_ (wf_ (i := 3) [2] rfl (QAt.rf Wt.none (Ent.func Tryz.call117 rfl) (number_reads o s u h0 h _) Sp.sn) kr_) kr_ ?_
 refine wq_ (wf_ (i := 4) [3, 1] rfl (QAt.rf Wt.none (Ent.func Tryz.call126 rfl) (bsf_reads v ks _ (hv.mono gr_) hck (numb o s u)) Sp.sn) kr_) kr_ ?_
 refine wy_ 5 [4] rfl (Yd.extract rfl rfl) kr_ ?_
 refine wy_ 6 [4] rfl (Yd.extract rfl rfl) kr_ ?_
 refine ws_ [(7, [6, 5, 4, 3, 2, 1, 0])] kr_ (all_c ?_ (all_n))
 refine so_ (j := 7) [_, _, _, _, _, _, _] rfl (SO.y rfl Wt.none rfl (Yd.assign rfl) (wk_ [] (_ :: ([_, _, _, _, _, _, _] ++ _)) rfl rfl all_n (ws_ [(8, [])] kr_ (all_c ?_ (all_n)))))
 refine so_ (j := 8) [] rfl (SO.y rfl Wt.none rfl (Yd.assign rfl) (wk_ [] (_ :: ([] ++ _)) rfl rfl all_n (wd_ [] rfl kr_ ?_)))
 refine DN.then_normal (WC.ret (DN.fit (C := H) sp_ ?_))
 exact DN.ret2 Tryz.results93 rfl rfl (⟨rfl, rfl⟩)
theorem own_tells (k : Kp) (va vr : Value) (H : List Ck) (hva : Bs va k.asked H) (hvr : Bs vr k.reply H) (hla : k.asked.length ≤ 1000000) (hlr : k.reply.length ≤ 1000000) : Tells Tryz.prog 96 [.agg (kc k va vr).toArray] H fun r H' => ∃ wa wr A B, r = .agg (kc k wa wr).toArray ∧ Ob 5 wa k.asked A ∧ Ob 5 wr k.reply B ∧ H' = A ++ (B ++ H) := by
 refine Tells.enter Tryz.func96 rfl Tryz.ntmps96 rfl ?_
 intro w0 R
 obtain ⟨ao, ac, rfl, hac⟩ := hva.form
 obtain ⟨ro, rc, rfl, hrc⟩ := hvr.form
 refine sr_ (WL.h rfl (Hd.boxA rfl fun b1 => ⟨_, rfl, ?_⟩))
 refine WL.h rfl (Hd.alloc (zs := [.int .u32 0, .int .i64 0, .bool false, .slice none 0 0, .int .i64 0, .slice none 0 0]) kr_ fun b2 => ⟨_, rfl, ?_⟩)
 refine ntsr_ (WL.h rfl (Hd.buildBytes (e := 5) [] kr_ kr_ kr_ rfl rfl kr_ fun b => ⟨_, rfl, ?_⟩))
 refine f_ 3 kr_ rfl rfl ?_
 refine d_ kr_ rfl mem_ (by rfl) rfl ?_
 refine WL.h rfl (Hd.appendBs (e := 5) (zs := [.int .u8 0]) kr_ kr_ rfl rfl rfl (Ob.block b [] (by simp)) sp_ (hva.mono gr_) (by simp; omega) fun wa A hA => ⟨_, rfl, ?_⟩)
 rw [List.nil_append] at hA
 obtain ⟨o1, c1, rfl, hc1⟩ := hA.form
 refine f_ 3 kr_ rfl rfl ?_
 refine WL.s (Hd.store1s kr_ rfl rfl (by rfl) fr_ (by rfl) (by first | (simp only [List.set_cons_zero, List.set_cons_succ, Nat.zero_add, Nat.add_zero, Nat.reduceAdd]; rfl) | rfl) ⟨rfl, ?_⟩)
 refine ntsr_ (WL.h rfl (Hd.buildBytes (e := 5) [] kr_ kr_ kr_ rfl rfl kr_ fun b => ⟨_, rfl, ?_⟩))
 refine f_ 5 kr_ rfl rfl ?_
 refine d_ kr_ rfl mem_ (by rfl) rfl ?_
 refine WL.h rfl (Hd.appendBs (e := 5) (zs := [.int .u8 0]) kr_ kr_ rfl rfl rfl (Ob.block b [] (by simp)) sp_ (hvr.mono gr_) (by simp; omega) fun wr B hB => ⟨_, rfl, ?_⟩)
 rw [List.nil_append] at hB
 obtain ⟨o2, c2, rfl, hc2⟩ := hB.form
 refine f_ 5 kr_ rfl rfl ?_
 refine WL.s (Hd.store1s kr_ rfl rfl (by rfl) fr_ (by rfl) (by first | (simp only [List.set_cons_zero, List.set_cons_succ, Nat.zero_add, Nat.add_zero, Nat.reduceAdd]; rfl) | rfl) ⟨rfl, ?_⟩)
 refine ntsr_ (WL.h rfl (Hd.loadAll (n := 6) kr_ rfl mem_ (by rfl) ⟨_, rfl, ?_⟩))
 refine WL.s (Hd.storeAll (n := 6) kr_ rfl rfl (by rfl) one_ fr_ (by rfl) ⟨rfl, ?_⟩)
 refine nt_ (WC.ret (DN.retCS (s := 6) (A ++ (B ++ H)) Tryz.results96 kr_ rfl mem_ (by rfl) sp_ ?_))
 exact ⟨_, _, A, B, rfl, hA, hB, rfl⟩
theorem all_tells (e : BitVec 32) (v : Value) (ks : List Kp) (H : List Ck) (hv : KV v ks H) (hck : chk ks) : Tells Tryz.prog 85 [.agg #[.int .u32 e.toNat, v]] H fun r H' => ∃ w D, r = .agg #[.int .u32 e.toNat, w] ∧ FAt 5 118 w ks D ∧ H' = D ++ H := by
 refine Tells.enter Tryz.func85 rfl Tryz.ntmps85 rfl ?_
 intro w0 R
 obtain ⟨cs, hr, hk⟩ := hv
 obtain ⟨ao, c, rfl, hc⟩ := hr.form
 have h200 := hck.1
 refine sr_ (WL.h rfl (Hd.boxA rfl fun b1 => ⟨_, rfl, ?_⟩))
 refine WL.h rfl (Hd.alloc (zs := [.int .u32 0, .slice none 0 0]) kr_ fun b2 => ⟨_, rfl, ?_⟩)
 refine ntsr_ (a_ rfl rfl (nt_ (WC.seq (sr_ (f_ 1 kr_ rfl rfl ?_)))))
 refine d_ kr_ rfl mem_ (by rfl) rfl ?_
 refine WL.y rfl (Yd.len (e := 118) kr_ rfl) ?_
 refine m_ rfl rfl (nt_ (WC.block ?_))
 refine WC.loopS (fun z : Nat × Value × List Value × List Ck × List Ck => z.1 ≤ ks.length ∧ Own z.2.1 z.1 z.2.2.1 118 6 z.2.2.2.1 ∧ Kts 5 z.2.2.1 (ks.take z.1) z.2.2.2.2) (fun z : Nat × Value × List Value × List Ck × List Ck => [(9, .int .i64 (z.1 : Int)), (3, z.2.1)]) (fun z : Nat × Value × List Value × List Ck × List Ck => z.2.2.2.1 ++ (z.2.2.2.2 ++ (row b2 [.int .u32 0, .slice none 0 0] 82 :: row b1 [.int .u32 e.toNat, .slice ao ks.length c] 82 :: H))) (fun z : Nat × Value × List Value × List Ck × List Ck => ks.length - z.1) (⟨0, .slice none 0 0, [], [], []⟩) (show 0 ≤ ks.length ∧ Own (.slice none 0 0) 0 [] 118 6 [] ∧ Kts 5 [] (ks.take 0) [] from ⟨Nat.zero_le _, Own.nil _ _, by rw [List.take_zero]; exact .nil⟩) (Sx.put rfl (Sx.put rfl (sx_))) sp_ ?_
 rintro ⟨i, vl, cl, Cl, Dl⟩ hI
 replace hI : i ≤ ks.length ∧ Own vl i cl 118 6 Cl ∧ Kts 5 cl (ks.take i) Dl := hI
 obtain ⟨hi, hOl, hKt⟩ := hI
 change WC _ _ _ _ _ _ ([(9, .int .i64 (i : Int)), (3, vl)] ++ _) (Cl ++ (Dl ++ (row b2 [.int .u32 0, .slice none 0 0] 82 :: row b1 [.int .u32 e.toNat, .slice ao ks.length c] 82 :: H)))
 obtain ⟨lo, lc, rfl, hlc⟩ := hOl.form
 refine sr_ (WL.y rfl (Yd.lss rfl rfl) (nt_ (WC.seq (WC.ite rfl (fun h10 => ?_) (fun h10 => ?_)))))
 have hlt : i < ks.length := by omega
 obtain ⟨va, vr, hg, hva, hvr⟩ := hk.at i hlt
 have hrt := chk_right hck hlt
 refine WC.skip (ts_ (WC.block (sr_ (WL.elemA (e := 118) (s := 6) kr_ kr_ kr_ rfl rfl (rfl) (hr.mono gr_) (hg) (by rfl) (by omega) (hlt) rfl rfl ?_))))
 intro p11
 refine WL.h rfl (Hd.alloc (zs := [.int .u32 0, .int .i64 0, .bool false, .slice none 0 0, .int .i64 0, .slice none 0 0]) kr_ fun b5 => ⟨_, rfl, ?_⟩)
 refine WL.s (Hd.storeAll (n := 6) kr_ rfl rfl (by rfl) (kc_one (IsSl.of hva).one (IsSl.of hvr).one) fr_ (by rfl) ⟨rfl, ?_⟩)
 refine ntr_ (m_ rfl rfl (WL.h rfl (Hd.loadAll (n := 6) kr_ rfl mem_ (by rfl) ⟨_, rfl, ?_⟩)))
 refine WL.c rfl (Ent.func Tryz.call96 rfl) (own_tells ks[i] va vr H hva hvr (by have := hrt.2.2.2.1; omega) (by have := hrt.2.2.2.2.1; omega)) (Sp.p sp_) ?_
 rintro x H1 ⟨wa, wr, A, B, rfl, hA, hB, rfl⟩
 obtain ⟨o1, c1, rfl, hc1⟩ := hA.form
 obtain ⟨o2, c2, rfl, hc2⟩ := hB.form
 refine WL.h rfl (Hd.buildA (e := 118) (sz := 6) (zs := [.int .u32 0, .int .i64 0, .bool false, .slice none 0 0, .int .i64 0, .slice none 0 0]) kr_ kr_ kr_ rfl rfl (by rfl) kr_ fun b16 => ⟨_, rfl, ?_⟩)
 refine WL.h rfl (Hd.appendRow (e := 118) (sz := 6) (bytes := 80) (zs := [.int .u32 0, .int .i64 0, .bool false, .slice none 0 0, .int .i64 0, .slice none 0 0]) kr_ kr_ rfl (by omega) rfl rfl (hOl) sp_ mem_ (by rfl) (kc_one (by rfl) (by rfl)) (by simp only [maxLen]; omega) (by omega) fun v2 C2 h2 => ⟨_, rfl, ?_⟩)
 refine a_ rfl rfl (WL.nil (DN.block_normal (DN.then_normal (WC.region (WL.y rfl (Yd.add rfl rfl (by omega) (by omega)) ?_)))))
 refine m_ rfl rfl (WL.nil ?_)
 exact DN.againS (⟨i + 1, v2, cl ++ kc ks[i] (.slice o1 ks[i].asked.length c1) (.slice o2 ks[i].reply.length c2), C2, Dl ++ (A ++ B)⟩) (show (i + 1) ≤ ks.length ∧ Own v2 (i + 1) (cl ++ kc ks[i] (.slice o1 ks[i].asked.length c1) (.slice o2 ks[i].reply.length c2)) 118 6 C2 ∧ Kts 5 (cl ++ kc ks[i] (.slice o1 ks[i].asked.length c1) (.slice o2 ks[i].reply.length c2)) (ks.take (i + 1)) (Dl ++ (A ++ B)) from ⟨by omega, h2, by rw [List.take_succ_eq_append_getElem hlt]; exact hKt.append (Kts.one' hA hB)⟩) (show ks.length - (i + 1) < ks.length - i by omega) (Sx.put rfl (Sx.put rfl (sx_))) sp_
 obtain rfl : i = ks.length := by omega
 rw [List.take_length] at hKt
 refine WC.exit (DN.then_exit (DN.then_exit (DN.block_exit (ts_ (WC.region (m_ rfl rfl (f_ 1 kr_ rfl rfl ?_)))))))
 refine WL.s (Hd.store1s kr_ rfl rfl (by rfl) fr_ (by rfl) (by first | (simp only [List.set_cons_zero, List.set_cons_succ, Nat.zero_add, Nat.add_zero, Nat.reduceAdd]; rfl) | rfl) ⟨rfl, ?_⟩)
 refine ntsr_ (WL.h rfl (Hd.loadAll (n := 2) kr_ rfl mem_ (by rfl) ⟨_, rfl, ?_⟩))
 refine WL.s (Hd.storeAll (n := 2) kr_ rfl rfl (by rfl) one_ fr_ (by rfl) ⟨rfl, ?_⟩)
 refine nt_ (WC.ret (DN.retCS (s := 2) (Cl ++ (Dl ++ H)) Tryz.results85 kr_ rfl mem_ (by rfl) sp_ ?_))
 exact ⟨_, Cl ++ Dl, rfl, ⟨cl, Cl, Dl, hOl, hKt, rfl⟩, by rw [List.append_assoc]⟩
theorem see_tells (e : BitVec 32) (v : Value) (ks : List Kp) (H : List Ck) (hv : KV v ks H) (hl : ks.length ≤ 9223372036854775807) (x : BitVec 32) : Tells Tryz.prog 56 [.agg #[.int .u32 e.toNat, v], .int .u32 x.toNat] H fun r H' => ∃ w D, r = .tuple #[.agg #[.int .u32 (seeK e ks x).1.toNat, w], .int .i64 (seeK e ks x).2.2] ∧ FAt 5 118 w (seeK e ks x).2.1 D ∧ H' = D ++ H := by
 refine Tells.enter Tryz.func56 rfl Tryz.ntmps56 rfl ?_
 intro w0 R
 obtain ⟨ao, c, rfl, hc⟩ := hv.form
 refine sr_ (WL.h rfl (Hd.boxA rfl fun b2 => ⟨_, rfl, ?_⟩))
 refine WL.h rfl (Hd.alloc (zs := [.int .u32 0, .slice none 0 0]) kr_ fun b4 => ⟨_, rfl, ?_⟩)
 refine a_ rfl rfl (nt_ (WC.seq (WC.block (sr_ (WL.h rfl (Hd.loadAll (n := 2) kr_ rfl mem_ (by rfl) ⟨_, rfl, ?_⟩))))))
 refine WL.r rfl (Ent.func Tryz.call82 rfl) (check2_reads e _ ks _ (hv.mono gr_) hl) ?_
 refine WL.y rfl (Yd.neq rfl rfl) (a_ rfl rfl (nt_ (WC.ite rfl (fun h9 => ?_) (fun h9 => ?_))))
 have hn : ¬ chk ks := fun h => by rw [if_pos h] at h9; exact h9 rfl
 refine sr_ (WL.y rfl (Yd.buildL (pl := [(0, 1), (1, 1)]) (zs := [.int .u32 0, .slice none 0 0]) (parts := []) (vs := []) (cells := [.int .u32 0, .slice none 0 0]) kr_ kr_ rfl rfl) ?_)
 refine WL.s (Hd.storeAll (n := 2) kr_ rfl rfl (by rfl) one_ fr_ (by rfl) ⟨rfl, ?_⟩)
 refine a_ rfl rfl (nt_ (WC.ret (DN.block_ret (DN.then_ret (DN.retCT (s := 2) H Tryz.results56 kr_ rfl rfl mem_ (by rfl) sp_ ?_)))))
 rw [show seeK e ks x = (0#32, [], 2) from if_pos hn]
 exact ⟨_, [], rfl, FAt.nil _ _, rfl⟩
 have hy : chk ks := Classical.byContradiction fun h => by rw [if_neg h] at h9; exact h9 (by decide)
 refine sr_ (m_ rfl rfl (f_ 0 kr_ rfl rfl ?_))
 refine d_ kr_ rfl mem_ (by rfl) rfl ?_
 refine WL.y rfl (Yd.lss rfl rfl) (a_ rfl rfl (nt_ (WC.ite rfl (fun h11 => ?_) (fun h11 => ?_))))
 refine sr_ (WL.y rfl (Yd.buildL (pl := [(0, 1), (1, 1)]) (zs := [.int .u32 0, .slice none 0 0]) (parts := []) (vs := []) (cells := [.int .u32 0, .slice none 0 0]) kr_ kr_ rfl rfl) ?_)
 refine WL.s (Hd.storeAll (n := 2) kr_ rfl rfl (by rfl) one_ fr_ (by rfl) ⟨rfl, ?_⟩)
 refine a_ rfl rfl (nt_ (WC.ret (DN.block_ret (DN.then_ret (DN.retCT (s := 2) H Tryz.results56 kr_ rfl rfl mem_ (by rfl) sp_ ?_)))))
 rw [show seeK e ks x = (0#32, [], 72) by unfold seeK; rw [if_neg (not_not_intro hy), if_pos (by omega)]]
 exact ⟨_, [], rfl, FAt.nil _ _, rfl⟩
 refine WC.skip (DN.block_normal (ts_ (WC.region (WL.h rfl (Hd.loadAll (n := 2) kr_ rfl mem_ (by rfl) ⟨_, rfl, ?_⟩)))))
 refine WL.c rfl (Ent.func Tryz.call85 rfl) (all_tells e _ ks H hv (by first | assumption | exact Classical.byContradiction fun h => (by rw [if_neg h] at h9; exact h9 (by decide)))) (Sp.p sp_) ?_
 rintro r2 H1 ⟨w, D, rfl, hF, rfl⟩
 obtain ⟨wo, wc, rfl⟩ := hF.form
 refine WL.s (Hd.storeAll (n := 2) kr_ rfl rfl (by rfl) one_ fr_ (by rfl) ⟨rfl, ?_⟩)
 refine ntsr_ (m_ rfl rfl (f_ 0 kr_ rfl rfl ?_))
 refine WL.s (Hd.store1s kr_ rfl rfl (by rfl) fr_ (by rfl) (by first | (simp only [List.set_cons_zero, List.set_cons_succ, Nat.zero_add, Nat.add_zero, Nat.reduceAdd]; rfl) | rfl) ⟨rfl, ?_⟩)
 refine ntsr_ (WL.h rfl (Hd.loadAll (n := 2) kr_ rfl mem_ (by rfl) ⟨_, rfl, ?_⟩))
 refine WL.s (Hd.storeAll (n := 2) kr_ rfl rfl (by rfl) one_ fr_ (by rfl) ⟨rfl, ?_⟩)
 refine a_ rfl rfl (nt_ (WC.ret (DN.retCT (s := 2) (D ++ H) Tryz.results56 kr_ rfl rfl mem_ (by rfl) sp_ ?_)))
 rw [show seeK e ks x = (x, ks, 0) by unfold seeK; rw [if_neg (not_not_intro hy), if_neg (by omega)]]
 exact ⟨_, D, rfl, hF, rfl⟩
theorem find2_tells (e : BitVec 32) (v : Value) (ks : List Kp) (H : List Ck) (hv : KV v ks H) (hl : ks.length ≤ 9223372036854775807) (o : BitVec 32) (s : Int) (u : Bool) : Tells Tryz.prog 84 [.agg #[.int .u32 e.toNat, v], .int .u32 o.toNat, .int .i64 s, .bool u] H fun r H' => ∃ wa wr A B, r = .tuple #[.agg (kc ((findF ks o s u).getD Kp.z) wa wr).toArray, .bool (findF ks o s u).isSome] ∧ Ob 5 wa ((findF ks o s u).getD Kp.z).asked A ∧ Ob 5 wr ((findF ks o s u).getD Kp.z).reply B ∧ H' = A ++ (B ++ H) := by
 refine Tells.enter Tryz.func84 rfl Tryz.ntmps84 rfl ?_
 intro w0 R
 have hv9 := hv
 obtain ⟨cs, hr, hk⟩ := hv9
 obtain ⟨ao, c, rfl, hc⟩ := hr.form
 refine sr_ (WL.h rfl (Hd.boxA rfl fun b4 => ⟨_, rfl, ?_⟩))
 refine WL.h rfl (Hd.alloc (zs := [.int .u32 0, .int .i64 0, .bool false, .slice none 0 0, .int .i64 0, .slice none 0 0]) kr_ fun b8 => ⟨_, rfl, ?_⟩)
 refine a_ rfl rfl (nt_ (WC.seq (sr_ (WL.h rfl (Hd.loadAll (n := 2) kr_ rfl mem_ (by rfl) ⟨_, rfl, ?_⟩)))))
 refine WL.r rfl (Ent.func Tryz.call82 rfl) (check2_reads e _ ks _ (hv.mono gr_) hl) ?_
 refine WL.y rfl (Yd.neq rfl rfl) (m_ rfl rfl (WL.partP (t := 15) rfl (fun hg15 => ?_) (fun hg15 => ?_)))
 refine gn_ 15 rfl rfl rfl rfl (gn_ 15 rfl rfl rfl rfl (WL.y rfl (Yd.pickT rfl rfl) (m_ rfl rfl (gn_ 19 rfl rfl rfl rfl (gn_ 19 rfl rfl rfl rfl (WL.y rfl (Yd.pickT rfl rfl) (nt_ (WC.yes rfl (sr_ (WL.y rfl (Yd.buildL (pl := [(0, 1), (1, 1), (2, 1), (3, 1), (4, 1), (5, 1)]) (zs := [.int .u32 0, .int .i64 0, .bool false, .slice none 0 0, .int .i64 0, .slice none 0 0]) (parts := []) (vs := []) (cells := [.int .u32 0, .int .i64 0, .bool false, .slice none 0 0, .int .i64 0, .slice none 0 0]) kr_ kr_ rfl rfl) ?_))))))))))
 refine WL.s (Hd.storeAll (n := 6) kr_ rfl rfl (by rfl) one_ fr_ (by rfl) ⟨rfl, ?_⟩)
 refine a_ rfl rfl (nt_ (WC.ret (DN.then_ret ?_)))
 first | refine DN.retCT (s := 6) (A ++ (B ++ H)) Tryz.results84 kr_ rfl rfl mem_ (by rfl) sp_ ?_ | refine DN.retCT (s := 6) H Tryz.results84 kr_ rfl rfl mem_ (by rfl) sp_ ?_
 rotate_left
 refine gy_ 15 rfl rfl rfl (Yd.move rfl) (gy_ 15 rfl rfl rfl (Yd.lss rfl rfl) (WL.y rfl (Yd.pickF rfl rfl) (m_ rfl rfl (WL.part (t := 19) rfl (fun hg19 => ?_) (fun hg19 => ?_)))))
 refine gn_ 19 rfl rfl rfl rfl (gn_ 19 rfl rfl rfl rfl (WL.y rfl (Yd.pickT rfl rfl) (nt_ (WC.yes rfl (sr_ (WL.y rfl (Yd.buildL (pl := [(0, 1), (1, 1), (2, 1), (3, 1), (4, 1), (5, 1)]) (zs := [.int .u32 0, .int .i64 0, .bool false, .slice none 0 0, .int .i64 0, .slice none 0 0]) (parts := []) (vs := []) (cells := [.int .u32 0, .int .i64 0, .bool false, .slice none 0 0, .int .i64 0, .slice none 0 0]) kr_ kr_ rfl rfl) ?_))))))
 refine WL.s (Hd.storeAll (n := 6) kr_ rfl rfl (by rfl) one_ fr_ (by rfl) ⟨rfl, ?_⟩)
 refine a_ rfl rfl (nt_ (WC.ret (DN.then_ret ?_)))
 first | refine DN.retCT (s := 6) (A ++ (B ++ H)) Tryz.results84 kr_ rfl rfl mem_ (by rfl) sp_ ?_ | refine DN.retCT (s := 6) H Tryz.results84 kr_ rfl rfl mem_ (by rfl) sp_ ?_
 rotate_left
 refine gy_ 19 rfl rfl rfl (Yd.move rfl) (gy_ 19 rfl rfl rfl (Yd.geq rfl rfl) (WL.y rfl (Yd.pickF rfl rfl) (nt_ (WC.cond rfl (fun h22 => ?_) (fun h22 => ?_)))))
 refine sr_ (WL.y rfl (Yd.buildL (pl := [(0, 1), (1, 1), (2, 1), (3, 1), (4, 1), (5, 1)]) (zs := [.int .u32 0, .int .i64 0, .bool false, .slice none 0 0, .int .i64 0, .slice none 0 0]) (parts := []) (vs := []) (cells := [.int .u32 0, .int .i64 0, .bool false, .slice none 0 0, .int .i64 0, .slice none 0 0]) kr_ kr_ rfl rfl) ?_)
 refine WL.s (Hd.storeAll (n := 6) kr_ rfl rfl (by rfl) one_ fr_ (by rfl) ⟨rfl, ?_⟩)
 refine a_ rfl rfl (nt_ (WC.ret (DN.then_ret ?_)))
 first | refine DN.retCT (s := 6) (A ++ (B ++ H)) Tryz.results84 kr_ rfl rfl mem_ (by rfl) sp_ ?_ | refine DN.retCT (s := 6) H Tryz.results84 kr_ rfl rfl mem_ (by rfl) sp_ ?_
 rotate_left
 refine WC.skip (ts_ (WC.region (WL.h rfl (Hd.loadAll (n := 2) kr_ rfl mem_ (by rfl) ⟨_, rfl, ?_⟩))))
 have hok : chk ks ∧ 0 ≤ s ∧ s < 16 := ⟨Classical.byContradiction fun h => (by simp only [if_neg h] at hg15; revert hg15; decide), by simp only [decide_eq_true_eq, decide_eq_false_iff_not] at *; omega, by simp only [decide_eq_true_eq, decide_eq_false_iff_not] at *; omega⟩
 have hfb := findF_ok (o := o) (u := u) hok.1 hok.2.1 hok.2.2
 iterate 3 refine m_ rfl rfl ?_
 refine WL.y rfl (Yd.buildL (pl := [(0, 1), (1, 1), (2, 1)]) (zs := [.int .u32 0, .int .i64 0, .bool false]) (parts := [(0, .tmp 26), (1, .tmp 27), (2, .tmp 28)]) (vs := [(0, _), (1, _), (2, _)]) (cells := [_, _, _]) kr_ kr_ rfl rfl) ?_
 refine WL.r rfl (Ent.func Tryz.call93 rfl) (find_reads e _ ks _ (hv.mono gr_) hok.1 o s u hok.2.1 hok.2.2) ?_
 refine m_ rfl rfl (x_ rfl rfl rfl (x_ rfl rfl rfl (a_ rfl rfl (a_ rfl rfl (nt_ (WC.seq (sr_ (m_ rfl rfl (WL.y rfl (Yd.notB rfl) (nt_ (WC.cond rfl (fun h34 => ?_) (fun h34 => ?_))))))))))))
 have hno : findF ks o s u = none := by
   rw [hfb]
   simpa using h34
 refine sr_ (WL.y rfl (Yd.buildL (pl := [(0, 1), (1, 1), (2, 1), (3, 1), (4, 1), (5, 1)]) (zs := [.int .u32 0, .int .i64 0, .bool false, .slice none 0 0, .int .i64 0, .slice none 0 0]) (parts := []) (vs := []) (cells := [.int .u32 0, .int .i64 0, .bool false, .slice none 0 0, .int .i64 0, .slice none 0 0]) kr_ kr_ rfl rfl) ?_)
 refine WL.s (Hd.storeAll (n := 6) kr_ rfl rfl (by rfl) one_ fr_ (by rfl) ⟨rfl, ?_⟩)
 refine a_ rfl rfl (nt_ (WC.ret (DN.then_ret ?_)))
 first | refine DN.retCT (s := 6) (A ++ (B ++ H)) Tryz.results84 kr_ rfl rfl mem_ (by rfl) sp_ ?_ | refine DN.retCT (s := 6) H Tryz.results84 kr_ rfl rfl mem_ (by rfl) sp_ ?_
 rotate_left
 have hso : (getK ks (numb o s u)).isSome = true := by simpa using h34
 obtain ⟨hlt, hnum, hgk⟩ : ∃ hi : pos ks (numb o s u) < ks.length, ks[pos ks (numb o s u)].num = numb o s u ∧ getK ks (numb o s u) = some ks[pos ks (numb o s u)] := by
   rcases getK_pos hok.1 (n := numb o s u) with ⟨e1, e2⟩ | h9
   · rw [e1] at hso; cases hso
   exact h9
 refine WC.skip (ts_ (WC.region (f_ 1 kr_ rfl rfl ?_)))
 refine d_ kr_ rfl mem_ (by rfl) rfl ?_
 refine m_ rfl rfl ?_
 obtain ⟨va, vr, hg, hva, hvr⟩ := hk.at (pos ks (numb o s u)) hlt
 have hrt := chk_right hok.1 hlt
 refine WL.elemA (e := 118) (s := 6) kr_ kr_ kr_ rfl rfl (rfl) (hr.mono gr_) (hg) (by rfl) (by omega) (hlt) rfl rfl ?_
 intro p39
 refine WL.c rfl (Ent.func Tryz.call96 rfl) (own_tells ks[pos ks (numb o s u)] va vr H hva hvr (by have := hrt.2.2.2.1; omega) (by have := hrt.2.2.2.2.1; omega)) (Sp.p sp_) ?_
 rintro x H1 ⟨wa, wr, A, B, rfl, hA, hB, rfl⟩
 obtain ⟨o1, c1, rfl, hc1⟩ := hA.form
 obtain ⟨o2, c2, rfl, hc2⟩ := hB.form
 refine WL.s (Hd.storeAll (n := 6) kr_ rfl rfl (by rfl) one_ fr_ (by rfl) ⟨rfl, ?_⟩)
 refine a_ rfl rfl (nt_ (WC.ret ?_))
 first | refine DN.retCT (s := 6) (A ++ (B ++ H)) Tryz.results84 kr_ rfl rfl mem_ (by rfl) sp_ ?_ | refine DN.retCT (s := 6) H Tryz.results84 kr_ rfl rfl mem_ (by rfl) sp_ ?_
 rotate_left
 all_goals
  first
    | (have e9 : findF ks o s u = some ks[pos ks (numb o s u)] := by rw [hfb, hgk]
       rw [e9]
       exact ⟨_, _, A, B, rfl, hA, hB, rfl⟩)
    | (rw [hno]
       exact ⟨_, _, [], [], rfl, Ob.nil _, Ob.nil _, rfl⟩)
    | (have e9 : findF ks o s u = none := findF_no fun ⟨g1, g2, g3⟩ => by
         first
         | (simp only [if_pos g1] at hg15; revert hg15; decide)
         | (simp only [decide_eq_true_eq, decide_eq_false_iff_not] at *; omega)
       rw [e9]
       exact ⟨_, _, [], [], rfl, Ob.nil _, Ob.nil _, rfl⟩)
end Go.Proofs.YtkamlondepceiaaGreat

set_option linter.unusedVariables false
set_option linter.unusedSimpArgs false
set_option maxHeartbeats 2000000
namespace Go.Proofs.YtkamlondepceiaaGreat
open Go.SL
theorem insert_tells (v : Value) (n : Nat) (cells : List Value) (C : List Ck) (own : Own v n cells 118 6 C) (h1 : ∀ u ∈ cells, u.oneCell' = true) (hn : n ≤ 1000000) (i : Nat) (hi : i ≤ n) (rb : Nat) (x : List Value) (hx : x.length = 6) (hx1 : ∀ u ∈ x, u.oneCell' = true) : Tells Tryz.prog 95 [v, .int .i64 (i : Int), .slice (some ⟨rb, 0, none⟩) 1 1] (C ++ [row rb x 118]) fun r H' => Own r (n + 1) (cells.take (i * 6) ++ (x ++ cells.drop (i * 6))) 118 6 H' := by
 refine Tells.enter Tryz.func95 rfl Tryz.ntmps95 rfl ?_
 intro w0 R
 obtain ⟨ao, cap, rfl, hcap⟩ := own.form
 have hcl := own.len
 refine sr_ (a_ rfl rfl (ntsr_ (m_ rfl rfl (m_ rfl rfl (WL.y rfl (Yd.slice (i := i) (j := n) (e := 118) (s := 6) kr_ kr_ rfl ⟨_, _, rfl, rfl⟩ rfl hi hcap) ?_)))))
 refine ntsr_ (m_ rfl rfl (WL.y rfl (Yd.len (e := 118) kr_ rfl) ?_))
 refine a_ rfl rfl (nt_ (WC.seq (sr_ (m_ rfl rfl (WL.y rfl (Yd.eql rfl rfl) (WL.renamed (t := 16) (v := .bool false) rfl (congrArg Value.bool (by simp)) ?_))))))
 refine nt_ (WC.no rfl (WC.skip (ts_ (WC.region (m_ rfl rfl (WL.y rfl (Yd.len (e := 118) kr_ rfl) ?_))))))
 refine a_ rfl rfl (nt_ (WC.seq (sr_ (m_ rfl rfl (m_ rfl rfl (WL.y rfl (Yd.eql rfl rfl) (nt_ (WC.ite rfl (fun h22 => ?_) (fun h22 => ?_)))))))))
 obtain rfl : i = n := by omega
 refine sr_ (m_ rfl rfl (m_ rfl rfl ?_))
 refine WL.h rfl (Hd.appendF (e := 118) (sz := 6) (bytes := 80) (zs := [.int .u32 0, .int .i64 0, .bool false, .slice none 0 0, .int .i64 0, .slice none 0 0]) kr_ kr_ rfl (by omega) rfl rfl own sp_ (.inr ⟨rb, 0, 1, x, 118, (0, 0), true, rfl, Nat.le_refl _, mem_, by simp⟩) (by omega) hx1 (by simp only [maxLen]; omega) (by omega) fun v2 C2 h2 => ⟨_, rfl, ?_⟩)
 refine a_ rfl rfl (nt_ (WC.ret (DN.then_ret (DN.fit (C := C2) sp_ ?_))))
 refine DN.ret1 Tryz.results95 rfl ?_
 rw [List.take_of_length_le (by omega), List.drop_of_length_le (by omega), List.append_nil]
 exact h2
 obtain ⟨b, cap', extra, e1, h2, h3, h4, h5, rfl⟩ : ∃ (b cap' : Nat) (extra : List Value), Value.slice ao n cap = .slice (some ⟨b, 0, none⟩) n cap' ∧ n ≤ cap' ∧ cap' ≤ maxLen ∧ cells.length = n * 6 ∧ extra.length = (cap' - n) * 6 ∧ C = [row b (cells ++ extra) 118] := by
   rcases own with ⟨_, h, _⟩ | h
   · omega
   exact h
 simp only [Value.slice.injEq, true_and] at e1
 obtain ⟨rfl, rfl⟩ := e1
 simp only [maxLen] at h3
 have htl : (cells.take (i * 6)).length = i * 6 := by rw [List.length_take]; omega
 have hdl : (cells.drop (i * 6)).length = (n - i) * 6 := by rw [List.length_drop]; omega
 refine WC.skip (ts_ (sr_ (m_ rfl rfl (m_ rfl rfl (WL.y rfl (Yd.add rfl rfl (by omega) (by omega)) ?_)))))
 refine m_ rfl rfl (WL.y rfl (Yd.capS (e := 118) kr_ rfl) ?_)
 refine WL.y rfl (Yd.gtr rfl rfl) (nt_ (WC.ite rfl (fun h31 => ?_) (fun h31 => ?_)))
 refine sr_ (m_ rfl rfl (m_ rfl rfl (WL.y rfl (Yd.sliceTo (j := i) (e := 118) (s := 6) kr_ kr_ rfl rfl rfl (by omega)) ?_)))
 refine m_ rfl rfl (m_ rfl rfl (WL.y rfl (Yd.add rfl rfl (by omega) (by omega)) ?_))
 refine m_ rfl rfl (WL.y rfl (Yd.sub rfl rfl (by omega) (by omega)) ?_)
 refine WL.h rfl (Hd.appendZ (i := i) (k := n + 1 - i) (olds := cells.take (i * 6)) (e := 118) (sz := 6) (bytes := 80) (zs := [.int .u32 0, .int .i64 0, .bool false, .slice none 0 0, .int .i64 0, .slice none 0 0]) kr_ Tryz.underlying3 kr_ rfl (by omega) rfl (by exact congrArg (fun q => some (Value.int .i64 q)) (by omega)) ((own.rs.upto hcl hi).mono gr_) htl (by omega) (by omega) (by simp only [maxLen]; omega) (by omega) fun b2 c2 ex2 g1 g2 g3 => ⟨_, rfl, ?_⟩)
 refine a_ rfl rfl (ntsr_ (m_ rfl rfl (m_ rfl rfl (WL.y rfl (Yd.slFrom (i := i) (e := 118) (s := 6) kr_ kr_ rfl rfl (by omega) (by omega) (by omega) (by omega)) ?_))))
 refine m_ rfl rfl ?_
 refine WL.h rfl (Hd.copyR (cells' := cells.take (i * 6) ++ (x ++ ex2.drop x.length)) (q := 1) (e := 118) (sz := 6) (bytes := 80) (zs := [.int .u32 0, .int .i64 0, .bool false, .slice none 0 0, .int .i64 0, .slice none 0 0]) kr_ kr_ rfl rfl fr_ (.inr ⟨rb, 0, 1, x, 118, (0, 0), true, rfl, Nat.le_refl _, mem_, by simp⟩) (by show min _ _ = _; omega) (by omega) hx1 (by rw [List.length_append]; omega) (ins_a _ _ _ _ htl) ⟨_, rfl, ?_⟩)
 refine nt_ (WC.seq (WC.draw 9 kr_ rfl ?_))
 refine WAG.start (N := 9) rfl (wy_ 0 [] rfl (Yd.move rfl) kr_ ?_)
 refine wy_ 1 [] rfl (Yd.move rfl) kr_ ?_
 refine wy_ 2 [] rfl (Yd.move rfl) kr_ ?_
 refine wy_ 3 [2, 1] rfl (Yd.add rfl rfl (by omega) (by omega)) kr_ ?_
 refine wy_ 4 [3, 0] rfl (Yd.slFrom (i := i + 1) (e := 118) (s := 6) kr_ kr_ rfl rfl (by omega) (by omega) (by omega) (by omega)) kr_ ?_
 refine wy_ 5 [] rfl (Yd.move rfl) kr_ ?_
 refine wy_ 6 [] rfl (Yd.move rfl) kr_ ?_
 refine wy_ 7 [6, 5] rfl (Yd.slFrom (i := i) (e := 118) (s := 6) kr_ kr_ rfl rfl (by omega) (by omega) (by omega) (by omega)) kr_ ?_
 refine ws_ [(8, [7, 4])] kr_ (all_c ?_ (all_n))
 refine so_ (j := 8) [_, _] rfl ?_
 refine SO.h rfl Wt.none rfl (Hd.copyR (cells' := cells.take (i * 6) ++ (x ++ (cells.drop (i * 6) ++ (ex2.drop x.length).drop (cells.drop (i * 6)).length))) (q := n - i) (news := cells.drop (i * 6)) (e := 118) (sz := 6) (bytes := 80) (zs := [.int .u32 0, .int .i64 0, .bool false, .slice none 0 0, .int .i64 0, .slice none 0 0]) kr_ kr_ rfl rfl fr_ (.inr ⟨b, i * 6, cap - i, cells ++ extra, 118, (0, 0), true, rfl, by omega, mem_, by
     rw [List.drop_append_of_le_length (by omega), List.take_append_of_le_length (by omega), List.take_of_length_le (by omega)]⟩) (by show min _ _ = _; omega) hdl (fun u hu => h1 u (List.mem_of_mem_drop hu)) (by simp only [List.length_append, List.length_drop]; omega) (ins_b _ _ _ _ _ (by omega)) ⟨_, rfl, ?_⟩)
 refine wk_ [_, _, _, _, _, _] (_ :: ([_, _] ++ _)) rfl rfl all_n (wd_ [_, _, _, _, _, _] rfl kr_ ?_)
 refine ts_ (WC.region (m_ rfl rfl (a_ rfl rfl (nt_ (WC.ret (DN.then_ret (DN.fit (C := [row b2 (cells.take (i * 6) ++ (x ++ (cells.drop (i * 6) ++ (ex2.drop x.length).drop (cells.drop (i * 6)).length))) 118]) sp_ ?_)))))))
 refine DN.ret1 Tryz.results95 rfl ?_
 exact .inr ⟨b2, c2, (ex2.drop x.length).drop (cells.drop (i * 6)).length, by rw [show i + (n + 1 - i) = n + 1 by omega], by omega, g2, by simp only [List.length_append]; omega, by simp only [List.length_drop]; omega, by simp only [List.append_assoc]⟩
 refine WC.skip (ts_ (WC.region ?_))
 iterate 3 refine m_ rfl rfl ?_
 refine WL.y rfl (Yd.add rfl rfl (by omega) (by omega)) ?_
 refine WL.y rfl (Yd.sliceTo (j := n + 1) (e := 118) (s := 6) kr_ kr_ rfl rfl (by omega) (by omega)) ?_
 refine a_ rfl rfl (nt_ (WC.seq (sr_ ?_)))
 iterate 4 refine m_ rfl rfl ?_
 refine WL.y rfl (Yd.add rfl rfl (by omega) (by omega)) ?_
 refine WL.y rfl (Yd.slFrom (i := i + 1) (e := 118) (s := 6) kr_ kr_ rfl rfl (by omega) (by omega) (by omega) (by omega)) ?_
 refine WL.h rfl (Hd.overF (tS := 80) (tR := 4) (e := 118) (sz := 6) Tryz.func128 kr_ kr_ kr_ kr_ kr_ kr_ rfl rfl fr_ fr_ (by intro h0; have := congrArg List.length h0; rw [List.length_append, List.length_nil] at this; omega) ⟨_, rfl, ?_⟩)
 refine WL.y rfl (Yd.notB rfl) (WL.renamed (t := 68) (v := .bool true) rfl (congrArg Value.bool (by rfl)) ?_)
 refine nt_ (WC.yes rfl (WC.seq (WC.draw 9 kr_ rfl ?_)))
 refine WAG.start (N := 9) rfl (wy_ 0 [] rfl (Yd.move rfl) kr_ ?_)
 refine wy_ 1 [] rfl (Yd.move rfl) kr_ ?_
 refine wy_ 2 [] rfl (Yd.move rfl) kr_ ?_
 refine wy_ 3 [2, 1] rfl (Yd.add rfl rfl (by omega) (by omega)) kr_ ?_
 refine wy_ 4 [3, 0] rfl (Yd.slFrom (i := i + 1) (e := 118) (s := 6) kr_ kr_ rfl rfl (by omega) (by omega) (by omega) (by omega)) kr_ ?_
 refine wy_ 5 [] rfl (Yd.move rfl) kr_ ?_
 refine wy_ 6 [] rfl (Yd.move rfl) kr_ ?_
 refine wy_ 7 [6, 5] rfl (Yd.slFrom (i := i) (e := 118) (s := 6) kr_ kr_ rfl rfl (by omega) (by omega) (by omega) (by omega)) kr_ ?_
 refine ws_ [(8, [7, 4])] kr_ (all_c ?_ (all_n))
 refine so_ (j := 8) [_, _] rfl ?_
 refine SO.h rfl Wt.none rfl (Hd.copyR (q := n - i) (news := cells.drop (i * 6)) (e := 118) (sz := 6) (bytes := 80) (zs := [.int .u32 0, .int .i64 0, .bool false, .slice none 0 0, .int .i64 0, .slice none 0 0]) kr_ kr_ rfl rfl fr_ (.inr ⟨b, i * 6, cap - i, cells ++ extra, 118, (0, 0), true, rfl, by omega, mem_, by
     rw [List.drop_append_of_le_length (by omega), List.take_append_of_le_length (by omega), List.take_of_length_le (by omega)]⟩) (by show min _ _ = _; omega) hdl (fun u hu => h1 u (List.mem_of_mem_drop hu)) (by simp only [List.length_append, List.length_drop]; omega) rfl ⟨_, rfl, ?_⟩)
 refine wk_ [_, _, _, _, _, _] (_ :: ([_, _] ++ _)) rfl rfl all_n (wd_ [_, _, _, _, _, _] rfl kr_ ?_)
 refine ts_ (WC.region (m_ rfl rfl (m_ rfl rfl (WL.y rfl (Yd.slFrom (i := i) (e := 118) (s := 6) kr_ kr_ rfl rfl (by omega) (by omega) (by omega) (by omega)) ?_))))
 refine m_ rfl rfl ?_
 have hfit := show i * 6 + x.length ≤ (List.take ((i + 1) * 6) (cells ++ extra) ++ (List.drop (i * 6) cells ++ List.drop ((i + 1) * 6 + (List.drop (i * 6) cells).length) (cells ++ extra))).length by
   rw [List.length_append, List.length_take, List.length_append, hcl, h5]; omega
 have hE : (i + 1) * 6 + (cells.drop (i * 6)).length ≤ (cells.take (i * 6)).length + ((cells.drop (i * 6)).length + extra.length) := by
   rw [htl, hdl, h5]; omega
 have ho : i * 6 + x.length = (i + 1) * 6 := by rw [hx]; omega
 have hcp := ins_c (cells.take (i * 6)) x extra (cells.drop (i * 6)) (i * 6) ((i + 1) * 6) htl ho hE
 rw [← List.append_assoc (cells.take (i * 6)) (cells.drop (i * 6)) extra, List.take_append_drop] at hcp
 refine WL.h rfl (Hd.copyR (cells' := cells.take (i * 6) ++ (x ++ (cells.drop (i * 6) ++ extra.drop x.length))) (q := 1) (e := 118) (sz := 6) (bytes := 80) (zs := [.int .u32 0, .int .i64 0, .bool false, .slice none 0 0, .int .i64 0, .slice none 0 0]) kr_ kr_ rfl rfl fr_ (.inr ⟨rb, 0, 1, x, 118, (0, 0), true, rfl, Nat.le_refl _, mem_, by simp⟩) (by show min _ _ = _; omega) (by omega) hx1 hfit hcp ⟨_, rfl, ?_⟩)
 refine ntsr_ (m_ rfl rfl (a_ rfl rfl (nt_ (WC.ret (DN.then_ret (DN.fit (C := [row b (cells.take (i * 6) ++ (x ++ (cells.drop (i * 6) ++ extra.drop x.length))) 118]) sp_ ?_))))))
 refine DN.ret1 Tryz.results95 rfl ?_
 exact .inr ⟨b, cap, extra.drop x.length, rfl, by omega, by simp only [maxLen]; omega, by simp only [List.length_append]; omega, by simp only [List.length_drop]; omega, by simp only [List.append_assoc]⟩
end Go.Proofs.YtkamlondepceiaaGreat

set_option linter.unusedVariables false
set_option linter.unusedSimpArgs false
set_option maxHeartbeats 2000000
namespace Go.Proofs.YtkamlondepceiaaGreat
open Go.SL
theorem noteBad_of {n : Nt} (h : decide ((if noteBad n then (50 : Int) else 0) ≠ 0) = true) : noteBad n = true := by
  cases e : noteBad n with
  | true => rfl
  | false => rw [e] at h; exact absurd h (by decide)
theorem ask_tells (e : BitVec 32) (v : Value) (ks : List Kp) (H : List Ck) (hv : KV v ks H) (hl : ks.length ≤ 9223372036854775807) (n : Nt) (vk vd : Value) (hvk : Bs vk n.key H) (hvd : Bs vd n.data H) : Tells Tryz.prog 55 [.agg #[.int .u32 e.toNat, v], .agg (ntc n vk vd).toArray] H fun r H' => ∃ wa wr A B, r = .tuple #[.int .i64 (askK e ks n).1, .agg (kc (askK e ks n).2.1 wa wr).toArray, .int .i64 (askK e ks n).2.2] ∧ Ob 5 wa (askK e ks n).2.1.asked A ∧ Ob 5 wr (askK e ks n).2.1.reply B ∧ H' = A ++ (B ++ H) := by
 refine Tells.enter Tryz.func55 rfl Tryz.ntmps55 rfl ?_
 intro w0 R
 obtain ⟨ao, c, rfl, hc⟩ := hv.form
 obtain ⟨ko, kcap, rfl, hkc⟩ := hvk.form
 obtain ⟨do_, dc, rfl, hdc⟩ := hvd.form
 refine sr_ (WL.h rfl (Hd.boxA rfl fun b2 => ⟨_, rfl, ?_⟩))
 refine WL.h rfl (Hd.boxA rfl fun b3 => ⟨_, rfl, ?_⟩)
 refine a_ rfl rfl (WL.h rfl (Hd.alloc (zs := [.int .u32 0, .int .i64 0, .bool false, .slice none 0 0, .int .i64 0, .slice none 0 0]) kr_ fun b5 => ⟨_, rfl, ?_⟩))
 refine a_ rfl rfl (nt_ (WC.seq (WC.block (sr_ (WL.h rfl (Hd.loadAll (n := 2) kr_ rfl mem_ (by rfl) ⟨_, rfl, ?_⟩))))))
 refine WL.r rfl (Ent.func Tryz.call82 rfl) (check2_reads e _ ks _ (hv.mono gr_) hl) ?_
 refine WL.y rfl (Yd.neq rfl rfl) (m_ rfl rfl (WL.partP (t := 15) rfl (fun hg15 => ?_) (fun hg15 => ?_)))
 iterate 3 refine gn_ 15 rfl rfl rfl rfl ?_
 refine WL.y rfl (Yd.pickT rfl rfl) (m_ rfl rfl ?_)
 iterate 3 refine gn_ 20 rfl rfl rfl rfl ?_
 refine WL.y rfl (Yd.pickT rfl rfl) (m_ rfl rfl ?_)
 iterate 3 refine gn_ 25 rfl rfl rfl rfl ?_
 refine WL.y rfl (Yd.pickT rfl rfl) (m_ rfl rfl ?_)
 iterate 3 refine gn_ 30 rfl rfl rfl rfl ?_
 refine WL.y rfl (Yd.pickT rfl rfl) (a_ rfl rfl (nt_ (WC.yes rfl (sr_ (WL.y rfl (Yd.buildL (pl := [(0, 1), (1, 1), (2, 1), (3, 1), (4, 1), (5, 1)]) (zs := [.int .u32 0, .int .i64 0, .bool false, .slice none 0 0, .int .i64 0, .slice none 0 0]) (parts := []) (vs := []) (cells := [.int .u32 0, .int .i64 0, .bool false, .slice none 0 0, .int .i64 0, .slice none 0 0]) kr_ kr_ rfl rfl) ?_)))))
 refine a_ rfl rfl (WL.s (Hd.storeAll (n := 6) kr_ rfl rfl (by rfl) one_ fr_ (by rfl) ⟨rfl, ?_⟩))
 refine a_ rfl rfl (nt_ (WC.ret (DN.block_ret (DN.then_ret (DN.retTCT (s := 6) (H) Tryz.results55 kr_ rfl rfl rfl mem_ (by rfl) sp_ ?_)))))
 have hb : askBad ks n := by
   unfold askBad
   first
   | exact .inl (fun h => by simp only [if_pos h] at hg15; exact hg15 rfl)
   | exact .inr (.inl (by simpa using hg20))
   | exact .inr (.inr (.inl (noteBad_of hg25)))
   | exact .inr (.inr (.inr (.inl (by simpa using hg30))))
   | exact .inr (.inr (.inr (.inr (by simpa using h11))))
 rw [askK_arg hb]
 exact ⟨_, _, [], [], rfl, Ob.nil _, Ob.nil _, rfl⟩
 refine gy_ 15 rfl rfl rfl (Yd.fieldAddr (k := 0) kr_ rfl) ?_
 refine WL.gh (dj := 15) rfl rfl rfl (Hd.load1 kr_ rfl mem_ (by rfl) ⟨_, rfl, ?_⟩)
 refine gy_ 15 rfl rfl rfl (Yd.neq rfl rfl) (WL.y rfl (Yd.pickF rfl rfl) (m_ rfl rfl (WL.part (t := 20) rfl (fun hg20 => ?_) (fun hg20 => ?_))))
 iterate 3 refine gn_ 20 rfl rfl rfl rfl ?_
 refine WL.y rfl (Yd.pickT rfl rfl) (m_ rfl rfl ?_)
 iterate 3 refine gn_ 25 rfl rfl rfl rfl ?_
 refine WL.y rfl (Yd.pickT rfl rfl) (m_ rfl rfl ?_)
 iterate 3 refine gn_ 30 rfl rfl rfl rfl ?_
 refine WL.y rfl (Yd.pickT rfl rfl) (a_ rfl rfl (nt_ (WC.yes rfl (sr_ (WL.y rfl (Yd.buildL (pl := [(0, 1), (1, 1), (2, 1), (3, 1), (4, 1), (5, 1)]) (zs := [.int .u32 0, .int .i64 0, .bool false, .slice none 0 0, .int .i64 0, .slice none 0 0]) (parts := []) (vs := []) (cells := [.int .u32 0, .int .i64 0, .bool false, .slice none 0 0, .int .i64 0, .slice none 0 0]) kr_ kr_ rfl rfl) ?_)))))
 refine a_ rfl rfl (WL.s (Hd.storeAll (n := 6) kr_ rfl rfl (by rfl) one_ fr_ (by rfl) ⟨rfl, ?_⟩))
 refine a_ rfl rfl (nt_ (WC.ret (DN.block_ret (DN.then_ret (DN.retTCT (s := 6) (H) Tryz.results55 kr_ rfl rfl rfl mem_ (by rfl) sp_ ?_)))))
 have hb : askBad ks n := by
   unfold askBad
   first
   | exact .inl (fun h => by simp only [if_pos h] at hg15; exact hg15 rfl)
   | exact .inr (.inl (by simpa using hg20))
   | exact .inr (.inr (.inl (noteBad_of hg25)))
   | exact .inr (.inr (.inr (.inl (by simpa using hg30))))
   | exact .inr (.inr (.inr (.inr (by simpa using h11))))
 rw [askK_arg hb]
 exact ⟨_, _, [], [], rfl, Ob.nil _, Ob.nil _, rfl⟩
 refine WL.gh (dj := 20) rfl rfl rfl (Hd.loadAll (n := 11) kr_ rfl mem_ (by rfl) ⟨_, rfl, ?_⟩)
 refine WL.gr (dj := 20) rfl rfl rfl (Ent.func Tryz.call83 rfl) (check_reads n (.slice ko _ kcap) (.slice do_ _ dc) ⟨_, _, rfl⟩ ⟨_, _, rfl⟩ _) (gy_ 20 rfl rfl rfl (Yd.neq rfl rfl) (WL.y rfl (Yd.pickF rfl rfl) (m_ rfl rfl (WL.part (t := 25) rfl (fun hg25 => ?_) (fun hg25 => ?_)))))
 iterate 3 refine gn_ 25 rfl rfl rfl rfl ?_
 refine WL.y rfl (Yd.pickT rfl rfl) (m_ rfl rfl ?_)
 iterate 3 refine gn_ 30 rfl rfl rfl rfl ?_
 refine WL.y rfl (Yd.pickT rfl rfl) (a_ rfl rfl (nt_ (WC.yes rfl (sr_ (WL.y rfl (Yd.buildL (pl := [(0, 1), (1, 1), (2, 1), (3, 1), (4, 1), (5, 1)]) (zs := [.int .u32 0, .int .i64 0, .bool false, .slice none 0 0, .int .i64 0, .slice none 0 0]) (parts := []) (vs := []) (cells := [.int .u32 0, .int .i64 0, .bool false, .slice none 0 0, .int .i64 0, .slice none 0 0]) kr_ kr_ rfl rfl) ?_)))))
 refine a_ rfl rfl (WL.s (Hd.storeAll (n := 6) kr_ rfl rfl (by rfl) one_ fr_ (by rfl) ⟨rfl, ?_⟩))
 refine a_ rfl rfl (nt_ (WC.ret (DN.block_ret (DN.then_ret (DN.retTCT (s := 6) (H) Tryz.results55 kr_ rfl rfl rfl mem_ (by rfl) sp_ ?_)))))
 have hb : askBad ks n := by
   unfold askBad
   first
   | exact .inl (fun h => by simp only [if_pos h] at hg15; exact hg15 rfl)
   | exact .inr (.inl (by simpa using hg20))
   | exact .inr (.inr (.inl (noteBad_of hg25)))
   | exact .inr (.inr (.inr (.inl (by simpa using hg30))))
   | exact .inr (.inr (.inr (.inr (by simpa using h11))))
 rw [askK_arg hb]
 exact ⟨_, _, [], [], rfl, Ob.nil _, Ob.nil _, rfl⟩
 refine gy_ 25 rfl rfl rfl (Yd.fieldAddr (k := 1) kr_ rfl) ?_
 refine WL.gh (dj := 25) rfl rfl rfl (Hd.load1 kr_ rfl mem_ (by rfl) ⟨_, rfl, ?_⟩)
 refine gy_ 25 rfl rfl rfl (Yd.eql32 _ (0#32) rfl rfl rfl rfl) (WL.y rfl (Yd.pickF rfl rfl) (m_ rfl rfl (WL.part (t := 30) rfl (fun hg30 => ?_) (fun hg30 => ?_))))
 iterate 3 refine gn_ 30 rfl rfl rfl rfl ?_
 refine WL.y rfl (Yd.pickT rfl rfl) (a_ rfl rfl (nt_ (WC.yes rfl (sr_ (WL.y rfl (Yd.buildL (pl := [(0, 1), (1, 1), (2, 1), (3, 1), (4, 1), (5, 1)]) (zs := [.int .u32 0, .int .i64 0, .bool false, .slice none 0 0, .int .i64 0, .slice none 0 0]) (parts := []) (vs := []) (cells := [.int .u32 0, .int .i64 0, .bool false, .slice none 0 0, .int .i64 0, .slice none 0 0]) kr_ kr_ rfl rfl) ?_)))))
 refine a_ rfl rfl (WL.s (Hd.storeAll (n := 6) kr_ rfl rfl (by rfl) one_ fr_ (by rfl) ⟨rfl, ?_⟩))
 refine a_ rfl rfl (nt_ (WC.ret (DN.block_ret (DN.then_ret (DN.retTCT (s := 6) (H) Tryz.results55 kr_ rfl rfl rfl mem_ (by rfl) sp_ ?_)))))
 have hb : askBad ks n := by
   unfold askBad
   first
   | exact .inl (fun h => by simp only [if_pos h] at hg15; exact hg15 rfl)
   | exact .inr (.inl (by simpa using hg20))
   | exact .inr (.inr (.inl (noteBad_of hg25)))
   | exact .inr (.inr (.inr (.inl (by simpa using hg30))))
   | exact .inr (.inr (.inr (.inr (by simpa using h11))))
 rw [askK_arg hb]
 exact ⟨_, _, [], [], rfl, Ob.nil _, Ob.nil _, rfl⟩
 refine gy_ 30 rfl rfl rfl (Yd.fieldAddr (k := 5) kr_ rfl) ?_
 refine WL.gh (dj := 30) rfl rfl rfl (Hd.load1 kr_ rfl mem_ (by rfl) ⟨_, rfl, ?_⟩)
 refine gy_ 30 rfl rfl rfl (Yd.eql32 _ (0#32) rfl rfl rfl rfl) (WL.y rfl (Yd.pickF rfl rfl) (a_ rfl rfl (nt_ (WC.cond rfl (fun h11 => ?_) (fun h11 => ?_)))))
 refine sr_ (WL.y rfl (Yd.buildL (pl := [(0, 1), (1, 1), (2, 1), (3, 1), (4, 1), (5, 1)]) (zs := [.int .u32 0, .int .i64 0, .bool false, .slice none 0 0, .int .i64 0, .slice none 0 0]) (parts := []) (vs := []) (cells := [.int .u32 0, .int .i64 0, .bool false, .slice none 0 0, .int .i64 0, .slice none 0 0]) kr_ kr_ rfl rfl) ?_)
 refine a_ rfl rfl (WL.s (Hd.storeAll (n := 6) kr_ rfl rfl (by rfl) one_ fr_ (by rfl) ⟨rfl, ?_⟩))
 refine a_ rfl rfl (nt_ (WC.ret (DN.block_ret (DN.then_ret (DN.retTCT (s := 6) (H) Tryz.results55 kr_ rfl rfl rfl mem_ (by rfl) sp_ ?_)))))
 have hb : askBad ks n := by
   unfold askBad
   first
   | exact .inl (fun h => by simp only [if_pos h] at hg15; exact hg15 rfl)
   | exact .inr (.inl (by simpa using hg20))
   | exact .inr (.inr (.inl (noteBad_of hg25)))
   | exact .inr (.inr (.inr (.inl (by simpa using hg30))))
   | exact .inr (.inr (.inr (.inr (by simpa using h11))))
 rw [askK_arg hb]
 exact ⟨_, _, [], [], rfl, Ob.nil _, Ob.nil _, rfl⟩
 refine sr_ ?_
 have hgood : ¬ askBad ks n := by
   rintro (h | h | h | h | h)
   · simp only [if_neg h] at hg15; revert hg15; decide
   · simp [h] at hg20
   · simp [h] at hg25
   · simp [h] at hg30
   simp [h] at h11
 have hck : chk ks := Classical.byContradiction fun h => hgood (.inl h)
 have hst := noteBad_step (n := n) (by
   cases e9 : noteBad n
   · rfl
   exact absurd (.inr (.inr (.inl e9))) hgood)
 refine f_ 1 kr_ rfl rfl ?_
 refine d_ kr_ rfl mem_ (by rfl) rfl ?_
 refine f_ 0 kr_ rfl rfl ?_
 refine d_ kr_ rfl mem_ (by rfl) rfl ?_
 refine WL.y rfl (Yd.lss rfl rfl) (a_ rfl rfl (nt_ (WC.ite rfl (fun h36 => ?_) (fun h36 => ?_))))
 refine sr_ (WL.y rfl (Yd.buildL (pl := [(0, 1), (1, 1), (2, 1), (3, 1), (4, 1), (5, 1)]) (zs := [.int .u32 0, .int .i64 0, .bool false, .slice none 0 0, .int .i64 0, .slice none 0 0]) (parts := []) (vs := []) (cells := [.int .u32 0, .int .i64 0, .bool false, .slice none 0 0, .int .i64 0, .slice none 0 0]) kr_ kr_ rfl rfl) ?_)
 refine a_ rfl rfl (WL.s (Hd.storeAll (n := 6) kr_ rfl rfl (by rfl) one_ fr_ (by rfl) ⟨rfl, ?_⟩))
 refine a_ rfl rfl (nt_ (WC.ret (DN.block_ret (DN.then_ret (DN.retTCT (s := 6) (H) Tryz.results55 kr_ rfl rfl rfl mem_ (by rfl) sp_ ?_)))))
 rw [askK_old hgood (by omega)]
 exact ⟨_, _, [], [], rfl, Ob.nil _, Ob.nil _, rfl⟩
 refine WC.skip (DN.block_normal (ts_ (sr_ (WL.h rfl (Hd.loadAll (n := 2) kr_ rfl mem_ (by rfl) ⟨_, rfl, ?_⟩)))))
 refine f_ 5 kr_ rfl rfl ?_
 refine d_ kr_ rfl mem_ (by rfl) rfl ?_
 refine f_ 6 kr_ rfl rfl ?_
 refine d_ kr_ rfl mem_ (by rfl) rfl ?_
 refine f_ 7 kr_ rfl rfl ?_
 refine d_ kr_ rfl mem_ (by rfl) rfl ?_
 refine WL.c rfl (Ent.func Tryz.call84 rfl) (find2_tells e _ ks H hv hl n.order n.step n.undo) (Sp.p sp_) ?_
 rintro x H1 ⟨wa, wr, A, B, rfl, hA, hB, rfl⟩
 obtain ⟨fk, hfk⟩ : ∃ q, q = findF ks n.order n.step n.undo := ⟨_, rfl⟩
 rw [← hfk] at hA hB ⊢
 rw [findF_ok hck hst.1 hst.2.1] at hfk
 obtain ⟨oa, ca, rfl, _⟩ := hA.form
 obtain ⟨or, cr, rfl, _⟩ := hB.form
 refine m_ rfl rfl (x_ rfl rfl rfl (x_ rfl rfl rfl (WL.h rfl (Hd.alloc (zs := [.int .u32 0, .int .i64 0, .bool false, .slice none 0 0, .int .i64 0, .slice none 0 0]) kr_ fun b7 => ⟨_, rfl, ?_⟩))))
 refine WL.s (Hd.storeAll (n := 6) kr_ rfl rfl (by rfl) (kc_one rfl rfl) fr_ (by rfl) ⟨rfl, ?_⟩)
 refine a_ rfl rfl (ntsr_ (m_ rfl rfl (nt_ (WC.cond rfl (fun h54 => ?_) (fun h54 => ?_)))))
 obtain ⟨k1, rfl⟩ := Option.isSome_iff_exists.1 h54
 refine WC.seq (sr_ (f_ 3 kr_ rfl rfl ?_))
 refine d_ kr_ rfl mem_ (by rfl) rfl ?_
 refine WL.h rfl (Hd.toStr (e := 5) (bs := ((some k1).getD Kp.z).asked) kr_ kr_ Tryz.underlying9 rfl (hA.bs.mono gr_) ⟨_, rfl, ?_⟩)
 refine f_ 10 kr_ rfl rfl ?_
 refine d_ kr_ rfl mem_ (by rfl) rfl ?_
 refine WL.h rfl (Hd.toStr (e := 5) (bs := n.data) kr_ kr_ Tryz.underlying9 rfl (hvd.mono gr_) ⟨_, rfl, ?_⟩)
 refine WL.y rfl (Yd.neqS rfl rfl) (nt_ (WC.ite rfl (fun h61 => ?_) (fun h61 => ?_)))
 refine sr_ (WL.y rfl (Yd.buildL (pl := [(0, 1), (1, 1), (2, 1), (3, 1), (4, 1), (5, 1)]) (zs := [.int .u32 0, .int .i64 0, .bool false, .slice none 0 0, .int .i64 0, .slice none 0 0]) (parts := []) (vs := []) (cells := [.int .u32 0, .int .i64 0, .bool false, .slice none 0 0, .int .i64 0, .slice none 0 0]) kr_ kr_ rfl rfl) ?_)
 refine a_ rfl rfl (WL.s (Hd.storeAll (n := 6) kr_ rfl rfl (by rfl) one_ fr_ (by rfl) ⟨rfl, ?_⟩))
 refine a_ rfl rfl (nt_ (WC.ret (DN.then_ret (DN.then_ret (DN.retTCT (s := 6) (H) Tryz.results55 kr_ rfl rfl rfl mem_ (by rfl) sp_ ?_)))))
 rw [askK_clash hgood (by omega) hfk.symm (fun h => h61 (congrArg str h))]
 exact ⟨_, _, [], [], rfl, Ob.nil _, Ob.nil _, rfl⟩
 refine WC.skip (ts_ (WC.draw 4 kr_ rfl ?_))
 refine WAG.start (N := 4) rfl (wq_ (wf_ (i := 0) [] rfl (QAt.rd Wt.none (Rd.loadAll (n := 6) kr_ rfl mem_ (by rfl))) kr_) kr_ ?_)
 refine ws_ [(1, [])] kr_ (all_c ?_ (all_n))
 refine so_ (j := 1) [] rfl (SO.y rfl Wt.none rfl (Yd.assign rfl) (wk_ [_] (_ :: ([] ++ _)) rfl rfl (all_c (wf_ [] rfl (QAt.rd Wt.none (Rd.loadAll (n := 6) kr_ rfl mem_ (by rfl))) kr_) all_n) ?_))
 refine ws_ [(2, [0])] kr_ (all_c ?_ (all_n))
 refine so_ (j := 2) [_] rfl (SO.s rfl Wt.none (Hd.storeAll (n := 6) kr_ rfl rfl (by rfl) (kc_one rfl rfl) fr_ (by rfl) ⟨rfl, ?_⟩))
 refine wk_ [] (([_] ++ _)) rfl rfl all_n (ws_ [(3, [])] kr_ (all_c ?_ (all_n)))
 refine so_ (j := 3) [] rfl (SO.y rfl Wt.none rfl (Yd.assign rfl) (wk_ [] (_ :: ([] ++ _)) rfl rfl all_n (wd_ [] rfl kr_ ?_)))
 refine DN.then_normal (WC.ret (DN.then_ret (DN.retTCT (s := 6) (A ++ (B ++ H)) Tryz.results55 kr_ rfl rfl rfl mem_ (by rfl) sp_ ?_)))
 rw [askK_again hgood (by omega) hfk.symm (Classical.byContradiction fun h => h61 fun h9 => h (str_inj.1 h9))]
 exact ⟨_, _, A, B, rfl, hA, hB, rfl⟩
 obtain rfl : fk = none := by simpa using h54
 refine WC.skip (ts_ (WC.region (WL.h rfl (Hd.loadAll (n := 2) kr_ rfl mem_ (by rfl) ⟨_, rfl, ?_⟩))))
 refine f_ 5 kr_ rfl rfl ?_
 refine d_ kr_ rfl mem_ (by rfl) rfl ?_
 refine f_ 6 kr_ rfl rfl ?_
 refine d_ kr_ rfl mem_ (by rfl) rfl ?_
 refine f_ 7 kr_ rfl rfl ?_
 refine d_ kr_ rfl mem_ (by rfl) rfl ?_
 refine WL.y rfl (Yd.notB rfl) (WL.c rfl (Ent.func Tryz.call84 rfl) (find2_tells e _ ks H hv hl n.order n.step (!n.undo)) (Sp.p sp_) ?_)
 rintro x H1 ⟨wa2, wr2, A2, B2, rfl, hA2, hB2, rfl⟩
 obtain ⟨gk, hgk⟩ : ∃ q, q = findF ks n.order n.step (!n.undo) := ⟨_, rfl⟩
 rw [← hgk] at hA2 hB2 ⊢
 rw [findF_ok hck hst.1 hst.2.1] at hgk
 obtain ⟨oa2, ca2, rfl, _⟩ := hA2.form
 obtain ⟨or2, cr2, rfl, _⟩ := hB2.form
 refine m_ rfl rfl (x_ rfl rfl rfl (x_ rfl rfl rfl (WL.h rfl (Hd.alloc (zs := [.int .u32 0, .int .i64 0, .bool false, .slice none 0 0, .int .i64 0, .slice none 0 0]) kr_ fun b9 => ⟨_, rfl, ?_⟩))))
 refine WL.s (Hd.storeAll (n := 6) kr_ rfl rfl (by rfl) (kc_one rfl rfl) fr_ (by rfl) ⟨rfl, ?_⟩)
 refine a_ rfl rfl (nt_ (WC.seq (WC.block (sr_ (f_ 7 kr_ rfl rfl ?_)))))
 refine d_ kr_ rfl mem_ (by rfl) rfl ?_
 refine WL.y rfl (Yd.notB rfl) (m_ rfl rfl (WL.part (t := 80) rfl (fun hg80 => ?_) (fun hg80 => ?_)))
 refine gy_ 80 rfl rfl rfl (Yd.move rfl) (WL.y rfl (Yd.pickT rfl rfl) (a_ rfl rfl (nt_ (WC.cond rfl (fun h76 => ?_) (fun h76 => ?_)))))
 refine sr_ (WL.y rfl (Yd.buildL (pl := [(0, 1), (1, 1), (2, 1), (3, 1), (4, 1), (5, 1)]) (zs := [.int .u32 0, .int .i64 0, .bool false, .slice none 0 0, .int .i64 0, .slice none 0 0]) (parts := []) (vs := []) (cells := [.int .u32 0, .int .i64 0, .bool false, .slice none 0 0, .int .i64 0, .slice none 0 0]) kr_ kr_ rfl rfl) ?_)
 refine a_ rfl rfl (WL.s (Hd.storeAll (n := 6) kr_ rfl rfl (by rfl) one_ fr_ (by rfl) ⟨rfl, ?_⟩))
 refine a_ rfl rfl (nt_ (WC.ret (DN.block_ret (DN.then_ret (DN.retTCT (s := 6) (H) Tryz.results55 kr_ rfl rfl rfl mem_ (by rfl) sp_ ?_)))))
 first
 | (have e9 : askK e ks n = (3, Kp.z, 0) := by rw [askK_two hgood (by omega) hfk.symm hgk]; exact if_pos ⟨by simpa using hg80, h76⟩
    rw [e9]
    exact ⟨_, _, [], [], rfl, Ob.nil _, Ob.nil _, rfl⟩)
 | (have e9 : askK e ks n = (4, Kp.z, 0) := by
      rw [askK_two hgood (by omega) hfk.symm hgk, if_neg (by rintro ⟨h5, h6⟩; rw [hg87] at h5; cases h5)]
      first
      | exact if_pos ⟨hg87, .inl (by simpa using hg90)⟩
      | exact if_pos ⟨hg87, .inr (by simpa using h84)⟩
    rw [e9]
    exact ⟨_, _, [], [], rfl, Ob.nil _, Ob.nil _, rfl⟩)
 | (have e9 : askK e ks n = (1, Kp.z, 0) := by
      rw [askK_two hgood (by omega) hfk.symm hgk]
      first
      | rw [if_neg (by rintro ⟨h5, h6⟩; rw [hg87] at h5; cases h5), if_neg (by
          rintro ⟨h5, h6⟩
          exact h6.elim (fun h6 => by rw [h6] at hg90; exact absurd hg90 (by decide)) (fun h6 => absurd h6 (by simpa using h84)))]
      | rw [if_neg (by
          rintro ⟨h5, h6⟩
          first
          | (rw [h6] at h76; exact absurd h76 (by decide))
          | (rw [h5] at hg80; exact absurd hg80 (by decide))), if_neg (by rintro ⟨h5, h6⟩; rw [hg87] at h5; cases h5)]
    rw [e9]
    exact ⟨_, _, [], [], rfl, Ob.nil _, Ob.nil _, rfl⟩)
 refine sr_ (f_ 7 kr_ rfl rfl ?_)
 refine d_ kr_ rfl mem_ (by rfl) rfl ?_
 refine m_ rfl rfl (WL.part (t := 87) rfl (fun hg87 => ?_) (fun hg87 => ?_))
 refine gy_ 87 rfl rfl rfl (Yd.move rfl) (gy_ 87 rfl rfl rfl (Yd.notB rfl) (gy_ 87 rfl rfl rfl (Yd.move rfl) (WL.part (t := 90) rfl (fun hg90 => ?_) (fun hg90 => ?_))))
 iterate 3 refine gn_ 90 rfl rfl rfl rfl ?_
 refine gy_ 87 rfl rfl rfl (Yd.pickT rfl rfl) (WL.y rfl (Yd.pickT rfl rfl) (a_ rfl rfl (nt_ (WC.yes rfl (sr_ (WL.y rfl (Yd.buildL (pl := [(0, 1), (1, 1), (2, 1), (3, 1), (4, 1), (5, 1)]) (zs := [.int .u32 0, .int .i64 0, .bool false, .slice none 0 0, .int .i64 0, .slice none 0 0]) (parts := []) (vs := []) (cells := [.int .u32 0, .int .i64 0, .bool false, .slice none 0 0, .int .i64 0, .slice none 0 0]) kr_ kr_ rfl rfl) ?_))))))
 refine a_ rfl rfl (WL.s (Hd.storeAll (n := 6) kr_ rfl rfl (by rfl) one_ fr_ (by rfl) ⟨rfl, ?_⟩))
 refine a_ rfl rfl (nt_ (WC.ret (DN.block_ret (DN.then_ret (DN.retTCT (s := 6) (H) Tryz.results55 kr_ rfl rfl rfl mem_ (by rfl) sp_ ?_)))))
 first
 | (have e9 : askK e ks n = (3, Kp.z, 0) := by rw [askK_two hgood (by omega) hfk.symm hgk]; exact if_pos ⟨by simpa using hg80, h76⟩
    rw [e9]
    exact ⟨_, _, [], [], rfl, Ob.nil _, Ob.nil _, rfl⟩)
 | (have e9 : askK e ks n = (4, Kp.z, 0) := by
      rw [askK_two hgood (by omega) hfk.symm hgk, if_neg (by rintro ⟨h5, h6⟩; rw [hg87] at h5; cases h5)]
      first
      | exact if_pos ⟨hg87, .inl (by simpa using hg90)⟩
      | exact if_pos ⟨hg87, .inr (by simpa using h84)⟩
    rw [e9]
    exact ⟨_, _, [], [], rfl, Ob.nil _, Ob.nil _, rfl⟩)
 | (have e9 : askK e ks n = (1, Kp.z, 0) := by
      rw [askK_two hgood (by omega) hfk.symm hgk]
      first
      | rw [if_neg (by rintro ⟨h5, h6⟩; rw [hg87] at h5; cases h5), if_neg (by
          rintro ⟨h5, h6⟩
          exact h6.elim (fun h6 => by rw [h6] at hg90; exact absurd hg90 (by decide)) (fun h6 => absurd h6 (by simpa using h84)))]
      | rw [if_neg (by
          rintro ⟨h5, h6⟩
          first
          | (rw [h6] at h76; exact absurd h76 (by decide))
          | (rw [h5] at hg80; exact absurd hg80 (by decide))), if_neg (by rintro ⟨h5, h6⟩; rw [hg87] at h5; cases h5)]
    rw [e9]
    exact ⟨_, _, [], [], rfl, Ob.nil _, Ob.nil _, rfl⟩)
 refine gy_ 90 rfl rfl rfl (Yd.fieldAddr (k := 4) kr_ rfl) ?_
 refine WL.gh (dj := 90) rfl rfl rfl (Hd.load1 kr_ rfl mem_ (by rfl) ⟨_, rfl, ?_⟩)
 refine gy_ 90 rfl rfl rfl (Yd.eql rfl rfl) (gy_ 87 rfl rfl rfl (Yd.pickF rfl rfl) (WL.y rfl (Yd.pickT rfl rfl) (a_ rfl rfl (nt_ (WC.cond rfl (fun h84 => ?_) (fun h84 => ?_))))))
 refine sr_ (WL.y rfl (Yd.buildL (pl := [(0, 1), (1, 1), (2, 1), (3, 1), (4, 1), (5, 1)]) (zs := [.int .u32 0, .int .i64 0, .bool false, .slice none 0 0, .int .i64 0, .slice none 0 0]) (parts := []) (vs := []) (cells := [.int .u32 0, .int .i64 0, .bool false, .slice none 0 0, .int .i64 0, .slice none 0 0]) kr_ kr_ rfl rfl) ?_)
 refine a_ rfl rfl (WL.s (Hd.storeAll (n := 6) kr_ rfl rfl (by rfl) one_ fr_ (by rfl) ⟨rfl, ?_⟩))
 refine a_ rfl rfl (nt_ (WC.ret (DN.block_ret (DN.then_ret (DN.retTCT (s := 6) (H) Tryz.results55 kr_ rfl rfl rfl mem_ (by rfl) sp_ ?_)))))
 first
 | (have e9 : askK e ks n = (3, Kp.z, 0) := by rw [askK_two hgood (by omega) hfk.symm hgk]; exact if_pos ⟨by simpa using hg80, h76⟩
    rw [e9]
    exact ⟨_, _, [], [], rfl, Ob.nil _, Ob.nil _, rfl⟩)
 | (have e9 : askK e ks n = (4, Kp.z, 0) := by
      rw [askK_two hgood (by omega) hfk.symm hgk, if_neg (by rintro ⟨h5, h6⟩; rw [hg87] at h5; cases h5)]
      first
      | exact if_pos ⟨hg87, .inl (by simpa using hg90)⟩
      | exact if_pos ⟨hg87, .inr (by simpa using h84)⟩
    rw [e9]
    exact ⟨_, _, [], [], rfl, Ob.nil _, Ob.nil _, rfl⟩)
 | (have e9 : askK e ks n = (1, Kp.z, 0) := by
      rw [askK_two hgood (by omega) hfk.symm hgk]
      first
      | rw [if_neg (by rintro ⟨h5, h6⟩; rw [hg87] at h5; cases h5), if_neg (by
          rintro ⟨h5, h6⟩
          exact h6.elim (fun h6 => by rw [h6] at hg90; exact absurd hg90 (by decide)) (fun h6 => absurd h6 (by simpa using h84)))]
      | rw [if_neg (by
          rintro ⟨h5, h6⟩
          first
          | (rw [h6] at h76; exact absurd h76 (by decide))
          | (rw [h5] at hg80; exact absurd hg80 (by decide))), if_neg (by rintro ⟨h5, h6⟩; rw [hg87] at h5; cases h5)]
    rw [e9]
    exact ⟨_, _, [], [], rfl, Ob.nil _, Ob.nil _, rfl⟩)
 refine WC.skip (DN.block_normal (ts_ (WC.region (WL.y rfl (Yd.buildL (pl := [(0, 1), (1, 1), (2, 1), (3, 1), (4, 1), (5, 1)]) (zs := [.int .u32 0, .int .i64 0, .bool false, .slice none 0 0, .int .i64 0, .slice none 0 0]) (parts := []) (vs := []) (cells := [.int .u32 0, .int .i64 0, .bool false, .slice none 0 0, .int .i64 0, .slice none 0 0]) kr_ kr_ rfl rfl) ?_))))
 refine a_ rfl rfl (WL.s (Hd.storeAll (n := 6) kr_ rfl rfl (by rfl) one_ fr_ (by rfl) ⟨rfl, ?_⟩))
 refine a_ rfl rfl (nt_ (WC.ret (DN.retTCT (s := 6) (H) Tryz.results55 kr_ rfl rfl rfl mem_ (by rfl) sp_ ?_)))
 first
 | (have e9 : askK e ks n = (3, Kp.z, 0) := by rw [askK_two hgood (by omega) hfk.symm hgk]; exact if_pos ⟨by simpa using hg80, h76⟩
    rw [e9]
    exact ⟨_, _, [], [], rfl, Ob.nil _, Ob.nil _, rfl⟩)
 | (have e9 : askK e ks n = (4, Kp.z, 0) := by
      rw [askK_two hgood (by omega) hfk.symm hgk, if_neg (by rintro ⟨h5, h6⟩; rw [hg87] at h5; cases h5)]
      first
      | exact if_pos ⟨hg87, .inl (by simpa using hg90)⟩
      | exact if_pos ⟨hg87, .inr (by simpa using h84)⟩
    rw [e9]
    exact ⟨_, _, [], [], rfl, Ob.nil _, Ob.nil _, rfl⟩)
 | (have e9 : askK e ks n = (1, Kp.z, 0) := by
      rw [askK_two hgood (by omega) hfk.symm hgk]
      first
      | rw [if_neg (by rintro ⟨h5, h6⟩; rw [hg87] at h5; cases h5), if_neg (by
          rintro ⟨h5, h6⟩
          exact h6.elim (fun h6 => by rw [h6] at hg90; exact absurd hg90 (by decide)) (fun h6 => absurd h6 (by simpa using h84)))]
      | rw [if_neg (by
          rintro ⟨h5, h6⟩
          first
          | (rw [h6] at h76; exact absurd h76 (by decide))
          | (rw [h5] at hg80; exact absurd hg80 (by decide))), if_neg (by rintro ⟨h5, h6⟩; rw [hg87] at h5; cases h5)]
    rw [e9]
    exact ⟨_, _, [], [], rfl, Ob.nil _, Ob.nil _, rfl⟩)
 iterate 3 refine gn_ 87 rfl rfl rfl rfl ?_
 iterate 3 refine gu_ 90 rfl rfl rfl ?_
 refine gn_ 87 rfl rfl rfl rfl (WL.y rfl (Yd.pickF rfl rfl) (a_ rfl rfl (nt_ (WC.no rfl (WC.skip (DN.block_normal (ts_ (WC.region (WL.y rfl (Yd.buildL (pl := [(0, 1), (1, 1), (2, 1), (3, 1), (4, 1), (5, 1)]) (zs := [.int .u32 0, .int .i64 0, .bool false, .slice none 0 0, .int .i64 0, .slice none 0 0]) (parts := []) (vs := []) (cells := [.int .u32 0, .int .i64 0, .bool false, .slice none 0 0, .int .i64 0, .slice none 0 0]) kr_ kr_ rfl rfl) ?_)))))))))
 refine a_ rfl rfl (WL.s (Hd.storeAll (n := 6) kr_ rfl rfl (by rfl) one_ fr_ (by rfl) ⟨rfl, ?_⟩))
 refine a_ rfl rfl (nt_ (WC.ret (DN.retTCT (s := 6) (H) Tryz.results55 kr_ rfl rfl rfl mem_ (by rfl) sp_ ?_)))
 first
 | (have e9 : askK e ks n = (3, Kp.z, 0) := by rw [askK_two hgood (by omega) hfk.symm hgk]; exact if_pos ⟨by simpa using hg80, h76⟩
    rw [e9]
    exact ⟨_, _, [], [], rfl, Ob.nil _, Ob.nil _, rfl⟩)
 | (have e9 : askK e ks n = (4, Kp.z, 0) := by
      rw [askK_two hgood (by omega) hfk.symm hgk, if_neg (by rintro ⟨h5, h6⟩; rw [hg87] at h5; cases h5)]
      first
      | exact if_pos ⟨hg87, .inl (by simpa using hg90)⟩
      | exact if_pos ⟨hg87, .inr (by simpa using h84)⟩
    rw [e9]
    exact ⟨_, _, [], [], rfl, Ob.nil _, Ob.nil _, rfl⟩)
 | (have e9 : askK e ks n = (1, Kp.z, 0) := by
      rw [askK_two hgood (by omega) hfk.symm hgk]
      first
      | rw [if_neg (by rintro ⟨h5, h6⟩; rw [hg87] at h5; cases h5), if_neg (by
          rintro ⟨h5, h6⟩
          exact h6.elim (fun h6 => by rw [h6] at hg90; exact absurd hg90 (by decide)) (fun h6 => absurd h6 (by simpa using h84)))]
      | rw [if_neg (by
          rintro ⟨h5, h6⟩
          first
          | (rw [h6] at h76; exact absurd h76 (by decide))
          | (rw [h5] at hg80; exact absurd hg80 (by decide))), if_neg (by rintro ⟨h5, h6⟩; rw [hg87] at h5; cases h5)]
    rw [e9]
    exact ⟨_, _, [], [], rfl, Ob.nil _, Ob.nil _, rfl⟩)
 refine gn_ 80 rfl rfl rfl rfl (WL.y rfl (Yd.pickF rfl rfl) (a_ rfl rfl (nt_ (WC.no rfl (sr_ (f_ 7 kr_ rfl rfl ?_))))))
 refine d_ kr_ rfl mem_ (by rfl) rfl ?_
 refine m_ rfl rfl (WL.part (t := 87) rfl (fun hg87 => ?_) (fun hg87 => ?_))
 refine gy_ 87 rfl rfl rfl (Yd.move rfl) (gy_ 87 rfl rfl rfl (Yd.notB rfl) (gy_ 87 rfl rfl rfl (Yd.move rfl) (WL.part (t := 90) rfl (fun hg90 => ?_) (fun hg90 => ?_))))
 iterate 3 refine gn_ 90 rfl rfl rfl rfl ?_
 refine gy_ 87 rfl rfl rfl (Yd.pickT rfl rfl) (WL.y rfl (Yd.pickT rfl rfl) (a_ rfl rfl (nt_ (WC.yes rfl (sr_ (WL.y rfl (Yd.buildL (pl := [(0, 1), (1, 1), (2, 1), (3, 1), (4, 1), (5, 1)]) (zs := [.int .u32 0, .int .i64 0, .bool false, .slice none 0 0, .int .i64 0, .slice none 0 0]) (parts := []) (vs := []) (cells := [.int .u32 0, .int .i64 0, .bool false, .slice none 0 0, .int .i64 0, .slice none 0 0]) kr_ kr_ rfl rfl) ?_))))))
 refine a_ rfl rfl (WL.s (Hd.storeAll (n := 6) kr_ rfl rfl (by rfl) one_ fr_ (by rfl) ⟨rfl, ?_⟩))
 refine a_ rfl rfl (nt_ (WC.ret (DN.block_ret (DN.then_ret (DN.retTCT (s := 6) (H) Tryz.results55 kr_ rfl rfl rfl mem_ (by rfl) sp_ ?_)))))
 first
 | (have e9 : askK e ks n = (3, Kp.z, 0) := by rw [askK_two hgood (by omega) hfk.symm hgk]; exact if_pos ⟨by simpa using hg80, h76⟩
    rw [e9]
    exact ⟨_, _, [], [], rfl, Ob.nil _, Ob.nil _, rfl⟩)
 | (have e9 : askK e ks n = (4, Kp.z, 0) := by
      rw [askK_two hgood (by omega) hfk.symm hgk, if_neg (by rintro ⟨h5, h6⟩; rw [hg87] at h5; cases h5)]
      first
      | exact if_pos ⟨hg87, .inl (by simpa using hg90)⟩
      | exact if_pos ⟨hg87, .inr (by simpa using h84)⟩
    rw [e9]
    exact ⟨_, _, [], [], rfl, Ob.nil _, Ob.nil _, rfl⟩)
 | (have e9 : askK e ks n = (1, Kp.z, 0) := by
      rw [askK_two hgood (by omega) hfk.symm hgk]
      first
      | rw [if_neg (by rintro ⟨h5, h6⟩; rw [hg87] at h5; cases h5), if_neg (by
          rintro ⟨h5, h6⟩
          exact h6.elim (fun h6 => by rw [h6] at hg90; exact absurd hg90 (by decide)) (fun h6 => absurd h6 (by simpa using h84)))]
      | rw [if_neg (by
          rintro ⟨h5, h6⟩
          first
          | (rw [h6] at h76; exact absurd h76 (by decide))
          | (rw [h5] at hg80; exact absurd hg80 (by decide))), if_neg (by rintro ⟨h5, h6⟩; rw [hg87] at h5; cases h5)]
    rw [e9]
    exact ⟨_, _, [], [], rfl, Ob.nil _, Ob.nil _, rfl⟩)
 refine gy_ 90 rfl rfl rfl (Yd.fieldAddr (k := 4) kr_ rfl) ?_
 refine WL.gh (dj := 90) rfl rfl rfl (Hd.load1 kr_ rfl mem_ (by rfl) ⟨_, rfl, ?_⟩)
 refine gy_ 90 rfl rfl rfl (Yd.eql rfl rfl) (gy_ 87 rfl rfl rfl (Yd.pickF rfl rfl) (WL.y rfl (Yd.pickT rfl rfl) (a_ rfl rfl (nt_ (WC.cond rfl (fun h84 => ?_) (fun h84 => ?_))))))
 refine sr_ (WL.y rfl (Yd.buildL (pl := [(0, 1), (1, 1), (2, 1), (3, 1), (4, 1), (5, 1)]) (zs := [.int .u32 0, .int .i64 0, .bool false, .slice none 0 0, .int .i64 0, .slice none 0 0]) (parts := []) (vs := []) (cells := [.int .u32 0, .int .i64 0, .bool false, .slice none 0 0, .int .i64 0, .slice none 0 0]) kr_ kr_ rfl rfl) ?_)
 refine a_ rfl rfl (WL.s (Hd.storeAll (n := 6) kr_ rfl rfl (by rfl) one_ fr_ (by rfl) ⟨rfl, ?_⟩))
 refine a_ rfl rfl (nt_ (WC.ret (DN.block_ret (DN.then_ret (DN.retTCT (s := 6) (H) Tryz.results55 kr_ rfl rfl rfl mem_ (by rfl) sp_ ?_)))))
 first
 | (have e9 : askK e ks n = (3, Kp.z, 0) := by rw [askK_two hgood (by omega) hfk.symm hgk]; exact if_pos ⟨by simpa using hg80, h76⟩
    rw [e9]
    exact ⟨_, _, [], [], rfl, Ob.nil _, Ob.nil _, rfl⟩)
 | (have e9 : askK e ks n = (4, Kp.z, 0) := by
      rw [askK_two hgood (by omega) hfk.symm hgk, if_neg (by rintro ⟨h5, h6⟩; rw [hg87] at h5; cases h5)]
      first
      | exact if_pos ⟨hg87, .inl (by simpa using hg90)⟩
      | exact if_pos ⟨hg87, .inr (by simpa using h84)⟩
    rw [e9]
    exact ⟨_, _, [], [], rfl, Ob.nil _, Ob.nil _, rfl⟩)
 | (have e9 : askK e ks n = (1, Kp.z, 0) := by
      rw [askK_two hgood (by omega) hfk.symm hgk]
      first
      | rw [if_neg (by rintro ⟨h5, h6⟩; rw [hg87] at h5; cases h5), if_neg (by
          rintro ⟨h5, h6⟩
          exact h6.elim (fun h6 => by rw [h6] at hg90; exact absurd hg90 (by decide)) (fun h6 => absurd h6 (by simpa using h84)))]
      | rw [if_neg (by
          rintro ⟨h5, h6⟩
          first
          | (rw [h6] at h76; exact absurd h76 (by decide))
          | (rw [h5] at hg80; exact absurd hg80 (by decide))), if_neg (by rintro ⟨h5, h6⟩; rw [hg87] at h5; cases h5)]
    rw [e9]
    exact ⟨_, _, [], [], rfl, Ob.nil _, Ob.nil _, rfl⟩)
 refine WC.skip (DN.block_normal (ts_ (WC.region (WL.y rfl (Yd.buildL (pl := [(0, 1), (1, 1), (2, 1), (3, 1), (4, 1), (5, 1)]) (zs := [.int .u32 0, .int .i64 0, .bool false, .slice none 0 0, .int .i64 0, .slice none 0 0]) (parts := []) (vs := []) (cells := [.int .u32 0, .int .i64 0, .bool false, .slice none 0 0, .int .i64 0, .slice none 0 0]) kr_ kr_ rfl rfl) ?_))))
 refine a_ rfl rfl (WL.s (Hd.storeAll (n := 6) kr_ rfl rfl (by rfl) one_ fr_ (by rfl) ⟨rfl, ?_⟩))
 refine a_ rfl rfl (nt_ (WC.ret (DN.retTCT (s := 6) (H) Tryz.results55 kr_ rfl rfl rfl mem_ (by rfl) sp_ ?_)))
 first
 | (have e9 : askK e ks n = (3, Kp.z, 0) := by rw [askK_two hgood (by omega) hfk.symm hgk]; exact if_pos ⟨by simpa using hg80, h76⟩
    rw [e9]
    exact ⟨_, _, [], [], rfl, Ob.nil _, Ob.nil _, rfl⟩)
 | (have e9 : askK e ks n = (4, Kp.z, 0) := by
      rw [askK_two hgood (by omega) hfk.symm hgk, if_neg (by rintro ⟨h5, h6⟩; rw [hg87] at h5; cases h5)]
      first
      | exact if_pos ⟨hg87, .inl (by simpa using hg90)⟩
      | exact if_pos ⟨hg87, .inr (by simpa using h84)⟩
    rw [e9]
    exact ⟨_, _, [], [], rfl, Ob.nil _, Ob.nil _, rfl⟩)
 | (have e9 : askK e ks n = (1, Kp.z, 0) := by
      rw [askK_two hgood (by omega) hfk.symm hgk]
      first
      | rw [if_neg (by rintro ⟨h5, h6⟩; rw [hg87] at h5; cases h5), if_neg (by
          rintro ⟨h5, h6⟩
          exact h6.elim (fun h6 => by rw [h6] at hg90; exact absurd hg90 (by decide)) (fun h6 => absurd h6 (by simpa using h84)))]
      | rw [if_neg (by
          rintro ⟨h5, h6⟩
          first
          | (rw [h6] at h76; exact absurd h76 (by decide))
          | (rw [h5] at hg80; exact absurd hg80 (by decide))), if_neg (by rintro ⟨h5, h6⟩; rw [hg87] at h5; cases h5)]
    rw [e9]
    exact ⟨_, _, [], [], rfl, Ob.nil _, Ob.nil _, rfl⟩)
 iterate 3 refine gn_ 87 rfl rfl rfl rfl ?_
 iterate 3 refine gu_ 90 rfl rfl rfl ?_
 refine gn_ 87 rfl rfl rfl rfl (WL.y rfl (Yd.pickF rfl rfl) (a_ rfl rfl (nt_ (WC.no rfl (WC.skip (DN.block_normal (ts_ (WC.region (WL.y rfl (Yd.buildL (pl := [(0, 1), (1, 1), (2, 1), (3, 1), (4, 1), (5, 1)]) (zs := [.int .u32 0, .int .i64 0, .bool false, .slice none 0 0, .int .i64 0, .slice none 0 0]) (parts := []) (vs := []) (cells := [.int .u32 0, .int .i64 0, .bool false, .slice none 0 0, .int .i64 0, .slice none 0 0]) kr_ kr_ rfl rfl) ?_)))))))))
 refine a_ rfl rfl (WL.s (Hd.storeAll (n := 6) kr_ rfl rfl (by rfl) one_ fr_ (by rfl) ⟨rfl, ?_⟩))
 refine a_ rfl rfl (nt_ (WC.ret (DN.retTCT (s := 6) (H) Tryz.results55 kr_ rfl rfl rfl mem_ (by rfl) sp_ ?_)))
 first
 | (have e9 : askK e ks n = (3, Kp.z, 0) := by rw [askK_two hgood (by omega) hfk.symm hgk]; exact if_pos ⟨by simpa using hg80, h76⟩
    rw [e9]
    exact ⟨_, _, [], [], rfl, Ob.nil _, Ob.nil _, rfl⟩)
 | (have e9 : askK e ks n = (4, Kp.z, 0) := by
      rw [askK_two hgood (by omega) hfk.symm hgk, if_neg (by rintro ⟨h5, h6⟩; rw [hg87] at h5; cases h5)]
      first
      | exact if_pos ⟨hg87, .inl (by simpa using hg90)⟩
      | exact if_pos ⟨hg87, .inr (by simpa using h84)⟩
    rw [e9]
    exact ⟨_, _, [], [], rfl, Ob.nil _, Ob.nil _, rfl⟩)
 | (have e9 : askK e ks n = (1, Kp.z, 0) := by
      rw [askK_two hgood (by omega) hfk.symm hgk]
      first
      | rw [if_neg (by rintro ⟨h5, h6⟩; rw [hg87] at h5; cases h5), if_neg (by
          rintro ⟨h5, h6⟩
          exact h6.elim (fun h6 => by rw [h6] at hg90; exact absurd hg90 (by decide)) (fun h6 => absurd h6 (by simpa using h84)))]
      | rw [if_neg (by
          rintro ⟨h5, h6⟩
          first
          | (rw [h6] at h76; exact absurd h76 (by decide))
          | (rw [h5] at hg80; exact absurd hg80 (by decide))), if_neg (by rintro ⟨h5, h6⟩; rw [hg87] at h5; cases h5)]
    rw [e9]
    exact ⟨_, _, [], [], rfl, Ob.nil _, Ob.nil _, rfl⟩)
end Go.Proofs.YtkamlondepceiaaGreat

set_option linter.unusedVariables false
set_option linter.unusedSimpArgs false
set_option maxHeartbeats 2000000
namespace Go.Proofs.YtkamlondepceiaaGreat
open Go.SL
section
variable {act er code : Int} {kk : Kp} {n : Nt} {reply : List (BitVec 8)}
theorem keep_no (h42 : (!decide (rightP (stepK n code reply))) = false) : keepBad (act, kk, er) (stepK n code reply) ↔ (act = 3 ∧ code ≠ 2) ∨ (act = 4 ∧ code ≠ 1) := by
  have h : rightP (stepK n code reply) := by simpa using h42
  unfold keepBad
  exact ⟨fun h9 => h9.elim (fun h9 => absurd h h9) id, .inr⟩
theorem keep_z0 (h42 : (!decide (rightP (stepK n code reply))) = true) : (true = true ↔ keepBad (act, kk, er) (stepK n code reply)) := ⟨fun _ => .inl (by simpa using h42), fun _ => rfl⟩
theorem keep_z1 (h42 : (!decide (rightP (stepK n code reply))) = false) (h45 : decide (act = 3) = true) (h50 : decide (code ≠ 2) = true) : (true = true ↔ keepBad (act, kk, er) (stepK n code reply)) := by
  rw [keep_no h42]
  exact ⟨fun _ => .inl ⟨of_decide_eq_true h45, of_decide_eq_true h50⟩, fun _ => rfl⟩
theorem keep_z2 (h42 : (!decide (rightP (stepK n code reply))) = false) (h45 : decide (act = 3) = true) (h50 : decide (code ≠ 2) = false) (h53 : decide (act = 4) = true) : (decide (code ≠ 1) = true ↔ keepBad (act, kk, er) (stepK n code reply)) := by
  have h1 := of_decide_eq_true h45
  have h2 := of_decide_eq_true h53
  omega
theorem keep_z3 (h42 : (!decide (rightP (stepK n code reply))) = false) (h45 : decide (act = 3) = true) (h50 : decide (code ≠ 2) = false) (h53 : decide (act = 4) = false) : (false = true ↔ keepBad (act, kk, er) (stepK n code reply)) := by
  rw [keep_no h42]
  have h1 := of_decide_eq_true h45
  have h2 := of_decide_eq_false h50
  exact ⟨fun h => absurd h (by decide), fun h => by omega⟩
theorem keep_z4 (h42 : (!decide (rightP (stepK n code reply))) = false) (h45 : decide (act = 3) = false) (h53 : decide (act = 4) = true) : (decide (code ≠ 1) = true ↔ keepBad (act, kk, er) (stepK n code reply)) := by
  rw [keep_no h42, decide_eq_true_eq]
  have h1 := of_decide_eq_false h45
  have h2 := of_decide_eq_true h53
  omega
theorem keep_z5 (h42 : (!decide (rightP (stepK n code reply))) = false) (h45 : decide (act = 3) = false) (h53 : decide (act = 4) = false) : (false = true ↔ keepBad (act, kk, er) (stepK n code reply)) := by
  rw [keep_no h42]
  have h1 := of_decide_eq_false h45
  have h2 := of_decide_eq_false h53
  exact ⟨fun h => absurd h (by decide), fun h => by omega⟩
end
theorem keep_tells (e : BitVec 32) (v : Value) (ks : List Kp) (H : List Ck) (hv : KV v ks H) (hl : ks.length ≤ 9223372036854775807) (n : Nt) (vk vd : Value) (hvk : Bs vk n.key H) (hvd : Bs vd n.data H) (code : Int) (vr : Value) (reply : List (BitVec 8)) (hvr : Bs vr reply H) : Tells Tryz.prog 59 [.agg #[.int .u32 e.toNat, v], .agg (ntc n vk vd).toArray, .int .i64 code, vr] H fun r H' => ∃ w D, r = .tuple #[.agg #[.int .u32 (keepK e ks n code reply).1.toNat, w], .int .i64 (keepK e ks n code reply).2.2] ∧ FAt 5 118 w (keepK e ks n code reply).2.1 D ∧ H' = D ++ H := by
 refine Tells.enter Tryz.func59 rfl Tryz.ntmps59 rfl ?_
 intro w0 R
 obtain ⟨ao, c, rfl, hc⟩ := hv.form
 obtain ⟨ko, kcap, rfl, hkc⟩ := hvk.form
 obtain ⟨do_, dc, rfl, hdc⟩ := hvd.form
 obtain ⟨ro, rc, rfl, hrc⟩ := hvr.form
 refine sr_ (WL.h rfl (Hd.boxA rfl fun b4 => ⟨_, rfl, ?_⟩))
 refine WL.h rfl (Hd.boxA rfl fun b5 => ⟨_, rfl, ?_⟩)
 refine WL.h rfl (Hd.alloc (zs := [.int .u32 0, .slice none 0 0]) kr_ fun b8 => ⟨_, rfl, ?_⟩)
 refine a_ rfl rfl (ntsr_ (WL.h rfl (Hd.loadAll (n := 2) kr_ rfl mem_ (by rfl) ⟨_, rfl, ?_⟩)))
 refine WL.h rfl (Hd.loadAll (n := 11) kr_ rfl mem_ (by rfl) ⟨_, rfl, ?_⟩)
 refine WL.c rfl (Ent.func Tryz.call55 rfl) (ask_tells e _ ks H hv hl n _ _ hvk hvd) (Sp.p sp_) ?_
 rintro x H1 ⟨wa, wr, A, B, rfl, hA, hB, rfl⟩
 obtain ⟨q, hq⟩ : ∃ q, q = askK e ks n := ⟨_, rfl⟩
 rw [← hq] at hA hB ⊢
 obtain ⟨act, kk, er⟩ := q
 dsimp only at hA hB ⊢
 obtain ⟨oa, ca, rfl, _⟩ := hA.form
 obtain ⟨or_, cr, rfl, _⟩ := hB.form
 refine m_ rfl rfl ?_
 iterate 3 refine x_ rfl rfl rfl ?_
 refine WL.h rfl (Hd.alloc (zs := [.int .u32 0, .int .i64 0, .bool false, .slice none 0 0, .int .i64 0, .slice none 0 0]) kr_ fun b11 => ⟨_, rfl, ?_⟩)
 refine a_ rfl rfl (WL.s (Hd.storeAll (n := 6) kr_ rfl rfl (by rfl) (kc_one rfl rfl) fr_ (by rfl) ⟨rfl, ?_⟩))
 refine a_ rfl rfl (nt_ (WC.seq (sr_ (m_ rfl rfl (WL.y rfl (Yd.neq rfl rfl) (nt_ (WC.ite rfl (fun h24 => ?_) (fun h24 => ?_))))))))
 refine sr_ (WL.y rfl (Yd.buildL (pl := [(0, 1), (1, 1)]) (zs := [.int .u32 0, .slice none 0 0]) (parts := []) (vs := []) (cells := [.int .u32 0, .slice none 0 0]) kr_ kr_ rfl rfl) ?_)
 refine m_ rfl rfl (WL.s (Hd.storeAll (n := 2) kr_ rfl rfl (by rfl) one_ fr_ (by rfl) ⟨rfl, ?_⟩))
 refine a_ rfl rfl (nt_ (WC.ret (DN.then_ret (DN.retCT (s := 2) (H) Tryz.results59 kr_ rfl rfl mem_ (by rfl) sp_ ?_))))
 rw [keepK_err (by rw [← hq]; exact h24), ← hq]
 exact ⟨_, [], rfl, FAt.nil _ _, rfl⟩
 refine WC.skip (ts_ (WC.region ?_))
 have hgo := askK_ok (show (askK e ks n).2.2 = 0 by rw [← hq]; exact Classical.byContradiction h24)
 have hck := good_chk hgo.1
 refine f_ 5 kr_ rfl rfl ?_
 refine d_ kr_ rfl mem_ (by rfl) rfl ?_
 refine f_ 6 kr_ rfl rfl ?_
 refine d_ kr_ rfl mem_ (by rfl) rfl ?_
 refine f_ 7 kr_ rfl rfl ?_
 refine d_ kr_ rfl mem_ (by rfl) rfl ?_
 refine f_ 10 kr_ rfl rfl ?_
 refine d_ kr_ rfl mem_ (by rfl) rfl ?_
 refine m_ rfl rfl (m_ rfl rfl (WL.y rfl (Yd.buildL (pl := [(0, 1), (1, 1), (2, 1), (3, 1), (4, 1), (5, 1)]) (zs := [.int .u32 0, .int .i64 0, .bool false, .slice none 0 0, .int .i64 0, .slice none 0 0]) (parts := [(0, .tmp 28), (1, .tmp 30), (2, .tmp 32), (3, .tmp 34), (4, .tmp 35), (5, .tmp 36)]) (vs := [(0, _), (1, _), (2, _), (3, _), (4, _), (5, _)]) (cells := [_, _, _, _, _, _]) kr_ kr_ rfl rfl) ?_))
 refine WL.h rfl (Hd.alloc (zs := [.int .u32 0, .int .i64 0, .bool false, .slice none 0 0, .int .i64 0, .slice none 0 0]) kr_ fun b13 => ⟨_, rfl, ?_⟩)
 refine WL.s (Hd.storeAll (n := 6) kr_ rfl rfl (by rfl) one_ fr_ (by rfl) ⟨rfl, ?_⟩)
 refine nt_ (WC.seq (WC.block (WC.cutK (fun z : Bool => z = true ↔ keepBad (act, kk, er) (stepK n code reply)) (fun z : Bool => [(38, .bool z)]) (fun z : Bool => row b13 (kc (stepK n code reply) (.slice do_ n.data.length dc) (.slice ro reply.length rc)) 118 :: row b11 (kc kk (.slice oa kk.asked.length ca) (.slice or_ kk.reply.length cr)) 118 :: (A ++ (B ++ (row b4 [.int .u32 e.toNat, .slice ao ks.length c] 82 :: row b5 (ntc n (.slice ko n.key.length kcap) (.slice do_ n.data.length dc)) 52 :: row b8 [.int .u32 0, .slice none 0 0] 82 :: H)))) ?_ ?_)))
 refine WC.region (WL.h rfl (Hd.loadAll (n := 6) kr_ rfl mem_ (by rfl) ⟨_, rfl, ?_⟩))
 refine WL.r rfl (Ent.func Tryz.call92 rfl) (right_reads (stepK n code reply) (.slice do_ n.data.length dc) (.slice ro reply.length rc) ⟨_, _, rfl⟩ ⟨_, _, rfl⟩ _) (WL.y rfl (Yd.notB rfl) (m_ rfl rfl (WL.part (t := 42) rfl (fun hg42 => ?_) (fun hg42 => ?_))))
 iterate 3 refine gn_ 42 rfl rfl rfl rfl ?_
 refine gu_ 45 rfl rfl rfl (gu_ 45 rfl rfl rfl (gn_ 42 rfl rfl rfl rfl (WL.y rfl (Yd.pickT rfl rfl) (m_ rfl rfl ?_))))
 iterate 3 refine gn_ 50 rfl rfl rfl rfl ?_
 exact gu_ 53 rfl rfl rfl (gu_ 53 rfl rfl rfl (gn_ 50 rfl rfl rfl rfl (WL.y rfl (Yd.pickT rfl rfl) (a_ rfl rfl (WL.nil (DN.reachK (_) (by first | exact keep_z0 hg42 | exact keep_z1 hg42 hg45 hg50 | exact keep_z2 hg42 hg45 hg50 hg53 | exact keep_z3 hg42 hg45 hg50 hg53 | exact keep_z4 hg42 hg45 hg53 | exact keep_z5 hg42 hg45 hg53) (Sx.put rfl (sx_)) (Sp.all sp_)))))))
 refine gy_ 42 rfl rfl rfl (Yd.move rfl) (gy_ 42 rfl rfl rfl (Yd.eql rfl rfl) (gy_ 42 rfl rfl rfl (Yd.move rfl) (WL.part (t := 45) rfl (fun hg45 => ?_) (fun hg45 => ?_))))
 refine gy_ 45 rfl rfl rfl (Yd.move rfl) (gy_ 45 rfl rfl rfl (Yd.neq rfl rfl) (gy_ 42 rfl rfl rfl (Yd.pickT rfl rfl) (WL.y rfl (Yd.pickF rfl rfl) (m_ rfl rfl (WL.part (t := 50) rfl (fun hg50 => ?_) (fun hg50 => ?_))))))
 iterate 3 refine gn_ 50 rfl rfl rfl rfl ?_
 exact gu_ 53 rfl rfl rfl (gu_ 53 rfl rfl rfl (gn_ 50 rfl rfl rfl rfl (WL.y rfl (Yd.pickT rfl rfl) (a_ rfl rfl (WL.nil (DN.reachK (_) (by first | exact keep_z0 hg42 | exact keep_z1 hg42 hg45 hg50 | exact keep_z2 hg42 hg45 hg50 hg53 | exact keep_z3 hg42 hg45 hg50 hg53 | exact keep_z4 hg42 hg45 hg53 | exact keep_z5 hg42 hg45 hg53) (Sx.put rfl (sx_)) (Sp.all sp_)))))))
 refine gy_ 50 rfl rfl rfl (Yd.move rfl) (gy_ 50 rfl rfl rfl (Yd.eql rfl rfl) (gy_ 50 rfl rfl rfl (Yd.move rfl) (WL.part (t := 53) rfl (fun hg53 => ?_) (fun hg53 => ?_))))
 exact gy_ 53 rfl rfl rfl (Yd.move rfl) (gy_ 53 rfl rfl rfl (Yd.neq rfl rfl) (gy_ 50 rfl rfl rfl (Yd.pickT rfl rfl) (WL.y rfl (Yd.pickF rfl rfl) (a_ rfl rfl (WL.nil (DN.reachK (_) (by first | exact keep_z0 hg42 | exact keep_z1 hg42 hg45 hg50 | exact keep_z2 hg42 hg45 hg50 hg53 | exact keep_z3 hg42 hg45 hg50 hg53 | exact keep_z4 hg42 hg45 hg53 | exact keep_z5 hg42 hg45 hg53) (Sx.put rfl (sx_)) (Sp.all sp_)))))))
 exact gn_ 53 rfl rfl rfl rfl (gn_ 53 rfl rfl rfl rfl (gy_ 50 rfl rfl rfl (Yd.pickF rfl rfl) (WL.y rfl (Yd.pickF rfl rfl) (a_ rfl rfl (WL.nil (DN.reachK (_) (by first | exact keep_z0 hg42 | exact keep_z1 hg42 hg45 hg50 | exact keep_z2 hg42 hg45 hg50 hg53 | exact keep_z3 hg42 hg45 hg50 hg53 | exact keep_z4 hg42 hg45 hg53 | exact keep_z5 hg42 hg45 hg53) (Sx.put rfl (sx_)) (Sp.all sp_)))))))
 refine gn_ 45 rfl rfl rfl rfl (gn_ 45 rfl rfl rfl rfl (gy_ 42 rfl rfl rfl (Yd.pickF rfl rfl) (WL.y rfl (Yd.pickF rfl rfl) (m_ rfl rfl (gy_ 50 rfl rfl rfl (Yd.move rfl) (gy_ 50 rfl rfl rfl (Yd.eql rfl rfl) (gy_ 50 rfl rfl rfl (Yd.move rfl) (WL.part (t := 53) rfl (fun hg53 => ?_) (fun hg53 => ?_)))))))))
 exact gy_ 53 rfl rfl rfl (Yd.move rfl) (gy_ 53 rfl rfl rfl (Yd.neq rfl rfl) (gy_ 50 rfl rfl rfl (Yd.pickT rfl rfl) (WL.y rfl (Yd.pickF rfl rfl) (a_ rfl rfl (WL.nil (DN.reachK (_) (by first | exact keep_z0 hg42 | exact keep_z1 hg42 hg45 hg50 | exact keep_z2 hg42 hg45 hg50 hg53 | exact keep_z3 hg42 hg45 hg50 hg53 | exact keep_z4 hg42 hg45 hg53 | exact keep_z5 hg42 hg45 hg53) (Sx.put rfl (sx_)) (Sp.all sp_)))))))
 exact gn_ 53 rfl rfl rfl rfl (gn_ 53 rfl rfl rfl rfl (gy_ 50 rfl rfl rfl (Yd.pickF rfl rfl) (WL.y rfl (Yd.pickF rfl rfl) (a_ rfl rfl (WL.nil (DN.reachK (_) (by first | exact keep_z0 hg42 | exact keep_z1 hg42 hg45 hg50 | exact keep_z2 hg42 hg45 hg50 hg53 | exact keep_z3 hg42 hg45 hg50 hg53 | exact keep_z4 hg42 hg45 hg53 | exact keep_z5 hg42 hg45 hg53) (Sx.put rfl (sx_)) (Sp.all sp_)))))))
 intro z38 hz38
 refine WC.cond rfl (fun h38 => ?_) (fun h38 => ?_)
 refine sr_ (WL.y rfl (Yd.buildL (pl := [(0, 1), (1, 1)]) (zs := [.int .u32 0, .slice none 0 0]) (parts := []) (vs := []) (cells := [.int .u32 0, .slice none 0 0]) kr_ kr_ rfl rfl) ?_)
 refine WL.s (Hd.storeAll (n := 2) kr_ rfl rfl (by rfl) one_ fr_ (by rfl) ⟨rfl, ?_⟩)
 refine a_ rfl rfl (nt_ (WC.ret (DN.block_ret (DN.then_ret (DN.retCT (s := 2) (H) Tryz.results59 kr_ rfl rfl mem_ (by rfl) sp_ ?_)))))
 rw [keepK_bad (by rw [← hq]; exact h24) (by rw [← hq]; exact hz38.1 h38)]
 exact ⟨_, [], rfl, FAt.nil _ _, rfl⟩
 refine sr_ (m_ rfl rfl (WL.y rfl (Yd.eql rfl rfl) (a_ rfl rfl (nt_ (WC.ite rfl (fun h59 => ?_) (fun h59 => ?_))))))
 refine sr_ (WL.y rfl (Yd.buildL (pl := [(0, 1), (1, 1)]) (zs := [.int .u32 0, .slice none 0 0]) (parts := []) (vs := []) (cells := [.int .u32 0, .slice none 0 0]) kr_ kr_ rfl rfl) ?_)
 refine WL.s (Hd.storeAll (n := 2) kr_ rfl rfl (by rfl) one_ fr_ (by rfl) ⟨rfl, ?_⟩)
 refine a_ rfl rfl (nt_ (WC.ret (DN.block_ret (DN.then_ret (DN.retCT (s := 2) (H) Tryz.results59 kr_ rfl rfl mem_ (by rfl) sp_ ?_)))))
 rw [keepK_twice (by rw [← hq]; exact h24) (by rw [← hq]; exact fun h => by rw [hz38.2 h] at h38; cases h38) (by rw [← hq]; exact h59)]
 exact ⟨_, [], rfl, FAt.nil _ _, rfl⟩
 refine sr_ (f_ 1 kr_ rfl rfl ?_)
 refine d_ kr_ rfl mem_ (by rfl) rfl ?_
 refine WL.y rfl (Yd.len (e := 118) kr_ rfl) ?_
 refine WL.y rfl (Yd.geq rfl rfl) (a_ rfl rfl (nt_ (WC.ite rfl (fun h63 => ?_) (fun h63 => ?_))))
 refine sr_ (WL.y rfl (Yd.buildL (pl := [(0, 1), (1, 1)]) (zs := [.int .u32 0, .slice none 0 0]) (parts := []) (vs := []) (cells := [.int .u32 0, .slice none 0 0]) kr_ kr_ rfl rfl) ?_)
 refine WL.s (Hd.storeAll (n := 2) kr_ rfl rfl (by rfl) one_ fr_ (by rfl) ⟨rfl, ?_⟩)
 refine a_ rfl rfl (nt_ (WC.ret (DN.block_ret (DN.then_ret (DN.retCT (s := 2) (H) Tryz.results59 kr_ rfl rfl mem_ (by rfl) sp_ ?_)))))
 rw [keepK_full (by rw [← hq]; exact h24) (by rw [← hq]; exact fun h => by rw [hz38.2 h] at h38; cases h38) (by rw [← hq]; exact h59) (by omega)]
 exact ⟨_, [], rfl, FAt.nil _ _, rfl⟩
 refine WC.skip (DN.block_normal (ts_ (WC.draw 9 kr_ rfl ?_)))
 refine WAG.start (N := 9) rfl ?_
 have hrt : rightP (stepK n code reply) := Classical.byContradiction fun h => by rw [hz38.2 (.inl h)] at h38; cases h38
 have h200 := hck.1
 refine wq_ (wf_ (i := 0) [] rfl (QAt.rd Wt.none (Rd.loadAll (n := 2) kr_ rfl mem_ (by rfl))) kr_) kr_ ?_
 refine wq_ (wf_ (i := 1) [] rfl (QAt.rd Wt.none (Rd.loadAll (n := 6) kr_ rfl mem_ (by rfl))) kr_) kr_ ?_
 refine wq_ (wf_ (i := 2) [1] rfl (QAt.rf Wt.none (Ent.func Tryz.call94 rfl) (of_reads (stepK n code reply) (.slice do_ n.data.length dc) (.slice ro reply.length rc) rfl rfl _) Sp.sn) kr_) kr_ ?_
 refine wq_ (wf_ (i := 3) [2, 0] rfl (QAt.rf Wt.none (Ent.func Tryz.call93 rfl) (find_reads e _ ks _ (hv.mono gr_) hck n.order n.step n.undo hrt.2.1 hrt.2.2.1) Sp.sn) kr_) kr_ ?_
 refine wy_ 4 [3] rfl (Yd.move rfl) kr_ ?_
 refine wy_ 5 [4] rfl (Yd.extract rfl rfl) kr_ ?_
 refine wy_ 6 [4] rfl (Yd.extract rfl rfl) kr_ ?_
 refine wy_ 7 [5, 4, 3, 2, 1, 0] rfl (Yd.assign rfl) kr_ ?_
 refine wy_ 8 [7, 6, 5, 4, 3, 2, 1, 0] rfl (Yd.assign rfl) kr_ ?_
 refine wd_ [_, _, _, _, _, _, _, _, _] rfl kr_ ?_
 refine ts_ (WC.region (WL.h rfl (Hd.loadAll (n := 2) kr_ rfl mem_ (by rfl) ⟨_, rfl, ?_⟩)))
 refine WL.c rfl (Ent.func Tryz.call85 rfl) (all_tells e _ ks H hv hck) (Sp.p sp_) ?_
 rintro r2 H1 ⟨w, D, rfl, hF, rfl⟩
 obtain ⟨cs2, C2, D2, hO2, hK2, rfl⟩ := hF
 obtain ⟨wo, wc, rfl, hwc⟩ := hO2.form
 refine WL.s (Hd.storeAll (n := 2) kr_ rfl rfl (by rfl) one_ fr_ (by rfl) ⟨rfl, ?_⟩)
 refine ntsr_ (f_ 1 kr_ rfl rfl ?_)
 refine d_ kr_ rfl mem_ (by rfl) rfl ?_
 refine f_ 0 kr_ rfl rfl ?_
 refine WL.s (Hd.store1s kr_ rfl rfl (by rfl) fr_ (by rfl) (by first | (simp only [List.set_cons_zero, List.set_cons_succ, Nat.zero_add, Nat.add_zero, Nat.reduceAdd]; rfl) | rfl) ⟨rfl, ?_⟩)
 refine nt_ (WC.seq (WC.draw 9 kr_ rfl ?_))
 refine WAG.start (N := 9) rfl (wy_ 0 [] rfl (Yd.fieldAddr (k := 1) kr_ rfl) kr_ ?_)
 refine wq_ (wf_ (i := 1) [0] rfl (QAt.rd Wt.none (Rd.load1 kr_ rfl mem_ (by rfl))) kr_) kr_ ?_
 refine wy_ 2 [] rfl (Yd.move rfl) kr_ ?_
 refine wq_ (wf_ (i := 3) [] rfl (QAt.rd Wt.none (Rd.loadAll (n := 6) kr_ rfl mem_ (by rfl))) kr_) kr_ ?_
 refine ws_ [(4, [3])] kr_ (all_c ?_ (all_n))
 refine so_ (j := 4) [_] rfl ?_
 refine SO.c rfl Wt.none rfl (Ent.func Tryz.call96 rfl) (own_tells (stepK n code reply) (.slice do_ n.data.length dc) (.slice ro reply.length rc) H hvd hvr (by have := hrt.2.2.2.1; omega) (by have := hrt.2.2.2.2.1; omega)) (Sp.p sp_) ?_
 rintro x5 H5 ⟨wa5, wr5, A5, B5, rfl, hA5, hB5, rfl⟩
 obtain ⟨o5, c5, rfl, hc5⟩ := hA5.form
 obtain ⟨o6, c6, rfl, hc6⟩ := hB5.form
 refine wk_ [_, _, _] (_ :: ([_] ++ _)) rfl rfl (all_c (wf_ [0] rfl (QAt.rd Wt.none (Rd.load1 kr_ rfl mem_ (by rfl))) kr_) all_n) ?_
 refine ws_ [(5, [])] kr_ (all_c ?_ (all_n))
 refine so_ (j := 5) [] rfl (SO.h rfl Wt.none rfl (Hd.buildA (e := 118) (sz := 6) (zs := [.int .u32 0, .int .i64 0, .bool false, .slice none 0 0, .int .i64 0, .slice none 0 0]) kr_ kr_ kr_ rfl rfl (by rfl) kr_ fun b86 => ⟨_, rfl, ?_⟩))
 refine wk_ [_, _, _] (_ :: ([] ++ _)) rfl rfl (all_c (wf_ [0] rfl (QAt.rd Wt.none (Rd.load1 kr_ rfl mem_ (by rfl))) kr_) all_n) ?_
 refine ws_ [(6, [2, 1])] kr_ (all_c ?_ (all_n))
 refine so_ (j := 6) [_, _] rfl (SO.c rfl Wt.none rfl (Ent.func Tryz.call95 rfl) (insert_tells _ ks.length cs2 C2 hO2 hK2.one (by omega) (pos ks (stepK n code reply).num) (pos_le _ _) b86 (kc (stepK n code reply) (.slice o5 _ c5) (.slice o6 _ c6)) rfl (kc_one rfl rfl)) (Sp.p sp_) ?_)
 intro r7 H7 hO7
 obtain ⟨D7, hK7, hp7⟩ := hK2.ins (pos_le ks (stepK n code reply).num) hA5 hB5
 obtain ⟨io, ic7, rfl, hic7⟩ := hO7.form
 refine wk_ [_] (_ :: ([_, _] ++ _)) rfl rfl all_n (wy_ 7 [0] rfl (Yd.fieldAddr (k := 1) kr_ rfl) kr_ ?_)
 refine ws_ [(8, [7, 0])] kr_ (all_c ?_ (all_n))
 refine so_ (j := 8) [_, _] rfl ?_
 refine SO.s rfl Wt.none (Hd.store1s kr_ rfl rfl (by rfl) fr_ (by rfl) (by first | (simp only [List.set_cons_zero, List.set_cons_succ, Nat.zero_add, Nat.add_zero, Nat.reduceAdd]; rfl) | rfl) ⟨rfl, ?_⟩)
 refine wk_ [] (([_, _] ++ _)) rfl rfl all_n (wd_ [] rfl kr_ ?_)
 refine ts_ (WC.region (WL.h rfl (Hd.loadAll (n := 2) kr_ rfl mem_ (by rfl) ⟨_, rfl, ?_⟩)))
 refine WL.s (Hd.storeAll (n := 2) kr_ rfl rfl (by rfl) one_ fr_ (by rfl) ⟨rfl, ?_⟩)
 refine a_ rfl rfl (nt_ (WC.ret (DN.fit (C := row b8 [.int .u32 n.epoch.toNat, .slice io (ks.length + 1) ic7] 82 :: (H7 ++ ((D2 ++ (A5 ++ B5)) ++ H))) sp_ ?_)))
 refine DN.blocks (row b8 [.int .u32 n.epoch.toNat, .slice io (ks.length + 1) ic7] 82 :: (H7 ++ (D7 ++ H))) (List.Perm.cons _ (List.Perm.append_left _ (hp7.symm.append_right _))) (DN.retCT (s := 2) (H7 ++ (D7 ++ H)) Tryz.results59 kr_ rfl rfl mem_ (by rfl) sp_ ?_)
 rw [keepK_ok (by rw [← hq]; exact h24) (by rw [← hq]; exact fun h => by rw [hz38.2 h] at h38; cases h38) (by rw [← hq]; exact h59) (by omega)]
 exact ⟨_, H7 ++ D7, rfl, ⟨_, H7, D7, by rw [insAt_len _ (pos_le _ _)]; exact hO7, hK7, rfl⟩, by rw [List.append_assoc]⟩
end Go.Proofs.YtkamlondepceiaaGreat

set_option linter.unusedVariables false
set_option linter.unusedSimpArgs false
set_option maxHeartbeats 4000000
namespace Go.Proofs.YtkamlondepceiaaGreat
open Go.SL
theorem serve_tells (p : Nat) (s : Cw) (C : List Ck) (h : CwAt 189 198 203 3 5 118 111 22 116 p s C) {g0 : List Gd} {u0 : List Au} {r0 : List Int} (inv : CInv g0 u0 r0 s) (n : Nt) (vk vd : Value) (H : List Ck) (hvk : Bs vk n.key H) (hvd : Bs vd n.data H) : Tells Tryz.prog 22 [.pointer (some ⟨p, 0, none⟩), .agg (ntc n vk vd).toArray] (C ++ H) fun r H' => ∃ C' w A, r = .agg (ntc (serveN s n) (.slice none 0 0) w).toArray ∧ CwAt 189 198 203 3 5 118 111 22 116 p (serveS s n) C' ∧ Ob 5 w (serveN s n).data A ∧ H' = C' ++ (A ++ H) := by
 refine Tells.enter Tryz.func22 rfl Tryz.ntmps22 rfl ?_
 intro w0 R
 have hAt := h
 have hck := inv.ck
 have h200 := hck.1
 have hefl := inv.ef
 have hnol := inv.no
 obtain ⟨pd, ps, pp, vL, vE, vN, CS, CP, CD, CF, CE, cn, CN, DO, rfl, hS, hP, hD, hF, hE, hN, hO⟩ := h
 obtain ⟨lo, lc, rfl⟩ := hF.form
 obtain ⟨eo, ec, rfl, hec⟩ := hE.form
 obtain ⟨no, nc, rfl, hnc⟩ := hN.form
 obtain ⟨ko, kc9, rfl, hkc⟩ := hvk.form
 obtain ⟨do_, dc, rfl, hdc⟩ := hvd.form
 obtain ⟨q, hq⟩ : ∃ q, q = askK s.e s.ks n := ⟨_, rfl⟩
 have hkr : q.2.1.reply.length ≤ 255 := by rw [hq]; exact ask_reply hck
 obtain ⟨act, kk, er⟩ := q
 have hkr : kk.reply.length ≤ 255 := hkr
 have hq1 : (askK s.e s.ks n).1 = act := by rw [← hq]
 have hq2 : (askK s.e s.ks n).2.1 = kk := by rw [← hq]
 have hq3 : (askK s.e s.ks n).2.2 = er := by rw [← hq]
 refine sr_ (WL.h rfl (Hd.boxA rfl fun b3 => ⟨_, rfl, ?_⟩))
 refine WL.h rfl (Hd.alloc (zs := [.int .i64 0, .int .u32 0, .int .u32 0, .int .u64 0, .int .u64 0, .int .u32 0, .int .i64 0, .bool false, .int .i64 0, .slice none 0 0, .slice none 0 0]) kr_ fun b4 => ⟨_, rfl, ?_⟩)
 refine nt_ (WC.seq (sr_ (m_ rfl rfl (WL.y rfl (Yd.eqlNil Tryz.underlying40 rfl rfl) (WL.renamed (t := 11) (v := .bool false) rfl (congrArg Value.bool (rfl)) (nt_ (WC.no rfl (WC.skip (DN.then_normal (WC.cutK (fun z : Nat × (Option Addr × Nat) × (Option Addr × Nat) × List Ck × List Ck => Ob 5 (.slice z.2.1.1 kk.asked.length z.2.1.2) kk.asked z.2.2.2.1 ∧ Ob 5 (.slice z.2.2.1.1 kk.reply.length z.2.2.1.2) kk.reply z.2.2.2.2) (fun z : Nat × (Option Addr × Nat) × (Option Addr × Nat) × List Ck × List Ck => [(5, .int .i64 act), (6, .pointer (some ⟨z.1, 0, none⟩)), (7, .int .i64 er)]) (fun z : Nat × (Option Addr × Nat) × (Option Addr × Nat) × List Ck × List Ck => row z.1 (kc kk (.slice z.2.1.1 kk.asked.length z.2.1.2) (.slice z.2.2.1.1 kk.reply.length z.2.2.1.2)) 118 :: (z.2.2.2.1 ++ (z.2.2.2.2 ++ ((row p [.pointer (some ⟨pd, 0, none⟩), .pointer (some ⟨ps, 0, none⟩), .pointer (some ⟨pp, 0, none⟩), .int .u32 s.e.toNat, .slice lo s.ks.length lc, .slice eo s.ef.length ec, .slice no s.no.length nc] 116 :: (CS ++ (CP ++ (CD ++ (CF ++ (CE ++ (CN ++ DO))))))) ++ (row b4 [.int .i64 0, .int .u32 0, .int .u32 0, .int .u64 0, .int .u64 0, .int .u32 0, .int .i64 0, .bool false, .int .i64 0, .slice none 0 0, .slice none 0 0] 52 :: (row b3 (ntc n (.slice ko n.key.length kc9) (.slice do_ n.data.length dc)) 52 :: H)))))) ?_ ?_))))))))))
 refine WC.draw 14 kr_ rfl ?_
 refine WAG.start (N := 14) rfl (wy_ 0 [] rfl (Yd.move rfl) kr_ ?_)
 refine wy_ 1 [0] rfl (Yd.notNil rfl) kr_ ?_
 refine wy_ 2 [1] rfl (Yd.fieldAddr (k := 3) kr_ rfl) kr_ ?_
 refine wq_ (wf_ (i := 3) [2] rfl (QAt.rd Wt.none (Rd.loadA (n := 2) (vs := [_, _]) kr_ rfl mem_ (by rfl) (by rfl))) kr_) kr_ ?_
 refine wq_ (wf_ (i := 4) [] rfl (QAt.rd Wt.none (Rd.loadAll (n := 11) kr_ rfl mem_ (by rfl))) kr_) kr_ ?_
 refine ws_ [(5, [4, 3]), (10, [])] kr_ (all_c ?_ (all_c ?_ (all_n)))
 refine so_ (j := 5) [_, _] rfl (SO.c rfl Wt.none rfl (Ent.func Tryz.call55 rfl) (ask_tells s.e _ s.ks (CF ++ H) (hF.kv.mono gr_) (by omega) n _ _ (hvk.mono gr_) (hvd.mono gr_)) (Sp.p sp_) ?_)
 rintro x H9 ⟨wa, wr, A, B, rfl, hA, hB, rfl⟩
 rw [← hq] at hA hB ⊢
 dsimp only at hA hB ⊢
 obtain ⟨oa, ca, rfl, _⟩ := hA.form
 obtain ⟨or_, cr, rfl, _⟩ := hB.form
 refine wk_ [_, _, _] (_ :: ([_, _] ++ _)) rfl rfl all_n (wy_ 6 [] rfl (Yd.move rfl) kr_ ?_)
 refine wy_ 7 [6] rfl (Yd.extract rfl rfl) kr_ ?_
 refine wy_ 8 [6] rfl (Yd.extract rfl rfl) kr_ ?_
 refine wy_ 9 [6] rfl (Yd.extract rfl rfl) kr_ ?_
 refine ws_ [(10, [])] kr_ (all_c ?_ (all_n))
 refine so_ (j := 10) [] rfl (SO.h rfl Wt.none rfl (Hd.alloc (zs := [.int .u32 0, .int .i64 0, .bool false, .slice none 0 0, .int .i64 0, .slice none 0 0]) kr_ fun b6 => ⟨_, rfl, ?_⟩))
 refine wk_ [_, _, _, _, _, _, _] (_ :: ([] ++ _)) rfl rfl all_n (wy_ 11 [7, 6, 2, 1, 0] rfl (Yd.assign rfl) kr_ ?_)
 refine ws_ [(12, [11, 8, 7, 6, 2, 1, 0])] kr_ (all_c ?_ (all_n))
 refine so_ (j := 12) [_, _, _, _, _, _, _] rfl (SO.s rfl Wt.none (Hd.storeAll (n := 6) kr_ rfl rfl (by rfl) (kc_one rfl rfl) fr_ (by rfl) ⟨rfl, ?_⟩))
 refine wk_ [_] (([_, _, _, _, _, _, _] ++ _)) rfl rfl all_n (wy_ 13 [9] rfl (Yd.assign rfl) kr_ ?_)
 refine wd_ [_, _] rfl kr_ ?_
 exact DN.reachK ((b6, (oa, ca), (or_, cr), A, B)) (⟨hA, hB⟩) (Sx.put rfl (Sx.put rfl (Sx.put rfl (sx_)))) (Sp.all sp_)
 refine so_ (j := 10) [] rfl (SO.h rfl Wt.none rfl (Hd.alloc (zs := [.int .u32 0, .int .i64 0, .bool false, .slice none 0 0, .int .i64 0, .slice none 0 0]) kr_ fun b6 => ⟨_, rfl, ?_⟩))
 refine wk_ [_, _, _, _, _] (_ :: ([] ++ _)) rfl rfl (all_c (wf_ [] rfl (QAt.rd Wt.none (Rd.loadAll (n := 11) kr_ rfl mem_ (by rfl))) kr_) (all_c (wf_ [2] rfl (QAt.rd Wt.none (Rd.loadA (n := 2) (vs := [_, _]) kr_ rfl mem_ (by rfl) (by rfl))) kr_) all_n)) ?_
 refine ws_ [(5, [4, 3])] kr_ (all_c ?_ (all_n))
 refine so_ (j := 5) [_, _] rfl (SO.c rfl Wt.none rfl (Ent.func Tryz.call55 rfl) (ask_tells s.e _ s.ks (CF ++ H) (hF.kv.mono gr_) (by omega) n _ _ (hvk.mono gr_) (hvd.mono gr_)) (Sp.p sp_) ?_)
 rintro x H9 ⟨wa, wr, A, B, rfl, hA, hB, rfl⟩
 rw [← hq] at hA hB ⊢
 dsimp only at hA hB ⊢
 obtain ⟨oa, ca, rfl, _⟩ := hA.form
 obtain ⟨or_, cr, rfl, _⟩ := hB.form
 refine wk_ [_, _, _] (_ :: ([_, _] ++ _)) rfl rfl all_n (wy_ 6 [] rfl (Yd.move rfl) kr_ ?_)
 refine wy_ 7 [6] rfl (Yd.extract rfl rfl) kr_ ?_
 refine wy_ 8 [6] rfl (Yd.extract rfl rfl) kr_ ?_
 refine wy_ 9 [6] rfl (Yd.extract rfl rfl) kr_ ?_
 refine wy_ 11 [7, 6, 2, 1, 0] rfl (Yd.assign rfl) kr_ ?_
 refine ws_ [(12, [11, 8, 7, 6, 2, 1, 0])] kr_ (all_c ?_ (all_n))
 refine so_ (j := 12) [_, _, _, _, _, _, _] rfl (SO.s rfl Wt.none (Hd.storeAll (n := 6) kr_ rfl rfl (by rfl) (kc_one rfl rfl) fr_ (by rfl) ⟨rfl, ?_⟩))
 refine wk_ [_] (([_, _, _, _, _, _, _] ++ _)) rfl rfl all_n (wy_ 13 [9] rfl (Yd.assign rfl) kr_ ?_)
 refine wd_ [_, _] rfl kr_ ?_
 exact DN.reachK ((b6, (oa, ca), (or_, cr), A, B)) (⟨hA, hB⟩) (Sx.put rfl (Sx.put rfl (Sx.put rfl (sx_)))) (Sp.all sp_)
 rintro ⟨b6, ⟨oa, ca⟩, ⟨or_, cr⟩, A, B⟩ ⟨hA, hB⟩
 dsimp only at hA hB ⊢
 refine WC.seq (WC.block (sr_ (m_ rfl rfl (WL.y rfl (Yd.eql rfl rfl) (a_ rfl rfl (nt_ (WC.ite rfl (fun h23 => ?_) (fun h23 => ?_))))))))
 have e72 := hq3.trans h23
 refine WC.seq (WC.draw 13 kr_ rfl ?_)
 refine WAG.start (N := 13) rfl (wy_ 0 [] rfl (Yd.move rfl) kr_ ?_)
 refine wy_ 1 [0] rfl (Yd.notNil rfl) kr_ ?_
 refine wy_ 2 [1] rfl (Yd.fieldAddr (k := 3) kr_ rfl) kr_ ?_
 refine wy_ 3 [2] rfl (Yd.fieldAddr (k := 0) kr_ rfl) kr_ ?_
 refine wq_ (wf_ (i := 4) [3] rfl (QAt.rd Wt.none (Rd.load1 kr_ rfl mem_ (by rfl))) kr_) kr_ ?_
 refine wy_ 5 [] rfl (Yd.fieldAddr (k := 5) kr_ rfl) kr_ ?_
 refine wq_ (wf_ (i := 6) [5] rfl (QAt.rd Wt.none (Rd.load1 kr_ rfl mem_ (by rfl))) kr_) kr_ ?_
 refine wy_ 7 [] rfl (Yd.fieldAddr (k := 6) kr_ rfl) kr_ ?_
 refine wq_ (wf_ (i := 8) [7] rfl (QAt.rd Wt.none (Rd.load1 kr_ rfl mem_ (by rfl))) kr_) kr_ ?_
 refine wy_ 9 [] rfl (Yd.fieldAddr (k := 7) kr_ rfl) kr_ ?_
 refine wq_ (wf_ (i := 10) [9] rfl (QAt.rd Wt.none (Rd.load1 kr_ rfl mem_ (by rfl))) kr_) kr_ ?_
 refine wy_ 11 [10, 8, 6, 4] rfl (Yd.buildL (pl := [(0, 1), (1, 1), (2, 1), (3, 1), (4, 1), (5, 1), (6, 1), (7, 1), (8, 1), (9, 1), (10, 1)]) (zs := [.int .i64 0, .int .u32 0, .int .u32 0, .int .u64 0, .int .u64 0, .int .u32 0, .int .i64 0, .bool false, .int .i64 0, .slice none 0 0, .slice none 0 0]) (parts := [(0, .const (.int .i64 9)), (1, .tmp 30), (5, .tmp 32), (6, .tmp 34), (7, .tmp 36)]) (vs := [(0, _), (1, _), (5, _), (6, _), (7, _)]) (cells := [_, _, .int .u32 0, .int .u64 0, .int .u64 0, _, _, _, .int .i64 0, .slice none 0 0, .slice none 0 0]) kr_ kr_ rfl rfl) kr_ ?_
 refine ws_ [(12, [11, 10, 9, 8, 7, 6, 5, 4, 3, 2, 1, 0])] kr_ (all_c ?_ (all_n))
 refine so_ (j := 12) [_, _, _, _, _, _, _, _, _, _, _, _] rfl (SO.s rfl Wt.none (Hd.storeAll (n := 11) kr_ rfl rfl (by rfl) one_ fr_ (by rfl) ⟨rfl, ?_⟩))
 refine wk_ [] (([_, _, _, _, _, _, _, _, _, _, _, _] ++ _)) rfl rfl all_n (wd_ [] rfl kr_ ?_)
 refine DN.then_normal (WC.ret (DN.block_ret (DN.then_ret (DN.retCS (s := 11) ((row p [.pointer (some ⟨pd, 0, none⟩), .pointer (some ⟨ps, 0, none⟩), .pointer (some ⟨pp, 0, none⟩), .int .u32 s.e.toNat, .slice lo s.ks.length lc, .slice eo s.ef.length ec, .slice no s.no.length nc] 116 :: (CS ++ (CP ++ (CD ++ (CF ++ (CE ++ (CN ++ DO))))))) ++ H) Tryz.results22 kr_ rfl mem_ (by rfl) sp_ ?_))))
 rw [(serve_72 (hq3.trans h23)).1, (serve_72 (hq3.trans h23)).2]
 exact ⟨_, _, [], rfl, ⟨pd, ps, pp, _, _, _, _, _, _, _, _, _, _, _, rfl, hS, hP, hD, hF, hE, hN, hO⟩, Ob.nil _, rfl⟩
 refine sr_ (m_ rfl rfl (WL.y rfl (Yd.eql rfl rfl) (a_ rfl rfl (nt_ (WC.ite rfl (fun h38 => ?_) (fun h38 => ?_))))))
 refine sr_ (m_ rfl rfl (n_ rfl rfl (f_ 3 kr_ rfl rfl ?_)))
 refine f_ 0 kr_ rfl rfl ?_
 refine d_ kr_ rfl mem_ (by rfl) rfl ?_
 refine WL.y rfl (Yd.buildL (pl := [(0, 1), (1, 1), (2, 1), (3, 1), (4, 1), (5, 1), (6, 1), (7, 1), (8, 1), (9, 1), (10, 1)]) (zs := [.int .i64 0, .int .u32 0, .int .u32 0, .int .u64 0, .int .u64 0, .int .u32 0, .int .i64 0, .bool false, .int .i64 0, .slice none 0 0, .slice none 0 0]) (parts := [(0, .const (.int .i64 6)), (1, .tmp 45), (8, .const (.int .i64 2))]) (vs := [(0, _), (1, _), (8, _)]) (cells := [_, _, .int .u32 0, .int .u64 0, .int .u64 0, .int .u32 0, .int .i64 0, .bool false, _, .slice none 0 0, .slice none 0 0]) kr_ kr_ rfl rfl) ?_
 refine WL.s (Hd.storeAll (n := 11) kr_ rfl rfl (by rfl) one_ fr_ (by rfl) ⟨rfl, ?_⟩)
 refine nt_ (WC.ret (DN.block_ret (DN.then_ret (DN.retCS (s := 11) ((row p [.pointer (some ⟨pd, 0, none⟩), .pointer (some ⟨ps, 0, none⟩), .pointer (some ⟨pp, 0, none⟩), .int .u32 s.e.toNat, .slice lo s.ks.length lc, .slice eo s.ef.length ec, .slice no s.no.length nc] 116 :: (CS ++ (CP ++ (CD ++ (CF ++ (CE ++ (CN ++ DO))))))) ++ H) Tryz.results22 kr_ rfl mem_ (by rfl) sp_ ?_))))
 rw [(serve_80 (fun e => h23 (hq3.symm.trans e)) (hq3.trans h38)).1, (serve_80 (fun e => h23 (hq3.symm.trans e)) (hq3.trans h38)).2]
 exact ⟨_, _, [], rfl, ⟨pd, ps, pp, _, _, _, _, _, _, _, _, _, _, _, rfl, hS, hP, hD, hF, hE, hN, hO⟩, Ob.nil _, rfl⟩
 refine sr_ (m_ rfl rfl (WL.y rfl (Yd.neq rfl rfl) (a_ rfl rfl (nt_ (WC.ite rfl (fun h47 => ?_) (fun h47 => ?_))))))
 refine sr_ (m_ rfl rfl (n_ rfl rfl (f_ 3 kr_ rfl rfl ?_)))
 refine f_ 0 kr_ rfl rfl ?_
 refine d_ kr_ rfl mem_ (by rfl) rfl ?_
 refine WL.y rfl (Yd.buildL (pl := [(0, 1), (1, 1), (2, 1), (3, 1), (4, 1), (5, 1), (6, 1), (7, 1), (8, 1), (9, 1), (10, 1)]) (zs := [.int .i64 0, .int .u32 0, .int .u32 0, .int .u64 0, .int .u64 0, .int .u32 0, .int .i64 0, .bool false, .int .i64 0, .slice none 0 0, .slice none 0 0]) (parts := [(0, .const (.int .i64 6)), (1, .tmp 54), (8, .const (.int .i64 1))]) (vs := [(0, _), (1, _), (8, _)]) (cells := [_, _, .int .u32 0, .int .u64 0, .int .u64 0, .int .u32 0, .int .i64 0, .bool false, _, .slice none 0 0, .slice none 0 0]) kr_ kr_ rfl rfl) ?_
 refine WL.s (Hd.storeAll (n := 11) kr_ rfl rfl (by rfl) one_ fr_ (by rfl) ⟨rfl, ?_⟩)
 refine nt_ (WC.ret (DN.block_ret (DN.then_ret (DN.retCS (s := 11) ((row p [.pointer (some ⟨pd, 0, none⟩), .pointer (some ⟨ps, 0, none⟩), .pointer (some ⟨pp, 0, none⟩), .int .u32 s.e.toNat, .slice lo s.ks.length lc, .slice eo s.ef.length ec, .slice no s.no.length nc] 116 :: (CS ++ (CP ++ (CD ++ (CF ++ (CE ++ (CN ++ DO))))))) ++ H) Tryz.results22 kr_ rfl mem_ (by rfl) sp_ ?_))))
 rw [(serve_no (fun e => h23 (hq3.symm.trans e)) (fun e => h38 (hq3.symm.trans e)) (by rw [hq3]; exact h47)).1, (serve_no (fun e => h23 (hq3.symm.trans e)) (fun e => h38 (hq3.symm.trans e)) (by rw [hq3]; exact h47)).2]
 exact ⟨_, _, [], rfl, ⟨pd, ps, pp, _, _, _, _, _, _, _, _, _, _, _, rfl, hS, hP, hD, hF, hE, hN, hO⟩, Ob.nil _, rfl⟩
 have her : (askK s.e s.ks n).2.2 = 0 := hq3.trans (Classical.byContradiction h47)
 have hgo := askK_ok her
 have hdl : n.data.length ≤ 1000 := by
   have h9 : noteBad n = false := by
     cases e9 : noteBad n
     · rfl
     exact absurd (.inr (.inr (.inl e9))) hgo.1
   have := (noteBad_step h9).2.2
   omega
 refine sr_ (m_ rfl rfl (WL.y rfl (Yd.eql rfl rfl) (a_ rfl rfl (nt_ (WC.ite rfl (fun h56 => ?_) (fun h56 => ?_))))))
 refine WC.seq (WC.draw 14 kr_ rfl ?_)
 refine WAG.start (N := 14) rfl (wy_ 0 [] rfl (Yd.move rfl) kr_ ?_)
 refine wy_ 1 [] rfl (Yd.move rfl) kr_ ?_
 refine wy_ 2 [1] rfl (Yd.notNil rfl) kr_ ?_
 refine wy_ 3 [2] rfl (Yd.fieldAddr (k := 3) kr_ rfl) kr_ ?_
 refine wq_ (wf_ (i := 4) [3] rfl (QAt.rd Wt.none (Rd.loadA (n := 2) (vs := [_, _]) kr_ rfl mem_ (by rfl) (by rfl))) kr_) kr_ ?_
 refine wy_ 5 [] rfl (Yd.fieldAddr (k := 1) kr_ rfl) kr_ ?_
 refine wq_ (wf_ (i := 6) [5] rfl (QAt.rd Wt.none (Rd.load1 kr_ rfl mem_ (by rfl))) kr_) kr_ ?_
 refine ws_ [(7, [6, 4])] kr_ (all_c ?_ (all_n))
 refine so_ (j := 7) [_, _] rfl (SO.c rfl Wt.none rfl (Ent.func Tryz.call56 rfl) (see_tells s.e _ s.ks CF hF.kv (by omega) n.epoch) (Sp.p sp_) ?_)
 rintro x H9 ⟨ws, DS, rfl, hSF, rfl⟩
 obtain ⟨so, sc, rfl⟩ := hSF.form
 refine wk_ [_, _, _, _, _] (_ :: ([_, _] ++ _)) rfl rfl all_n (wy_ 8 [] rfl (Yd.move rfl) kr_ ?_)
 refine wy_ 9 [8] rfl (Yd.extract rfl rfl) kr_ ?_
 refine wy_ 10 [8] rfl (Yd.extract rfl rfl) kr_ ?_
 refine wy_ 11 [9, 8, 5, 3, 2, 1, 0] rfl (Yd.notNil rfl) kr_ ?_
 refine wy_ 12 [11, 9, 8, 5, 3, 2, 1, 0] rfl (Yd.fieldAddr (k := 3) kr_ rfl) kr_ ?_
 refine ws_ [(13, [12, 9, 8, 5, 3, 2, 1, 0])] kr_ (all_c ?_ (all_n))
 refine so_ (j := 13) [_, _, _, _, _, _, _, _] rfl ?_
 refine SO.s rfl Wt.none (Hd.storeP (n := 2) kr_ rfl rfl (by rfl) one_ fr_ (by show 0 + 3 + 2 ≤ 7; decide) (by rfl) ⟨rfl, ?_⟩)
 refine wk_ [_, _] (([_, _, _, _, _, _, _, _] ++ _)) rfl rfl all_n (wd_ [_, _] rfl kr_ ?_)
 refine ts_ (WC.region (WL.h rfl (Hd.loadAll (n := 11) kr_ rfl mem_ (by rfl) ⟨_, rfl, ?_⟩)))
 refine f_ 4 kr_ rfl rfl ?_
 refine d_ kr_ rfl mem_ (by rfl) rfl ?_
 refine f_ 5 kr_ rfl rfl ?_
 refine d_ kr_ rfl mem_ (by rfl) rfl ?_
 refine WL.c rfl (Ent.func Tryz.call57 rfl) (done_tells n _ _ ⟨_, _, rfl⟩ ⟨_, _, rfl⟩ kk.code _ kk.reply B hB.bs (by omega)) (Sp.p sp_) ?_
 rintro x H9 ⟨wd, AD, rfl, hAD, rfl⟩
 obtain ⟨od, cd, rfl, _⟩ := hAD.form
 refine WL.s (Hd.storeAll (n := 11) kr_ rfl rfl (by rfl) one_ fr_ (by rfl) ⟨rfl, ?_⟩)
 refine nt_ (WC.ret (DN.block_ret (DN.then_ret (DN.retCS (s := 11) ((row p [.pointer (some ⟨pd, 0, none⟩), .pointer (some ⟨ps, 0, none⟩), .pointer (some ⟨pp, 0, none⟩), .int .u32 (seeK s.e s.ks n.epoch).1.toNat, .slice so (seeK s.e s.ks n.epoch).2.1.length sc, .slice eo s.ef.length ec, .slice no s.no.length nc] 116 :: (CS ++ (CP ++ (CD ++ (DS ++ (CE ++ (CN ++ DO))))))) ++ (AD ++ H)) Tryz.results22 kr_ rfl mem_ (by rfl) sp_ ?_))))
 have g := serve_again (s := s) (n := n) (by rw [hq3]; exact h47) (hq1.trans h56)
 rw [hq2] at g
 rw [g.1, g.2]
 exact ⟨_, _, AD, rfl, ⟨pd, ps, pp, _, _, _, CS, CP, CD, DS, CE, cn, CN, DO, rfl, hS, hP, hD, hSF, hE, hN, hO⟩, hAD, rfl⟩
 refine sr_ (m_ rfl rfl (n_ rfl rfl (f_ 3 kr_ rfl rfl ?_)))
 refine f_ 1 kr_ rfl rfl ?_
 refine d_ kr_ rfl mem_ (by rfl) rfl ?_
 refine WL.y rfl (Yd.len (e := 118) kr_ rfl) ?_
 refine WL.y rfl (Yd.geq rfl rfl) (a_ rfl rfl (nt_ (WC.ite rfl (fun h78 => ?_) (fun h78 => ?_))))
 refine sr_ (m_ rfl rfl (n_ rfl rfl (f_ 3 kr_ rfl rfl ?_)))
 refine f_ 0 kr_ rfl rfl ?_
 refine d_ kr_ rfl mem_ (by rfl) rfl ?_
 refine WL.y rfl (Yd.buildL (pl := [(0, 1), (1, 1), (2, 1), (3, 1), (4, 1), (5, 1), (6, 1), (7, 1), (8, 1), (9, 1), (10, 1)]) (zs := [.int .i64 0, .int .u32 0, .int .u32 0, .int .u64 0, .int .u64 0, .int .u32 0, .int .i64 0, .bool false, .int .i64 0, .slice none 0 0, .slice none 0 0]) (parts := [(0, .const (.int .i64 6)), (1, .tmp 90), (8, .const (.int .i64 3))]) (vs := [(0, _), (1, _), (8, _)]) (cells := [_, _, .int .u32 0, .int .u64 0, .int .u64 0, .int .u32 0, .int .i64 0, .bool false, _, .slice none 0 0, .slice none 0 0]) kr_ kr_ rfl rfl) ?_
 refine WL.s (Hd.storeAll (n := 11) kr_ rfl rfl (by rfl) one_ fr_ (by rfl) ⟨rfl, ?_⟩)
 refine nt_ (WC.ret (DN.block_ret (DN.then_ret (DN.retCS (s := 11) ((row p [.pointer (some ⟨pd, 0, none⟩), .pointer (some ⟨ps, 0, none⟩), .pointer (some ⟨pp, 0, none⟩), .int .u32 s.e.toNat, .slice lo s.ks.length lc, .slice eo s.ef.length ec, .slice no s.no.length nc] 116 :: (CS ++ (CP ++ (CD ++ (CF ++ (CE ++ (CN ++ DO))))))) ++ H) Tryz.results22 kr_ rfl mem_ (by rfl) sp_ ?_))))
 rw [(serve_full (by rw [hq3]; exact h47) (by rw [hq1]; exact h56) (by omega)).1, (serve_full (by rw [hq3]; exact h47) (by rw [hq1]; exact h56) (by omega)).2]
 exact ⟨_, _, [], rfl, ⟨pd, ps, pp, _, _, _, _, _, _, _, _, _, _, _, rfl, hS, hP, hD, hF, hE, hN, hO⟩, Ob.nil _, rfl⟩
 refine WC.skip (DN.block_normal (ts_ (WC.region (a_ rfl rfl (a_ rfl rfl (nt_ (WC.cutK (fun z : Int × List (BitVec 8) × List Ck × (Option Addr × Nat) × List Ck => z.1 = codeOf s n act ∧ z.2.1 = replyOf s n act ∧ CwAt 189 198 203 3 5 118 111 22 116 p (didS s n act) z.2.2.1 ∧ Ob 5 (.slice z.2.2.2.1.1 z.2.1.length z.2.2.2.1.2) z.2.1 z.2.2.2.2) (fun z : Int × List (BitVec 8) × List Ck × (Option Addr × Nat) × List Ck => [(8, .int .i64 z.1), (9, .slice z.2.2.2.1.1 z.2.1.length z.2.2.2.1.2)]) (fun z : Int × List (BitVec 8) × List Ck × (Option Addr × Nat) × List Ck => z.2.2.1 ++ (z.2.2.2.2 ++ (row b4 [.int .i64 0, .int .u32 0, .int .u32 0, .int .u64 0, .int .u64 0, .int .u32 0, .int .i64 0, .bool false, .int .i64 0, .slice none 0 0, .slice none 0 0] 52 :: (row b3 (ntc n (.slice ko n.key.length kc9) (.slice do_ n.data.length dc)) 52 :: H)))) ?_ ?_)))))))
 refine sr_ (m_ rfl rfl (nt_ (WC.block (sr_ (WL.y rfl (Yd.eql rfl rfl) (a_ rfl rfl (nt_ (WC.ite rfl (fun h93 => ?_) (fun h93 => ?_)))))))))
 refine WC.region (a_ rfl rfl (WL.nil (DN.block_normal ?_)))
 exact DN.reachS ((1, [], row p [.pointer (some ⟨pd, 0, none⟩), .pointer (some ⟨ps, 0, none⟩), .pointer (some ⟨pp, 0, none⟩), .int .u32 s.e.toNat, .slice lo s.ks.length lc, .slice eo s.ef.length ec, .slice no s.no.length nc] 116 :: (CS ++ (CP ++ (CD ++ (CF ++ (CE ++ (CN ++ DO)))))), (none, 0), [])) (by have g := did_4 (s := s) (n := n) h93; exact ⟨g.1.symm, g.2.1.symm, by rw [g.2.2]; exact ⟨pd, ps, pp, _, _, _, _, _, _, _, _, _, _, _, rfl, hS, hP, hD, hF, hE, hN, hO⟩, Ob.nil _⟩) (Sx.put rfl (Sx.put rfl (sx_))) sp_
 refine sr_ (WL.y rfl (Yd.eql rfl rfl) (a_ rfl rfl (nt_ (WC.ite rfl (fun h95 => ?_) (fun h95 => ?_)))))
 refine sr_ (m_ rfl rfl (WL.h rfl (Hd.loadAll (n := 11) kr_ rfl mem_ (by rfl) ⟨_, rfl, ?_⟩)))
 refine WL.c rfl (Ent.func Tryz.call58 rfl) (do_tells p s _ hAt inv.st inv.pu inv.dk (by omega) n _ _ H ⟨_, _, rfl⟩ hvd hdl) (Sp.p sp_) ?_
 rintro x H9 ⟨C9, xr, AR, rfl, h9, hAR, rfl⟩
 obtain ⟨ro, rc, rfl, _⟩ := hAR.form
 refine m_ rfl rfl (x_ rfl rfl rfl (x_ rfl rfl rfl (a_ rfl rfl (a_ rfl rfl (ntsr_ (m_ rfl rfl (WL.y rfl (Yd.eql rfl rfl) (nt_ (WC.ite rfl (fun h104 => ?_) (fun h104 => ?_))))))))))
 have hF9 : (doS s n).ef.length = s.ef.length := by rw [do_fence.2.2]
 refine WC.draw 17 kr_ rfl ?_
 refine WAG.start (N := 17) rfl (wy_ 0 [] rfl (Yd.move rfl) kr_ ?_)
 refine wy_ 1 [] rfl (Yd.move rfl) kr_ ?_
 refine wy_ 2 [1] rfl (Yd.notNil rfl) kr_ ?_
 refine wy_ 3 [2] rfl (Yd.fieldAddr (k := 5) kr_ rfl) kr_ ?_
 obtain ⟨pd, ps, pp, vL, vE, vN, CS, CP, CD, CF, CE, cn, CN, DO, rfl, hS, hP, hD, hF, hE, hN, hO⟩ := h9
 obtain ⟨lo, lc, rfl⟩ := hF.form
 obtain ⟨eo, ec, rfl, hec⟩ := hE.form
 obtain ⟨no, nc, rfl, hnc⟩ := hN.form
 refine wq_ (wf_ (i := 4) [3] rfl (QAt.rd Wt.none (Rd.load1 kr_ rfl mem_ (by rfl))) kr_) kr_ ?_
 refine wy_ 5 [] rfl (Yd.fieldAddr (k := 5) kr_ rfl) kr_ ?_
 refine wq_ (wf_ (i := 6) [5] rfl (QAt.rd Wt.none (Rd.load1 kr_ rfl mem_ (by rfl))) kr_) kr_ ?_
 refine wy_ 7 [] rfl (Yd.fieldAddr (k := 6) kr_ rfl) kr_ ?_
 refine wq_ (wf_ (i := 8) [7] rfl (QAt.rd Wt.none (Rd.load1 kr_ rfl mem_ (by rfl))) kr_) kr_ ?_
 refine wy_ 9 [] rfl (Yd.fieldAddr (k := 7) kr_ rfl) kr_ ?_
 refine wq_ (wf_ (i := 10) [9] rfl (QAt.rd Wt.none (Rd.load1 kr_ rfl mem_ (by rfl))) kr_) kr_ ?_
 refine wy_ 11 [10, 8, 6] rfl (Yd.buildL (pl := [(0, 1), (1, 1), (2, 1)]) (zs := [.int .u32 0, .int .i64 0, .bool false]) (parts := [(0, .tmp 111), (1, .tmp 113), (2, .tmp 115)]) (vs := [(0, _), (1, _), (2, _)]) (cells := [_, _, _]) kr_ kr_ rfl rfl) kr_ ?_
 refine ws_ [(12, [11])] kr_ (all_c ?_ (all_n))
 refine so_ (j := 12) [_] rfl (SO.h rfl Wt.none rfl (Hd.buildA (e := 111) (sz := 3) (zs := [.int .u32 0, .int .i64 0, .bool false]) kr_ kr_ kr_ rfl rfl (by rfl) kr_ fun b117 => ⟨_, rfl, ?_⟩))
 refine wk_ [_, _, _, _, _, _, _, _, _, _, _] (_ :: ([_] ++ _)) rfl rfl (all_c (wf_ [9] rfl (QAt.rd Wt.none (Rd.load1 kr_ rfl mem_ (by rfl))) kr_) (all_c (wf_ [7] rfl (QAt.rd Wt.none (Rd.load1 kr_ rfl mem_ (by rfl))) kr_) (all_c (wf_ [5] rfl (QAt.rd Wt.none (Rd.load1 kr_ rfl mem_ (by rfl))) kr_) (all_c (wf_ [3] rfl (QAt.rd Wt.none (Rd.load1 kr_ rfl mem_ (by rfl))) kr_) all_n)))) ?_
 refine ws_ [(13, [4])] kr_ (all_c ?_ (all_n))
 refine so_ (j := 13) [_] rfl ?_
 refine SO.h rfl Wt.none rfl (Hd.appendRow (e := 111) (sz := 3) (bytes := 24) (zs := [.int .u32 0, .int .i64 0, .bool false]) kr_ kr_ rfl (by omega) rfl rfl (hE) sp_ mem_ (by rfl) (efc_one (⟨n.order, n.step, n.undo⟩ : Ef)) (by simp only [maxLen]; omega) (by omega) fun v2 C2 h2 => ⟨_, rfl, ?_⟩)
 refine wk_ [_, _, _, _, _, _, _, _, _, _] (_ :: ([_] ++ _)) rfl rfl (all_c (wf_ [9] rfl (QAt.rd Wt.none (Rd.load1 kr_ rfl mem_ (by rfl))) kr_) (all_c (wf_ [7] rfl (QAt.rd Wt.none (Rd.load1 kr_ rfl mem_ (by rfl))) kr_) (all_c (wf_ [5] rfl (QAt.rd Wt.none (Rd.load1 kr_ rfl mem_ (by rfl))) kr_) all_n))) ?_
 obtain ⟨eo2, ec2, rfl, _⟩ := h2.form
 refine wy_ 14 [10, 9, 8, 7, 6, 5, 3, 2, 1, 0] rfl (Yd.notNil rfl) kr_ ?_
 refine wy_ 15 [14, 10, 9, 8, 7, 6, 5, 3, 2, 1, 0] rfl (Yd.fieldAddr (k := 5) kr_ rfl) kr_ ?_
 refine ws_ [(16, [15, 10, 9, 8, 7, 6, 5, 3, 2, 1, 0])] kr_ (all_c ?_ (all_n))
 refine so_ (j := 16) [_, _, _, _, _, _, _, _, _, _, _] rfl ?_
 refine SO.s rfl Wt.none (Hd.store1s kr_ rfl rfl (by rfl) fr_ (by rfl) (by first | (simp only [List.set_cons_zero, List.set_cons_succ, Nat.zero_add, Nat.add_zero, Nat.reduceAdd]; rfl) | rfl) ⟨rfl, ?_⟩)
 refine wk_ [_] (([_, _, _, _, _, _, _, _, _, _, _] ++ _)) rfl rfl all_n (wd_ [_] rfl kr_ ?_)
 refine DN.block_normal ?_
 exact DN.reachS ((doV s n, doR s n, row p [.pointer (some ⟨pd, 0, none⟩), .pointer (some ⟨ps, 0, none⟩), .pointer (some ⟨pp, 0, none⟩), .int .u32 (doS s n).e.toNat, .slice lo (doS s n).ks.length lc, .slice eo2 ((doS s n).ef.length + 1) ec2, .slice no (doS s n).no.length nc] 116 :: (CS ++ (CP ++ (CD ++ (CF ++ (C2 ++ (CN ++ DO)))))), (ro, rc), AR)) (by have g := did_1 (s := s) (n := n) h93 h95; exact ⟨g.1.symm, g.2.1.symm, by rw [g.2.2, if_pos h104]; exact ⟨pd, ps, pp, _, _, _, _, _, _, _, _, _, _, _, rfl, hS, hP, hD, hF, by show Own _ ((doS s n).ef ++ [_]).length (((doS s n).ef ++ [_]).flatMap efc) _ 3 _; rw [List.length_append, List.flatMap_append]; exact h2, hN, hO⟩, hAR⟩) (Sx.put rfl (Sx.put rfl (sx_))) sp_
 refine WC.skip (DN.block_normal ?_)
 exact DN.reachS ((doV s n, doR s n, C9, (ro, rc), AR)) (by have g := did_1 (s := s) (n := n) h93 h95; exact ⟨g.1.symm, g.2.1.symm, by rw [g.2.2, if_neg h104]; exact h9, hAR⟩) (Sx.put rfl (Sx.put rfl (sx_))) sp_
 refine WC.skip (DN.block_normal ?_)
 exact DN.reachS ((2, [], row p [.pointer (some ⟨pd, 0, none⟩), .pointer (some ⟨ps, 0, none⟩), .pointer (some ⟨pp, 0, none⟩), .int .u32 s.e.toNat, .slice lo s.ks.length lc, .slice eo s.ef.length ec, .slice no s.no.length nc] 116 :: (CS ++ (CP ++ (CD ++ (CF ++ (CE ++ (CN ++ DO)))))), (none, 0), [])) (by have g := did_0 (s := s) (n := n) h93 h95; exact ⟨g.1.symm, g.2.1.symm, by rw [g.2.2]; exact ⟨pd, ps, pp, _, _, _, _, _, _, _, _, _, _, _, rfl, hS, hP, hD, hF, hE, hN, hO⟩, Ob.nil _⟩) (Sx.put rfl (Sx.put rfl (sx_))) sp_
 clear hS hP hD hF hE hN hO hec hnc
 rintro ⟨cd9, rp, C9, ⟨ro, rc⟩, AR⟩ ⟨hcd, hrp, h9, hAR⟩
 dsimp only at hcd hrp h9 hAR ⊢
 have hdf := did_fence (s := s) (n := n) (act := act)
 obtain ⟨d, hdd⟩ : ∃ d, d = didS s n act := ⟨_, rfl⟩
 rw [← hdd] at h9 hdf
 have hdl9 : d.ks.length = s.ks.length := by rw [hdf.2]
 obtain ⟨pd, ps, pp, vL, vE, vN, CS, CP, CD, CF, CE, cn, CN, DO, rfl, hS, hP, hD, hF, hE, hN, hO⟩ := h9
 obtain ⟨lo, lc, rfl⟩ := hF.form
 obtain ⟨eo, ec, rfl, hec⟩ := hE.form
 obtain ⟨no, nc, rfl, hnc⟩ := hN.form
 refine WC.seq (WC.draw 15 kr_ rfl ?_)
 refine WAG.start (N := 15) rfl (wy_ 0 [] rfl (Yd.move rfl) kr_ ?_)
 refine wy_ 1 [] rfl (Yd.move rfl) kr_ ?_
 refine wy_ 2 [1] rfl (Yd.notNil rfl) kr_ ?_
 refine wy_ 3 [2] rfl (Yd.fieldAddr (k := 3) kr_ rfl) kr_ ?_
 refine wq_ (wf_ (i := 4) [3] rfl (QAt.rd Wt.none (Rd.loadA (n := 2) (vs := [_, _]) kr_ rfl mem_ (by rfl) (by rfl))) kr_) kr_ ?_
 refine wq_ (wf_ (i := 5) [] rfl (QAt.rd Wt.none (Rd.loadAll (n := 11) kr_ rfl mem_ (by rfl))) kr_) kr_ ?_
 refine wy_ 6 [] rfl (Yd.move rfl) kr_ ?_
 refine wy_ 7 [] rfl (Yd.move rfl) kr_ ?_
 refine ws_ [(8, [7, 6, 5, 4])] kr_ (all_c ?_ (all_n))
 refine so_ (j := 8) [_, _, _, _] rfl ?_
 refine SO.c rfl Wt.none rfl (Ent.func Tryz.call59 rfl) (keep_tells d.e _ d.ks (CF ++ (AR ++ H)) (hF.kv.mono gr_) (by rw [hdf.2]; omega) n _ _ (hvk.mono gr_) (hvd.mono gr_) cd9 _ rp (hAR.bs.mono gr_)) (Sp.p sp_) ?_
 rintro x H9 ⟨wk, DK, rfl, hKF, rfl⟩
 obtain ⟨ko2, kc2, rfl⟩ := hKF.form
 refine wk_ [_, _, _, _] (_ :: ([_, _, _, _] ++ _)) rfl rfl all_n (wy_ 9 [] rfl (Yd.move rfl) kr_ ?_)
 refine wy_ 10 [9] rfl (Yd.extract rfl rfl) kr_ ?_
 refine wy_ 11 [9] rfl (Yd.extract rfl rfl) kr_ ?_
 refine wy_ 12 [10, 9, 3, 2, 1, 0] rfl (Yd.notNil rfl) kr_ ?_
 refine wy_ 13 [12, 10, 9, 3, 2, 1, 0] rfl (Yd.fieldAddr (k := 3) kr_ rfl) kr_ ?_
 refine ws_ [(14, [13, 10, 9, 3, 2, 1, 0])] kr_ (all_c ?_ (all_n))
 refine so_ (j := 14) [_, _, _, _, _, _, _] rfl ?_
 refine SO.s rfl Wt.none (Hd.storeP (n := 2) kr_ rfl rfl (by rfl) one_ fr_ (by show 0 + 3 + 2 ≤ 7; decide) (by rfl) ⟨rfl, ?_⟩)
 refine wk_ [_, _] (([_, _, _, _, _, _, _] ++ _)) rfl rfl all_n (wd_ [_, _] rfl kr_ ?_)
 refine ts_ (WC.region (WL.h rfl (Hd.loadAll (n := 11) kr_ rfl mem_ (by rfl) ⟨_, rfl, ?_⟩)))
 refine m_ rfl rfl (m_ rfl rfl ?_)
 refine WL.c rfl (Ent.func Tryz.call57 rfl) (done_tells n _ _ ⟨_, _, rfl⟩ ⟨_, _, rfl⟩ cd9 _ rp AR hAR.bs (by rw [hrp]; have := reply_len (s := s) (n := n) (act := act); omega)) (Sp.p sp_) ?_
 rintro x H9 ⟨wd, AD, rfl, hAD, rfl⟩
 obtain ⟨od, cd, rfl, _⟩ := hAD.form
 refine WL.s (Hd.storeAll (n := 11) kr_ rfl rfl (by rfl) one_ fr_ (by rfl) ⟨rfl, ?_⟩)
 refine nt_ (WC.ret (DN.retCS (s := 11) ((row p [.pointer (some ⟨pd, 0, none⟩), .pointer (some ⟨ps, 0, none⟩), .pointer (some ⟨pp, 0, none⟩), .int .u32 (keepK d.e d.ks n cd9 rp).1.toNat, .slice ko2 (keepK d.e d.ks n cd9 rp).2.1.length kc2, .slice eo d.ef.length ec, .slice no d.no.length nc] 116 :: (CS ++ (CP ++ (CD ++ (DK ++ (CE ++ (CN ++ DO))))))) ++ (AD ++ H)) Tryz.results22 kr_ rfl mem_ (by rfl) sp_ ?_))
 have g := serve_new (s := s) (n := n) (by rw [hq3]; exact h47) (by rw [hq1]; exact h56) (by omega)
 rw [hq1, ← hdd, ← hcd, ← hrp] at g
 rw [g.1, g.2]
 exact ⟨_, _, AD, rfl, ⟨pd, ps, pp, _, _, _, CS, CP, CD, DK, CE, cn, CN, DO, rfl, hS, hP, hD, hKF, hE, hN, hO⟩, hAD, rfl⟩
end Go.Proofs.YtkamlondepceiaaGreat

set_option linter.unusedVariables false
set_option linter.unusedSimpArgs false
set_option maxHeartbeats 4000000
namespace Go.Proofs
def Tryz.sortG_ren : Go.Shelf.Ren := ⟨fun | 6 => 97 | 15 => 131 | 14 => 130 | 28 => 150 | 29 => 151 | 20 => 142 | 21 => 143 | 22 => 144 | 23 => 145 | 24 => 146 | 25 => 147 | 26 => 148 | 27 => 149 | 46 => 162 | 47 => 163 | 48 => 164 | 49 => 165 | 50 => 166 | 57 => 170 | n => n, fun | 22 => 43 | 24 => 73 | 25 => 194 | 3 => 3 | 39 => 218 | 0 => 0 | 53 => 49 | 55 => 50 | 4 => 4 | 46 => 240 | 45 => 239 | 50 => 179 | 5 => 5 | 9 => 9 | 66 => 252 | 70 => 255 | 76 => 259 | 77 => 176 | n => n, fun | n => n⟩
theorem Tryz.sortG : SlLaysF0.n6 Tryz.prog Tryz.sortG_ren := {
  mixed := by kernel_rfl,
  f6 := ⟨Tryz.f97.name, by decide, Tryz.func97.trans (congrArg some (by kernel_rfl))⟩,
  f14 := ⟨Tryz.f130.name, by decide, Tryz.func130.trans (congrArg some (by kernel_rfl))⟩,
  f15 := Tryz.func131.trans (congrArg some (by kernel_rfl)),
  f20 := ⟨Tryz.f142.name, by decide, Tryz.func142.trans (congrArg some (by kernel_rfl))⟩,
  f21 := ⟨Tryz.f143.name, by decide, Tryz.func143.trans (congrArg some (by kernel_rfl))⟩,
  f22 := ⟨Tryz.f144.name, by decide, Tryz.func144.trans (congrArg some (by kernel_rfl))⟩,
  f23 := ⟨Tryz.f145.name, by decide, Tryz.func145.trans (congrArg some (by kernel_rfl))⟩,
  f24 := ⟨Tryz.f146.name, by decide, Tryz.func146.trans (congrArg some (by kernel_rfl))⟩,
  f25 := ⟨Tryz.f147.name, by decide, Tryz.func147.trans (congrArg some (by kernel_rfl))⟩,
  f26 := ⟨Tryz.f148.name, by decide, Tryz.func148.trans (congrArg some (by kernel_rfl))⟩,
  f27 := ⟨Tryz.f149.name, by decide, Tryz.func149.trans (congrArg some (by kernel_rfl))⟩,
  f28 := Tryz.func150.trans (congrArg some (by kernel_rfl)),
  f29 := Tryz.func151.trans (congrArg some (by kernel_rfl)),
  f46 := ⟨Tryz.f162.name, by decide, Tryz.func162.trans (congrArg some (by kernel_rfl))⟩,
  f47 := Tryz.func163.trans (congrArg some (by kernel_rfl)),
  f48 := Tryz.func164.trans (congrArg some (by kernel_rfl)),
  f49 := ⟨Tryz.f165.name, by decide, Tryz.func165.trans (congrArg some (by kernel_rfl))⟩,
  f50 := ⟨Tryz.f166.name, by decide, Tryz.func166.trans (congrArg some (by kernel_rfl))⟩,
  f57 := ⟨Tryz.f170.name, by decide, Tryz.func170.trans (congrArg some (by kernel_rfl))⟩,
  t0 := Tryz.underlying0,
  a0 := Tryz.isAgg0,
  z0 := Tryz.sizeOf0,
  v0 := Tryz.zeroValue0,
  t3 := Tryz.underlying3,
  a3 := Tryz.isAgg3,
  z3 := Tryz.sizeOf3,
  v3 := Tryz.zeroValue3,
  t4 := Tryz.underlying4,
  a4 := Tryz.isAgg4,
  z4 := Tryz.sizeOf4,
  v4 := Tryz.zeroValue4,
  t5 := Tryz.underlying5,
  a5 := Tryz.isAgg5,
  z5 := Tryz.sizeOf5,
  v5 := Tryz.zeroValue5,
  t9 := Tryz.underlying9,
  a9 := Tryz.isAgg9,
  z9 := Tryz.sizeOf9,
  v9 := Tryz.zeroValue9,
  t22 := Tryz.underlying43,
  a22 := Tryz.isAgg43,
  z22 := Tryz.sizeOf43,
  v22 := Tryz.zeroValue43,
  t25 := Tryz.underlying194,
  a25 := Tryz.isAgg194,
  z25 := Tryz.sizeOf194,
  v25 := Tryz.zeroValue194,
  t39 := Tryz.underlying218,
  a39 := Tryz.isAgg218,
  z39 := Tryz.sizeOf218,
  v39 := Tryz.zeroValue218,
  t45 := Tryz.underlying239,
  a45 := Tryz.isAgg239,
  z45 := Tryz.sizeOf239,
  v45 := Tryz.zeroValue239,
  t46 := Tryz.underlying240,
  a46 := Tryz.isAgg240,
  z46 := Tryz.sizeOf240,
  v46 := Tryz.zeroValue240,
  t50 := Tryz.underlying179,
  a50 := Tryz.isAgg179,
  z50 := Tryz.sizeOf179,
  v50 := Tryz.zeroValue179,
  t53 := Tryz.underlying49,
  a53 := Tryz.isAgg49,
  z53 := Tryz.sizeOf49,
  v53 := Tryz.zeroValue49,
  t55 := Tryz.underlying50,
  a55 := Tryz.isAgg50,
  z55 := Tryz.sizeOf50,
  v55 := Tryz.zeroValue50,
  t66 := Tryz.underlying252,
  a66 := Tryz.isAgg252,
  z66 := Tryz.sizeOf252,
  v66 := Tryz.zeroValue252,
  t70 := Tryz.underlying255,
  a70 := Tryz.isAgg255,
  z70 := Tryz.sizeOf255,
  v70 := Tryz.zeroValue255,
  t76 := Tryz.underlying259,
  a76 := Tryz.isAgg259,
  z76 := Tryz.sizeOf259,
  v76 := Tryz.zeroValue259,
  t77 := Tryz.underlying176,
  a77 := Tryz.isAgg176,
  z77 := Tryz.sizeOf176,
  v77 := Tryz.zeroValue176
}
def Tryz.cmp_ren : Go.Shelf.Ren := ⟨fun | 106 => 99 | 213 => 132 | 265 => 152 | n => n, fun | 3 => 3 | 9 => 9 | n => n, fun | n => n⟩
theorem Tryz.cmpStr : Lays.n106 Tryz.prog Tryz.cmp_ren := {
  mixed := by kernel_rfl,
  f106 := Tryz.func99.trans (congrArg some (by kernel_rfl)),
  f213 := Tryz.func132.trans (congrArg some (by kernel_rfl)),
  f265 := Tryz.func152.trans (congrArg some (by kernel_rfl)),
  t3 := Tryz.underlying3, a3 := Tryz.isAgg3, z3 := Tryz.sizeOf3, v3 := Tryz.zeroValue3,
  t9 := Tryz.underlying9, a9 := Tryz.isAgg9, z9 := Tryz.sizeOf9, v9 := Tryz.zeroValue9 }
end Go.Proofs
namespace Go.Proofs.YtkamlondepceiaaGreat.St
open Go.SL
theorem compare_reads (a b : ByteArray) (H : List Ck) : Reads Tryz.prog 99 [.string a, .string b] H (.int .i64 (cmpS a b)) := fun w R s =>
  (Any.strings_Compare (ρ := Tryz.cmp_ren) Tryz.cmpStr a b w).mono fun e w' ⟨he, hw⟩ => ⟨_, H, he, ⟨rfl, rfl⟩, by rw [hw]; exact s, by rw [hw]; exact Kept.refl w⟩
theorem cmpG_tells (x y : Gd) : Tells Tryz.prog 98 [.agg (cellsG x).toArray, .agg (cellsG y).toArray] [] fun r H' => r = .int .i64 (cfG x y) := by
 refine Tells.enter Tryz.func98 rfl Tryz.ntmps98 rfl ?_
 intro w0 R
 refine sr_ (WL.h rfl (Hd.boxA rfl fun b2 => ⟨_, rfl, ?_⟩))
 refine WL.h rfl (Hd.boxA rfl fun b3 => ⟨_, rfl, ?_⟩)
 refine a_ rfl rfl (ntsr_ (f_ 0 kr_ rfl rfl ?_))
 refine d_ kr_ rfl mem_ (by rfl) rfl ?_
 refine f_ 0 kr_ rfl rfl ?_
 refine d_ kr_ rfl mem_ (by rfl) rfl ?_
 refine WL.rf rfl (Ent.func Tryz.call99 rfl) (compare_reads x.name y.name []) sp_ ?_
 refine a_ rfl rfl (nt_ (WC.ret (DN.ret1 Tryz.results98 rfl ?_)))
 rfl
theorem goods_tells (p : Nat) (K : List Gd) (L : List Ho) (C : List Ck) (h : StAt 189 p K L C) (hl : K.length ≤ 100000000) : Tells Tryz.prog 60 [.pointer (some ⟨p, 0, none⟩)] C fun r C' => ∃ S Cs, ToldK Gd.name sLt K S ∧ Own r S.length (S.flatMap cellsG) 73 2 Cs ∧ C' = Cs ++ C := by
 refine Tells.enter Tryz.func60 rfl Tryz.ntmps60 rfl ?_
 intro w0 R
 obtain ⟨b1, b2, C1, C2, rfl, hK, hL⟩ := h
 obtain ⟨es, clock, rfl, hes, hborn, hbn⟩ := hK
 have hsz := hes.size
 simp only [kvs, List.length_map] at hsz
 refine sr_ (a_ rfl rfl (nt_ (WC.seq (sr_ (m_ rfl rfl (WL.y rfl (Yd.eqlNil Tryz.underlying113 rfl rfl) (nt_ (WC.no rfl (WC.skip (ts_ (WC.region (a_ rfl rfl (nt_ ?_)))))))))))))
 refine WC.seq (sr_ (m_ rfl rfl (n_ rfl rfl (f_ 0 kr_ rfl rfl ?_))))
 refine d_ kr_ rfl mem_ (by rfl) rfl ?_
 refine WL.h rfl (Hd.rangeM (KT := 9) (ET := 191) kr_ rfl mem_ fun i => ⟨_, rfl, ?_⟩)
 refine nt_ (WC.block (WC.loopS (fun z : List MapEntry × List Gd × (Array Nat) × Value × List Ck => Seen es z.1 z.2.2.1 ∧ z.1.map (fun e : MapEntry => (e.key, e.val)) = z.2.1.map (fun r : Gd => (kStr.kv (Gd.name r), encG r)) ∧ Own z.2.2.2.1 z.2.1.length (z.2.1.flatMap cellsG) 73 2 z.2.2.2.2) (fun z : List MapEntry × List Gd × (Array Nat) × Value × List Ck => [(3, z.2.2.2.1)]) (fun z : List MapEntry × List Gd × (Array Nat) × Value × List Ck => ⟨i, .mapIter (some b1) clock z.2.2.1 clock, true⟩ :: (z.2.2.2.2 ++ (row p [.map (some b1), .map (some b2)] 189 :: ([⟨b1, .map es clock, true⟩] ++ C2)))) (fun z : List MapEntry × List Gd × (Array Nat) × Value × List Ck => es.size - z.1.length) (⟨[], [], #[], .slice none 0 0, []⟩) (show Seen es [] #[] ∧ [].map (fun e : MapEntry => (e.key, e.val)) = [].map (fun r : Gd => (kStr.kv (Gd.name r), encG r)) ∧ Own (.slice none 0 0) [].length ([].flatMap cellsG) 73 2 [] from ⟨Seen.start es, rfl, Own.nil _ _⟩) (Sx.put rfl (sx_)) sp_ ?_))
 rintro ⟨col, B, seen, v, Cs⟩ hI
 replace hI : Seen es col seen ∧ col.map (fun e : MapEntry => (e.key, e.val)) = B.map (fun r : Gd => (kStr.kv (Gd.name r), encG r)) ∧ Own v B.length (B.flatMap cellsG) 73 2 Cs := hI
 obtain ⟨hs, hB, ho⟩ := hI
 change WC _ _ _ _ _ _ ([(3, v)] ++ _) (⟨i, .mapIter (some b1) clock seen clock, true⟩ :: (Cs ++ (row p [.map (some b1), .map (some b2)] 189 :: ([⟨b1, .map es clock, true⟩] ++ C2))))
 have hcl := hs.len hbn
 obtain ⟨vo, vc, rfl, _⟩ := ho.form
 have hBl : B.length = col.length := by simpa using (congrArg List.length hB).symm
 refine sr_ (WL.h rfl (Hd.nextM rfl fr_ mem_ hborn (fun e he => ⟨_, rfl, ?_⟩) (fun hu => ⟨_, rfl, ?_⟩)))
 obtain ⟨hs2, hee⟩ := hs.next he
 obtain ⟨b, hbL, hek, hev⟩ := entsK_one hes hee
 refine x_ rfl rfl rfl (nt_ (WC.seq (WC.yes rfl (WC.skip (DN.then_normal (WC.block (sr_ (WL.h rfl (Hd.entryM rfl List.mem_cons_self mem_ hbn hee ⟨_, rfl, ?_⟩)))))))))
 refine x_ rfl rfl rfl ?_
 refine WL.renamed (t := 16) (v := .string b.name) rfl (by show e.key = _; rw [hek]; rfl) ?_
 refine x_ rfl rfl rfl ?_
 refine WL.renamed (t := 17) (v := .agg #[.int .i64 b.free, .int .i64 b.gone]) rfl (by show e.val = _; rw [hev]; rfl) ?_
 refine WL.h rfl (Hd.alloc (zs := [.int .i64 0, .int .i64 0]) kr_ fun b5 => ⟨_, rfl, ?_⟩)
 refine a_ rfl rfl (WL.s (Hd.storeAll (n := 2) kr_ rfl rfl (by rfl) one_ fr_ (by rfl) ⟨rfl, ?_⟩))
 refine ntr_ (m_ rfl rfl (m_ rfl rfl (f_ 0 kr_ rfl rfl ?_)))
 refine d_ kr_ rfl mem_ (by rfl) rfl ?_
 refine WL.y rfl (Yd.buildL (pl := [(0, 1), (1, 1)]) (zs := [.string ⟨#[]⟩, .int .i64 0]) (parts := [(0, .tmp 19), (1, .tmp 21)]) (vs := [(0, _), (1, _)]) (cells := [_, _]) kr_ kr_ rfl rfl) ?_
 refine WL.h rfl (Hd.buildA (e := 73) (sz := 2) (zs := [.string ⟨#[]⟩, .int .i64 0]) kr_ kr_ kr_ rfl rfl (by rfl) kr_ fun b23 => ⟨_, rfl, ?_⟩)
 refine WL.h rfl (Hd.appendRow (e := 73) (sz := 2) (bytes := 24) (zs := [.string ⟨#[]⟩, .int .i64 0]) kr_ kr_ rfl (by omega) rfl rfl (ho) sp_ mem_ (by rfl) one_ (by simp only [maxLen]; omega) (by omega) fun v2 Ca ho2 => ⟨_, rfl, ?_⟩)
 refine a_ rfl rfl (WL.nil (DN.block_normal ?_))
 have hcl2 := hs2.len hbn
 have hcl3 : (col ++ [e]).length = col.length + 1 := by simp
 exact DN.againS (⟨col ++ [e], B ++ [b], seen.push e.born, v2, Ca⟩) (show Seen es (col ++ [e]) (seen.push e.born) ∧ (col ++ [e]).map (fun e : MapEntry => (e.key, e.val)) = (B ++ [b]).map (fun r : Gd => (kStr.kv (Gd.name r), encG r)) ∧ Own v2 (B ++ [b]).length ((B ++ [b]).flatMap cellsG) 73 2 Ca from ⟨hs2, by rw [List.map_append, List.map_append, hB]; simp [hek, hev], by rw [List.flatMap_append, List.length_append]; simpa [cellsG, cellsH] using ho2⟩) (show es.size - (col ++ [e]).length < es.size - col.length by omega) (Sx.put rfl (sx_)) sp_
 refine x_ rfl rfl rfl (nt_ (WC.seq (WC.no rfl (WC.exit (DN.then_exit (DN.then_exit (DN.block_exit (ts_ (WC.region (m_ rfl rfl (WL.c rfl (Ent.func Tryz.call97 rfl) (sort_tells Tryz.sortG 2 (by omega) Tryz.isAgg73 Tryz.sizeOf73 cellsG cellsG_len cellsG_one cfG swoG 98 Tryz.call98 cmpG_tells ho (by omega)) (Sp.p sp_) ?_)))))))))))
 rintro q Cz ⟨rfl, S, hS, hpw, ho2⟩
 refine ntsr_ (m_ rfl rfl (a_ rfl rfl (nt_ (WC.ret (DN.fit (C := Cz ++ (row p [.map (some b1), .map (some b2)] 189 :: ([⟨b1, .map es clock, true⟩] ++ C2))) sp_ ?_)))))
 refine DN.ret1 Tryz.results60 rfl ?_
 exact ⟨S, Cz, ⟨hS.trans (entsK_all injG hes (hs.all hbn hu) hB), hpw.imp fun {x y} hxy => by rw [← hxy]; exact (ltG y x).symm⟩, by rw [hS.length_eq]; rwa [hS.length_eq] at ho2, rfl⟩
end Go.Proofs.YtkamlondepceiaaGreat.St

set_option linter.unusedVariables false
set_option linter.unusedSimpArgs false
set_option maxHeartbeats 4000000
namespace Go.Proofs.YtkamlondepceiaaGreat.St
open Go.SL
theorem new_tells (v : Value) (gs : List Gd) (hg : ∀ g ∈ gs, g.gone = 0) (H : List Ck) (hv : Rs v gs.length (gs.flatMap cellsG) H) (hl : gs.length ≤ 9223372036854775807) : Tells Tryz.prog 63 [v] H fun r H' => (GoodL gs ∧ ∃ p C, r = .tuple #[.pointer (some ⟨p, 0, none⟩), .int .i64 0] ∧ StAt 189 p gs [] C ∧ H' = C ++ H) ∨ (¬ GoodL gs ∧ r = .tuple #[.pointer none, .int .i64 2] ∧ H' = H) := by
 refine Tells.enter Tryz.func63 rfl Tryz.ntmps63 rfl ?_
 intro w0 R
 obtain ⟨vo, vc, rfl, hvc⟩ := hv.form
 refine sr_ (a_ rfl rfl (a_ rfl rfl (nt_ (WC.seq (sr_ (m_ rfl rfl (WL.y rfl (Yd.len (e := 73) kr_ rfl) ?_)))))))
 refine WL.y rfl (Yd.gtr rfl rfl) (nt_ (WC.ite rfl (fun h11 => ?_) (fun h11 => ?_)))
 refine sr_ (a_ rfl rfl (a_ rfl rfl (nt_ (WC.ret (DN.then_ret ?_)))))
 first | (have hlt2 : i < gs.length := hlt; refine DN.fit (C := H) sp_ ?_) | refine DN.fit (C := row b15 [.map (some b1), .map (some b2)] 189 :: (C1 ++ (C2 ++ H))) sp_ ?_ | skip
 refine DN.ret2 Tryz.results63 rfl rfl ?_
 rotate_left
 refine WC.skip (ts_ (WC.region (WL.h rfl (Hd.makeMapG kStr fun b1 C1 h1 => ⟨_, rfl, ?_⟩))))
 refine WL.h rfl (Hd.makeMapG kU32 fun b2 C2 h2 => ⟨_, rfl, ?_⟩)
 refine WL.y rfl (Yd.buildL (pl := [(0, 1), (1, 1)]) (zs := [.map none, .map none]) (parts := [(0, .tmp 12), (1, .tmp 13)]) (vs := [(0, _), (1, _)]) (cells := [_, _]) kr_ kr_ rfl rfl) ?_
 refine WL.h rfl (Hd.boxA rfl fun b15 => ⟨_, rfl, ?_⟩)
 refine a_ rfl rfl (nt_ (WC.seq (sr_ (m_ rfl rfl (WL.y rfl (Yd.len (e := 73) kr_ rfl) ?_)))))
 refine m_ rfl rfl (nt_ (WC.block (WC.loopS (fun z : Nat × List Ck => z.1 ≤ gs.length ∧ (∀ (j : Nat) (h : j < gs.length), j < z.1 → goodB gs[j]) ∧ ((gs.take z.1).map Gd.name).Nodup ∧ MpG kStr b1 (kvs Gd.name encG (gs.take z.1)) z.2) (fun z : Nat × List Ck => [(18, .int .i64 (z.1 : Int))]) (fun z : Nat × List Ck => row b15 [.map (some b1), .map (some b2)] 189 :: (z.2 ++ (C2 ++ H))) (fun z : Nat × List Ck => gs.length - z.1) (⟨0, C1⟩) (show 0 ≤ gs.length ∧ (∀ (j : Nat) (h : j < gs.length), j < 0 → goodB gs[j]) ∧ ((gs.take 0).map Gd.name).Nodup ∧ MpG kStr b1 (kvs Gd.name encG (gs.take 0)) C1 from ⟨Nat.zero_le _, fun j h hj => by omega, by simp, by simpa [kvs] using h1⟩) (Sx.put rfl (sx_)) sp_ ?_)))
 rintro ⟨i, C1⟩ hI
 replace hI : i ≤ gs.length ∧ (∀ (j : Nat) (h : j < gs.length), j < i → goodB gs[j]) ∧ ((gs.take i).map Gd.name).Nodup ∧ MpG kStr b1 (kvs Gd.name encG (gs.take i)) C1 := hI
 obtain ⟨hi, hgood, hnd, hK⟩ := hI
 change WC _ _ _ _ _ _ ([(18, .int .i64 (i : Int))] ++ _) (row b15 [.map (some b1), .map (some b2)] 189 :: (C1 ++ (C2 ++ H)))
 refine sr_ (WL.y rfl (Yd.lss rfl rfl) (nt_ (WC.seq (WC.ite rfl (fun h19 => ?_) (fun h19 => ?_)))))
 have hlt : i < gs.length := by omega
 have hgn := hg gs[i] (List.getElem_mem hlt)
 have htk : gs.take (i + 1) = gs.take i ++ [gs[i]] := List.take_succ_eq_append_getElem hlt
 refine WC.skip (ts_ (WC.block (sr_ (WL.elemA (e := 73) (s := 2) kr_ kr_ kr_ rfl rfl (rfl) (hv.mono gr_) (flat_row cellsG 2 cellsG_len gs i hlt) (by rfl) (by omega) (hlt) rfl rfl ?_))))
 intro p20
 refine WL.h rfl (Hd.alloc (zs := [.string ⟨#[]⟩, .int .i64 0]) kr_ fun b6 => ⟨_, rfl, ?_⟩)
 refine WL.s (Hd.storeAll (n := 2) kr_ rfl rfl (by rfl) one_ fr_ (by rfl) ⟨rfl, ?_⟩)
 refine nt_ (WC.cutK (fun z : Nat => True) (fun z : Nat => [(8, .bool (findK Gd.name (gs.take i) gs[i].name).isSome)]) (fun z : Nat => row b6 (cellsG gs[i]) 73 :: (row b15 [.map (some b1), .map (some b2)] 189 :: (C1 ++ (C2 ++ H)))) ?_ ?_)
 refine WC.draw 13 kr_ rfl ?_
 refine WAG.start (N := 13) rfl (wy_ 0 [] rfl (Yd.move rfl) kr_ ?_)
 refine wy_ 1 [0] rfl (Yd.notNil rfl) kr_ ?_
 refine wy_ 2 [1] rfl (Yd.fieldAddr (k := 0) kr_ rfl) kr_ ?_
 refine wq_ (wf_ (i := 3) [2] rfl (QAt.rd Wt.none (Rd.load1 kr_ rfl mem_ (by rfl))) kr_) kr_ ?_
 refine wy_ 4 [] rfl (Yd.fieldAddr (k := 0) kr_ rfl) kr_ ?_
 refine wq_ (wf_ (i := 5) [4] rfl (QAt.rd Wt.none (Rd.load1 kr_ rfl mem_ (by rfl))) kr_) kr_ ?_
 refine ws_ [(6, [5, 3]), (10, [])] kr_ (all_c ?_ (all_c ?_ (all_n)))
 refine so_ (j := 6) [_, _] rfl (SO.h rfl Wt.none rfl (Hd.lookupG (k0 := kStr) (KT := 9) (ET := 191) (TD := .string) (n := gs[i].name) (z := .agg #[.int .i64 0, .int .i64 0]) kr_ Tryz.underlying9 rfl kr_ rfl rfl hK sp_ (lkG2 (gs.take i) gs[i].name) ⟨_, rfl, ?_⟩))
 refine wk_ [_, _, _, _] (_ :: ([_, _] ++ _)) rfl rfl all_n (wy_ 7 [] rfl (Yd.move rfl) kr_ ?_)
 refine wy_ 8 [7] rfl (Yd.extract rfl rfl) kr_ ?_
 refine wy_ 9 [7] rfl (Yd.extract rfl rfl) kr_ ?_
 refine ws_ [(10, [])] kr_ (all_c ?_ (all_n))
 refine so_ (j := 10) [] rfl (SO.h rfl Wt.none rfl (Hd.alloc (zs := [.int .i64 0, .int .i64 0]) kr_ fun b7 => ⟨_, rfl, ?_⟩))
 refine wk_ [_, _, _, _, _, _, _] (_ :: ([] ++ _)) rfl rfl all_n (ws_ [(11, [8, 7, 4, 2, 1, 0])] kr_ (all_c ?_ (all_n)))
 refine so_ (j := 11) [_, _, _, _, _, _] rfl (SO.s rfl Wt.none (Hd.storeAll (n := 2) kr_ rfl rfl (by rfl) one_ fr_ (by rfl) ⟨rfl, ?_⟩))
 refine wk_ [_] (([_, _, _, _, _, _] ++ _)) rfl rfl all_n (wy_ 12 [9] rfl (Yd.assign rfl) kr_ ?_)
 refine wd_ [_, _] rfl kr_ ?_
 refine DN.fit (C := row b6 (cellsG gs[i]) 73 :: (row b15 [.map (some b1), .map (some b2)] 189 :: (C1 ++ (C2 ++ H)))) sp_ ?_
 exact DN.reachK (0) (trivial) (Sx.put rfl (sx_)) (Sp.all sp_)
 refine so_ (j := 10) [] rfl (SO.h rfl Wt.none rfl (Hd.alloc (zs := [.int .i64 0, .int .i64 0]) kr_ fun b7 => ⟨_, rfl, ?_⟩))
 refine wk_ [_, _, _, _, _, _] (_ :: ([] ++ _)) rfl rfl (all_c (wf_ [4] rfl (QAt.rd Wt.none (Rd.load1 kr_ rfl mem_ (by rfl))) kr_) (all_c (wf_ [2] rfl (QAt.rd Wt.none (Rd.load1 kr_ rfl mem_ (by rfl))) kr_) all_n)) ?_
 refine ws_ [(6, [5, 3])] kr_ (all_c ?_ (all_n))
 refine so_ (j := 6) [_, _] rfl (SO.h rfl Wt.none rfl (Hd.lookupG (k0 := kStr) (KT := 9) (ET := 191) (TD := .string) (n := gs[i].name) (z := .agg #[.int .i64 0, .int .i64 0]) kr_ Tryz.underlying9 rfl kr_ rfl rfl hK sp_ (lkG2 (gs.take i) gs[i].name) ⟨_, rfl, ?_⟩))
 refine wk_ [_, _, _, _] (_ :: ([_, _] ++ _)) rfl rfl all_n (wy_ 7 [] rfl (Yd.move rfl) kr_ ?_)
 refine wy_ 8 [7] rfl (Yd.extract rfl rfl) kr_ ?_
 refine wy_ 9 [7] rfl (Yd.extract rfl rfl) kr_ ?_
 refine ws_ [(11, [8, 7, 4, 2, 1, 0])] kr_ (all_c ?_ (all_n))
 refine so_ (j := 11) [_, _, _, _, _, _] rfl (SO.s rfl Wt.none (Hd.storeAll (n := 2) kr_ rfl rfl (by rfl) one_ fr_ (by rfl) ⟨rfl, ?_⟩))
 refine wk_ [_] (([_, _, _, _, _, _] ++ _)) rfl rfl all_n (wy_ 12 [9] rfl (Yd.assign rfl) kr_ ?_)
 refine wd_ [_, _] rfl kr_ ?_
 refine DN.fit (C := row b6 (cellsG gs[i]) 73 :: (row b15 [.map (some b1), .map (some b2)] 189 :: (C1 ++ (C2 ++ H)))) sp_ ?_
 exact DN.reachK (0) (trivial) (Sx.put rfl (sx_)) (Sp.all sp_)
 intro _ _
 refine WC.seq (sr_ (f_ 0 kr_ rfl rfl ?_))
 refine d_ kr_ rfl mem_ (by rfl) rfl ?_
 refine WL.y rfl (Yd.eqlS rfl rfl) (m_ rfl rfl (WL.partP (t := 35) rfl (fun hg35 => ?_) (fun hg35 => ?_)))
 iterate 4 refine gn_ 35 rfl rfl rfl rfl ?_
 refine WL.y rfl (Yd.pickT rfl rfl) (m_ rfl rfl ?_)
 iterate 3 refine gn_ 41 rfl rfl rfl rfl ?_
 refine WL.y rfl (Yd.pickT rfl rfl) (m_ rfl rfl ?_)
 iterate 3 refine gn_ 46 rfl rfl rfl rfl ?_
 refine WL.y rfl (Yd.pickT rfl rfl) (m_ rfl rfl (gn_ 51 rfl rfl rfl rfl (WL.y rfl (Yd.pickT rfl rfl) (nt_ (WC.yes rfl (sr_ (a_ rfl rfl (a_ rfl rfl (nt_ (WC.ret (DN.then_ret (DN.block_ret (DN.then_ret ?_)))))))))))))
 refine DN.then_ret (DN.block_ret (DN.then_ret ?_))
 first | (have hlt2 : i < gs.length := hlt; refine DN.fit (C := H) sp_ ?_) | refine DN.fit (C := row b15 [.map (some b1), .map (some b2)] 189 :: (C1 ++ (C2 ++ H))) sp_ ?_ | skip
 refine DN.ret2 Tryz.results63 rfl rfl ?_
 rotate_left
 refine gy_ 35 rfl rfl rfl (Yd.fieldAddr (k := 0) kr_ rfl) ?_
 refine WL.gh (dj := 35) rfl rfl rfl (Hd.load1 kr_ rfl mem_ (by rfl) ⟨_, rfl, ?_⟩)
 refine gy_ 35 rfl rfl rfl (Yd.lenS Tryz.underlying9 rfl) (gy_ 35 rfl rfl rfl (Yd.gtr rfl rfl) (WL.y rfl (Yd.pickF rfl rfl) (m_ rfl rfl (WL.partP (t := 41) rfl (fun hg41 => ?_) (fun hg41 => ?_)))))
 iterate 3 refine gn_ 41 rfl rfl rfl rfl ?_
 refine WL.y rfl (Yd.pickT rfl rfl) (m_ rfl rfl ?_)
 iterate 3 refine gn_ 46 rfl rfl rfl rfl ?_
 refine WL.y rfl (Yd.pickT rfl rfl) (m_ rfl rfl (gn_ 51 rfl rfl rfl rfl (WL.y rfl (Yd.pickT rfl rfl) (nt_ (WC.yes rfl (sr_ (a_ rfl rfl (a_ rfl rfl (nt_ (WC.ret (DN.then_ret (DN.block_ret (DN.then_ret ?_)))))))))))))
 refine DN.then_ret (DN.block_ret (DN.then_ret ?_))
 first | (have hlt2 : i < gs.length := hlt; refine DN.fit (C := H) sp_ ?_) | refine DN.fit (C := row b15 [.map (some b1), .map (some b2)] 189 :: (C1 ++ (C2 ++ H))) sp_ ?_ | skip
 refine DN.ret2 Tryz.results63 rfl rfl ?_
 rotate_left
 refine gy_ 41 rfl rfl rfl (Yd.fieldAddr (k := 1) kr_ rfl) ?_
 refine WL.gh (dj := 41) rfl rfl rfl (Hd.load1 kr_ rfl mem_ (by rfl) ⟨_, rfl, ?_⟩)
 refine gy_ 41 rfl rfl rfl (Yd.lss rfl rfl) (WL.y rfl (Yd.pickF rfl rfl) (m_ rfl rfl (WL.partP (t := 46) rfl (fun hg46 => ?_) (fun hg46 => ?_))))
 iterate 3 refine gn_ 46 rfl rfl rfl rfl ?_
 refine WL.y rfl (Yd.pickT rfl rfl) (m_ rfl rfl (gn_ 51 rfl rfl rfl rfl (WL.y rfl (Yd.pickT rfl rfl) (nt_ (WC.yes rfl (sr_ (a_ rfl rfl (a_ rfl rfl (nt_ (WC.ret (DN.then_ret (DN.block_ret (DN.then_ret ?_)))))))))))))
 refine DN.then_ret (DN.block_ret (DN.then_ret ?_))
 first | (have hlt2 : i < gs.length := hlt; refine DN.fit (C := H) sp_ ?_) | refine DN.fit (C := row b15 [.map (some b1), .map (some b2)] 189 :: (C1 ++ (C2 ++ H))) sp_ ?_ | skip
 refine DN.ret2 Tryz.results63 rfl rfl ?_
 rotate_left
 refine gy_ 46 rfl rfl rfl (Yd.fieldAddr (k := 1) kr_ rfl) ?_
 refine WL.gh (dj := 46) rfl rfl rfl (Hd.load1 kr_ rfl mem_ (by rfl) ⟨_, rfl, ?_⟩)
 refine gy_ 46 rfl rfl rfl (Yd.gtr rfl rfl) (WL.y rfl (Yd.pickF rfl rfl) (m_ rfl rfl (WL.partP (t := 51) rfl (fun hg51 => ?_) (fun hg51 => ?_))))
 refine gn_ 51 rfl rfl rfl rfl (WL.y rfl (Yd.pickT rfl rfl) (nt_ (WC.yes rfl (sr_ (a_ rfl rfl (a_ rfl rfl (nt_ (WC.ret (DN.then_ret (DN.block_ret (DN.then_ret (DN.then_ret (DN.block_ret ?_)))))))))))))
 refine DN.then_ret ?_
 first | (have hlt2 : i < gs.length := hlt; refine DN.fit (C := H) sp_ ?_) | refine DN.fit (C := row b15 [.map (some b1), .map (some b2)] 189 :: (C1 ++ (C2 ++ H))) sp_ ?_ | skip
 refine DN.ret2 Tryz.results63 rfl rfl ?_
 rotate_left
 refine gy_ 51 rfl rfl rfl (Yd.move rfl) (WL.y rfl (Yd.pickF rfl rfl) (nt_ (WC.cond rfl (fun h53 => ?_) (fun h53 => ?_))))
 refine sr_ (a_ rfl rfl (a_ rfl rfl (nt_ (WC.ret (DN.then_ret (DN.block_ret (DN.then_ret (DN.then_ret (DN.block_ret (DN.then_ret ?_))))))))))
 first | (have hlt2 : i < gs.length := hlt; refine DN.fit (C := H) sp_ ?_) | refine DN.fit (C := row b15 [.map (some b1), .map (some b2)] 189 :: (C1 ++ (C2 ++ H))) sp_ ?_ | skip
 refine DN.ret2 Tryz.results63 rfl rfl ?_
 rotate_left
 have hgi : goodB gs[i] := ⟨hg35, by omega, by omega, by omega⟩
 have hnone : findK Gd.name (gs.take i) gs[i].name = none := by simpa using h53
 have hndi := once_more hnd hnone
 refine WC.skip (DN.then_normal (WC.draw 10 kr_ rfl ?_))
 refine WAG.start (N := 10) rfl (wy_ 0 [] rfl (Yd.move rfl) kr_ ?_)
 refine wy_ 1 [0] rfl (Yd.notNil rfl) kr_ ?_
 refine wy_ 2 [1] rfl (Yd.fieldAddr (k := 0) kr_ rfl) kr_ ?_
 refine wq_ (wf_ (i := 3) [2] rfl (QAt.rd Wt.none (Rd.load1 kr_ rfl mem_ (by rfl))) kr_) kr_ ?_
 refine wy_ 4 [] rfl (Yd.fieldAddr (k := 0) kr_ rfl) kr_ ?_
 refine wq_ (wf_ (i := 5) [4] rfl (QAt.rd Wt.none (Rd.load1 kr_ rfl mem_ (by rfl))) kr_) kr_ ?_
 refine wy_ 6 [] rfl (Yd.fieldAddr (k := 1) kr_ rfl) kr_ ?_
 refine wq_ (wf_ (i := 7) [6] rfl (QAt.rd Wt.none (Rd.load1 kr_ rfl mem_ (by rfl))) kr_) kr_ ?_
 refine wy_ 8 [7] rfl (Yd.buildL (pl := [(0, 1), (1, 1)]) (zs := [.int .i64 0, .int .i64 0]) (parts := [(0, .tmp 61)]) (vs := [(0, _)]) (cells := [_, .int .i64 0]) kr_ kr_ rfl rfl) kr_ ?_
 refine ws_ [(9, [8, 7, 6, 5, 4, 3, 2, 1, 0])] kr_ (all_c ?_ (all_n))
 refine so_ (j := 9) [_, _, _, _, _, _, _, _, _] rfl ?_
 refine SO.s rfl Wt.none (Hd.mapSet (k0 := kStr) (KT := 9) (ET := 191) (TD := .string) (n := gs[i].name) kr_ Tryz.underlying9 rfl rfl rfl rfl hK (by rw [kvs_keys]; exact hnd) sp_ fun C3 h3 => ⟨rfl, ?_⟩)
 refine wk_ [] (([_, _, _, _, _, _, _, _, _] ++ _)) rfl rfl all_n (wd_ [] rfl kr_ ?_)
 refine DN.block_normal (DN.then_normal (WC.region (WL.y rfl (Yd.add rfl rfl (by omega) (by omega)) ?_)))
 refine m_ rfl rfl (WL.nil ?_)
 exact DN.againS (⟨i + 1, C3⟩) (show (i + 1) ≤ gs.length ∧ (∀ (j : Nat) (h : j < gs.length), j < (i + 1) → goodB gs[j]) ∧ ((gs.take (i + 1)).map Gd.name).Nodup ∧ MpG kStr b1 (kvs Gd.name encG (gs.take (i + 1))) C3 from ⟨by omega, fun j h hj => by
   rcases Nat.lt_or_ge j i with h5 | h5
   · exact hgood j h h5
   obtain rfl : j = i := by omega
   exact hgi, by rw [htk]; exact hndi, by rw [htk]; exact put_more hgn hnone h3⟩) (show gs.length - (i + 1) < gs.length - i by omega) (Sx.put rfl (sx_)) sp_
 obtain rfl : i = gs.length := by omega
 rw [List.take_length] at hnd hK
 refine WC.exit (DN.then_exit (DN.then_exit (DN.block_exit (ts_ (WC.region (m_ rfl rfl (a_ rfl rfl (a_ rfl rfl (nt_ (WC.ret ?_))))))))))
 first | (have hlt2 : i < gs.length := hlt; refine DN.fit (C := H) sp_ ?_) | refine DN.fit (C := row b15 [.map (some b1), .map (some b2)] 189 :: (C1 ++ (C2 ++ H))) sp_ ?_ | skip
 refine DN.ret2 Tryz.results63 rfl rfl ?_
 rotate_left
 all_goals
  first
    | exact .inr ⟨fun hG => by have := hG.1; omega, rfl, rfl⟩
    | exact .inr ⟨fun hG => (hG.2.2 gs[i] (List.getElem_mem hlt)).1 hg35, rfl, rfl⟩
    | exact .inr ⟨fun hG => by have := (hG.2.2 gs[i] (List.getElem_mem hlt)).2; omega, rfl, rfl⟩
    | exact .inr ⟨fun hG => (twice_no hlt h53) hG.2.1, rfl, rfl⟩
    | exact .inl ⟨⟨by omega, hnd, fun g hm => by obtain ⟨j, hj, rfl⟩ := List.getElem_of_mem hm; exact hgood j hj hj⟩, b15, row b15 [.map (some b1), .map (some b2)] 189 :: (C1 ++ C2), rfl, ⟨b1, b2, C1, C2, rfl, hK, h2⟩, by simp⟩
end Go.Proofs.YtkamlondepceiaaGreat.St

set_option linter.unusedVariables false
set_option linter.unusedSimpArgs false
set_option maxHeartbeats 4000000
namespace Go.Proofs
def Tryz.sortU_ren : Go.Shelf.Ren := ⟨fun | 6 => 100 | 15 => 131 | 14 => 133 | 28 => 150 | 29 => 151 | 20 => 153 | 21 => 154 | 22 => 155 | 23 => 156 | 24 => 157 | 25 => 158 | 26 => 159 | 27 => 160 | 46 => 167 | 47 => 163 | 48 => 164 | 49 => 168 | 50 => 169 | 57 => 171 | n => n, fun | 22 => 44 | 24 => 71 | 25 => 200 | 3 => 3 | 39 => 218 | 0 => 0 | 53 => 49 | 55 => 50 | 4 => 4 | 46 => 240 | 45 => 239 | 50 => 179 | 5 => 5 | 9 => 9 | 66 => 252 | 70 => 255 | 76 => 259 | 77 => 176 | n => n, fun | n => n⟩
theorem Tryz.sortU : SlLaysF0.n6 Tryz.prog Tryz.sortU_ren := {
  mixed := by kernel_rfl,
  f6 := ⟨Tryz.f100.name, by decide, Tryz.func100.trans (congrArg some (by kernel_rfl))⟩,
  f14 := ⟨Tryz.f133.name, by decide, Tryz.func133.trans (congrArg some (by kernel_rfl))⟩,
  f15 := Tryz.func131.trans (congrArg some (by kernel_rfl)),
  f20 := ⟨Tryz.f153.name, by decide, Tryz.func153.trans (congrArg some (by kernel_rfl))⟩,
  f21 := ⟨Tryz.f154.name, by decide, Tryz.func154.trans (congrArg some (by kernel_rfl))⟩,
  f22 := ⟨Tryz.f155.name, by decide, Tryz.func155.trans (congrArg some (by kernel_rfl))⟩,
  f23 := ⟨Tryz.f156.name, by decide, Tryz.func156.trans (congrArg some (by kernel_rfl))⟩,
  f24 := ⟨Tryz.f157.name, by decide, Tryz.func157.trans (congrArg some (by kernel_rfl))⟩,
  f25 := ⟨Tryz.f158.name, by decide, Tryz.func158.trans (congrArg some (by kernel_rfl))⟩,
  f26 := ⟨Tryz.f159.name, by decide, Tryz.func159.trans (congrArg some (by kernel_rfl))⟩,
  f27 := ⟨Tryz.f160.name, by decide, Tryz.func160.trans (congrArg some (by kernel_rfl))⟩,
  f28 := Tryz.func150.trans (congrArg some (by kernel_rfl)),
  f29 := Tryz.func151.trans (congrArg some (by kernel_rfl)),
  f46 := ⟨Tryz.f167.name, by decide, Tryz.func167.trans (congrArg some (by kernel_rfl))⟩,
  f47 := Tryz.func163.trans (congrArg some (by kernel_rfl)),
  f48 := Tryz.func164.trans (congrArg some (by kernel_rfl)),
  f49 := ⟨Tryz.f168.name, by decide, Tryz.func168.trans (congrArg some (by kernel_rfl))⟩,
  f50 := ⟨Tryz.f169.name, by decide, Tryz.func169.trans (congrArg some (by kernel_rfl))⟩,
  f57 := ⟨Tryz.f171.name, by decide, Tryz.func171.trans (congrArg some (by kernel_rfl))⟩,
  t0 := Tryz.underlying0,
  a0 := Tryz.isAgg0,
  z0 := Tryz.sizeOf0,
  v0 := Tryz.zeroValue0,
  t3 := Tryz.underlying3,
  a3 := Tryz.isAgg3,
  z3 := Tryz.sizeOf3,
  v3 := Tryz.zeroValue3,
  t4 := Tryz.underlying4,
  a4 := Tryz.isAgg4,
  z4 := Tryz.sizeOf4,
  v4 := Tryz.zeroValue4,
  t5 := Tryz.underlying5,
  a5 := Tryz.isAgg5,
  z5 := Tryz.sizeOf5,
  v5 := Tryz.zeroValue5,
  t9 := Tryz.underlying9,
  a9 := Tryz.isAgg9,
  z9 := Tryz.sizeOf9,
  v9 := Tryz.zeroValue9,
  t22 := Tryz.underlying44,
  a22 := Tryz.isAgg44,
  z22 := Tryz.sizeOf44,
  v22 := Tryz.zeroValue44,
  t25 := Tryz.underlying200,
  a25 := Tryz.isAgg200,
  z25 := Tryz.sizeOf200,
  v25 := Tryz.zeroValue200,
  t39 := Tryz.underlying218,
  a39 := Tryz.isAgg218,
  z39 := Tryz.sizeOf218,
  v39 := Tryz.zeroValue218,
  t45 := Tryz.underlying239,
  a45 := Tryz.isAgg239,
  z45 := Tryz.sizeOf239,
  v45 := Tryz.zeroValue239,
  t46 := Tryz.underlying240,
  a46 := Tryz.isAgg240,
  z46 := Tryz.sizeOf240,
  v46 := Tryz.zeroValue240,
  t50 := Tryz.underlying179,
  a50 := Tryz.isAgg179,
  z50 := Tryz.sizeOf179,
  v50 := Tryz.zeroValue179,
  t53 := Tryz.underlying49,
  a53 := Tryz.isAgg49,
  z53 := Tryz.sizeOf49,
  v53 := Tryz.zeroValue49,
  t55 := Tryz.underlying50,
  a55 := Tryz.isAgg50,
  z55 := Tryz.sizeOf50,
  v55 := Tryz.zeroValue50,
  t66 := Tryz.underlying252,
  a66 := Tryz.isAgg252,
  z66 := Tryz.sizeOf252,
  v66 := Tryz.zeroValue252,
  t70 := Tryz.underlying255,
  a70 := Tryz.isAgg255,
  z70 := Tryz.sizeOf255,
  v70 := Tryz.zeroValue255,
  t76 := Tryz.underlying259,
  a76 := Tryz.isAgg259,
  z76 := Tryz.sizeOf259,
  v76 := Tryz.zeroValue259,
  t77 := Tryz.underlying176,
  a77 := Tryz.isAgg176,
  z77 := Tryz.sizeOf176,
  v77 := Tryz.zeroValue176
}
def Tryz.cmp_renPu : Go.Shelf.Ren := ⟨fun | 106 => 99 | 213 => 132 | 265 => 152 | n => n, fun | 3 => 3 | 9 => 9 | n => n, fun | n => n⟩
theorem Tryz.cmpStrPu : Lays.n106 Tryz.prog Tryz.cmp_renPu := {
  mixed := by kernel_rfl,
  f106 := Tryz.func99.trans (congrArg some (by kernel_rfl)),
  f213 := Tryz.func132.trans (congrArg some (by kernel_rfl)),
  f265 := Tryz.func152.trans (congrArg some (by kernel_rfl)),
  t3 := Tryz.underlying3, a3 := Tryz.isAgg3, z3 := Tryz.sizeOf3, v3 := Tryz.zeroValue3,
  t9 := Tryz.underlying9, a9 := Tryz.isAgg9, z9 := Tryz.sizeOf9, v9 := Tryz.zeroValue9 }
end Go.Proofs
namespace Go.Proofs.YtkamlondepceiaaGreat.Pu
open Go.SL
theorem compare_reads (a b : ByteArray) (H : List Ck) : Reads Tryz.prog 99 [.string a, .string b] H (.int .i64 (cmpS a b)) := fun w R s =>
  (Any.strings_Compare (ρ := Tryz.cmp_renPu) Tryz.cmpStrPu a b w).mono fun e w' ⟨he, hw⟩ => ⟨_, H, he, ⟨rfl, rfl⟩, by rw [hw]; exact s, by rw [hw]; exact Kept.refl w⟩
theorem cmpU_tells (x y : Au) : Tells Tryz.prog 101 [.agg (cellsU x).toArray, .agg (cellsU y).toArray] [] fun r H' => r = .int .i64 (cfU x y) := by
 refine Tells.enter Tryz.func101 rfl Tryz.ntmps101 rfl ?_
 intro w0 R
 refine sr_ (WL.h rfl (Hd.boxA rfl fun b2 => ⟨_, rfl, ?_⟩))
 refine WL.h rfl (Hd.boxA rfl fun b3 => ⟨_, rfl, ?_⟩)
 refine a_ rfl rfl (ntsr_ (f_ 0 kr_ rfl rfl ?_))
 refine d_ kr_ rfl mem_ (by rfl) rfl ?_
 refine f_ 0 kr_ rfl rfl ?_
 refine d_ kr_ rfl mem_ (by rfl) rfl ?_
 refine WL.rf rfl (Ent.func Tryz.call99 rfl) (compare_reads x.name y.name []) sp_ ?_
 refine a_ rfl rfl (nt_ (WC.ret (DN.ret1 Tryz.results101 rfl ?_)))
 rfl
theorem accs_tells (p : Nat) (K : List Au) (L : List Py) (C : List Ck) (h : PsAt 198 p K L C) (hl : K.length ≤ 100000000) : Tells Tryz.prog 61 [.pointer (some ⟨p, 0, none⟩)] C fun r C' => ∃ S Cs, ToldK Au.name sLt K S ∧ Own r S.length (S.flatMap cellsU) 71 3 Cs ∧ C' = Cs ++ C := by
 refine Tells.enter Tryz.func61 rfl Tryz.ntmps61 rfl ?_
 intro w0 R
 obtain ⟨b1, b2, C1, C2, rfl, hK, hL⟩ := h
 obtain ⟨es, clock, rfl, hes, hborn, hbn⟩ := hK
 have hsz := hes.size
 simp only [kvs, List.length_map] at hsz
 refine sr_ (a_ rfl rfl (nt_ (WC.seq (sr_ (m_ rfl rfl (WL.y rfl (Yd.eqlNil Tryz.underlying114 rfl rfl) (nt_ (WC.no rfl (WC.skip (ts_ (WC.region (a_ rfl rfl (nt_ ?_)))))))))))))
 refine WC.seq (sr_ (m_ rfl rfl (n_ rfl rfl (f_ 0 kr_ rfl rfl ?_))))
 refine d_ kr_ rfl mem_ (by rfl) rfl ?_
 refine WL.h rfl (Hd.rangeM (KT := 9) (ET := 71) kr_ rfl mem_ fun i => ⟨_, rfl, ?_⟩)
 refine nt_ (WC.block (WC.loopS (fun z : List MapEntry × List Au × (Array Nat) × Value × List Ck => Seen es z.1 z.2.2.1 ∧ z.1.map (fun e : MapEntry => (e.key, e.val)) = z.2.1.map (fun r : Au => (kStr.kv (Au.name r), encU r)) ∧ Own z.2.2.2.1 z.2.1.length (z.2.1.flatMap cellsU) 71 3 z.2.2.2.2) (fun z : List MapEntry × List Au × (Array Nat) × Value × List Ck => [(3, z.2.2.2.1)]) (fun z : List MapEntry × List Au × (Array Nat) × Value × List Ck => ⟨i, .mapIter (some b1) clock z.2.2.1 clock, true⟩ :: (z.2.2.2.2 ++ (row p [.map (some b1), .map (some b2)] 198 :: ([⟨b1, .map es clock, true⟩] ++ C2)))) (fun z : List MapEntry × List Au × (Array Nat) × Value × List Ck => es.size - z.1.length) (⟨[], [], #[], .slice none 0 0, []⟩) (show Seen es [] #[] ∧ [].map (fun e : MapEntry => (e.key, e.val)) = [].map (fun r : Au => (kStr.kv (Au.name r), encU r)) ∧ Own (.slice none 0 0) [].length ([].flatMap cellsU) 71 3 [] from ⟨Seen.start es, rfl, Own.nil _ _⟩) (Sx.put rfl (sx_)) sp_ ?_))
 rintro ⟨col, B, seen, v, Cs⟩ hI
 replace hI : Seen es col seen ∧ col.map (fun e : MapEntry => (e.key, e.val)) = B.map (fun r : Au => (kStr.kv (Au.name r), encU r)) ∧ Own v B.length (B.flatMap cellsU) 71 3 Cs := hI
 obtain ⟨hs, hB, ho⟩ := hI
 change WC _ _ _ _ _ _ ([(3, v)] ++ _) (⟨i, .mapIter (some b1) clock seen clock, true⟩ :: (Cs ++ (row p [.map (some b1), .map (some b2)] 198 :: ([⟨b1, .map es clock, true⟩] ++ C2))))
 have hcl := hs.len hbn
 obtain ⟨vo, vc, rfl, _⟩ := ho.form
 have hBl : B.length = col.length := by simpa using (congrArg List.length hB).symm
 refine sr_ (WL.h rfl (Hd.nextM rfl fr_ mem_ hborn (fun e he => ⟨_, rfl, ?_⟩) (fun hu => ⟨_, rfl, ?_⟩)))
 obtain ⟨hs2, hee⟩ := hs.next he
 obtain ⟨b, hbL, hek, hev⟩ := entsK_one hes hee
 refine x_ rfl rfl rfl (nt_ (WC.seq (WC.yes rfl (WC.skip (DN.then_normal (WC.block (sr_ (WL.h rfl (Hd.entryM rfl List.mem_cons_self mem_ hbn hee ⟨_, rfl, ?_⟩)))))))))
 refine x_ rfl rfl rfl ?_
 refine WL.renamed (t := 16) (v := .agg (cellsU b).toArray) rfl (by show e.val = _; rw [hev]; rfl) ?_
 refine WL.h rfl (Hd.alloc (zs := [.string ⟨#[]⟩, .int .i64 0, .int .i64 0]) kr_ fun b5 => ⟨_, rfl, ?_⟩)
 refine WL.s (Hd.storeAll (n := 3) kr_ rfl rfl (by rfl) one_ fr_ (by rfl) ⟨rfl, ?_⟩)
 refine ntr_ (m_ rfl rfl (WL.h rfl (Hd.loadAll (n := 3) kr_ rfl mem_ (by rfl) ⟨_, rfl, ?_⟩)))
 refine WL.h rfl (Hd.buildA (e := 71) (sz := 3) (zs := [.string ⟨#[]⟩, .int .i64 0, .int .i64 0]) kr_ kr_ kr_ rfl rfl (by rfl) kr_ fun b19 => ⟨_, rfl, ?_⟩)
 refine WL.h rfl (Hd.appendRow (e := 71) (sz := 3) (bytes := 32) (zs := [.string ⟨#[]⟩, .int .i64 0, .int .i64 0]) kr_ kr_ rfl (by omega) rfl rfl (ho) sp_ mem_ (by rfl) one_ (by simp only [maxLen]; omega) (by omega) fun v2 Ca ho2 => ⟨_, rfl, ?_⟩)
 refine a_ rfl rfl (WL.nil (DN.block_normal ?_))
 have hcl2 := hs2.len hbn
 have hcl3 : (col ++ [e]).length = col.length + 1 := by simp
 exact DN.againS (⟨col ++ [e], B ++ [b], seen.push e.born, v2, Ca⟩) (show Seen es (col ++ [e]) (seen.push e.born) ∧ (col ++ [e]).map (fun e : MapEntry => (e.key, e.val)) = (B ++ [b]).map (fun r : Au => (kStr.kv (Au.name r), encU r)) ∧ Own v2 (B ++ [b]).length ((B ++ [b]).flatMap cellsU) 71 3 Ca from ⟨hs2, by rw [List.map_append, List.map_append, hB]; simp [hek, hev], by rw [List.flatMap_append, List.length_append]; simpa [cellsU, cellsP] using ho2⟩) (show es.size - (col ++ [e]).length < es.size - col.length by omega) (Sx.put rfl (sx_)) sp_
 refine x_ rfl rfl rfl (nt_ (WC.seq (WC.no rfl (WC.exit (DN.then_exit (DN.then_exit (DN.block_exit (ts_ (WC.region (m_ rfl rfl (WL.c rfl (Ent.func Tryz.call100 rfl) (sort_tells Tryz.sortU 3 (by omega) Tryz.isAgg71 Tryz.sizeOf71 cellsU cellsU_len cellsU_one cfU swoU 101 Tryz.call101 cmpU_tells ho (by omega)) (Sp.p sp_) ?_)))))))))))
 rintro q Cz ⟨rfl, S, hS, hpw, ho2⟩
 refine ntsr_ (m_ rfl rfl (a_ rfl rfl (nt_ (WC.ret (DN.fit (C := Cz ++ (row p [.map (some b1), .map (some b2)] 198 :: ([⟨b1, .map es clock, true⟩] ++ C2))) sp_ ?_)))))
 refine DN.ret1 Tryz.results61 rfl ?_
 exact ⟨S, Cz, ⟨hS.trans (entsK_all injU hes (hs.all hbn hu) hB), hpw.imp fun {x y} hxy => by rw [← hxy]; exact (ltU y x).symm⟩, by rw [hS.length_eq]; rwa [hS.length_eq] at ho2, rfl⟩
end Go.Proofs.YtkamlondepceiaaGreat.Pu

set_option linter.unusedVariables false
set_option linter.unusedSimpArgs false
set_option maxHeartbeats 4000000
namespace Go.Proofs.YtkamlondepceiaaGreat.Pu
open Go.SL
theorem new_tells (v : Value) (gs : List Au) (H : List Ck) (hv : Rs v gs.length (gs.flatMap cellsU) H) (hl : gs.length ≤ 9223372036854775807) : Tells Tryz.prog 64 [v] H fun r H' => (AccL gs ∧ ∃ p C, r = .tuple #[.pointer (some ⟨p, 0, none⟩), .int .i64 0] ∧ PsAt 198 p gs [] C ∧ H' = C ++ H) ∨ (¬ AccL gs ∧ r = .tuple #[.pointer none, .int .i64 2] ∧ H' = H) := by
 refine Tells.enter Tryz.func64 rfl Tryz.ntmps64 rfl ?_
 intro w0 R
 obtain ⟨vo, vc, rfl, hvc⟩ := hv.form
 refine sr_ (a_ rfl rfl (a_ rfl rfl (nt_ (WC.seq (sr_ (m_ rfl rfl (WL.y rfl (Yd.len (e := 71) kr_ rfl) ?_)))))))
 refine WL.y rfl (Yd.gtr rfl rfl) (nt_ (WC.ite rfl (fun h11 => ?_) (fun h11 => ?_)))
 refine sr_ (a_ rfl rfl (a_ rfl rfl (nt_ (WC.ret (DN.then_ret ?_)))))
 first | (have hlt2 : i < gs.length := hlt; refine DN.fit (C := H) sp_ ?_) | refine DN.fit (C := row b15 [.map (some b1), .map (some b2)] 198 :: (C1 ++ (C2 ++ H))) sp_ ?_ | skip
 refine DN.ret2 Tryz.results64 rfl rfl ?_
 rotate_left
 refine WC.skip (ts_ (WC.region (WL.h rfl (Hd.makeMapG kStr fun b1 C1 h1 => ⟨_, rfl, ?_⟩))))
 refine WL.h rfl (Hd.makeMapG kU32 fun b2 C2 h2 => ⟨_, rfl, ?_⟩)
 refine WL.y rfl (Yd.buildL (pl := [(0, 1), (1, 1)]) (zs := [.map none, .map none]) (parts := [(0, .tmp 12), (1, .tmp 13)]) (vs := [(0, _), (1, _)]) (cells := [_, _]) kr_ kr_ rfl rfl) ?_
 refine WL.h rfl (Hd.boxA rfl fun b15 => ⟨_, rfl, ?_⟩)
 refine a_ rfl rfl (nt_ (WC.seq (sr_ (m_ rfl rfl (WL.y rfl (Yd.len (e := 71) kr_ rfl) ?_)))))
 refine m_ rfl rfl (nt_ (WC.block (WC.loopS (fun z : Nat × List Ck => z.1 ≤ gs.length ∧ (∀ (j : Nat) (h : j < gs.length), j < z.1 → accB gs[j]) ∧ ((gs.take z.1).map Au.name).Nodup ∧ MpG kStr b1 (kvs Au.name encU (gs.take z.1)) z.2) (fun z : Nat × List Ck => [(18, .int .i64 (z.1 : Int))]) (fun z : Nat × List Ck => row b15 [.map (some b1), .map (some b2)] 198 :: (z.2 ++ (C2 ++ H))) (fun z : Nat × List Ck => gs.length - z.1) (⟨0, C1⟩) (show 0 ≤ gs.length ∧ (∀ (j : Nat) (h : j < gs.length), j < 0 → accB gs[j]) ∧ ((gs.take 0).map Au.name).Nodup ∧ MpG kStr b1 (kvs Au.name encU (gs.take 0)) C1 from ⟨Nat.zero_le _, fun j h hj => by omega, by simp, by simpa [kvs] using h1⟩) (Sx.put rfl (sx_)) sp_ ?_)))
 rintro ⟨i, C1⟩ hI
 replace hI : i ≤ gs.length ∧ (∀ (j : Nat) (h : j < gs.length), j < i → accB gs[j]) ∧ ((gs.take i).map Au.name).Nodup ∧ MpG kStr b1 (kvs Au.name encU (gs.take i)) C1 := hI
 obtain ⟨hi, hgood, hnd, hK⟩ := hI
 change WC _ _ _ _ _ _ ([(18, .int .i64 (i : Int))] ++ _) (row b15 [.map (some b1), .map (some b2)] 198 :: (C1 ++ (C2 ++ H)))
 refine sr_ (WL.y rfl (Yd.lss rfl rfl) (nt_ (WC.seq (WC.ite rfl (fun h19 => ?_) (fun h19 => ?_)))))
 have hlt : i < gs.length := by omega
 have htk : gs.take (i + 1) = gs.take i ++ [gs[i]] := List.take_succ_eq_append_getElem hlt
 refine WC.skip (ts_ (WC.block (sr_ (WL.elemA (e := 71) (s := 3) kr_ kr_ kr_ rfl rfl (rfl) (hv.mono gr_) (flat_row cellsU 3 cellsU_len gs i hlt) (by rfl) (by omega) (hlt) rfl rfl ?_))))
 intro p20
 refine WL.h rfl (Hd.alloc (zs := [.string ⟨#[]⟩, .int .i64 0, .int .i64 0]) kr_ fun b6 => ⟨_, rfl, ?_⟩)
 refine WL.s (Hd.storeAll (n := 3) kr_ rfl rfl (by rfl) one_ fr_ (by rfl) ⟨rfl, ?_⟩)
 refine nt_ (WC.cutK (fun z : Nat => True) (fun z : Nat => [(8, .bool (findK Au.name (gs.take i) gs[i].name).isSome)]) (fun z : Nat => row b6 (cellsU gs[i]) 71 :: (row b15 [.map (some b1), .map (some b2)] 198 :: (C1 ++ (C2 ++ H)))) ?_ ?_)
 refine WC.draw 13 kr_ rfl ?_
 refine WAG.start (N := 13) rfl (wy_ 0 [] rfl (Yd.move rfl) kr_ ?_)
 refine wy_ 1 [0] rfl (Yd.notNil rfl) kr_ ?_
 refine wy_ 2 [1] rfl (Yd.fieldAddr (k := 0) kr_ rfl) kr_ ?_
 refine wq_ (wf_ (i := 3) [2] rfl (QAt.rd Wt.none (Rd.load1 kr_ rfl mem_ (by rfl))) kr_) kr_ ?_
 refine wy_ 4 [] rfl (Yd.fieldAddr (k := 0) kr_ rfl) kr_ ?_
 refine wq_ (wf_ (i := 5) [4] rfl (QAt.rd Wt.none (Rd.load1 kr_ rfl mem_ (by rfl))) kr_) kr_ ?_
 refine ws_ [(6, [5, 3]), (10, [])] kr_ (all_c ?_ (all_c ?_ (all_n)))
 refine so_ (j := 6) [_, _] rfl (SO.h rfl Wt.none rfl (Hd.lookupG (k0 := kStr) (KT := 9) (ET := 71) (TD := .string) (n := gs[i].name) (z := .agg #[.string ⟨#[]⟩, .int .i64 0, .int .i64 0]) kr_ Tryz.underlying9 rfl kr_ rfl rfl hK sp_ (lkU2 (gs.take i) gs[i].name) ⟨_, rfl, ?_⟩))
 refine wk_ [_, _, _, _] (_ :: ([_, _] ++ _)) rfl rfl all_n (wy_ 7 [] rfl (Yd.move rfl) kr_ ?_)
 refine wy_ 8 [7] rfl (Yd.extract rfl rfl) kr_ ?_
 refine wy_ 9 [7] rfl (Yd.extract rfl rfl) kr_ ?_
 refine ws_ [(10, [])] kr_ (all_c ?_ (all_n))
 refine so_ (j := 10) [] rfl (SO.h rfl Wt.none rfl (Hd.alloc (zs := [.string ⟨#[]⟩, .int .i64 0, .int .i64 0]) kr_ fun b7 => ⟨_, rfl, ?_⟩))
 refine wk_ [_, _, _, _, _, _, _] (_ :: ([] ++ _)) rfl rfl all_n (ws_ [(11, [8, 7, 4, 2, 1, 0])] kr_ (all_c ?_ (all_n)))
 refine so_ (j := 11) [_, _, _, _, _, _] rfl (SO.s rfl Wt.none (Hd.storeAll (n := 3) kr_ rfl rfl (by rfl) one_ fr_ (by rfl) ⟨rfl, ?_⟩))
 refine wk_ [_] (([_, _, _, _, _, _] ++ _)) rfl rfl all_n (wy_ 12 [9] rfl (Yd.assign rfl) kr_ ?_)
 refine wd_ [_, _] rfl kr_ ?_
 refine DN.fit (C := row b6 (cellsU gs[i]) 71 :: (row b15 [.map (some b1), .map (some b2)] 198 :: (C1 ++ (C2 ++ H)))) sp_ ?_
 exact DN.reachK (0) (trivial) (Sx.put rfl (sx_)) (Sp.all sp_)
 refine so_ (j := 10) [] rfl (SO.h rfl Wt.none rfl (Hd.alloc (zs := [.string ⟨#[]⟩, .int .i64 0, .int .i64 0]) kr_ fun b7 => ⟨_, rfl, ?_⟩))
 refine wk_ [_, _, _, _, _, _] (_ :: ([] ++ _)) rfl rfl (all_c (wf_ [4] rfl (QAt.rd Wt.none (Rd.load1 kr_ rfl mem_ (by rfl))) kr_) (all_c (wf_ [2] rfl (QAt.rd Wt.none (Rd.load1 kr_ rfl mem_ (by rfl))) kr_) all_n)) ?_
 refine ws_ [(6, [5, 3])] kr_ (all_c ?_ (all_n))
 refine so_ (j := 6) [_, _] rfl (SO.h rfl Wt.none rfl (Hd.lookupG (k0 := kStr) (KT := 9) (ET := 71) (TD := .string) (n := gs[i].name) (z := .agg #[.string ⟨#[]⟩, .int .i64 0, .int .i64 0]) kr_ Tryz.underlying9 rfl kr_ rfl rfl hK sp_ (lkU2 (gs.take i) gs[i].name) ⟨_, rfl, ?_⟩))
 refine wk_ [_, _, _, _] (_ :: ([_, _] ++ _)) rfl rfl all_n (wy_ 7 [] rfl (Yd.move rfl) kr_ ?_)
 refine wy_ 8 [7] rfl (Yd.extract rfl rfl) kr_ ?_
 refine wy_ 9 [7] rfl (Yd.extract rfl rfl) kr_ ?_
 refine ws_ [(11, [8, 7, 4, 2, 1, 0])] kr_ (all_c ?_ (all_n))
 refine so_ (j := 11) [_, _, _, _, _, _] rfl (SO.s rfl Wt.none (Hd.storeAll (n := 3) kr_ rfl rfl (by rfl) one_ fr_ (by rfl) ⟨rfl, ?_⟩))
 refine wk_ [_] (([_, _, _, _, _, _] ++ _)) rfl rfl all_n (wy_ 12 [9] rfl (Yd.assign rfl) kr_ ?_)
 refine wd_ [_, _] rfl kr_ ?_
 refine DN.fit (C := row b6 (cellsU gs[i]) 71 :: (row b15 [.map (some b1), .map (some b2)] 198 :: (C1 ++ (C2 ++ H)))) sp_ ?_
 exact DN.reachK (0) (trivial) (Sx.put rfl (sx_)) (Sp.all sp_)
 intro _ _
 refine WC.seq (sr_ (f_ 0 kr_ rfl rfl ?_))
 refine d_ kr_ rfl mem_ (by rfl) rfl ?_
 refine WL.y rfl (Yd.eqlS rfl rfl) (m_ rfl rfl (WL.partP (t := 35) rfl (fun hg35 => ?_) (fun hg35 => ?_)))
 iterate 4 refine gn_ 35 rfl rfl rfl rfl ?_
 refine WL.y rfl (Yd.pickT rfl rfl) (m_ rfl rfl ?_)
 iterate 3 refine gn_ 41 rfl rfl rfl rfl ?_
 refine WL.y rfl (Yd.pickT rfl rfl) (m_ rfl rfl ?_)
 iterate 3 refine gn_ 46 rfl rfl rfl rfl ?_
 refine WL.y rfl (Yd.pickT rfl rfl) (m_ rfl rfl ?_)
 iterate 3 refine gn_ 51 rfl rfl rfl rfl ?_
 refine WL.y rfl (Yd.pickT rfl rfl) (m_ rfl rfl (gn_ 56 rfl rfl rfl rfl (WL.y rfl (Yd.pickT rfl rfl) (nt_ (WC.yes rfl (sr_ (a_ rfl rfl (a_ rfl rfl (nt_ (WC.ret (DN.then_ret (DN.block_ret (DN.then_ret ?_)))))))))))))
 refine DN.then_ret (DN.block_ret (DN.then_ret ?_))
 first | (have hlt2 : i < gs.length := hlt; refine DN.fit (C := H) sp_ ?_) | refine DN.fit (C := row b15 [.map (some b1), .map (some b2)] 198 :: (C1 ++ (C2 ++ H))) sp_ ?_ | skip
 refine DN.ret2 Tryz.results64 rfl rfl ?_
 rotate_left
 refine gy_ 35 rfl rfl rfl (Yd.fieldAddr (k := 0) kr_ rfl) ?_
 refine WL.gh (dj := 35) rfl rfl rfl (Hd.load1 kr_ rfl mem_ (by rfl) ⟨_, rfl, ?_⟩)
 refine gy_ 35 rfl rfl rfl (Yd.lenS Tryz.underlying9 rfl) (gy_ 35 rfl rfl rfl (Yd.gtr rfl rfl) (WL.y rfl (Yd.pickF rfl rfl) (m_ rfl rfl (WL.partP (t := 41) rfl (fun hg41 => ?_) (fun hg41 => ?_)))))
 iterate 3 refine gn_ 41 rfl rfl rfl rfl ?_
 refine WL.y rfl (Yd.pickT rfl rfl) (m_ rfl rfl ?_)
 iterate 3 refine gn_ 46 rfl rfl rfl rfl ?_
 refine WL.y rfl (Yd.pickT rfl rfl) (m_ rfl rfl ?_)
 iterate 3 refine gn_ 51 rfl rfl rfl rfl ?_
 refine WL.y rfl (Yd.pickT rfl rfl) (m_ rfl rfl (gn_ 56 rfl rfl rfl rfl (WL.y rfl (Yd.pickT rfl rfl) (nt_ (WC.yes rfl (sr_ (a_ rfl rfl (a_ rfl rfl (nt_ (WC.ret (DN.then_ret (DN.block_ret (DN.then_ret ?_)))))))))))))
 refine DN.then_ret (DN.block_ret (DN.then_ret ?_))
 first | (have hlt2 : i < gs.length := hlt; refine DN.fit (C := H) sp_ ?_) | refine DN.fit (C := row b15 [.map (some b1), .map (some b2)] 198 :: (C1 ++ (C2 ++ H))) sp_ ?_ | skip
 refine DN.ret2 Tryz.results64 rfl rfl ?_
 rotate_left
 refine gy_ 41 rfl rfl rfl (Yd.fieldAddr (k := 1) kr_ rfl) ?_
 refine WL.gh (dj := 41) rfl rfl rfl (Hd.load1 kr_ rfl mem_ (by rfl) ⟨_, rfl, ?_⟩)
 refine gy_ 41 rfl rfl rfl (Yd.lss rfl rfl) (WL.y rfl (Yd.pickF rfl rfl) (m_ rfl rfl (WL.partP (t := 46) rfl (fun hg46 => ?_) (fun hg46 => ?_))))
 iterate 3 refine gn_ 46 rfl rfl rfl rfl ?_
 refine WL.y rfl (Yd.pickT rfl rfl) (m_ rfl rfl ?_)
 iterate 3 refine gn_ 51 rfl rfl rfl rfl ?_
 refine WL.y rfl (Yd.pickT rfl rfl) (m_ rfl rfl (gn_ 56 rfl rfl rfl rfl (WL.y rfl (Yd.pickT rfl rfl) (nt_ (WC.yes rfl (sr_ (a_ rfl rfl (a_ rfl rfl (nt_ (WC.ret (DN.then_ret (DN.block_ret (DN.then_ret ?_)))))))))))))
 refine DN.then_ret (DN.block_ret (DN.then_ret ?_))
 first | (have hlt2 : i < gs.length := hlt; refine DN.fit (C := H) sp_ ?_) | refine DN.fit (C := row b15 [.map (some b1), .map (some b2)] 198 :: (C1 ++ (C2 ++ H))) sp_ ?_ | skip
 refine DN.ret2 Tryz.results64 rfl rfl ?_
 rotate_left
 refine gy_ 46 rfl rfl rfl (Yd.fieldAddr (k := 1) kr_ rfl) ?_
 refine WL.gh (dj := 46) rfl rfl rfl (Hd.load1 kr_ rfl mem_ (by rfl) ⟨_, rfl, ?_⟩)
 refine gy_ 46 rfl rfl rfl (Yd.gtr rfl rfl) (WL.y rfl (Yd.pickF rfl rfl) (m_ rfl rfl (WL.partP (t := 51) rfl (fun hg51 => ?_) (fun hg51 => ?_))))
 iterate 3 refine gn_ 51 rfl rfl rfl rfl ?_
 refine WL.y rfl (Yd.pickT rfl rfl) (m_ rfl rfl (gn_ 56 rfl rfl rfl rfl (WL.y rfl (Yd.pickT rfl rfl) (nt_ (WC.yes rfl (sr_ (a_ rfl rfl (a_ rfl rfl (nt_ (WC.ret (DN.then_ret (DN.block_ret (DN.then_ret ?_)))))))))))))
 refine DN.then_ret (DN.block_ret (DN.then_ret ?_))
 first | (have hlt2 : i < gs.length := hlt; refine DN.fit (C := H) sp_ ?_) | refine DN.fit (C := row b15 [.map (some b1), .map (some b2)] 198 :: (C1 ++ (C2 ++ H))) sp_ ?_ | skip
 refine DN.ret2 Tryz.results64 rfl rfl ?_
 rotate_left
 refine gy_ 51 rfl rfl rfl (Yd.fieldAddr (k := 2) kr_ rfl) ?_
 refine WL.gh (dj := 51) rfl rfl rfl (Hd.load1 kr_ rfl mem_ (by rfl) ⟨_, rfl, ?_⟩)
 refine gy_ 51 rfl rfl rfl (Yd.neq rfl rfl) (WL.y rfl (Yd.pickF rfl rfl) (m_ rfl rfl (WL.partP (t := 56) rfl (fun hg56 => ?_) (fun hg56 => ?_))))
 refine gn_ 56 rfl rfl rfl rfl (WL.y rfl (Yd.pickT rfl rfl) (nt_ (WC.yes rfl (sr_ (a_ rfl rfl (a_ rfl rfl (nt_ (WC.ret (DN.then_ret (DN.block_ret (DN.then_ret (DN.then_ret (DN.block_ret ?_)))))))))))))
 refine DN.then_ret ?_
 first | (have hlt2 : i < gs.length := hlt; refine DN.fit (C := H) sp_ ?_) | refine DN.fit (C := row b15 [.map (some b1), .map (some b2)] 198 :: (C1 ++ (C2 ++ H))) sp_ ?_ | skip
 refine DN.ret2 Tryz.results64 rfl rfl ?_
 rotate_left
 refine gy_ 56 rfl rfl rfl (Yd.move rfl) (WL.y rfl (Yd.pickF rfl rfl) (nt_ (WC.cond rfl (fun h58 => ?_) (fun h58 => ?_))))
 refine sr_ (a_ rfl rfl (a_ rfl rfl (nt_ (WC.ret (DN.then_ret (DN.block_ret (DN.then_ret (DN.then_ret (DN.block_ret (DN.then_ret ?_))))))))))
 first | (have hlt2 : i < gs.length := hlt; refine DN.fit (C := H) sp_ ?_) | refine DN.fit (C := row b15 [.map (some b1), .map (some b2)] 198 :: (C1 ++ (C2 ++ H))) sp_ ?_ | skip
 refine DN.ret2 Tryz.results64 rfl rfl ?_
 rotate_left
 have hgi : accB gs[i] := ⟨hg35, by omega, by omega, by omega, by omega⟩
 have hnone : findK Au.name (gs.take i) gs[i].name = none := by simpa using h58
 have hndi := once_moreU hnd hnone
 refine WC.skip (DN.then_normal (WC.draw 8 kr_ rfl ?_))
 refine WAG.start (N := 8) rfl (wy_ 0 [] rfl (Yd.move rfl) kr_ ?_)
 refine wy_ 1 [0] rfl (Yd.notNil rfl) kr_ ?_
 refine wy_ 2 [1] rfl (Yd.fieldAddr (k := 0) kr_ rfl) kr_ ?_
 refine wq_ (wf_ (i := 3) [2] rfl (QAt.rd Wt.none (Rd.load1 kr_ rfl mem_ (by rfl))) kr_) kr_ ?_
 refine wy_ 4 [] rfl (Yd.fieldAddr (k := 0) kr_ rfl) kr_ ?_
 refine wq_ (wf_ (i := 5) [4] rfl (QAt.rd Wt.none (Rd.load1 kr_ rfl mem_ (by rfl))) kr_) kr_ ?_
 refine wq_ (wf_ (i := 6) [] rfl (QAt.rd Wt.none (Rd.loadAll (n := 3) kr_ rfl mem_ (by rfl))) kr_) kr_ ?_
 refine ws_ [(7, [6, 5, 4, 3, 2, 1, 0])] kr_ (all_c ?_ (all_n))
 refine so_ (j := 7) [_, _, _, _, _, _, _] rfl ?_
 refine SO.s rfl Wt.none (Hd.mapSet (k0 := kStr) (KT := 9) (ET := 71) (TD := .string) (n := gs[i].name) kr_ Tryz.underlying9 rfl rfl rfl rfl hK (by rw [kvs_keys]; exact hnd) sp_ fun C3 h3 => ⟨rfl, ?_⟩)
 refine wk_ [] (([_, _, _, _, _, _, _] ++ _)) rfl rfl all_n (wd_ [] rfl kr_ ?_)
 refine DN.block_normal (DN.then_normal (WC.region (WL.y rfl (Yd.add rfl rfl (by omega) (by omega)) ?_)))
 refine m_ rfl rfl (WL.nil ?_)
 exact DN.againS (⟨i + 1, C3⟩) (show (i + 1) ≤ gs.length ∧ (∀ (j : Nat) (h : j < gs.length), j < (i + 1) → accB gs[j]) ∧ ((gs.take (i + 1)).map Au.name).Nodup ∧ MpG kStr b1 (kvs Au.name encU (gs.take (i + 1))) C3 from ⟨by omega, fun j h hj => by
   rcases Nat.lt_or_ge j i with h5 | h5
   · exact hgood j h h5
   obtain rfl : j = i := by omega
   exact hgi, by rw [htk]; exact hndi, by rw [htk, ← putU_new hnone, ← putU (gs.take i) gs[i] gs[i].name rfl]; exact h3⟩) (show gs.length - (i + 1) < gs.length - i by omega) (Sx.put rfl (sx_)) sp_
 obtain rfl : i = gs.length := by omega
 rw [List.take_length] at hnd hK
 refine WC.exit (DN.then_exit (DN.then_exit (DN.block_exit (ts_ (WC.region (m_ rfl rfl (a_ rfl rfl (a_ rfl rfl (nt_ (WC.ret ?_))))))))))
 first | (have hlt2 : i < gs.length := hlt; refine DN.fit (C := H) sp_ ?_) | refine DN.fit (C := row b15 [.map (some b1), .map (some b2)] 198 :: (C1 ++ (C2 ++ H))) sp_ ?_ | skip
 refine DN.ret2 Tryz.results64 rfl rfl ?_
 rotate_left
 all_goals
  first
    | exact .inr ⟨fun hG => by have := hG.1; omega, rfl, rfl⟩
    | exact .inr ⟨fun hG => (hG.2.2 gs[i] (List.getElem_mem hlt)).1 hg35, rfl, rfl⟩
    | exact .inr ⟨fun hG => by have := (hG.2.2 gs[i] (List.getElem_mem hlt)).2; omega, rfl, rfl⟩
    | exact .inr ⟨fun hG => (twice_noU hlt h58) hG.2.1, rfl, rfl⟩
    | exact .inl ⟨⟨by omega, hnd, fun g hm => by obtain ⟨j, hj, rfl⟩ := List.getElem_of_mem hm; exact hgood j hj hj⟩, b15, row b15 [.map (some b1), .map (some b2)] 198 :: (C1 ++ C2), rfl, ⟨b1, b2, C1, C2, rfl, hK, h2⟩, by simp⟩
end Go.Proofs.YtkamlondepceiaaGreat.Pu

set_option linter.unusedVariables false
set_option linter.unusedSimpArgs false
set_option maxHeartbeats 4000000
namespace Go.Proofs.YtkamlondepceiaaGreat
open Go.SL
theorem cnew_tells (v1 v2 v3 : Value) (gs : List Gd) (us : List Au) (rs : List Int) (hg : ∀ g ∈ gs, g.gone = 0) (H : List Ck) (h1 : Rs v1 gs.length (gs.flatMap cellsG) H) (h2 : Rs v2 us.length (us.flatMap cellsU) H) (h3 : Rs v3 rs.length (ic rs) H) (hl1 : gs.length ≤ 9223372036854775807) (hl2 : us.length ≤ 9223372036854775807) (hl3 : rs.length ≤ 9223372036854775807) : Tells Tryz.prog 31 [v1, v2, v3] H fun r H' => ((GoodL gs ∧ AccL us ∧ ((rs.findIdx? Do.badRoom).isSome = false ∧ rs.length ≤ 60)) ∧ ∃ p C, r = .tuple #[.pointer (some ⟨p, 0, none⟩), .int .i64 0] ∧ CwAt 189 198 203 3 5 118 111 22 116 p (Cw.new gs us rs) C ∧ H' = C ++ H) ∨ (¬ (GoodL gs ∧ AccL us ∧ ((rs.findIdx? Do.badRoom).isSome = false ∧ rs.length ≤ 60)) ∧ r = .tuple #[.pointer none, .int .i64 2] ∧ H' = H) := by
 refine Tells.enter Tryz.func31 rfl Tryz.ntmps31 rfl ?_
 intro w0 R
 obtain ⟨ao1, ac1, rfl, _⟩ := h1.form
 obtain ⟨ao2, ac2, rfl, _⟩ := h2.form
 obtain ⟨ao3, ac3, rfl, _⟩ := h3.form
 refine sr_ (a_ rfl rfl (a_ rfl rfl (ntsr_ (m_ rfl rfl (WL.c rfl (Ent.func Tryz.call63 rfl) (St.new_tells _ gs hg H h1 hl1) (Sp.p sp_) ?_)))))
 intro x H9 h9
 have h91 : ∃ a e C, x = .tuple #[.pointer a, .int .i64 e] ∧ H9 = C ++ H ∧ ((e = 0 ∧ GoodL gs ∧ ∃ p, a = some ⟨p, 0, none⟩ ∧ StAt 189 p gs [] C) ∨ (e = 2 ∧ ¬ GoodL gs)) := by
   rcases h9 with ⟨hg, p, C, rfl, hC, rfl⟩ | ⟨hn, rfl, rfl⟩
   · exact ⟨_, _, C, rfl, rfl, .inl ⟨rfl, hg, p, rfl, hC⟩⟩
   exact ⟨none, 2, [], rfl, rfl, .inr ⟨rfl, hn⟩⟩
 clear h9
 obtain ⟨a1, e1, C1, rfl, rfl, h91⟩ := h91
 refine m_ rfl rfl (x_ rfl rfl rfl (x_ rfl rfl rfl (a_ rfl rfl (a_ rfl rfl (nt_ (WC.seq (sr_ (m_ rfl rfl (WL.y rfl (Yd.neq rfl rfl) (nt_ (WC.ite rfl (fun h18 => ?_) (fun h18 => ?_))))))))))))
 obtain ⟨rfl, hn1⟩ := h91.resolve_left (fun q => h18 q.1)
 refine sr_ (m_ rfl rfl (a_ rfl rfl (a_ rfl rfl (nt_ (WC.ret (DN.then_ret (DN.fit (C := H) sp_ ?_)))))))
 exact DN.ret2 Tryz.results31 rfl rfl (.inr ⟨fun q => hn1 q.1, rfl, rfl⟩)
 obtain ⟨rfl, hg1, p1, rfl, hC1⟩ := h91.resolve_right (fun q => h18 (by rw [q.1]; decide))
 refine WC.skip (ts_ (WC.region (m_ rfl rfl (WL.c rfl (Ent.func Tryz.call64 rfl) (Pu.new_tells _ us H h2 hl2) (Sp.p sp_) ?_))))
 intro x H9 h9
 have h92 : ∃ a e C, x = .tuple #[.pointer a, .int .i64 e] ∧ H9 = C ++ H ∧ ((e = 0 ∧ AccL us ∧ ∃ p, a = some ⟨p, 0, none⟩ ∧ PsAt 198 p us [] C) ∨ (e = 2 ∧ ¬ AccL us)) := by
   rcases h9 with ⟨hg, p, C, rfl, hC, rfl⟩ | ⟨hn, rfl, rfl⟩
   · exact ⟨_, _, C, rfl, rfl, .inl ⟨rfl, hg, p, rfl, hC⟩⟩
   exact ⟨none, 2, [], rfl, rfl, .inr ⟨rfl, hn⟩⟩
 clear h9
 obtain ⟨a2, e2, C2, rfl, rfl, h92⟩ := h92
 refine m_ rfl rfl (x_ rfl rfl rfl (x_ rfl rfl rfl (a_ rfl rfl (a_ rfl rfl (nt_ (WC.seq (sr_ (m_ rfl rfl (WL.y rfl (Yd.neq rfl rfl) (nt_ (WC.ite rfl (fun h26 => ?_) (fun h26 => ?_))))))))))))
 obtain ⟨rfl, hn2⟩ := h92.resolve_left (fun q => h26 q.1)
 refine sr_ (m_ rfl rfl (a_ rfl rfl (a_ rfl rfl (nt_ (WC.ret (DN.then_ret (DN.fit (C := H) sp_ ?_)))))))
 exact DN.ret2 Tryz.results31 rfl rfl (.inr ⟨fun q => hn2 q.2.1, rfl, rfl⟩)
 obtain ⟨rfl, hg2, p2, rfl, hC2⟩ := h92.resolve_right (fun q => h26 (by rw [q.1]; decide))
 refine WC.skip (ts_ (WC.region (m_ rfl rfl (WL.c rfl (Ent.func Tryz.call65 rfl) (Do.new_tells _ rs H h3 hl3) (Sp.p sp_) ?_))))
 intro x H9 h9
 obtain ⟨a3, e3, C3, rfl, rfl, h93⟩ : ∃ a e C, x = .tuple #[.pointer a, .int .i64 e] ∧ H9 = C ++ H ∧ ((e = 0 ∧ ((rs.findIdx? Do.badRoom).isSome = false ∧ rs.length ≤ 60) ∧ ∃ p, a = some ⟨p, 0, none⟩ ∧ DockAt 203 3 p rs [] C) ∨ (e = 2 ∧ ¬ ((rs.findIdx? Do.badRoom).isSome = false ∧ rs.length ≤ 60))) := by
   by_cases hg3 : ((rs.findIdx? Do.badRoom).isSome = false ∧ rs.length ≤ 60)
   · rw [if_pos hg3] at h9
     obtain ⟨p, C, rfl, hC, rfl⟩ := h9
     exact ⟨_, _, C, rfl, rfl, .inl ⟨rfl, hg3, p, rfl, hC⟩⟩
   rw [if_neg hg3] at h9
   obtain ⟨rfl, rfl⟩ := h9
   exact ⟨none, 2, [], rfl, rfl, .inr ⟨rfl, hg3⟩⟩
 clear h9
 refine m_ rfl rfl (x_ rfl rfl rfl (x_ rfl rfl rfl (a_ rfl rfl (a_ rfl rfl (nt_ (WC.seq (sr_ (m_ rfl rfl (WL.y rfl (Yd.neq rfl rfl) (nt_ (WC.ite rfl (fun h34 => ?_) (fun h34 => ?_))))))))))))
 obtain ⟨rfl, hn3⟩ := h93.resolve_left (fun q => h34 q.1)
 refine sr_ (m_ rfl rfl (a_ rfl rfl (a_ rfl rfl (nt_ (WC.ret (DN.then_ret (DN.fit (C := H) sp_ ?_)))))))
 exact DN.ret2 Tryz.results31 rfl rfl (.inr ⟨fun q => hn3 q.2.2, rfl, rfl⟩)
 obtain ⟨rfl, hg3, p3, rfl, hC3⟩ := h93.resolve_right (fun q => h34 (by rw [q.1]; decide))
 refine WC.skip (ts_ (WC.region ?_))
 iterate 3 refine m_ rfl rfl ?_
 refine WL.y rfl (Yd.build (pl := [(0, 1), (1, 1), (2, 1), (3, 2), (5, 1), (6, 1)]) (zs := [.pointer none, .pointer none, .pointer none, .int .u32 0, .slice none 0 0, .slice none 0 0, .slice none 0 0]) (parts := [(0, .tmp 36), (1, .tmp 37), (2, .tmp 38)]) (vs := [(0, .pointer (some ⟨p3, 0, none⟩)), (1, .pointer (some ⟨p1, 0, none⟩)), (2, .pointer (some ⟨p2, 0, none⟩))]) (cells := [.pointer (some ⟨p3, 0, none⟩), .pointer (some ⟨p1, 0, none⟩), .pointer (some ⟨p2, 0, none⟩), .int .u32 0, .slice none 0 0, .slice none 0 0, .slice none 0 0]) kr_ kr_ rfl rfl) ?_
 refine WL.h rfl (Hd.box rfl fun p => ⟨_, rfl, ?_⟩)
 refine a_ rfl rfl (a_ rfl rfl (nt_ (WC.ret (DN.fit (C := (row p [.pointer (some ⟨p3, 0, none⟩), .pointer (some ⟨p1, 0, none⟩), .pointer (some ⟨p2, 0, none⟩), .int .u32 0, .slice none 0 0, .slice none 0 0, .slice none 0 0] 116 :: (C1 ++ (C2 ++ (C3 ++ ([] ++ ([] ++ ([] ++ []))))))) ++ H) sp_ ?_))))
 exact DN.ret2 Tryz.results31 rfl rfl (.inl ⟨⟨hg1, hg2, hg3⟩, p, _, rfl, ⟨p3, p1, p2, _, _, _, C1, C2, C3, [], [], [], [], [], rfl, hC1, hC2, hC3, FAt.nil _ _, Own.nil _ _, Own.nil _ _, .nil⟩, rfl⟩)
theorem cepoch_reads (p : Nat) (s : Cw) (C : List Ck) (h : CwAt 189 198 203 3 5 118 111 22 116 p s C) : Reads Tryz.prog 24 [.pointer (some ⟨p, 0, none⟩)] C (.int .u32 s.e.toNat) := by
 refine Tells.enter Tryz.func24 rfl Tryz.ntmps24 rfl ?_
 intro w0 R
 obtain ⟨pd, ps, pp, vL, vE, vN, CS, CP, CD, CF, CE, cn, CN, DO, rfl, hS, hP, hD, hF, hE, hN, hO⟩ := h
 obtain ⟨lo, lc, rfl⟩ := hF.form
 obtain ⟨eo, ec, rfl, hec⟩ := hE.form
 obtain ⟨no, nc, rfl, hnc⟩ := hN.form
 refine sr_ (WL.y rfl (Yd.assign (v := .int .u32 ((0#32).toNat : Int)) rfl) (nt_ (WC.seq (sr_ (m_ rfl rfl (WL.y rfl (Yd.eqlNil Tryz.underlying40 rfl rfl) (WL.renamed (t := 4) (v := .bool false) rfl (congrArg Value.bool (rfl)) (nt_ (WC.no rfl (WC.skip (ts_ (WC.region (m_ rfl rfl ?_)))))))))))))
 refine n_ rfl rfl (f_ 3 kr_ rfl rfl ?_)
 refine f_ 0 kr_ rfl rfl ?_
 refine d_ kr_ rfl mem_ (by rfl) rfl ?_
 exact a_ rfl rfl (nt_ (WC.ret (DN.ret1 Tryz.results24 rfl (⟨rfl, rfl⟩))))
theorem croom_reads (p : Nat) (s : Cw) (C : List Ck) (h : CwAt 189 198 203 3 5 118 111 22 116 p s C) (day : Int) : Reads Tryz.prog 30 [.pointer (some ⟨p, 0, none⟩), .int .i64 day] C (.int .i64 (roomOf s.rs day)) := by
 refine Tells.enter Tryz.func30 rfl Tryz.ntmps30 rfl ?_
 intro w0 R
 obtain ⟨pd, ps, pp, vL, vE, vN, CS, CP, CD, CF, CE, cn, CN, DO, rfl, hS, hP, hD, hF, hE, hN, hO⟩ := h
 obtain ⟨lo, lc, rfl⟩ := hF.form
 obtain ⟨eo, ec, rfl, hec⟩ := hE.form
 obtain ⟨no, nc, rfl, hnc⟩ := hN.form
 refine sr_ (a_ rfl rfl (nt_ (WC.seq (sr_ (m_ rfl rfl (WL.y rfl (Yd.eqlNil Tryz.underlying40 rfl rfl) (WL.renamed (t := 6) (v := .bool false) rfl (congrArg Value.bool (rfl)) (nt_ (WC.no rfl (WC.skip (ts_ (WC.region (m_ rfl rfl ?_)))))))))))))
 refine n_ rfl rfl (f_ 0 kr_ rfl rfl ?_)
 refine d_ kr_ rfl mem_ (by rfl) rfl ?_
 refine m_ rfl rfl (WL.rf rfl (Ent.func Tryz.call62 rfl) (Do.room_reads pd s.rs s.B CD hD day) sp_ ?_)
 exact a_ rfl rfl (nt_ (WC.ret (DN.ret1 Tryz.results30 rfl (⟨rfl, rfl⟩))))
theorem cgoods_tells (p : Nat) (s : Cw) (C : List Ck) (h : CwAt 189 198 203 3 5 118 111 22 116 p s C) (hl : s.K.length ≤ 100000000) : Tells Tryz.prog 25 [.pointer (some ⟨p, 0, none⟩)] C fun r C' => ∃ S Cs, ToldK Gd.name sLt s.K S ∧ Own r S.length (S.flatMap cellsG) 73 2 Cs ∧ C' = Cs ++ C := by
 refine Tells.enter Tryz.func25 rfl Tryz.ntmps25 rfl ?_
 intro w0 R
 obtain ⟨pd, ps, pp, vL, vE, vN, CS, CP, CD, CF, CE, cn, CN, DO, rfl, hS, hP, hD, hF, hE, hN, hO⟩ := h
 obtain ⟨lo, lc, rfl⟩ := hF.form
 obtain ⟨eo, ec, rfl, hec⟩ := hE.form
 obtain ⟨no, nc, rfl, hnc⟩ := hN.form
 refine sr_ (a_ rfl rfl (nt_ (WC.seq (sr_ (m_ rfl rfl (WL.y rfl (Yd.eqlNil Tryz.underlying40 rfl rfl) (WL.renamed (t := 4) (v := .bool false) rfl (congrArg Value.bool (rfl)) (nt_ (WC.no rfl (WC.skip (ts_ (WC.region (m_ rfl rfl ?_)))))))))))))
 refine n_ rfl rfl (f_ 1 kr_ rfl rfl ?_)
 refine d_ kr_ rfl mem_ (by rfl) rfl ?_
 refine WL.c rfl (Ent.func Tryz.call60 rfl) (St.goods_tells ps s.K s.L CS hS hl) (Sp.p sp_) ?_
 rintro x H9 ⟨S, Cs, hT, ho, rfl⟩
 refine a_ rfl rfl (nt_ (WC.ret (DN.fit (C := Cs ++ (row p [.pointer (some ⟨pd, 0, none⟩), .pointer (some ⟨ps, 0, none⟩), .pointer (some ⟨pp, 0, none⟩), .int .u32 s.e.toNat, .slice lo s.ks.length lc, .slice eo s.ef.length ec, .slice no s.no.length nc] 116 :: (CS ++ (CP ++ (CD ++ (CF ++ (CE ++ (CN ++ DO)))))))) sp_ ?_)))
 exact DN.ret1 Tryz.results25 rfl (⟨S, Cs, hT, ho, rfl⟩)
theorem caccs_tells (p : Nat) (s : Cw) (C : List Ck) (h : CwAt 189 198 203 3 5 118 111 22 116 p s C) (hl : s.U.length ≤ 100000000) : Tells Tryz.prog 26 [.pointer (some ⟨p, 0, none⟩)] C fun r C' => ∃ S Cs, ToldK Au.name sLt s.U S ∧ Own r S.length (S.flatMap cellsU) 71 3 Cs ∧ C' = Cs ++ C := by
 refine Tells.enter Tryz.func26 rfl Tryz.ntmps26 rfl ?_
 intro w0 R
 obtain ⟨pd, ps, pp, vL, vE, vN, CS, CP, CD, CF, CE, cn, CN, DO, rfl, hS, hP, hD, hF, hE, hN, hO⟩ := h
 obtain ⟨lo, lc, rfl⟩ := hF.form
 obtain ⟨eo, ec, rfl, hec⟩ := hE.form
 obtain ⟨no, nc, rfl, hnc⟩ := hN.form
 refine sr_ (a_ rfl rfl (nt_ (WC.seq (sr_ (m_ rfl rfl (WL.y rfl (Yd.eqlNil Tryz.underlying40 rfl rfl) (WL.renamed (t := 4) (v := .bool false) rfl (congrArg Value.bool (rfl)) (nt_ (WC.no rfl (WC.skip (ts_ (WC.region (m_ rfl rfl ?_)))))))))))))
 refine n_ rfl rfl (f_ 2 kr_ rfl rfl ?_)
 refine d_ kr_ rfl mem_ (by rfl) rfl ?_
 refine WL.c rfl (Ent.func Tryz.call61 rfl) (Pu.accs_tells pp s.U s.Y CP hP hl) (Sp.p sp_) ?_
 rintro x H9 ⟨S, Cs, hT, ho, rfl⟩
 refine a_ rfl rfl (nt_ (WC.ret (DN.fit (C := Cs ++ (row p [.pointer (some ⟨pd, 0, none⟩), .pointer (some ⟨ps, 0, none⟩), .pointer (some ⟨pp, 0, none⟩), .int .u32 s.e.toNat, .slice lo s.ks.length lc, .slice eo s.ef.length ec, .slice no s.no.length nc] 116 :: (CS ++ (CP ++ (CD ++ (CF ++ (CE ++ (CN ++ DO)))))))) sp_ ?_)))
 exact DN.ret1 Tryz.results26 rfl (⟨S, Cs, hT, ho, rfl⟩)
end Go.Proofs.YtkamlondepceiaaGreat

set_option linter.unusedVariables false
set_option linter.unusedSimpArgs false
set_option maxHeartbeats 4000000
namespace Go.Proofs.YtkamlondepceiaaGreat
open Go.SL
theorem efs_len (l : List Ef) : (l.flatMap efc).length = 3 * l.length := by
  induction l with
  | nil => rfl
  | cons x l ih => rw [List.flatMap_cons, List.length_append, ih, efc_len, List.length_cons]; omega
theorem efs_one (l : List Ef) : ∀ v ∈ l.flatMap efc, v.oneCell' = true := by
  intro v hv
  obtain ⟨x, _, h⟩ := List.mem_flatMap.1 hv
  exact efc_one x v h
theorem clonee_tells (v : Value) (rs : List Ef) (H : List Ck) (hv : Rs v rs.length (rs.flatMap efc) H) (hl : rs.length ≤ 1000000) : Tells Tryz.prog 54 [v] H fun r H' => ∃ C, Own r rs.length (rs.flatMap efc) 111 3 C ∧ H' = C ++ H := by
 refine Tells.enter Tryz.func54 rfl Tryz.ntmps54 rfl ?_
 intro w0 R
 obtain ⟨vo, vc, rfl, hvc⟩ := hv.form
 have hnil : vo = none → rs = [] := by
   rintro rfl
   rcases hv with ⟨_, _, e, h0, _⟩ | ⟨b, o, cap, cs, T, fr, ex, e, _⟩
   · exact List.eq_nil_of_length_eq_zero h0
   cases e
 refine sr_ (a_ rfl rfl (nt_ (WC.seq (sr_ (m_ rfl rfl (WL.y rfl (Yd.eqlNilS Tryz.underlying56 rfl rfl) (nt_ (WC.cond rfl (fun h4 => ?_) (fun h4 => ?_)))))))))
 refine sr_ (a_ rfl rfl (nt_ (WC.ret (DN.then_ret (DN.ret1 Tryz.results54 rfl ?_)))))
 have e0 : rs = [] := hnil (by simpa using h4)
 subst e0
 exact ⟨[], Own.nil _ _, rfl⟩
 refine WC.skip (ts_ (WC.region (WL.h rfl (Hd.buildSlice (e := 111) (sz := 3) (zs := [.int .u32 0, .int .i64 0, .bool false]) (parts := []) (vs := []) (cells := []) kr_ kr_ kr_ rfl kr_ kr_ fun rb => ⟨_, rfl, ?_⟩))))
 refine m_ rfl rfl ?_
 refine WL.h rfl (Hd.append (e := 111) (sz := 3) (bytes := 24) (zs := [.int .u32 0, .int .i64 0, .bool false]) (n := 0) (xs := []) (C := [row rb [] 111]) (D := H) (m := rs.length) (news := rs.flatMap efc) kr_ kr_ rfl (by omega) rfl rfl (.inr ⟨rb, 0, [], rfl, Nat.le_refl _, by simp only [maxLen]; omega, rfl, rfl, rfl⟩) (hv.mono fun y hy => by simp [hy]) (by rw [efs_len]; omega) (efs_one _) (by simp only [maxLen]; omega) (by omega) (List.Perm.refl _) fun v2 C2 h2 _ => ⟨_, rfl, ?_⟩)
 exact a_ rfl rfl (nt_ (WC.ret (DN.ret1 Tryz.results54 rfl (⟨C2, by simpa using h2, rfl⟩))))
theorem ceffs_tells (p : Nat) (s : Cw) (C : List Ck) (h : CwAt 189 198 203 3 5 118 111 22 116 p s C) (hl : s.ef.length ≤ 1000000) : Tells Tryz.prog 21 [.pointer (some ⟨p, 0, none⟩)] C fun r C' => ∃ D, Own r s.ef.length (s.ef.flatMap efc) 111 3 D ∧ C' = D ++ C := by
 refine Tells.enter Tryz.func21 rfl Tryz.ntmps21 rfl ?_
 intro w0 R
 obtain ⟨pd, ps, pp, vL, vE, vN, CS, CP, CD, CF, CE, cn, CN, DO, rfl, hS, hP, hD, hF, hE, hN, hO⟩ := h
 obtain ⟨lo, lc, rfl⟩ := hF.form
 obtain ⟨eo, ec, rfl, hec⟩ := hE.form
 obtain ⟨no, nc, rfl, hnc⟩ := hN.form
 refine sr_ (a_ rfl rfl (nt_ (WC.seq (sr_ (m_ rfl rfl (WL.y rfl (Yd.eqlNil Tryz.underlying40 rfl rfl) (WL.renamed (t := 4) (v := .bool false) rfl (congrArg Value.bool (rfl)) (nt_ (WC.no rfl (WC.skip (ts_ (WC.region (m_ rfl rfl ?_)))))))))))))
 refine n_ rfl rfl (f_ 5 kr_ rfl rfl ?_)
 refine d_ kr_ rfl mem_ (by rfl) rfl ?_
 refine WL.c rfl (Ent.func Tryz.call54 rfl) (clonee_tells _ s.ef CE hE.rs hl) (Sp.p sp_) ?_
 rintro x H9 ⟨D, ho, rfl⟩
 refine a_ rfl rfl (nt_ (WC.ret (DN.fit (C := D ++ (row p [.pointer (some ⟨pd, 0, none⟩), .pointer (some ⟨ps, 0, none⟩), .pointer (some ⟨pp, 0, none⟩), .int .u32 s.e.toNat, .slice lo s.ks.length lc, .slice eo s.ef.length ec, .slice no s.no.length nc] 116 :: (CS ++ (CP ++ (CD ++ (CF ++ (CE ++ (CN ++ DO)))))))) sp_ ?_)))
 exact DN.ret1 Tryz.results21 rfl (⟨D, ho, rfl⟩)
theorem cnots_tells (p : Nat) (s : Cw) (C : List Ck) (h : CwAt 189 198 203 3 5 118 111 22 116 p s C) (hl : s.no.length ≤ 1000000) (hs : ∀ x ∈ s.no, x.length ≤ 1000000) : Tells Tryz.prog 23 [.pointer (some ⟨p, 0, none⟩)] C fun r C' => ∃ us O D, Own r s.no.length us 22 1 O ∧ Obs 5 us s.no D ∧ C' = O ++ (D ++ C) := by
 refine Tells.enter Tryz.func23 rfl Tryz.ntmps23 rfl ?_
 intro w0 R
 obtain ⟨pd, ps, pp, vL, vE, vN, CS, CP, CD, CF, CE, cn, CN, DO, rfl, hS, hP, hD, hF, hE, hN, hO⟩ := h
 obtain ⟨lo, lc, rfl⟩ := hF.form
 obtain ⟨eo, ec, rfl, hec⟩ := hE.form
 obtain ⟨no, nc, rfl, hnc⟩ := hN.form
 refine sr_ (a_ rfl rfl (nt_ (WC.seq (sr_ (m_ rfl rfl (WL.y rfl (Yd.eqlNil Tryz.underlying40 rfl rfl) (WL.renamed (t := 7) (v := .bool false) rfl (congrArg Value.bool (rfl)) (nt_ (WC.no rfl (WC.skip (ts_ (WC.region (a_ rfl rfl ?_)))))))))))))
 refine nt_ (WC.seq (sr_ (m_ rfl rfl (n_ rfl rfl (f_ 6 kr_ rfl rfl ?_)))))
 refine d_ kr_ rfl mem_ (by rfl) rfl ?_
 refine WL.y rfl (Yd.len (e := 22) kr_ rfl) ?_
 refine m_ rfl rfl (nt_ (WC.block (WC.loopS (fun z : Nat × Value × List Value × List Ck × List Ck => z.1 ≤ s.no.length ∧ Own z.2.1 z.1 z.2.2.1 22 1 z.2.2.2.1 ∧ Obs 5 z.2.2.1 (s.no.take z.1) z.2.2.2.2) (fun z : Nat × Value × List Value × List Ck × List Ck => [(3, z.2.1), (13, .int .i64 (z.1 : Int))]) (fun z : Nat × Value × List Value × List Ck × List Ck => z.2.2.2.1 ++ (z.2.2.2.2 ++ (row p [.pointer (some ⟨pd, 0, none⟩), .pointer (some ⟨ps, 0, none⟩), .pointer (some ⟨pp, 0, none⟩), .int .u32 s.e.toNat, .slice lo s.ks.length lc, .slice eo s.ef.length ec, .slice no s.no.length nc] 116 :: (CS ++ (CP ++ (CD ++ (CF ++ (CE ++ (CN ++ DO))))))))) (fun z : Nat × Value × List Value × List Ck × List Ck => s.no.length - z.1) (⟨0, .slice none 0 0, [], [], []⟩) (show 0 ≤ s.no.length ∧ Own (.slice none 0 0) 0 [] 22 1 [] ∧ Obs 5 [] (s.no.take 0) [] from ⟨Nat.zero_le _, Own.nil _ _, .nil⟩) (Sx.put rfl (Sx.put rfl (sx_))) sp_ ?_)))
 rintro ⟨i, w, us, Q, D⟩ hI
 replace hI : i ≤ s.no.length ∧ Own w i us 22 1 Q ∧ Obs 5 us (s.no.take i) D := hI
 obtain ⟨hi, hQ, hU⟩ := hI
 change WC _ _ _ _ _ _ ([(3, w), (13, .int .i64 (i : Int))] ++ _) (Q ++ (D ++ (row p [.pointer (some ⟨pd, 0, none⟩), .pointer (some ⟨ps, 0, none⟩), .pointer (some ⟨pp, 0, none⟩), .int .u32 s.e.toNat, .slice lo s.ks.length lc, .slice eo s.ef.length ec, .slice no s.no.length nc] 116 :: (CS ++ (CP ++ (CD ++ (CF ++ (CE ++ (CN ++ DO)))))))))
 obtain ⟨wo, wc, rfl, hwc⟩ := hQ.form
 refine sr_ (WL.y rfl (Yd.lss rfl rfl) (nt_ (WC.seq (WC.ite rfl (fun h14 => ?_) (fun h14 => ?_)))))
 have hlt : i < s.no.length := by omega
 obtain ⟨u, hu, hbu⟩ := hO.get i hlt
 have hsm := hs _ (List.getElem_mem hlt)
 obtain ⟨uo, uc, rfl, _⟩ := hbu.form
 refine WC.skip (ts_ (WC.block (sr_ (WL.elem (e := 22) kr_ kr_ kr_ rfl rfl (rfl) (hN.rs.mono gr_) (hu) (hlt) rfl rfl ?_))))
 intro _
 refine a_ rfl rfl (ntr_ (m_ rfl rfl (WL.h rfl (Hd.buildSlice (e := 5) (sz := 1) (zs := [.int .u8 0]) (parts := []) (vs := []) (cells := []) kr_ kr_ kr_ rfl kr_ kr_ fun rb => ⟨_, rfl, ?_⟩))))
 refine m_ rfl rfl ?_
 refine WL.h rfl (Hd.append (e := 5) (sz := 1) (bytes := 1) (zs := [.int .u8 0]) (n := 0) (xs := []) (C := [row rb [] 5]) (D := Q ++ (D ++ (row p [.pointer (some ⟨pd, 0, none⟩), .pointer (some ⟨ps, 0, none⟩), .pointer (some ⟨pp, 0, none⟩), .int .u32 s.e.toNat, .slice lo s.ks.length lc, .slice eo s.ef.length ec, .slice no s.no.length nc] 116 :: (CS ++ (CP ++ (CD ++ (CF ++ (CE ++ (CN ++ DO))))))))) (m := s.no[i].length) (news := bc s.no[i]) kr_ kr_ rfl (by omega) rfl rfl (.inr ⟨rb, 0, [], rfl, Nat.le_refl _, by simp only [maxLen]; omega, rfl, rfl, rfl⟩) (hbu.mono gr_) (by simp [bc]) (bc_one _) (by simp only [maxLen]; omega) (by omega) (List.Perm.refl _) fun x Cx hx0 _ => ⟨_, rfl, ?_⟩)
 have hx1 : Own x s.no[i].length (bc s.no[i]) 5 1 Cx := by simpa using hx0
 have hx : Ob 5 x s.no[i] Cx := hx1
 obtain ⟨xo, xc, rfl, _⟩ := hx.form
 refine WL.h rfl (Hd.build1 (e := 22) (z := .slice none 0 0) kr_ kr_ kr_ rfl rfl fun b21 => ⟨_, rfl, ?_⟩)
 refine WL.h rfl (Hd.appendMany (e := 22) (sz := 1) (bytes := 24) (zs := [.slice none 0 0]) (m := 1) kr_ kr_ rfl (by omega) rfl rfl hQ sp_ mem_ rfl (by intro u hu; rw [List.mem_singleton.1 hu]; rfl) (by simp only [maxLen]; omega) (by omega) fun v3 C3 h3 => ⟨_, rfl, ?_⟩)
 refine a_ rfl rfl (WL.nil (DN.block_normal (DN.then_normal (WC.region (WL.y rfl (Yd.add rfl rfl (by omega) (by omega)) ?_)))))
 refine m_ rfl rfl (WL.nil ?_)
 exact DN.againS (⟨i + 1, v3, us ++ [.slice xo s.no[i].length xc], C3, D ++ Cx⟩) (show (i + 1) ≤ s.no.length ∧ Own v3 (i + 1) (us ++ [.slice xo s.no[i].length xc]) 22 1 C3 ∧ Obs 5 (us ++ [.slice xo s.no[i].length xc]) (s.no.take (i + 1)) (D ++ Cx) from ⟨by omega, h3, by rw [List.take_succ_eq_append_getElem hlt]; exact hU.append (Obs.one hx)⟩) (show s.no.length - (i + 1) < s.no.length - i by omega) (Sx.put rfl (Sx.put rfl (sx_))) sp_
 obtain rfl : i = s.no.length := by omega
 refine WC.exit (DN.then_exit (DN.then_exit (DN.block_exit (ts_ (WC.region (m_ rfl rfl (a_ rfl rfl (nt_ (WC.ret (DN.fit (C := Q ++ (D ++ (row p [.pointer (some ⟨pd, 0, none⟩), .pointer (some ⟨ps, 0, none⟩), .pointer (some ⟨pp, 0, none⟩), .int .u32 s.e.toNat, .slice lo s.ks.length lc, .slice eo s.ef.length ec, .slice no s.no.length nc] 116 :: (CS ++ (CP ++ (CD ++ (CF ++ (CE ++ (CN ++ DO))))))))) sp_ ?_))))))))))
 refine DN.ret1 Tryz.results23 rfl ?_
 exact ⟨us, Q, D, hQ, by rw [List.take_length] at hU; exact hU, rfl⟩
end Go.Proofs.YtkamlondepceiaaGreat

set_option linter.unusedVariables false
set_option linter.unusedSimpArgs false
set_option maxHeartbeats 4000000
namespace Go.Proofs.YtkamlondepceiaaGreat
open Go.SL
theorem same05_reads (a b : Nt) (vk vd uk ud : Value) (H : List Ck) (h1 : Bs vk a.key H) (h2 : Bs vd a.data H) (h3 : Bs uk b.key H) (h4 : Bs ud b.data H) : Reads Tryz.prog 34 [.agg (ntc a vk vd).toArray, .agg (ntc b uk ud).toArray] H (.bool (sameNt a b)) := by
 refine Tells.enter Tryz.func34 rfl Tryz.ntmps34 rfl ?_
 intro w0 R
 obtain ⟨o1, c1, rfl, _⟩ := h1.form
 obtain ⟨o2, c2, rfl, _⟩ := h2.form
 obtain ⟨o3, c3, rfl, _⟩ := h3.form
 obtain ⟨o4, c4, rfl, _⟩ := h4.form
 refine sr_ (WL.h rfl (Hd.boxA rfl fun b2 => ⟨_, rfl, ?_⟩))
 refine WL.h rfl (Hd.boxA rfl fun b3 => ⟨_, rfl, ?_⟩)
 refine a_ rfl rfl (ntsr_ (f_ 0 kr_ rfl rfl ?_))
 refine d_ kr_ rfl mem_ (by rfl) rfl ?_
 refine f_ 0 kr_ rfl rfl ?_
 refine d_ kr_ rfl mem_ (by rfl) rfl ?_
 refine WL.y rfl (Yd.eql rfl rfl) (m_ rfl rfl (WL.partP (t := 10) rfl (fun hg10 => ?_) (fun hg10 => ?_)))
 refine gy_ 10 rfl rfl rfl (Yd.fieldAddr (k := 1) kr_ rfl) ?_
 refine WL.gh (dj := 10) rfl rfl rfl (Hd.load1 kr_ rfl mem_ (by rfl) ⟨_, rfl, ?_⟩)
 refine gy_ 10 rfl rfl rfl (Yd.fieldAddr (k := 1) kr_ rfl) ?_
 refine WL.gh (dj := 10) rfl rfl rfl (Hd.load1 kr_ rfl mem_ (by rfl) ⟨_, rfl, ?_⟩)
 refine gy_ 10 rfl rfl rfl (Yd.eql32 _ _ rfl rfl rfl rfl) (WL.y rfl (Yd.pickT rfl rfl) (m_ rfl rfl (WL.partP (t := 17) rfl (fun hg17 => ?_) (fun hg17 => ?_))))
 refine gy_ 17 rfl rfl rfl (Yd.fieldAddr (k := 2) kr_ rfl) ?_
 refine WL.gh (dj := 17) rfl rfl rfl (Hd.load1 kr_ rfl mem_ (by rfl) ⟨_, rfl, ?_⟩)
 refine gy_ 17 rfl rfl rfl (Yd.fieldAddr (k := 2) kr_ rfl) ?_
 refine WL.gh (dj := 17) rfl rfl rfl (Hd.load1 kr_ rfl mem_ (by rfl) ⟨_, rfl, ?_⟩)
 refine gy_ 17 rfl rfl rfl (Yd.eql32 _ _ rfl rfl rfl rfl) (WL.y rfl (Yd.pickT rfl rfl) (m_ rfl rfl (WL.partP (t := 24) rfl (fun hg24 => ?_) (fun hg24 => ?_))))
 refine gy_ 24 rfl rfl rfl (Yd.fieldAddr (k := 3) kr_ rfl) ?_
 refine WL.gh (dj := 24) rfl rfl rfl (Hd.load1 kr_ rfl mem_ (by rfl) ⟨_, rfl, ?_⟩)
 refine gy_ 24 rfl rfl rfl (Yd.fieldAddr (k := 3) kr_ rfl) ?_
 refine WL.gh (dj := 24) rfl rfl rfl (Hd.load1 kr_ rfl mem_ (by rfl) ⟨_, rfl, ?_⟩)
 refine gy_ 24 rfl rfl rfl (Yd.eql64 _ _ rfl rfl rfl rfl) (WL.y rfl (Yd.pickT rfl rfl) (m_ rfl rfl (WL.partP (t := 31) rfl (fun hg31 => ?_) (fun hg31 => ?_))))
 refine gy_ 31 rfl rfl rfl (Yd.fieldAddr (k := 4) kr_ rfl) ?_
 refine WL.gh (dj := 31) rfl rfl rfl (Hd.load1 kr_ rfl mem_ (by rfl) ⟨_, rfl, ?_⟩)
 refine gy_ 31 rfl rfl rfl (Yd.fieldAddr (k := 4) kr_ rfl) ?_
 refine WL.gh (dj := 31) rfl rfl rfl (Hd.load1 kr_ rfl mem_ (by rfl) ⟨_, rfl, ?_⟩)
 refine gy_ 31 rfl rfl rfl (Yd.eql64 _ _ rfl rfl rfl rfl) (WL.y rfl (Yd.pickT rfl rfl) (m_ rfl rfl (WL.partP (t := 38) rfl (fun hg38 => ?_) (fun hg38 => ?_))))
 refine gy_ 38 rfl rfl rfl (Yd.fieldAddr (k := 5) kr_ rfl) ?_
 refine WL.gh (dj := 38) rfl rfl rfl (Hd.load1 kr_ rfl mem_ (by rfl) ⟨_, rfl, ?_⟩)
 refine gy_ 38 rfl rfl rfl (Yd.fieldAddr (k := 5) kr_ rfl) ?_
 refine WL.gh (dj := 38) rfl rfl rfl (Hd.load1 kr_ rfl mem_ (by rfl) ⟨_, rfl, ?_⟩)
 refine gy_ 38 rfl rfl rfl (Yd.eql32 _ _ rfl rfl rfl rfl) (WL.y rfl (Yd.pickT rfl rfl) (m_ rfl rfl (WL.partP (t := 45) rfl (fun hg45 => ?_) (fun hg45 => ?_))))
 refine gy_ 45 rfl rfl rfl (Yd.fieldAddr (k := 6) kr_ rfl) ?_
 refine WL.gh (dj := 45) rfl rfl rfl (Hd.load1 kr_ rfl mem_ (by rfl) ⟨_, rfl, ?_⟩)
 refine gy_ 45 rfl rfl rfl (Yd.fieldAddr (k := 6) kr_ rfl) ?_
 refine WL.gh (dj := 45) rfl rfl rfl (Hd.load1 kr_ rfl mem_ (by rfl) ⟨_, rfl, ?_⟩)
 refine gy_ 45 rfl rfl rfl (Yd.eql rfl rfl) (WL.y rfl (Yd.pickT rfl rfl) (m_ rfl rfl (WL.partP (t := 52) rfl (fun hg52 => ?_) (fun hg52 => ?_))))
 refine gy_ 52 rfl rfl rfl (Yd.fieldAddr (k := 7) kr_ rfl) ?_
 refine WL.gh (dj := 52) rfl rfl rfl (Hd.load1 kr_ rfl mem_ (by rfl) ⟨_, rfl, ?_⟩)
 refine gy_ 52 rfl rfl rfl (Yd.fieldAddr (k := 7) kr_ rfl) ?_
 refine WL.gh (dj := 52) rfl rfl rfl (Hd.load1 kr_ rfl mem_ (by rfl) ⟨_, rfl, ?_⟩)
 refine gy_ 52 rfl rfl rfl (Yd.eqlB Tryz.underlying4 rfl rfl) (WL.y rfl (Yd.pickT rfl rfl) (m_ rfl rfl (WL.part (t := 59) rfl (fun hg59 => ?_) (fun hg59 => ?_))))
 refine gy_ 59 rfl rfl rfl (Yd.fieldAddr (k := 8) kr_ rfl) ?_
 refine WL.gh (dj := 59) rfl rfl rfl (Hd.load1 kr_ rfl mem_ (by rfl) ⟨_, rfl, ?_⟩)
 refine gy_ 59 rfl rfl rfl (Yd.fieldAddr (k := 8) kr_ rfl) ?_
 refine WL.gh (dj := 59) rfl rfl rfl (Hd.load1 kr_ rfl mem_ (by rfl) ⟨_, rfl, ?_⟩)
 refine gy_ 59 rfl rfl rfl (Yd.eql rfl rfl) (WL.y rfl (Yd.pickT rfl rfl) (m_ rfl rfl (WL.partP (t := 66) rfl (fun hg66 => ?_) (fun hg66 => ?_))))
 refine gy_ 66 rfl rfl rfl (Yd.fieldAddr (k := 9) kr_ rfl) ?_
 refine WL.gh (dj := 66) rfl rfl rfl (Hd.load1 kr_ rfl mem_ (by rfl) ⟨_, rfl, ?_⟩)
 refine WL.gh (dj := 66) rfl rfl rfl (Hd.toStr (e := 5) (bs := a.key) kr_ kr_ Tryz.underlying9 rfl (h1.mono gr_) ⟨_, rfl, ?_⟩)
 refine gy_ 66 rfl rfl rfl (Yd.fieldAddr (k := 9) kr_ rfl) ?_
 refine WL.gh (dj := 66) rfl rfl rfl (Hd.load1 kr_ rfl mem_ (by rfl) ⟨_, rfl, ?_⟩)
 refine WL.gh (dj := 66) rfl rfl rfl (Hd.toStr (e := 5) (bs := b.key) kr_ kr_ Tryz.underlying9 rfl (h3.mono gr_) ⟨_, rfl, ?_⟩)
 refine gy_ 66 rfl rfl rfl (Yd.eqlS rfl rfl) (WL.y rfl (Yd.pickT rfl rfl) (m_ rfl rfl (WL.partP (t := 75) rfl (fun hg75 => ?_) (fun hg75 => ?_))))
 refine gy_ 75 rfl rfl rfl (Yd.fieldAddr (k := 10) kr_ rfl) ?_
 refine WL.gh (dj := 75) rfl rfl rfl (Hd.load1 kr_ rfl mem_ (by rfl) ⟨_, rfl, ?_⟩)
 refine WL.gh (dj := 75) rfl rfl rfl (Hd.toStr (e := 5) (bs := a.data) kr_ kr_ Tryz.underlying9 rfl (h2.mono gr_) ⟨_, rfl, ?_⟩)
 refine gy_ 75 rfl rfl rfl (Yd.fieldAddr (k := 10) kr_ rfl) ?_
 refine WL.gh (dj := 75) rfl rfl rfl (Hd.load1 kr_ rfl mem_ (by rfl) ⟨_, rfl, ?_⟩)
 refine WL.gh (dj := 75) rfl rfl rfl (Hd.toStr (e := 5) (bs := b.data) kr_ kr_ Tryz.underlying9 rfl (h4.mono gr_) ⟨_, rfl, ?_⟩)
 refine gy_ 75 rfl rfl rfl (Yd.eqlS rfl rfl) (WL.y rfl (Yd.pickT rfl rfl) (a_ rfl rfl (nt_ (WC.ret (DN.fit (C := H) sp_ ?_)))))
 refine DN.ret1 Tryz.results34 rfl ?_
 exact ⟨by congr 1; symm; simp only [sameNt, *, decide_true, decide_false, Bool.true_and, Bool.false_and], rfl⟩
 iterate 7 refine gn_ 75 rfl rfl rfl rfl ?_
 refine WL.y rfl (Yd.pickF rfl rfl) (a_ rfl rfl (nt_ (WC.ret (DN.fit (C := H) sp_ ?_))))
 refine DN.ret1 Tryz.results34 rfl ?_
 exact ⟨by congr 1; symm; simp only [sameNt, *, decide_true, decide_false, Bool.true_and, Bool.false_and], rfl⟩
 iterate 7 refine gn_ 66 rfl rfl rfl rfl ?_
 refine WL.y rfl (Yd.pickF rfl rfl) (m_ rfl rfl ?_)
 iterate 7 refine gn_ 75 rfl rfl rfl rfl ?_
 refine WL.y rfl (Yd.pickF rfl rfl) (a_ rfl rfl (nt_ (WC.ret (DN.fit (C := H) sp_ ?_))))
 refine DN.ret1 Tryz.results34 rfl ?_
 exact ⟨by congr 1; symm; simp only [sameNt, *, decide_true, decide_false, Bool.true_and, Bool.false_and], rfl⟩
 iterate 5 refine gn_ 59 rfl rfl rfl rfl ?_
 refine WL.y rfl (Yd.pickF rfl rfl) (m_ rfl rfl ?_)
 iterate 7 refine gn_ 66 rfl rfl rfl rfl ?_
 refine WL.y rfl (Yd.pickF rfl rfl) (m_ rfl rfl ?_)
 iterate 7 refine gn_ 75 rfl rfl rfl rfl ?_
 refine WL.y rfl (Yd.pickF rfl rfl) (a_ rfl rfl (nt_ (WC.ret (DN.fit (C := H) sp_ ?_))))
 refine DN.ret1 Tryz.results34 rfl ?_
 exact ⟨by congr 1; symm; simp only [sameNt, *, decide_true, decide_false, Bool.true_and, Bool.false_and], rfl⟩
 iterate 5 refine gn_ 52 rfl rfl rfl rfl ?_
 refine WL.y rfl (Yd.pickF rfl rfl) (m_ rfl rfl ?_)
 iterate 5 refine gn_ 59 rfl rfl rfl rfl ?_
 refine WL.y rfl (Yd.pickF rfl rfl) (m_ rfl rfl ?_)
 iterate 7 refine gn_ 66 rfl rfl rfl rfl ?_
 refine WL.y rfl (Yd.pickF rfl rfl) (m_ rfl rfl ?_)
 iterate 7 refine gn_ 75 rfl rfl rfl rfl ?_
 refine WL.y rfl (Yd.pickF rfl rfl) (a_ rfl rfl (nt_ (WC.ret (DN.fit (C := H) sp_ ?_))))
 refine DN.ret1 Tryz.results34 rfl ?_
 exact ⟨by congr 1; symm; simp only [sameNt, *, decide_true, decide_false, Bool.true_and, Bool.false_and], rfl⟩
 iterate 5 refine gn_ 45 rfl rfl rfl rfl ?_
 refine WL.y rfl (Yd.pickF rfl rfl) (m_ rfl rfl ?_)
 iterate 5 refine gn_ 52 rfl rfl rfl rfl ?_
 refine WL.y rfl (Yd.pickF rfl rfl) (m_ rfl rfl ?_)
 iterate 5 refine gn_ 59 rfl rfl rfl rfl ?_
 refine WL.y rfl (Yd.pickF rfl rfl) (m_ rfl rfl ?_)
 iterate 7 refine gn_ 66 rfl rfl rfl rfl ?_
 refine WL.y rfl (Yd.pickF rfl rfl) (m_ rfl rfl ?_)
 iterate 7 refine gn_ 75 rfl rfl rfl rfl ?_
 refine WL.y rfl (Yd.pickF rfl rfl) (a_ rfl rfl (nt_ (WC.ret (DN.fit (C := H) sp_ ?_))))
 refine DN.ret1 Tryz.results34 rfl ?_
 exact ⟨by congr 1; symm; simp only [sameNt, *, decide_true, decide_false, Bool.true_and, Bool.false_and], rfl⟩
 iterate 5 refine gn_ 38 rfl rfl rfl rfl ?_
 refine WL.y rfl (Yd.pickF rfl rfl) (m_ rfl rfl ?_)
 iterate 5 refine gn_ 45 rfl rfl rfl rfl ?_
 refine WL.y rfl (Yd.pickF rfl rfl) (m_ rfl rfl ?_)
 iterate 5 refine gn_ 52 rfl rfl rfl rfl ?_
 refine WL.y rfl (Yd.pickF rfl rfl) (m_ rfl rfl ?_)
 iterate 5 refine gn_ 59 rfl rfl rfl rfl ?_
 refine WL.y rfl (Yd.pickF rfl rfl) (m_ rfl rfl ?_)
 iterate 7 refine gn_ 66 rfl rfl rfl rfl ?_
 refine WL.y rfl (Yd.pickF rfl rfl) (m_ rfl rfl ?_)
 iterate 7 refine gn_ 75 rfl rfl rfl rfl ?_
 refine WL.y rfl (Yd.pickF rfl rfl) (a_ rfl rfl (nt_ (WC.ret (DN.fit (C := H) sp_ ?_))))
 refine DN.ret1 Tryz.results34 rfl ?_
 exact ⟨by congr 1; symm; simp only [sameNt, *, decide_true, decide_false, Bool.true_and, Bool.false_and], rfl⟩
 iterate 5 refine gn_ 31 rfl rfl rfl rfl ?_
 refine WL.y rfl (Yd.pickF rfl rfl) (m_ rfl rfl ?_)
 iterate 5 refine gn_ 38 rfl rfl rfl rfl ?_
 refine WL.y rfl (Yd.pickF rfl rfl) (m_ rfl rfl ?_)
 iterate 5 refine gn_ 45 rfl rfl rfl rfl ?_
 refine WL.y rfl (Yd.pickF rfl rfl) (m_ rfl rfl ?_)
 iterate 5 refine gn_ 52 rfl rfl rfl rfl ?_
 refine WL.y rfl (Yd.pickF rfl rfl) (m_ rfl rfl ?_)
 iterate 5 refine gn_ 59 rfl rfl rfl rfl ?_
 refine WL.y rfl (Yd.pickF rfl rfl) (m_ rfl rfl ?_)
 iterate 7 refine gn_ 66 rfl rfl rfl rfl ?_
 refine WL.y rfl (Yd.pickF rfl rfl) (m_ rfl rfl ?_)
 iterate 7 refine gn_ 75 rfl rfl rfl rfl ?_
 refine WL.y rfl (Yd.pickF rfl rfl) (a_ rfl rfl (nt_ (WC.ret (DN.fit (C := H) sp_ ?_))))
 refine DN.ret1 Tryz.results34 rfl ?_
 exact ⟨by congr 1; symm; simp only [sameNt, *, decide_true, decide_false, Bool.true_and, Bool.false_and], rfl⟩
 iterate 5 refine gn_ 24 rfl rfl rfl rfl ?_
 refine WL.y rfl (Yd.pickF rfl rfl) (m_ rfl rfl ?_)
 iterate 5 refine gn_ 31 rfl rfl rfl rfl ?_
 refine WL.y rfl (Yd.pickF rfl rfl) (m_ rfl rfl ?_)
 iterate 5 refine gn_ 38 rfl rfl rfl rfl ?_
 refine WL.y rfl (Yd.pickF rfl rfl) (m_ rfl rfl ?_)
 iterate 5 refine gn_ 45 rfl rfl rfl rfl ?_
 refine WL.y rfl (Yd.pickF rfl rfl) (m_ rfl rfl ?_)
 iterate 5 refine gn_ 52 rfl rfl rfl rfl ?_
 refine WL.y rfl (Yd.pickF rfl rfl) (m_ rfl rfl ?_)
 iterate 5 refine gn_ 59 rfl rfl rfl rfl ?_
 refine WL.y rfl (Yd.pickF rfl rfl) (m_ rfl rfl ?_)
 iterate 7 refine gn_ 66 rfl rfl rfl rfl ?_
 refine WL.y rfl (Yd.pickF rfl rfl) (m_ rfl rfl ?_)
 iterate 7 refine gn_ 75 rfl rfl rfl rfl ?_
 refine WL.y rfl (Yd.pickF rfl rfl) (a_ rfl rfl (nt_ (WC.ret (DN.fit (C := H) sp_ ?_))))
 refine DN.ret1 Tryz.results34 rfl ?_
 exact ⟨by congr 1; symm; simp only [sameNt, *, decide_true, decide_false, Bool.true_and, Bool.false_and], rfl⟩
 iterate 5 refine gn_ 17 rfl rfl rfl rfl ?_
 refine WL.y rfl (Yd.pickF rfl rfl) (m_ rfl rfl ?_)
 iterate 5 refine gn_ 24 rfl rfl rfl rfl ?_
 refine WL.y rfl (Yd.pickF rfl rfl) (m_ rfl rfl ?_)
 iterate 5 refine gn_ 31 rfl rfl rfl rfl ?_
 refine WL.y rfl (Yd.pickF rfl rfl) (m_ rfl rfl ?_)
 iterate 5 refine gn_ 38 rfl rfl rfl rfl ?_
 refine WL.y rfl (Yd.pickF rfl rfl) (m_ rfl rfl ?_)
 iterate 5 refine gn_ 45 rfl rfl rfl rfl ?_
 refine WL.y rfl (Yd.pickF rfl rfl) (m_ rfl rfl ?_)
 iterate 5 refine gn_ 52 rfl rfl rfl rfl ?_
 refine WL.y rfl (Yd.pickF rfl rfl) (m_ rfl rfl ?_)
 iterate 5 refine gn_ 59 rfl rfl rfl rfl ?_
 refine WL.y rfl (Yd.pickF rfl rfl) (m_ rfl rfl ?_)
 iterate 7 refine gn_ 66 rfl rfl rfl rfl ?_
 refine WL.y rfl (Yd.pickF rfl rfl) (m_ rfl rfl ?_)
 iterate 7 refine gn_ 75 rfl rfl rfl rfl ?_
 refine WL.y rfl (Yd.pickF rfl rfl) (a_ rfl rfl (nt_ (WC.ret (DN.fit (C := H) sp_ ?_))))
 refine DN.ret1 Tryz.results34 rfl ?_
 exact ⟨by congr 1; symm; simp only [sameNt, *, decide_true, decide_false, Bool.true_and, Bool.false_and], rfl⟩
 iterate 5 refine gn_ 10 rfl rfl rfl rfl ?_
 refine WL.y rfl (Yd.pickF rfl rfl) (m_ rfl rfl ?_)
 iterate 5 refine gn_ 17 rfl rfl rfl rfl ?_
 refine WL.y rfl (Yd.pickF rfl rfl) (m_ rfl rfl ?_)
 iterate 5 refine gn_ 24 rfl rfl rfl rfl ?_
 refine WL.y rfl (Yd.pickF rfl rfl) (m_ rfl rfl ?_)
 iterate 5 refine gn_ 31 rfl rfl rfl rfl ?_
 refine WL.y rfl (Yd.pickF rfl rfl) (m_ rfl rfl ?_)
 iterate 5 refine gn_ 38 rfl rfl rfl rfl ?_
 refine WL.y rfl (Yd.pickF rfl rfl) (m_ rfl rfl ?_)
 iterate 5 refine gn_ 45 rfl rfl rfl rfl ?_
 refine WL.y rfl (Yd.pickF rfl rfl) (m_ rfl rfl ?_)
 iterate 5 refine gn_ 52 rfl rfl rfl rfl ?_
 refine WL.y rfl (Yd.pickF rfl rfl) (m_ rfl rfl ?_)
 iterate 5 refine gn_ 59 rfl rfl rfl rfl ?_
 refine WL.y rfl (Yd.pickF rfl rfl) (m_ rfl rfl ?_)
 iterate 7 refine gn_ 66 rfl rfl rfl rfl ?_
 refine WL.y rfl (Yd.pickF rfl rfl) (m_ rfl rfl ?_)
 iterate 7 refine gn_ 75 rfl rfl rfl rfl ?_
 refine WL.y rfl (Yd.pickF rfl rfl) (a_ rfl rfl (nt_ (WC.ret (DN.fit (C := H) sp_ ?_))))
 refine DN.ret1 Tryz.results34 rfl ?_
 exact ⟨by congr 1; symm; simp only [sameNt, *, decide_true, decide_false, Bool.true_and, Bool.false_and], rfl⟩
end Go.Proofs.YtkamlondepceiaaGreat

set_option linter.unusedVariables false
set_option linter.unusedSimpArgs false
set_option maxHeartbeats 4000000
namespace Go.Proofs.YtkamlondepceiaaGreat
open Go.SL
theorem kn_good : GoodL knG ∧ AccL knU ∧ (([3] : List Int).findIdx? Do.badRoom).isSome = false ∧ ([3] : List Int).length ≤ 60 := by
  refine ⟨⟨by decide, by decide, fun g hg => ?_⟩, ⟨by decide, by decide, fun g hg => ?_⟩, by decide, by decide⟩
  · simp only [knG, List.mem_cons, List.not_mem_nil, or_false] at hg
    subst hg
    unfold goodB; decide
  simp only [knU, List.mem_cons, List.not_mem_nil, or_false] at hg
  subst hg
  unfold accB; decide
theorem kn_inv : CInv knG knU [3] kn0c :=
  new_inv (SInv.start (by decide) (by decide) fun g hg => ⟨kn_good.1.2.2 g hg, (by decide : ∀ g ∈ knG, g.gone = 0) g hg⟩) (PInv.start kn_good.2.1) (DInv.start (roomsOk_of (by decide)) (by decide))
theorem kn_told {K S : List Gd} {g : Gd} (hK : K = [g]) (h : ToldK Gd.name sLt K S) : S = [g] := by
  subst hK
  exact List.perm_singleton.1 h.perm
theorem kn_step (e : BitVec 32) (u : Bool) : stepW e 7#32 0 u (ewkB knW) = knN e u := rfl
theorem known12 (H : List Ck) : Reads Tryz.prog 9 [] H (.bool true) := by
 refine Tells.enter Tryz.func9 rfl Tryz.ntmps9 rfl ?_
 intro w0 R
 refine sr_ (a_ rfl rfl (ntsr_ (WL.y rfl (Yd.buildL (pl := [(0, 1), (1, 1)]) (zs := [.string ⟨#[]⟩, .int .i64 0]) (parts := [(0, .const (.string ⟨#[97]⟩)), (1, .const (.int .i64 5))]) (vs := [(0, _), (1, _)]) (cells := [_, _]) kr_ kr_ rfl rfl) ?_)))
 refine WL.h rfl (Hd.buildSlice (e := 73) (sz := 2) (zs := [.string ⟨#[]⟩, .int .i64 0]) (parts := [(0, .tmp 11)]) (vs := [(0, .agg (cellsG ⟨⟨#[97]⟩, 5, 0⟩).toArray)]) (cells := knG.flatMap cellsG) kr_ kr_ kr_ rfl kr_ kr_ fun b12 => ⟨_, rfl, ?_⟩)
 refine WL.y rfl (Yd.buildL (pl := [(0, 1), (1, 1), (2, 1)]) (zs := [.string ⟨#[]⟩, .int .i64 0, .int .i64 0]) (parts := [(0, .const (.string ⟨#[97, 110, 110]⟩)), (1, .const (.int .i64 9))]) (vs := [(0, _), (1, _)]) (cells := [_, _, .int .i64 0]) kr_ kr_ rfl rfl) ?_
 refine WL.h rfl (Hd.buildSlice (e := 71) (sz := 3) (zs := [.string ⟨#[]⟩, .int .i64 0, .int .i64 0]) (parts := [(0, .tmp 13)]) (vs := [(0, .agg (cellsU ⟨⟨#[97, 110, 110]⟩, 9, 0⟩).toArray)]) (cells := knU.flatMap cellsU) kr_ kr_ kr_ rfl kr_ kr_ fun b14 => ⟨_, rfl, ?_⟩)
 refine WL.h rfl (Hd.build1 (e := 3) (z := .int .i64 0) kr_ kr_ kr_ rfl (by rfl) fun b15 => ⟨_, rfl, ?_⟩)
 refine WL.c rfl (Ent.func Tryz.call31 rfl) (cnew_tells _ _ _ knG knU [3] (by decide) (row b15 (ic [3]) 3 :: (row b14 (knU.flatMap cellsU) 71 :: (row b12 (knG.flatMap cellsG) 73 :: H))) (.inr ⟨b12, 0, 1, knG.flatMap cellsG, 73, (0, 0), true, rfl, Nat.le_refl _, List.mem_cons_of_mem _ (List.mem_cons_of_mem _ List.mem_cons_self), rfl⟩) (.inr ⟨b14, 0, 1, knU.flatMap cellsU, 71, (0, 0), true, rfl, Nat.le_refl _, List.mem_cons_of_mem _ List.mem_cons_self, rfl⟩) (.inr ⟨b15, 0, 1, ic [3], 3, (0, 0), true, rfl, Nat.le_refl _, List.mem_cons_self, rfl⟩) (by decide) (by decide) (by decide)) (Sp.p sp_) ?_
 intro x H9 h9
 obtain ⟨p, C0, rfl, h0, rfl⟩ := (h9.resolve_right fun q => q.1 kn_good).2
 have inv0 := kn_inv
 refine m_ rfl rfl (x_ rfl rfl rfl (x_ rfl rfl rfl (a_ rfl rfl (a_ rfl rfl (nt_ (WC.seq (sr_ (m_ rfl rfl (WL.y rfl (Yd.neq rfl rfl) (WL.renamed (t := 20) (v := .bool false) rfl (congrArg Value.bool (by decide)) ?_))))))))))
 refine m_ rfl rfl (gy_ 21 rfl rfl rfl (Yd.move rfl) (gy_ 21 rfl rfl rfl (Yd.eqlNil Tryz.underlying40 rfl rfl) (WL.renamed (t := 23) (v := .bool false) rfl (congrArg Value.bool (rfl)) (WL.y rfl (Yd.pickF rfl rfl) (nt_ (WC.no rfl (WC.skip (ts_ (WC.region (WL.h rfl (Hd.buildBytes (e := 5) [97#8] kr_ kr_ kr_ rfl rfl kr_ fun b25 => ⟨_, rfl, ?_⟩)))))))))))
 refine WL.h rfl (Hd.markB (e := 5) kr_ kr_ rfl fr_ ⟨_, rfl, ?_⟩)
 refine WL.y rfl (Yd.buildL (pl := [(0, 1), (1, 1), (2, 1)]) (zs := [.int .i64 0, .int .i64 0, .slice none 0 0]) (parts := [(0, .const (.int .i64 1)), (1, .const (.int .i64 2)), (2, .tmp 26)]) (vs := [(0, _), (1, _), (2, _)]) (cells := [_, _, _]) kr_ kr_ rfl rfl) ?_
 refine WL.h rfl (Hd.alloc (zs := [.int .i64 0, .int .i64 0, .slice none 0 0]) kr_ fun b3 => ⟨_, rfl, ?_⟩)
 refine WL.s (Hd.storeAll (n := 3) kr_ rfl rfl (by rfl) one_ fr_ (by rfl) ⟨rfl, ?_⟩)
 refine ntsr_ (m_ rfl rfl (WL.h rfl (Hd.loadAll (n := 3) kr_ rfl mem_ (by rfl) ⟨_, rfl, ?_⟩)))
 refine WL.c rfl (Ent.func Tryz.call39 rfl) (step_tells 1#32 7#32 0 false knW _ [⟨b25, .cells (bc [97#8]).toArray 5 ((bc [97#8]).length, (bc [97#8]).length + 1), true⟩] (bs_marked rfl List.mem_cons_self) (by decide)) (Sp.p sp_) ?_
 rintro q1 Hq1 ⟨x1, A1, rfl, hA1, rfl⟩
 rw [kn_step]
 obtain ⟨xo1, xc1, rfl, _⟩ := hA1.form
 refine WL.c rfl (Ent.func Tryz.call22 rfl) (serve_tells p kn0c C0 h0 inv0 (knN 1#32 false) (.slice none 0 0) (.slice xo1 (ewkB knW).length xc1) A1 (.inl ⟨_, _, rfl, rfl, rfl⟩) hA1.bs) (Sp.p sp_) ?_
 rintro r1 Hs1 ⟨C1, w1, D1, rfl, h1, hD1, rfl⟩
 have inv1 := serve_inv inv0 (knN 1#32 false)
 obtain ⟨s1, hs1⟩ : ∃ t, t = serveS kn0c (knN 1#32 false) := ⟨_, rfl⟩
 obtain ⟨n1, hn1⟩ : ∃ t, t = serveN kn0c (knN 1#32 false) := ⟨_, rfl⟩
 rw [← hs1] at h1 inv1
 rw [← hn1] at hD1 ⊢
 obtain ⟨wo1, wc1, rfl, _⟩ := hD1.form
 refine WL.h rfl (Hd.alloc (zs := [.int .i64 0, .int .u32 0, .int .u32 0, .int .u64 0, .int .u64 0, .int .u32 0, .int .i64 0, .bool false, .int .i64 0, .slice none 0 0, .slice none 0 0]) kr_ fun b4 => ⟨_, rfl, ?_⟩)
 refine WL.s (Hd.storeAll (n := 11) kr_ rfl rfl (by rfl) (ntc_one rfl rfl) fr_ (by rfl) ⟨rfl, ?_⟩)
 refine ntsr_ (m_ rfl rfl ?_)
 refine WL.c rfl (Ent.func Tryz.call25 rfl) (cgoods_tells p s1 C1 h1 (by rw [hs1, kn_s1]; decide)) (Sp.p sp_) ?_
 rintro g2 Hg2 ⟨S2, G2, hT2, ho2, rfl⟩
 obtain rfl := kn_told (g := ⟨⟨#[97]⟩, 3, 0⟩) (by rw [hs1]; exact kn_s1) hT2
 obtain ⟨go2, gc2, rfl, _⟩ := ho2.form
 obtain ⟨g2b, g2f, g2s, g2T, g2fr, g2ex, rfl, _, hg2m, hg2s⟩ := ho2.rs.lies (by decide)
 refine a_ rfl rfl (ntsr_ (m_ rfl rfl (WL.h rfl (Hd.loadAll (n := 3) kr_ rfl mem_ (by rfl) ⟨_, rfl, ?_⟩))))
 refine WL.c rfl (Ent.func Tryz.call39 rfl) (step_tells 1#32 7#32 0 false knW _ [⟨b25, .cells (bc [97#8]).toArray 5 ((bc [97#8]).length, (bc [97#8]).length + 1), true⟩] (bs_marked rfl List.mem_cons_self) (by decide)) (Sp.p sp_) ?_
 rintro q3 Hq3 ⟨x3, A3, rfl, hA3, rfl⟩
 rw [kn_step]
 obtain ⟨xo3, xc3, rfl, _⟩ := hA3.form
 refine WL.c rfl (Ent.func Tryz.call22 rfl) (serve_tells p s1 C1 h1 inv1 (knN 1#32 false) (.slice none 0 0) (.slice xo3 (ewkB knW).length xc3) A3 (.inl ⟨_, _, rfl, rfl, rfl⟩) hA3.bs) (Sp.p sp_) ?_
 rintro r3 Hs3 ⟨C3, w3, D3, rfl, h3, hD3, rfl⟩
 have inv3 := serve_inv inv1 (knN 1#32 false)
 obtain ⟨s3, hs3⟩ : ∃ t, t = serveS s1 (knN 1#32 false) := ⟨_, rfl⟩
 obtain ⟨n3, hn3⟩ : ∃ t, t = serveN s1 (knN 1#32 false) := ⟨_, rfl⟩
 rw [← hs3] at h3 inv3
 rw [← hn3] at hD3 ⊢
 obtain ⟨wo3, wc3, rfl, _⟩ := hD3.form
 refine WL.h rfl (Hd.alloc (zs := [.int .i64 0, .int .u32 0, .int .u32 0, .int .u64 0, .int .u64 0, .int .u32 0, .int .i64 0, .bool false, .int .i64 0, .slice none 0 0, .slice none 0 0]) kr_ fun b6 => ⟨_, rfl, ?_⟩)
 refine WL.s (Hd.storeAll (n := 11) kr_ rfl rfl (by rfl) one_ fr_ (by rfl) ⟨rfl, ?_⟩)
 refine ntsr_ (m_ rfl rfl (WL.h rfl (Hd.loadAll (n := 3) kr_ rfl mem_ (by rfl) ⟨_, rfl, ?_⟩)))
 refine WL.c rfl (Ent.func Tryz.call39 rfl) (step_tells 0#32 7#32 0 false knW _ [⟨b25, .cells (bc [97#8]).toArray 5 ((bc [97#8]).length, (bc [97#8]).length + 1), true⟩] (bs_marked rfl List.mem_cons_self) (by decide)) (Sp.p sp_) ?_
 rintro q4 Hq4 ⟨x4, A4, rfl, hA4, rfl⟩
 rw [kn_step]
 obtain ⟨xo4, xc4, rfl, _⟩ := hA4.form
 refine WL.c rfl (Ent.func Tryz.call22 rfl) (serve_tells p s3 C3 h3 inv3 (knN 0#32 false) (.slice none 0 0) (.slice xo4 (ewkB knW).length xc4) A4 (.inl ⟨_, _, rfl, rfl, rfl⟩) hA4.bs) (Sp.p sp_) ?_
 rintro r4 Hs4 ⟨C4, w4, D4, rfl, h4, hD4, rfl⟩
 have inv4 := serve_inv inv3 (knN 0#32 false)
 obtain ⟨s4, hs4⟩ : ∃ t, t = serveS s3 (knN 0#32 false) := ⟨_, rfl⟩
 obtain ⟨n4, hn4⟩ : ∃ t, t = serveN s3 (knN 0#32 false) := ⟨_, rfl⟩
 rw [← hs4] at h4 inv4
 rw [← hn4] at hD4 ⊢
 obtain ⟨wo4, wc4, rfl, _⟩ := hD4.form
 refine WL.h rfl (Hd.alloc (zs := [.int .i64 0, .int .u32 0, .int .u32 0, .int .u64 0, .int .u64 0, .int .u32 0, .int .i64 0, .bool false, .int .i64 0, .slice none 0 0, .slice none 0 0]) kr_ fun b7 => ⟨_, rfl, ?_⟩)
 refine WL.s (Hd.storeAll (n := 11) kr_ rfl rfl (by rfl) one_ fr_ (by rfl) ⟨rfl, ?_⟩)
 refine ntsr_ (m_ rfl rfl (WL.h rfl (Hd.loadAll (n := 3) kr_ rfl mem_ (by rfl) ⟨_, rfl, ?_⟩)))
 refine WL.c rfl (Ent.func Tryz.call39 rfl) (step_tells 1#32 7#32 0 true knW _ [⟨b25, .cells (bc [97#8]).toArray 5 ((bc [97#8]).length, (bc [97#8]).length + 1), true⟩] (bs_marked rfl List.mem_cons_self) (by decide)) (Sp.p sp_) ?_
 rintro q6 Hq6 ⟨x6, A6, rfl, hA6, rfl⟩
 rw [kn_step]
 obtain ⟨xo6, xc6, rfl, _⟩ := hA6.form
 refine WL.c rfl (Ent.func Tryz.call22 rfl) (serve_tells p s4 C4 h4 inv4 (knN 1#32 true) (.slice none 0 0) (.slice xo6 (ewkB knW).length xc6) A6 (.inl ⟨_, _, rfl, rfl, rfl⟩) hA6.bs) (Sp.p sp_) ?_
 rintro r6 Hs6 ⟨C6, w6, D6, rfl, h6, hD6, rfl⟩
 have inv6 := serve_inv inv4 (knN 1#32 true)
 obtain ⟨s6, hs6⟩ : ∃ t, t = serveS s4 (knN 1#32 true) := ⟨_, rfl⟩
 obtain ⟨n6, hn6⟩ : ∃ t, t = serveN s4 (knN 1#32 true) := ⟨_, rfl⟩
 rw [← hs6] at h6 inv6
 rw [← hn6] at hD6 ⊢
 obtain ⟨wo6, wc6, rfl, _⟩ := hD6.form
 refine WL.h rfl (Hd.alloc (zs := [.int .i64 0, .int .u32 0, .int .u32 0, .int .u64 0, .int .u64 0, .int .u32 0, .int .i64 0, .bool false, .int .i64 0, .slice none 0 0, .slice none 0 0]) kr_ fun b8 => ⟨_, rfl, ?_⟩)
 refine WL.s (Hd.storeAll (n := 11) kr_ rfl rfl (by rfl) one_ fr_ (by rfl) ⟨rfl, ?_⟩)
 refine ntsr_ (m_ rfl rfl ?_)
 have e6 : s6.K = [⟨⟨#[97]⟩, 5, 0⟩] ∧ s6.e = 1#32 ∧ s6.ef.length = 2 := by rw [hs6, hs4, hs3, hs1]; exact kn_K4
 refine WL.c rfl (Ent.func Tryz.call25 rfl) (cgoods_tells p s6 C6 h6 (by rw [e6.1]; decide)) (Sp.p sp_) ?_
 rintro g5 Hg5 ⟨S5, G5, hT5, ho5, rfl⟩
 obtain rfl := kn_told (g := ⟨⟨#[97]⟩, 5, 0⟩) (e6.1) hT5
 obtain ⟨go5, gc5, rfl, _⟩ := ho5.form
 obtain ⟨g5b, g5f, g5s, g5T, g5fr, g5ex, rfl, _, hg5m, hg5s⟩ := ho5.rs.lies (by decide)
 refine a_ rfl rfl (ntsr_ (f_ 0 kr_ rfl rfl ?_))
 refine d_ kr_ rfl mem_ (by rfl) rfl ?_
 refine WL.y rfl (Yd.eql rfl rfl) ?_
 refine WL.renamed (t := 50) (v := .bool true) rfl (congrArg Value.bool (decide_eq_true (by rw [hn1]; exact kn_n1.1))) ?_
 refine m_ rfl rfl (gy_ 51 rfl rfl rfl (Yd.fieldAddr (k := 8) kr_ rfl) ?_)
 refine WL.gh (dj := 51) rfl rfl rfl (Hd.load1 kr_ rfl mem_ (by rfl) ⟨_, rfl, ?_⟩)
 refine gy_ 51 rfl rfl rfl (Yd.eql rfl rfl) ?_
 refine WL.renamed (t := 54) (v := .bool true) rfl (congrArg Value.bool (decide_eq_true (by rw [hn1]; exact kn_n1.2))) ?_
 refine WL.y rfl (Yd.pickT rfl rfl) (m_ rfl rfl (gy_ 56 rfl rfl rfl (Yd.move rfl) (gy_ 56 rfl rfl rfl (Yd.len (e := 73) kr_ rfl) ?_)))
 refine gy_ 56 rfl rfl rfl (Yd.eql rfl rfl) (WL.renamed (t := 59) (v := .bool true) rfl (congrArg Value.bool (by decide)) ?_)
 refine WL.y rfl (Yd.pickT rfl rfl) (m_ rfl rfl (gy_ 61 rfl rfl rfl (Yd.move rfl) (gy_ 61 rfl rfl rfl (Yd.indexAddr (e := 73) (s := 2) kr_ kr_ rfl rfl (by decide) (by decide)) ?_)))
 refine gy_ 61 rfl rfl rfl (Yd.fieldAddr (k := 1) kr_ rfl) ?_
 refine WL.gh (dj := 61) rfl rfl rfl (Hd.load1 (v := .int .i64 3) (b := g2b) (o := g2f + ((0 : Nat) : Int).toNat * 2 + 1) (cs := g2s) kr_ rfl (Gr.get gr_ hg2m) (cell_at2 (L := [⟨⟨#[97]⟩, 3, 0⟩]) cellsG_len hg2s (by decide) (by decide)) ⟨_, rfl, ?_⟩)
 refine gy_ 61 rfl rfl rfl (Yd.eql rfl rfl) (WL.renamed (t := 66) (v := .bool true) rfl (congrArg Value.bool (by decide)) ?_)
 refine WL.y rfl (Yd.pickT rfl rfl) (m_ rfl rfl (WL.gh (dj := 68) rfl rfl rfl (Hd.loadAll (n := 11) kr_ rfl mem_ (by rfl) ⟨_, rfl, ?_⟩)))
 refine WL.gh (dj := 68) rfl rfl rfl (Hd.loadAll (n := 11) kr_ rfl mem_ (by rfl) ⟨_, rfl, ?_⟩)
 refine WL.grf (dj := 68) rfl rfl rfl (Ent.func Tryz.call34 rfl) (same05_reads n1 n3 _ _ _ _ (D1 ++ D3) (by rw [hn1, serve_key]; exact .inl ⟨_, _, rfl, rfl, rfl⟩) (hD1.bs.mono gr_) (by rw [hn3, serve_key]; exact .inl ⟨_, _, rfl, rfl, rfl⟩) (hD3.bs.mono gr_)) sp_ ?_
 refine WL.renamed (t := 71) (v := .bool true) rfl (congrArg Value.bool (by rw [show n3 = n1 by rw [hn3, hs1, hn1]; exact kn_n2]; exact sameNt_refl n1)) ?_
 refine WL.y rfl (Yd.pickT rfl rfl) (m_ rfl rfl (gy_ 73 rfl rfl rfl (Yd.fieldAddr (k := 0) kr_ rfl) ?_))
 refine WL.gh (dj := 73) rfl rfl rfl (Hd.load1 kr_ rfl mem_ (by rfl) ⟨_, rfl, ?_⟩)
 refine gy_ 73 rfl rfl rfl (Yd.eql rfl rfl) ?_
 refine WL.renamed (t := 76) (v := .bool true) rfl (congrArg Value.bool (decide_eq_true (by rw [hn4, hs3, hs1]; exact kn_n3.1))) ?_
 refine WL.y rfl (Yd.pickT rfl rfl) (m_ rfl rfl (gy_ 78 rfl rfl rfl (Yd.fieldAddr (k := 8) kr_ rfl) ?_))
 refine WL.gh (dj := 78) rfl rfl rfl (Hd.load1 kr_ rfl mem_ (by rfl) ⟨_, rfl, ?_⟩)
 refine gy_ 78 rfl rfl rfl (Yd.eql rfl rfl) ?_
 refine WL.renamed (t := 81) (v := .bool true) rfl (congrArg Value.bool (decide_eq_true (by rw [hn4, hs3, hs1]; exact kn_n3.2))) ?_
 refine WL.y rfl (Yd.pickT rfl rfl) (m_ rfl rfl (gy_ 83 rfl rfl rfl (Yd.fieldAddr (k := 8) kr_ rfl) ?_))
 refine WL.gh (dj := 83) rfl rfl rfl (Hd.load1 kr_ rfl mem_ (by rfl) ⟨_, rfl, ?_⟩)
 refine gy_ 83 rfl rfl rfl (Yd.eql rfl rfl) ?_
 refine WL.renamed (t := 86) (v := .bool true) rfl (congrArg Value.bool (decide_eq_true (by rw [hn6, hs4, hs3, hs1]; exact kn_n4))) ?_
 refine WL.y rfl (Yd.pickT rfl rfl) (m_ rfl rfl (gy_ 88 rfl rfl rfl (Yd.move rfl) (gy_ 88 rfl rfl rfl (Yd.indexAddr (e := 73) (s := 2) kr_ kr_ rfl rfl (by decide) (by decide)) ?_)))
 refine gy_ 88 rfl rfl rfl (Yd.fieldAddr (k := 1) kr_ rfl) ?_
 refine WL.gh (dj := 88) rfl rfl rfl (Hd.load1 (v := .int .i64 5) (b := g5b) (o := g5f + ((0 : Nat) : Int).toNat * 2 + 1) (cs := g5s) kr_ rfl (Gr.get gr_ hg5m) (cell_at2 (L := [⟨⟨#[97]⟩, 5, 0⟩]) cellsG_len hg5s (by decide) (by decide)) ⟨_, rfl, ?_⟩)
 refine gy_ 88 rfl rfl rfl (Yd.eql rfl rfl) (WL.renamed (t := 93) (v := .bool true) rfl (congrArg Value.bool (by decide)) ?_)
 refine WL.y rfl (Yd.pickT rfl rfl) (m_ rfl rfl (gy_ 95 rfl rfl rfl (Yd.move rfl) (WL.grf (dj := 95) rfl rfl rfl (Ent.func Tryz.call24 rfl) (cepoch_reads p s6 C6 h6) sp_ ?_)))
 refine gy_ 95 rfl rfl rfl (Yd.eql32 _ (1#32) rfl rfl rfl rfl) (WL.renamed (t := 98) (v := .bool true) rfl (congrArg Value.bool (decide_eq_true (by rw [e6.2.1]))) ?_)
 refine WL.y rfl (Yd.pickT rfl rfl) (m_ rfl rfl (gy_ 100 rfl rfl rfl (Yd.move rfl) ?_))
 refine WL.gc (dj := 100) rfl rfl rfl (Ent.func Tryz.call21 rfl) (ceffs_tells p s6 C6 h6 (by rw [e6.2.2]; decide)) (Sp.p sp_) ?_
 rintro f9 Hf9 ⟨E9, hE9, rfl⟩
 obtain ⟨fo, fc, rfl, _⟩ := hE9.form
 rw [e6.2.2]
 refine gy_ 100 rfl rfl rfl (Yd.len (e := 111) kr_ rfl) ?_
 refine gy_ 100 rfl rfl rfl (Yd.eql rfl rfl) (WL.renamed (t := 104) (v := .bool true) rfl (congrArg Value.bool (by decide)) ?_)
 refine WL.y rfl (Yd.pickT rfl rfl) (a_ rfl rfl (nt_ (WC.ret (DN.fit (C := H) sp_ ?_))))
 exact DN.ret1 Tryz.results9 rfl (⟨rfl, rfl⟩)
end Go.Proofs.YtkamlondepceiaaGreat

set_option linter.unusedVariables false
set_option linter.unusedSimpArgs false
set_option maxHeartbeats 4000000
namespace Go.Proofs.YtkamlondepceiaaGreat
open Go.SL
def AskL (v : Value) (l : List As) (xs : List Value) (H : List Ck) : Prop := Rs v l.length xs H ∧ xs.length = l.length * 8 ∧ ∀ i (h : i < l.length), AsE ((xs.drop (i * 8)).take 8) l[i] H
def NotLong (gs : List Gd) (us : List Au) (rs : List Int) (l : List As) : Prop := gs.length ≤ 100 ∧ us.length ≤ 100 ∧ rs.length ≤ 100 ∧ ∀ (j : Nat) (h : j < l.length), j < 200 → l[j].w.name.length ≤ 500 ∧ l[j].data.length ≤ 500
theorem ask_at {ao : Option Addr} {n c i : Nat} {xs : List Value} {H : List Ck} {vs : List Value} (hv : Rs (.slice ao n c) n xs H) (hx : (xs.drop (i * 8)).take 8 = vs) (hvs : vs.length = 8) : ∃ b o, ao = some ⟨b, o, none⟩ ∧ ∃ (c0 : List Value) (T0 : TypeId) (fr0 : Nat × Nat) (ex0 : Bool), (⟨b, .cells c0.toArray T0 fr0, ex0⟩ : Ck) ∈ H ∧ (∀ (k : Nat) u, vs[k]? = some u → c0[o + (i : Int).toNat * 8 + k]? = some u) ∧ (c0.drop (o + (i : Int).toNat * 8)).take 8 = vs := by
  have hne : xs ≠ [] := by intro e; rw [e] at hx; simp at hx; rw [hx] at hvs; simp at hvs
  obtain ⟨b, o, cs, T, fr, ex, h1, h2, h3⟩ := hv.at hne
  have key : ∀ (k : Nat) u, vs[k]? = some u → cs.toList[o + (i : Int).toNat * 8 + k]? = some u := fun k u hu => by
    rw [← hx, List.getElem?_take] at hu
    split at hu
    · rw [List.getElem?_drop] at hu
      have := h3 _ _ hu
      rw [Int.toNat_natCast]
      simpa [Nat.add_assoc] using this
    cases hu
  refine ⟨b, o, h1, cs.toList, T, fr, ex, by simpa using h2, key, ?_⟩
  apply List.ext_getElem?
  intro k
  by_cases hk : k < 8
  · rw [List.getElem?_take, if_pos hk, List.getElem?_drop]
    have h9 : vs[k]? = some vs[k] := List.getElem?_eq_getElem (by omega)
    rw [h9]
    exact key k _ h9
  rw [List.getElem?_eq_none (by rw [List.length_take]; omega), List.getElem?_eq_none (by omega)]
theorem long_reads (v1 v2 v3 v : Value) (gs : List Gd) (us : List Au) (rs : List Int) (l : List As) (xs : List Value) (H : List Ck) (h1 : Rs v1 gs.length (gs.flatMap cellsG) H) (h2 : Rs v2 us.length (us.flatMap cellsU) H) (h3 : Rs v3 rs.length (ic rs) H) (ha : AskL v l xs H) (hl1 : gs.length ≤ 9223372036854775807) (hl2 : us.length ≤ 9223372036854775807) (hl3 : rs.length ≤ 9223372036854775807) (hl : l.length ≤ 9223372036854775807) : Tells Tryz.prog 19 [.agg #[v1, v2, v3], v] H fun r H' => H' = H ∧ ∃ z, r = .bool z ∧ (z = false → NotLong gs us rs l) := by
 refine Tells.enter Tryz.func19 rfl Tryz.ntmps19 rfl ?_
 intro w0 R
 obtain ⟨hv, hx, hA⟩ := ha
 obtain ⟨go, gc, rfl, _⟩ := h1.form
 obtain ⟨uo, uc, rfl, _⟩ := h2.form
 obtain ⟨ro, rc, rfl, _⟩ := h3.form
 obtain ⟨vo, vc, rfl, _⟩ := hv.form
 refine sr_ (WL.h rfl (Hd.boxA (vs := [.slice go gs.length gc, .slice uo us.length uc, .slice ro rs.length rc]) rfl fun b2 => ⟨_, rfl, ?_⟩))
 refine a_ rfl rfl (nt_ (WC.seq (sr_ (f_ 0 kr_ rfl rfl ?_))))
 refine d_ kr_ rfl mem_ (by rfl) rfl ?_
 refine WL.y rfl (Yd.len (e := 73) kr_ rfl) ?_
 refine WL.y rfl (Yd.gtr rfl rfl) (m_ rfl rfl (WL.partP (t := 12) rfl (fun hg12 => ?_) (fun hg12 => ?_)))
 iterate 4 refine gn_ 12 rfl rfl rfl rfl ?_
 refine WL.y rfl (Yd.pickT rfl rfl) (m_ rfl rfl ?_)
 iterate 4 refine gn_ 18 rfl rfl rfl rfl ?_
 refine WL.y rfl (Yd.pickT rfl rfl) (nt_ (WC.yes rfl (sr_ (a_ rfl rfl (nt_ (WC.ret (DN.then_ret (DN.fit (C := H) sp_ ?_))))))))
 refine DN.ret1 Tryz.results19 rfl ?_
 first | exact ⟨rfl, true, rfl, fun e => by cases e⟩ | exact ⟨rfl, false, rfl, fun _ => ⟨by omega, by omega, by omega, fun j h hj => hno j h (by omega)⟩⟩
 refine gy_ 12 rfl rfl rfl (Yd.fieldAddr (k := 1) kr_ rfl) ?_
 refine WL.gh (dj := 12) rfl rfl rfl (Hd.load1 kr_ rfl mem_ (by rfl) ⟨_, rfl, ?_⟩)
 refine gy_ 12 rfl rfl rfl (Yd.len (e := 71) kr_ rfl) ?_
 refine gy_ 12 rfl rfl rfl (Yd.gtr rfl rfl) (WL.y rfl (Yd.pickF rfl rfl) (m_ rfl rfl (WL.partP (t := 18) rfl (fun hg18 => ?_) (fun hg18 => ?_))))
 iterate 4 refine gn_ 18 rfl rfl rfl rfl ?_
 refine WL.y rfl (Yd.pickT rfl rfl) (nt_ (WC.yes rfl (sr_ (a_ rfl rfl (nt_ (WC.ret (DN.then_ret (DN.fit (C := H) sp_ ?_))))))))
 refine DN.ret1 Tryz.results19 rfl ?_
 first | exact ⟨rfl, true, rfl, fun e => by cases e⟩ | exact ⟨rfl, false, rfl, fun _ => ⟨by omega, by omega, by omega, fun j h hj => hno j h (by omega)⟩⟩
 refine gy_ 18 rfl rfl rfl (Yd.fieldAddr (k := 2) kr_ rfl) ?_
 refine WL.gh (dj := 18) rfl rfl rfl (Hd.load1 kr_ rfl mem_ (by rfl) ⟨_, rfl, ?_⟩)
 refine gy_ 18 rfl rfl rfl (Yd.len (e := 3) kr_ rfl) ?_
 refine gy_ 18 rfl rfl rfl (Yd.gtr rfl rfl) (WL.y rfl (Yd.pickF rfl rfl) (nt_ (WC.ite rfl (fun h23 => ?_) (fun h23 => ?_))))
 refine sr_ (a_ rfl rfl (nt_ (WC.ret (DN.then_ret (DN.fit (C := H) sp_ ?_)))))
 refine DN.ret1 Tryz.results19 rfl ?_
 first | exact ⟨rfl, true, rfl, fun e => by cases e⟩ | exact ⟨rfl, false, rfl, fun _ => ⟨by omega, by omega, by omega, fun j h hj => hno j h (by omega)⟩⟩
 refine WC.skip (ts_ (sr_ (a_ rfl rfl (nt_ (WC.block (WC.loopS (fun z : Nat => z ≤ gs.length) (fun z : Nat => [(5, .int .i64 (z : Int))]) (fun z : Nat => row b2 [.slice go gs.length gc, .slice uo us.length uc, .slice ro rs.length rc] 47 :: H) (fun z : Nat => gs.length - z) (0) (show 0 ≤ gs.length from Nat.zero_le _) (Sx.put rfl (sx_)) sp_ ?_))))))
 rintro i hI
 replace hI : i ≤ gs.length := hI
 obtain hi := hI
 change WC _ _ _ _ _ _ ([(5, .int .i64 (i : Int))] ++ _) (row b2 [.slice go gs.length gc, .slice uo us.length uc, .slice ro rs.length rc] 47 :: H)
 refine WC.seq (sr_ (m_ rfl rfl (f_ 0 kr_ rfl rfl ?_)))
 refine d_ kr_ rfl mem_ (by rfl) rfl ?_
 refine WL.y rfl (Yd.len (e := 73) kr_ rfl) ?_
 refine WL.y rfl (Yd.lss rfl rfl) (nt_ (WC.ite rfl (fun h28 => ?_) (fun h28 => ?_)))
 have hlt : i < gs.length := by omega
 obtain ⟨pb, pf, ps, pT, pfr, pex, rfl, _, hpm, hps⟩ := h1.lies (by omega)
 refine WC.skip (ts_ (WC.block (sr_ (f_ 0 kr_ rfl rfl ?_))))
 refine d_ kr_ rfl mem_ (by rfl) rfl ?_
 refine m_ rfl rfl (WL.y rfl (Yd.indexAddr (e := 73) (s := 2) kr_ kr_ rfl rfl (by omega) (by omega)) ?_)
 refine f_ 0 kr_ rfl rfl ?_
 refine WL.h rfl (Hd.load1 (v := .string gs[i].name) (b := pb) (o := pf + (i : Int).toNat * 2 + 0) (cs := ps) kr_ rfl (Gr.get gr_ hpm) (cell_at2 (L := gs) cellsG_len hps (by omega) (by omega)) ⟨_, rfl, ?_⟩)
 refine WL.y rfl (Yd.lenS Tryz.underlying9 rfl) (WL.y rfl (Yd.gtr rfl rfl) (nt_ (WC.ite rfl (fun h38 => ?_) (fun h38 => ?_))))
 refine sr_ (a_ rfl rfl (nt_ (WC.ret (DN.block_ret (DN.then_ret (DN.then_ret (DN.block_ret (DN.then_ret (DN.fit (C := H) sp_ ?_)))))))))
 refine DN.ret1 Tryz.results19 rfl ?_
 first | exact ⟨rfl, true, rfl, fun e => by cases e⟩ | exact ⟨rfl, false, rfl, fun _ => ⟨by omega, by omega, by omega, fun j h hj => hno j h (by omega)⟩⟩
 refine WC.skip (DN.block_normal (DN.then_normal (WC.region (m_ rfl rfl (WL.y rfl (Yd.add rfl rfl (by omega) (by omega)) ?_)))))
 exact a_ rfl rfl (WL.nil (DN.againS (i + 1) (show (i + 1) ≤ gs.length from by omega) (show gs.length - (i + 1) < gs.length - i by omega) (Sx.put rfl (sx_)) sp_))
 refine WC.exit (DN.then_exit (DN.then_exit (DN.block_exit (ts_ (sr_ (a_ rfl rfl (nt_ (WC.block (WC.loopS (fun z : Nat => z ≤ us.length) (fun z : Nat => [(6, .int .i64 (z : Int))]) (fun z : Nat => row b2 [.slice go gs.length gc, .slice uo us.length uc, .slice ro rs.length rc] 47 :: H) (fun z : Nat => us.length - z) (0) (show 0 ≤ us.length from Nat.zero_le _) (Sx.put rfl (sx_)) sp_ ?_)))))))))
 rintro i hI
 replace hI : i ≤ us.length := hI
 obtain hi := hI
 change WC _ _ _ _ _ _ ([(6, .int .i64 (i : Int))] ++ _) (row b2 [.slice go gs.length gc, .slice uo us.length uc, .slice ro rs.length rc] 47 :: H)
 refine WC.seq (sr_ (m_ rfl rfl (f_ 1 kr_ rfl rfl ?_)))
 refine d_ kr_ rfl mem_ (by rfl) rfl ?_
 refine WL.y rfl (Yd.len (e := 71) kr_ rfl) ?_
 refine WL.y rfl (Yd.lss rfl rfl) (nt_ (WC.ite rfl (fun h43 => ?_) (fun h43 => ?_)))
 have hlt : i < us.length := by omega
 obtain ⟨qb, qf, qs, qT, qfr, qex, rfl, _, hqm, hqs⟩ := h2.lies (by omega)
 refine WC.skip (ts_ (WC.block (sr_ (f_ 1 kr_ rfl rfl ?_))))
 refine d_ kr_ rfl mem_ (by rfl) rfl ?_
 refine m_ rfl rfl (WL.y rfl (Yd.indexAddr (e := 71) (s := 3) kr_ kr_ rfl rfl (by omega) (by omega)) ?_)
 refine f_ 0 kr_ rfl rfl ?_
 refine WL.h rfl (Hd.load1 (v := .string us[i].name) (b := qb) (o := qf + (i : Int).toNat * 3 + 0) (cs := qs) kr_ rfl (Gr.get gr_ hqm) (cell_at2 (L := us) cellsU_len hqs (by omega) (by omega)) ⟨_, rfl, ?_⟩)
 refine WL.y rfl (Yd.lenS Tryz.underlying9 rfl) (WL.y rfl (Yd.gtr rfl rfl) (nt_ (WC.ite rfl (fun h53 => ?_) (fun h53 => ?_))))
 refine sr_ (a_ rfl rfl (nt_ (WC.ret (DN.block_ret (DN.then_ret (DN.then_ret (DN.block_ret (DN.then_ret (DN.fit (C := H) sp_ ?_)))))))))
 refine DN.ret1 Tryz.results19 rfl ?_
 first | exact ⟨rfl, true, rfl, fun e => by cases e⟩ | exact ⟨rfl, false, rfl, fun _ => ⟨by omega, by omega, by omega, fun j h hj => hno j h (by omega)⟩⟩
 refine WC.skip (DN.block_normal (DN.then_normal (WC.region (m_ rfl rfl (WL.y rfl (Yd.add rfl rfl (by omega) (by omega)) ?_)))))
 exact a_ rfl rfl (WL.nil (DN.againS (i + 1) (show (i + 1) ≤ us.length from by omega) (show us.length - (i + 1) < us.length - i by omega) (Sx.put rfl (sx_)) sp_))
 refine WC.exit (DN.then_exit (DN.then_exit (DN.block_exit (ts_ (sr_ (a_ rfl rfl (nt_ (WC.block (WC.loopS (fun z : Nat => z ≤ l.length ∧ ∀ j (h : j < l.length), j < z → l[j].w.name.length ≤ 500 ∧ l[j].data.length ≤ 500) (fun z : Nat => [(7, .int .i64 (z : Int))]) (fun z : Nat => row b2 [.slice go gs.length gc, .slice uo us.length uc, .slice ro rs.length rc] 47 :: H) (fun z : Nat => l.length - z) (0) (show 0 ≤ l.length ∧ ∀ j (h : j < l.length), j < 0 → l[j].w.name.length ≤ 500 ∧ l[j].data.length ≤ 500 from ⟨Nat.zero_le _, fun j h hj => by omega⟩) (Sx.put rfl (sx_)) sp_ ?_)))))))))
 rintro i hI
 replace hI : i ≤ l.length ∧ ∀ j (h : j < l.length), j < i → l[j].w.name.length ≤ 500 ∧ l[j].data.length ≤ 500 := hI
 obtain ⟨hi, hno⟩ := hI
 change WC _ _ _ _ _ _ ([(7, .int .i64 (i : Int))] ++ _) (row b2 [.slice go gs.length gc, .slice uo us.length uc, .slice ro rs.length rc] 47 :: H)
 refine WC.seq (sr_ (m_ rfl rfl (m_ rfl rfl (WL.y rfl (Yd.len (e := 54) kr_ rfl) ?_))))
 refine WL.y rfl (Yd.lss rfl rfl) (m_ rfl rfl (WL.partP (t := 58) rfl (fun hg58 => ?_) (fun hg58 => ?_)))
 refine gy_ 58 rfl rfl rfl (Yd.move rfl) (gy_ 58 rfl rfl rfl (Yd.lss rfl rfl) (WL.y rfl (Yd.pickT rfl rfl) (nt_ (WC.ite rfl (fun h61 => ?_) (fun h61 => ?_)))))
 have hlt : i < l.length := by omega
 obtain ⟨vn, vd, hcell, hk, hd, _⟩ := hA i hlt
 obtain ⟨ko, kc, rfl, _⟩ := hk.form
 obtain ⟨eo, ec, rfl, _⟩ := hd.form
 obtain ⟨b0, o0, rfl, c0, T0, fr0, ex0, hm0, hc0, _⟩ := ask_at hv hcell rfl
 refine WC.skip (ts_ (WC.block (sr_ (m_ rfl rfl (m_ rfl rfl (WL.y rfl (Yd.indexAddr (e := 54) (s := 8) kr_ kr_ rfl rfl (by omega) (by omega)) ?_))))))
 refine f_ 4 kr_ rfl rfl ?_
 refine f_ 2 kr_ rfl rfl ?_
 refine WL.h rfl (Hd.load1 (v := .slice ko l[i].w.name.length kc) kr_ rfl (Gr.get gr_ hm0) (hc0 6 _ rfl) ⟨_, rfl, ?_⟩)
 refine WL.y rfl (Yd.len (e := 5) kr_ rfl) ?_
 refine WL.y rfl (Yd.gtr rfl rfl) (m_ rfl rfl (WL.partP (t := 72) rfl (fun hg72 => ?_) (fun hg72 => ?_)))
 iterate 7 refine gn_ 72 rfl rfl rfl rfl ?_
 refine WL.y rfl (Yd.pickT rfl rfl) (nt_ (WC.yes rfl (sr_ (a_ rfl rfl (nt_ (WC.ret (DN.block_ret (DN.then_ret (DN.then_ret (DN.block_ret (DN.then_ret (DN.fit (C := H) sp_ ?_))))))))))))
 refine DN.ret1 Tryz.results19 rfl ?_
 first | exact ⟨rfl, true, rfl, fun e => by cases e⟩ | exact ⟨rfl, false, rfl, fun _ => ⟨by omega, by omega, by omega, fun j h hj => hno j h (by omega)⟩⟩
 refine gy_ 72 rfl rfl rfl (Yd.move rfl) (gy_ 72 rfl rfl rfl (Yd.move rfl) (gy_ 72 rfl rfl rfl (Yd.indexAddr (e := 54) (s := 8) kr_ kr_ rfl rfl (by omega) (by omega)) ?_))
 refine gy_ 72 rfl rfl rfl (Yd.fieldAddr (k := 7) kr_ rfl) ?_
 refine WL.gh (dj := 72) rfl rfl rfl (Hd.load1 (v := .slice eo l[i].data.length ec) kr_ rfl (Gr.get gr_ hm0) (hc0 7 _ rfl) ⟨_, rfl, ?_⟩)
 refine gy_ 72 rfl rfl rfl (Yd.len (e := 5) kr_ rfl) ?_
 refine gy_ 72 rfl rfl rfl (Yd.gtr rfl rfl) (WL.y rfl (Yd.pickF rfl rfl) (nt_ (WC.ite rfl (fun h80 => ?_) (fun h80 => ?_))))
 refine sr_ (a_ rfl rfl (nt_ (WC.ret (DN.block_ret (DN.then_ret (DN.then_ret (DN.block_ret (DN.then_ret (DN.fit (C := H) sp_ ?_)))))))))
 refine DN.ret1 Tryz.results19 rfl ?_
 first | exact ⟨rfl, true, rfl, fun e => by cases e⟩ | exact ⟨rfl, false, rfl, fun _ => ⟨by omega, by omega, by omega, fun j h hj => hno j h (by omega)⟩⟩
 refine WC.skip (DN.block_normal (DN.then_normal (WC.region (m_ rfl rfl (WL.y rfl (Yd.add rfl rfl (by omega) (by omega)) ?_)))))
 refine a_ rfl rfl (WL.nil ?_)
 exact DN.againS (i + 1) (show (i + 1) ≤ l.length ∧ ∀ j (h : j < l.length), j < (i + 1) → l[j].w.name.length ≤ 500 ∧ l[j].data.length ≤ 500 from ⟨by omega, fun j h hj => by by_cases e : j = i; (subst e; exact ⟨by omega, by omega⟩); exact hno j h (by omega)⟩) (show l.length - (i + 1) < l.length - i by omega) (Sx.put rfl (sx_)) sp_
 refine WC.exit (DN.then_exit (DN.then_exit (DN.block_exit (ts_ (WC.region (a_ rfl rfl (nt_ (WC.ret (DN.fit (C := H) sp_ ?_)))))))))
 refine DN.ret1 Tryz.results19 rfl ?_
 first | exact ⟨rfl, true, rfl, fun e => by cases e⟩ | exact ⟨rfl, false, rfl, fun _ => ⟨by omega, by omega, by omega, fun j h hj => hno j h (by omega)⟩⟩
 refine gn_ 58 rfl rfl rfl rfl (gn_ 58 rfl rfl rfl rfl (WL.y rfl (Yd.pickF rfl rfl) (nt_ (WC.no rfl (WC.exit (DN.then_exit (DN.then_exit (DN.block_exit (ts_ (WC.region (a_ rfl rfl (nt_ (WC.ret ?_)))))))))))))
 refine DN.fit (C := H) sp_ ?_
 refine DN.ret1 Tryz.results19 rfl ?_
 first | exact ⟨rfl, true, rfl, fun e => by cases e⟩ | exact ⟨rfl, false, rfl, fun _ => ⟨by omega, by omega, by omega, fun j h hj => hno j h (by omega)⟩⟩
end Go.Proofs.YtkamlondepceiaaGreat

set_option linter.unusedVariables false
set_option linter.unusedSimpArgs false
set_option maxHeartbeats 4000000
namespace Go.Proofs.YtkamlondepceiaaGreat.St
open Go.SL
theorem rsum_reads (v : Value) (T : List Ho) (nm : ByteArray) (H : List Ck) (hv : Rs v T.length (T.flatMap cellsH) H) (hl : T.length ≤ 100000000) (hp : ∀ x ∈ T, 1 ≤ x.n) (hb : sumN T nm ≤ 1000000) : Reads Tryz.prog 74 [v, .string nm] H (.int .i64 (sumN T nm)) := by
 refine Tells.enter Tryz.func74 rfl Tryz.ntmps74 rfl ?_
 intro w0 R
 obtain ⟨vo, vc, rfl, hvc⟩ := hv.form
 refine sr_ (a_ rfl rfl (ntsr_ (a_ rfl rfl (nt_ (WC.seq (sr_ (a_ rfl rfl (nt_ (WC.block (WC.loopS (fun z : Nat × Int => z.1 ≤ T.length ∧ z.2 = sumN (T.take z.1) nm) (fun z : Nat × Int => [(6, .int .i64 (z.1 : Int)), (5, .int .i64 z.2)]) (fun z : Nat × Int => H) (fun z : Nat × Int => T.length - z.1) (⟨0, 0⟩) (show 0 ≤ T.length ∧ 0 = sumN (T.take 0) nm from ⟨Nat.zero_le _, by simp [sumN]⟩) (Sx.put rfl (Sx.put rfl (sx_))) sp_ ?_))))))))))
 rintro ⟨j, z⟩ hI
 replace hI : j ≤ T.length ∧ z = sumN (T.take j) nm := hI
 obtain ⟨hj, hz⟩ := hI
 change WC _ _ _ _ _ _ ([(6, .int .i64 (j : Int)), (5, .int .i64 z)] ++ _) (H)
 refine WC.seq (sr_ (m_ rfl rfl (m_ rfl rfl (WL.y rfl (Yd.len (e := 215) kr_ rfl) ?_))))
 refine WL.y rfl (Yd.lss rfl rfl) (nt_ (WC.ite rfl (fun h10 => ?_) (fun h10 => ?_)))
 have hjlt : j < T.length := by omega
 obtain ⟨wb, wf, ws, wT, wfr, wex, rfl, _, hwm, hws⟩ := hv.lies (by omega)
 have hst := sumN_take hjlt nm
 have hp1 := sumN_part hp (j + 1) nm
 have hp0 := sumN_part hp j nm
 have hpn := hp T[j] (List.getElem_mem hjlt)
 refine WC.skip (ts_ (WC.block (sr_ (m_ rfl rfl (m_ rfl rfl (WL.y rfl (Yd.indexAddr (e := 215) (s := 3) kr_ kr_ rfl rfl (by omega) (by omega)) ?_))))))
 refine f_ 1 kr_ rfl rfl ?_
 refine WL.h rfl (Hd.load1 (v := .string T[j].name) (b := wb) (o := wf + (j : Int).toNat * 3 + 1) (cs := ws) kr_ rfl (Gr.get gr_ hwm) (cell_at2 (L := T) cellsH_len hws (by omega) (by omega)) ⟨_, rfl, ?_⟩)
 refine m_ rfl rfl (WL.y rfl (Yd.eqlS rfl rfl) (nt_ (WC.ite rfl (fun h19 => ?_) (fun h19 => ?_))))
 rw [if_pos h19] at hst
 refine WC.region ?_
 iterate 3 refine m_ rfl rfl ?_
 refine WL.y rfl (Yd.indexAddr (e := 215) (s := 3) kr_ kr_ rfl rfl (by omega) (by omega)) ?_
 refine f_ 2 kr_ rfl rfl ?_
 refine WL.h rfl (Hd.load1 (v := .int .i64 T[j].n) (b := wb) (o := wf + (j : Int).toNat * 3 + 2) (cs := ws) kr_ rfl (Gr.get gr_ hwm) (cell_at2 (L := T) cellsH_len hws (by omega) (by omega)) ⟨_, rfl, ?_⟩)
 refine WL.y rfl (Yd.add rfl rfl (by omega) (by omega)) ?_
 refine a_ rfl rfl (WL.nil (DN.block_normal (DN.then_normal (WC.region (m_ rfl rfl (WL.y rfl (Yd.add rfl rfl (by omega) (by omega)) ?_))))))
 exact a_ rfl rfl (WL.nil (DN.againS (⟨j + 1, z + T[j].n⟩) (show (j + 1) ≤ T.length ∧ (z + T[j].n) = sumN (T.take (j + 1)) nm from ⟨by omega, by omega⟩) (show T.length - (j + 1) < T.length - j by omega) (Sx.put rfl (Sx.put rfl (sx_))) sp_))
 rw [if_neg h19] at hst
 refine WC.skip (DN.block_normal (DN.then_normal (WC.region (m_ rfl rfl (WL.y rfl (Yd.add rfl rfl (by omega) (by omega)) ?_)))))
 exact a_ rfl rfl (WL.nil (DN.againS (⟨j + 1, z⟩) (show (j + 1) ≤ T.length ∧ z = sumN (T.take (j + 1)) nm from ⟨by omega, by omega⟩) (show T.length - (j + 1) < T.length - j by omega) (Sx.put rfl (Sx.put rfl (sx_))) sp_))
 obtain rfl : j = T.length := by omega
 rw [List.take_length] at hz
 exact WC.exit (DN.then_exit (DN.then_exit (DN.block_exit (ts_ (WC.region (m_ rfl rfl (a_ rfl rfl (nt_ (WC.ret (DN.ret1 Tryz.results74 rfl (⟨by rw [hz], rfl⟩)))))))))))
theorem rat_reads (p : Nat) (F : List Gd) (L A : List Ho) (C : List Ck) (h : RsAt 147 73 215 p F L A C) (hl : L.length ≤ 100000000) (o : BitVec 32) : Reads Tryz.prog 138 [.pointer (some ⟨p, 0, none⟩), .int .u32 o.toNat] C (.int .i64 (atK Ho.o L o)) := by
 refine Tells.enter Tryz.func138 rfl Tryz.ntmps138 rfl ?_
 intro w0 R
 obtain ⟨vf, vl, va, Cf, Cl, Ca, rfl, hF, hL, hA⟩ := h
 obtain ⟨fo, fc, rfl, _⟩ := hF.form
 obtain ⟨lo, lc, rfl, _⟩ := hL.form
 obtain ⟨wo, wc, rfl, _⟩ := hA.form
 refine sr_ (a_ rfl rfl (nt_ (WC.seq (sr_ (a_ rfl rfl (nt_ (WC.block (WC.loopS (fun z : Nat => z ≤ L.length ∧ ∀ (j : Nat) (hj : j < L.length), j < z → ¬ o = L[j].o) (fun z : Nat => [(5, .int .i64 (z : Int))]) (fun z : Nat => row p [.slice fo F.length fc, .slice lo L.length lc, .slice wo A.length wc] 147 :: (Cf ++ (Cl ++ Ca))) (fun z : Nat => L.length - z) (0) (show 0 ≤ L.length ∧ ∀ (j : Nat) (hj : j < L.length), j < 0 → ¬ o = L[j].o from ⟨Nat.zero_le _, fun j hj h => by omega⟩) (Sx.put rfl (sx_)) sp_ ?_))))))))
 rintro i hI
 replace hI : i ≤ L.length ∧ ∀ (j : Nat) (hj : j < L.length), j < i → ¬ o = L[j].o := hI
 obtain ⟨hi, hno⟩ := hI
 change WC _ _ _ _ _ _ ([(5, .int .i64 (i : Int))] ++ _) (row p [.slice fo F.length fc, .slice lo L.length lc, .slice wo A.length wc] 147 :: (Cf ++ (Cl ++ Ca)))
 refine WC.seq (sr_ (m_ rfl rfl (m_ rfl rfl (n_ rfl rfl (f_ 1 kr_ rfl rfl ?_)))))
 refine d_ kr_ rfl mem_ (by rfl) rfl ?_
 refine WL.y rfl (Yd.len (e := 215) kr_ rfl) ?_
 refine WL.y rfl (Yd.lss rfl rfl) (nt_ (WC.ite rfl (fun h12 => ?_) (fun h12 => ?_)))
 have hlt : i < L.length := by omega
 obtain ⟨ub, uf, us, uT, ufr, uex, rfl, _, hum, hus⟩ := hL.rs.lies (by omega)
 refine WC.skip (ts_ (WC.block (sr_ (m_ rfl rfl (n_ rfl rfl (f_ 1 kr_ rfl rfl ?_))))))
 refine d_ kr_ rfl mem_ (by rfl) rfl ?_
 refine m_ rfl rfl (WL.y rfl (Yd.indexAddr (e := 215) (s := 3) kr_ kr_ rfl rfl (by omega) (by omega)) ?_)
 refine f_ 0 kr_ rfl rfl ?_
 refine WL.h rfl (Hd.load1 (v := .int .u32 L[i].o.toNat) (b := ub) (o := uf + (i : Int).toNat * 3 + 0) (cs := us) kr_ rfl (Gr.get gr_ hum) (cell_at2 (L := L) cellsH_len hus (by omega) (by omega)) ⟨_, rfl, ?_⟩)
 refine m_ rfl rfl (WL.y rfl (Yd.eql32 _ _ rfl rfl rfl rfl) (nt_ (WC.ite rfl (fun h24 => ?_) (fun h24 => ?_))))
 exact sr_ (m_ rfl rfl (a_ rfl rfl (nt_ (WC.ret (DN.block_ret (DN.then_ret (DN.then_ret (DN.block_ret (DN.then_ret (DN.ret1 Tryz.results138 rfl (⟨by rw [atK_yes L o i hlt h24.symm hno], rfl⟩)))))))))))
 refine WC.skip (DN.block_normal (DN.then_normal (WC.region (m_ rfl rfl (WL.y rfl (Yd.add rfl rfl (by omega) (by omega)) ?_)))))
 refine a_ rfl rfl (WL.nil ?_)
 exact DN.againS (i + 1) (show (i + 1) ≤ L.length ∧ ∀ (j : Nat) (hj : j < L.length), j < (i + 1) → ¬ o = L[j].o from ⟨by omega, fun j hj h => by
   rcases Nat.lt_or_ge j i with h5 | h5
   · exact hno j hj h5
   obtain rfl : j = i := by omega
   exact fun e => h24 e.symm⟩) (show L.length - (i + 1) < L.length - i by omega) (Sx.put rfl (sx_)) sp_
 exact WC.exit (DN.then_exit (DN.then_exit (DN.block_exit (ts_ (WC.region (a_ rfl rfl (nt_ (WC.ret (DN.ret1 Tryz.results138 rfl (⟨by rw [atK_no L o fun j hj => hno j hj (by omega)], rfl⟩))))))))))
theorem rgoods_tells (p : Nat) (gs K F : List Gd) (L A : List Ho) (C : List Ck) (h : RsAt 147 73 215 p F L A C) (inv : SInv gs K L) (hR : RInv gs K L F A) : Tells Tryz.prog 36 [.pointer (some ⟨p, 0, none⟩)] C fun r H' => ∃ Cs, Own r (vw K F).length ((vw K F).flatMap cellsG) 73 2 Cs ∧ H' = Cs ++ C := by
 refine Tells.enter Tryz.func36 rfl Tryz.ntmps36 rfl ?_
 intro w0 R
 obtain ⟨vf, vl, va, Cf, Cl, Ca, rfl, hF, hL, hA⟩ := h
 obtain ⟨fo, fc, rfl, _⟩ := hF.form
 obtain ⟨lo, lc, rfl, _⟩ := hL.form
 obtain ⟨wo, wc, rfl, _⟩ := hA.form
 have hlens := hR.lens inv
 have hmany := inv.many
 have hvl := vw_len K F
 refine sr_ (a_ rfl rfl (ntsr_ (a_ rfl rfl (nt_ (WC.seq (sr_ (a_ rfl rfl (nt_ (WC.block (WC.loopS (fun z : Nat × Value × List Ck => z.1 ≤ F.length ∧ Own z.2.1 z.1 (((vw K F).take z.1).flatMap cellsG) 73 2 z.2.2) (fun z : Nat × Value × List Ck => [(4, .int .i64 (z.1 : Int)), (3, z.2.1)]) (fun z : Nat × Value × List Ck => z.2.2 ++ (row p [.slice fo F.length fc, .slice lo L.length lc, .slice wo A.length wc] 147 :: (Cf ++ (Cl ++ Ca)))) (fun z : Nat × Value × List Ck => F.length - z.1) (⟨0, .slice none 0 0, []⟩) (show 0 ≤ F.length ∧ Own (.slice none 0 0) 0 (((vw K F).take 0).flatMap cellsG) 73 2 [] from ⟨Nat.zero_le _, by simpa using Own.nil 73 2⟩) (Sx.put rfl (Sx.put rfl (sx_))) sp_ ?_))))))))))
 rintro ⟨i, w, Co⟩ hI
 replace hI : i ≤ F.length ∧ Own w i (((vw K F).take i).flatMap cellsG) 73 2 Co := hI
 obtain ⟨hi, ho⟩ := hI
 change WC _ _ _ _ _ _ ([(4, .int .i64 (i : Int)), (3, w)] ++ _) (Co ++ (row p [.slice fo F.length fc, .slice lo L.length lc, .slice wo A.length wc] 147 :: (Cf ++ (Cl ++ Ca))))
 obtain ⟨oo, oc, rfl, _⟩ := ho.form
 refine WC.seq (sr_ (m_ rfl rfl (m_ rfl rfl (n_ rfl rfl (f_ 0 kr_ rfl rfl ?_)))))
 refine d_ kr_ rfl mem_ (by rfl) rfl ?_
 refine WL.y rfl (Yd.len (e := 73) kr_ rfl) ?_
 refine WL.y rfl (Yd.lss rfl rfl) (nt_ (WC.ite rfl (fun h12 => ?_) (fun h12 => ?_)))
 have hlt : i < F.length := by omega
 have hs := hR.step inv hlt
 have hmid := inv.mid F[i].name
 have haw := hR.away F[i].name
 refine WC.skip (ts_ (WC.block (sr_ (m_ rfl rfl (n_ rfl rfl (f_ 0 kr_ rfl rfl ?_))))))
 refine d_ kr_ rfl mem_ (by rfl) rfl ?_
 refine m_ rfl rfl (WL.elemA (e := 73) (s := 2) kr_ kr_ kr_ rfl rfl (rfl) (hF.rs.mono gr_) (flat_row cellsG 2 cellsG_len F i hlt) (by rfl) (by omega) (hlt) rfl rfl ?_)
 intro p20
 refine WL.h rfl (Hd.alloc (zs := [.string ⟨#[]⟩, .int .i64 0]) kr_ fun b5 => ⟨_, rfl, ?_⟩)
 refine WL.s (Hd.storeAll (n := 2) kr_ rfl rfl (by rfl) one_ fr_ (by rfl) ⟨rfl, ?_⟩)
 refine nt_ (WC.seq (WC.draw 20 kr_ rfl ?_))
 refine WAG.start (N := 20) rfl (wy_ 0 [] rfl (Yd.fieldAddr (k := 1) kr_ rfl) kr_ ?_)
 refine wq_ (wf_ (i := 1) [0] rfl (QAt.rd Wt.none (Rd.load1 kr_ rfl mem_ (by rfl))) kr_) kr_ ?_
 refine wy_ 2 [] rfl (Yd.move rfl) kr_ ?_
 refine wy_ 3 [2] rfl (Yd.notNil rfl) kr_ ?_
 refine wy_ 4 [3] rfl (Yd.fieldAddr (k := 1) kr_ rfl) kr_ ?_
 refine wq_ (wf_ (i := 5) [4] rfl (QAt.rd Wt.none (Rd.load1 kr_ rfl mem_ (by rfl))) kr_) kr_ ?_
 refine wy_ 6 [] rfl (Yd.fieldAddr (k := 0) kr_ rfl) kr_ ?_
 refine wq_ (wf_ (i := 7) [6] rfl (QAt.rd Wt.none (Rd.load1 kr_ rfl mem_ (by rfl))) kr_) kr_ ?_
 refine wq_ (wf_ (i := 8) [7, 5] rfl (QAt.rf Wt.none (Ent.func Tryz.call74 rfl) (rsum_reads _ L F[i].name Cl hL.rs (by omega) (fun x hx => (inv.holds x hx).1) (by omega)) sp_) kr_) kr_ ?_
 refine wy_ 9 [8, 1] rfl (Yd.sub rfl rfl (by omega) (by omega)) kr_ ?_
 refine wy_ 10 [] rfl (Yd.move rfl) kr_ ?_
 refine wy_ 11 [10] rfl (Yd.notNil rfl) kr_ ?_
 refine wy_ 12 [11] rfl (Yd.fieldAddr (k := 2) kr_ rfl) kr_ ?_
 refine wq_ (wf_ (i := 13) [12] rfl (QAt.rd Wt.none (Rd.load1 kr_ rfl mem_ (by rfl))) kr_) kr_ ?_
 refine wy_ 14 [] rfl (Yd.fieldAddr (k := 0) kr_ rfl) kr_ ?_
 refine wq_ (wf_ (i := 15) [14] rfl (QAt.rd Wt.none (Rd.load1 kr_ rfl mem_ (by rfl))) kr_) kr_ ?_
 refine wq_ (wf_ (i := 16) [15, 13, 8] rfl (QAt.rf Wt.none (Ent.func Tryz.call74 rfl) (rsum_reads _ A F[i].name Ca hA.rs (by omega) (fun x hx => (hR.ok x hx).1) (by omega)) sp_) kr_) kr_ ?_
 refine wy_ 17 [16, 9] rfl (Yd.sub rfl rfl (by omega) (by omega)) kr_ ?_
 refine wy_ 18 [17, 16, 15, 14, 13, 12, 11, 10, 9, 8, 7, 6, 5, 4, 3, 2, 1, 0] rfl (Yd.fieldAddr (k := 1) kr_ rfl) kr_ ?_
 refine ws_ [(19, [18, 17, 16, 15, 14, 13, 12, 11, 10, 9, 8, 7, 6, 5, 4, 3, 2, 1, 0])] kr_ (all_c ?_ (all_n))
 refine so_ (j := 19) [_, _, _, _, _, _, _, _, _, _, _, _, _, _, _, _, _, _, _] rfl ?_
 refine SO.s rfl Wt.none (Hd.store1s kr_ rfl rfl (by rfl) fr_ (by rfl) (by first | (simp only [List.set_cons_zero, List.set_cons_succ, Nat.zero_add, Nat.add_zero, Nat.reduceAdd]; rfl) | rfl) ⟨rfl, ?_⟩)
 refine wk_ [] (([_, _, _, _, _, _, _, _, _, _, _, _, _, _, _, _, _, _, _] ++ _)) rfl rfl all_n (wd_ [] rfl kr_ ?_)
 refine DN.then_normal (WC.region (m_ rfl rfl (WL.h rfl (Hd.loadAll (n := 2) kr_ rfl mem_ (by rfl) ⟨_, rfl, ?_⟩))))
 refine WL.h rfl (Hd.buildA (e := 73) (sz := 2) (zs := [.string ⟨#[]⟩, .int .i64 0]) kr_ kr_ kr_ rfl rfl (by rfl) kr_ fun b43 => ⟨_, rfl, ?_⟩)
 refine WL.h rfl (Hd.appendRow (e := 73) (sz := 2) (bytes := 24) (zs := [.string ⟨#[]⟩, .int .i64 0]) kr_ kr_ rfl (by omega) rfl rfl (ho) sp_ mem_ (by rfl) one_ (by simp only [maxLen]; omega) (by omega) fun v2 C2 h2 => ⟨_, rfl, ?_⟩)
 refine a_ rfl rfl (WL.nil (DN.block_normal (DN.then_normal (WC.region (m_ rfl rfl (WL.y rfl (Yd.add rfl rfl (by omega) (by omega)) ?_))))))
 refine a_ rfl rfl (WL.nil ?_)
 exact DN.againS (⟨i + 1, v2, C2⟩) (show (i + 1) ≤ F.length ∧ Own v2 (i + 1) (((vw K F).take (i + 1)).flatMap cellsG) 73 2 C2 from ⟨by omega, by rw [List.take_succ_eq_append_getElem (by omega), List.flatMap_append, vw_at K F i hlt]; simpa [cellsG, ← hs.1] using h2⟩) (show F.length - (i + 1) < F.length - i by omega) (Sx.put rfl (Sx.put rfl (sx_))) sp_
 obtain rfl : i = F.length := by omega
 rw [← hvl, List.take_length] at ho
 refine WC.exit (DN.then_exit (DN.then_exit (DN.block_exit (ts_ (WC.region (m_ rfl rfl (a_ rfl rfl (nt_ (WC.ret (DN.fit (C := Co ++ (row p [.slice fo F.length fc, .slice lo L.length lc, .slice wo A.length wc] 147 :: (Cf ++ (Cl ++ Ca)))) sp_ ?_))))))))))
 exact DN.ret1 Tryz.results36 rfl (⟨Co, by rwa [hvl] at ho ⊢, rfl⟩)
end Go.Proofs.YtkamlondepceiaaGreat.St

set_option linter.unusedVariables false
set_option linter.unusedSimpArgs false
set_option maxHeartbeats 4000000
namespace Go.Proofs.YtkamlondepceiaaGreat.St
open Go.SL
theorem rhold_tells (p : Nat) (gs K F : List Gd) (L A : List Ho) (C : List Ck) (h : RsAt 147 73 215 p F L A C) (inv : SInv gs K L) (hR : RInv gs K L F A) (o : BitVec 32) (nm : ByteArray) (n : Int) : Tells Tryz.prog 112 [.pointer (some ⟨p, 0, none⟩), .int .u32 o.toNat, .string nm, .int .i64 n] C fun r H' => r = .int .i64 (vd (holdB K L o nm n)) ∧ RsAt 147 73 215 p F (holdLs K L o nm n) A H' := by
 refine Tells.enter Tryz.func112 rfl Tryz.ntmps112 rfl ?_
 intro w0 R
 have hat := atK_spec (key := Ho.o) L o
 have h0 := h
 obtain ⟨vf, vl, va, Cf, Cl, Ca, rfl, hF, hL, hA⟩ := h
 obtain ⟨fo, fc, rfl, _⟩ := hF.form
 obtain ⟨lo, lc, rfl, _⟩ := hL.form
 obtain ⟨wo, wc, rfl, _⟩ := hA.form
 have hlens := hR.lens inv
 have hmany := inv.many
 have hvl := vw_len K F
 obtain ⟨G, hG⟩ : ∃ G, G = vw K F := ⟨_, rfl⟩
 rw [← hG] at hvl
 refine sr_ (a_ rfl rfl (ntsr_ (m_ rfl rfl (m_ rfl rfl (WL.rf rfl (Ent.func Tryz.call138 rfl) (rat_reads p F L A _ h0 (by omega) o) sp_ ?_)))))
 refine a_ rfl rfl (nt_ (WC.seq (sr_ (m_ rfl rfl (WL.y rfl (Yd.eql32 _ (0#32) rfl rfl rfl rfl) (m_ rfl rfl (WL.partP (t := 17) rfl (fun hg17 => ?_) (fun hg17 => ?_))))))))
 refine gn_ 17 rfl rfl rfl rfl (gn_ 17 rfl rfl rfl rfl (WL.y rfl (Yd.pickT rfl rfl) (m_ rfl rfl (gn_ 21 rfl rfl rfl rfl (gn_ 21 rfl rfl rfl rfl (WL.y rfl (Yd.pickT rfl rfl) (nt_ (WC.yes rfl (sr_ (a_ rfl rfl (nt_ (WC.ret (DN.then_ret ?_)))))))))))))
 first | refine DN.fit (C := row p [.slice fo F.length fc, .slice zo (L.length + 1) zc, .slice wo A.length wc] 147 :: (Cf ++ (C2 ++ Ca))) sp_ ?_ | refine DN.fit (C := row p [.slice fo F.length fc, .slice lo L.length lc, .slice wo A.length wc] 147 :: (Cf ++ (Cl ++ Ca))) sp_ ?_
 refine DN.ret1 Tryz.results112 rfl ?_
 rotate_left
 refine gy_ 17 rfl rfl rfl (Yd.move rfl) (gy_ 17 rfl rfl rfl (Yd.lss rfl rfl) (WL.y rfl (Yd.pickF rfl rfl) (m_ rfl rfl (WL.partP (t := 21) rfl (fun hg21 => ?_) (fun hg21 => ?_)))))
 refine gn_ 21 rfl rfl rfl rfl (gn_ 21 rfl rfl rfl rfl (WL.y rfl (Yd.pickT rfl rfl) (nt_ (WC.yes rfl (sr_ (a_ rfl rfl (nt_ (WC.ret (DN.then_ret ?_)))))))))
 first | refine DN.fit (C := row p [.slice fo F.length fc, .slice zo (L.length + 1) zc, .slice wo A.length wc] 147 :: (Cf ++ (C2 ++ Ca))) sp_ ?_ | refine DN.fit (C := row p [.slice fo F.length fc, .slice lo L.length lc, .slice wo A.length wc] 147 :: (Cf ++ (Cl ++ Ca))) sp_ ?_
 refine DN.ret1 Tryz.results112 rfl ?_
 rotate_left
 refine gy_ 21 rfl rfl rfl (Yd.move rfl) (gy_ 21 rfl rfl rfl (Yd.geq rfl rfl) (WL.y rfl (Yd.pickF rfl rfl) (nt_ (WC.ite rfl (fun h24 => ?_) (fun h24 => ?_)))))
 refine sr_ (a_ rfl rfl (nt_ (WC.ret (DN.then_ret ?_))))
 first | refine DN.fit (C := row p [.slice fo F.length fc, .slice zo (L.length + 1) zc, .slice wo A.length wc] 147 :: (Cf ++ (C2 ++ Ca))) sp_ ?_ | refine DN.fit (C := row p [.slice fo F.length fc, .slice lo L.length lc, .slice wo A.length wc] 147 :: (Cf ++ (Cl ++ Ca))) sp_ ?_
 refine DN.ret1 Tryz.results112 rfl ?_
 rotate_left
 have hnone : findK Ho.o L o = none := by
   rcases hat with h | ⟨i, hi, h, _⟩
   · exact h.2
   omega
 refine WC.skip (ts_ (WC.region (m_ rfl rfl (WL.c rfl (Ent.func Tryz.call36 rfl) (rgoods_tells p gs K F L A _ h0 inv hR) (Sp.p sp_) ?_))))
 rintro qq C9 ⟨Cs, ho, rfl⟩
 rw [← hG] at ho
 obtain ⟨go, gc, rfl, _⟩ := ho.form
 refine a_ rfl rfl (nt_ (WC.seq (sr_ (a_ rfl rfl (nt_ (WC.block (WC.loopS (fun z : Nat => z ≤ G.length ∧ ∀ (j : Nat) (hj : j < G.length), j < z → ¬ (G[j].name = nm ∧ n ≤ G[j].free)) (fun z : Nat => [(11, .int .i64 (z : Int))]) (fun z : Nat => Cs ++ (row p [.slice fo F.length fc, .slice lo L.length lc, .slice wo A.length wc] 147 :: (Cf ++ (Cl ++ Ca)))) (fun z : Nat => G.length - z) (0) (show 0 ≤ G.length ∧ ∀ (j : Nat) (hj : j < G.length), j < 0 → ¬ (G[j].name = nm ∧ n ≤ G[j].free) from ⟨Nat.zero_le _, fun j hj h => by omega⟩) (Sx.put rfl (sx_)) sp_ ?_)))))))
 rintro i hI
 replace hI : i ≤ G.length ∧ ∀ (j : Nat) (hj : j < G.length), j < i → ¬ (G[j].name = nm ∧ n ≤ G[j].free) := hI
 obtain ⟨hi, hno⟩ := hI
 change WC _ _ _ _ _ _ ([(11, .int .i64 (i : Int))] ++ _) (Cs ++ (row p [.slice fo F.length fc, .slice lo L.length lc, .slice wo A.length wc] 147 :: (Cf ++ (Cl ++ Ca))))
 refine WC.seq (sr_ (m_ rfl rfl (m_ rfl rfl (WL.y rfl (Yd.len (e := 73) kr_ rfl) ?_))))
 refine WL.y rfl (Yd.lss rfl rfl) (nt_ (WC.ite rfl (fun h30 => ?_) (fun h30 => ?_)))
 have hlt : i < G.length := by omega
 obtain ⟨ub, uf, us, uT, ufr, uex, rfl, _, hum, hus⟩ := ho.rs.lies (by omega)
 refine WC.skip (ts_ (WC.block (sr_ (m_ rfl rfl (m_ rfl rfl (WL.y rfl (Yd.indexAddr (e := 73) (s := 2) kr_ kr_ rfl rfl (by omega) (by omega)) ?_))))))
 refine f_ 0 kr_ rfl rfl ?_
 refine WL.h rfl (Hd.load1 (v := .string G[i].name) (b := ub) (o := uf + (i : Int).toNat * 2 + 0) (cs := us) kr_ rfl (Gr.get gr_ hum) (cell_at2 (L := G) cellsG_len hus (by omega) (by omega)) ⟨_, rfl, ?_⟩)
 refine m_ rfl rfl (WL.y rfl (Yd.eqlS rfl rfl) (m_ rfl rfl (WL.partP (t := 40) rfl (fun hg40 => ?_) (fun hg40 => ?_))))
 refine gy_ 40 rfl rfl rfl (Yd.move rfl) (gy_ 40 rfl rfl rfl (Yd.move rfl) (gy_ 40 rfl rfl rfl (Yd.indexAddr (e := 73) (s := 2) kr_ kr_ rfl rfl (by omega) (by omega)) ?_))
 refine gy_ 40 rfl rfl rfl (Yd.fieldAddr (k := 1) kr_ rfl) ?_
 refine WL.gh (dj := 40) rfl rfl rfl (Hd.load1 (v := .int .i64 G[i].free) (b := ub) (o := uf + (i : Int).toNat * 2 + 1) (cs := us) kr_ rfl (Gr.get gr_ hum) (cell_at2 (L := G) cellsG_len hus (by omega) (by omega)) ⟨_, rfl, ?_⟩)
 refine gy_ 40 rfl rfl rfl (Yd.move rfl) (gy_ 40 rfl rfl rfl (Yd.geq rfl rfl) (WL.y rfl (Yd.pickT rfl rfl) (nt_ (WC.ite rfl (fun h48 => ?_) (fun h48 => ?_)))))
 have hb : holdB K L o nm n = true := by subst hG; exact hold_found hR inv hg17 hg21 hnone hlt hg40 (by omega)
 have hK : holdLs K L o nm n = L ++ [⟨o, nm, n⟩] := by unfold holdLs; rw [hb]; rfl
 refine sr_ (m_ rfl rfl (m_ rfl rfl (n_ rfl rfl (f_ 1 kr_ rfl rfl ?_))))
 refine d_ kr_ rfl mem_ (by rfl) rfl ?_
 iterate 3 refine m_ rfl rfl ?_
 refine WL.y rfl (Yd.buildL (pl := [(0, 1), (1, 1), (2, 1)]) (zs := [.int .u32 0, .string ⟨#[]⟩, .int .i64 0]) (parts := [(0, .tmp 54), (1, .tmp 55), (2, .tmp 56)]) (vs := [(0, _), (1, _), (2, _)]) (cells := [_, _, _]) kr_ kr_ rfl rfl) ?_
 refine WL.h rfl (Hd.buildA (e := 215) (sz := 3) (zs := [.int .u32 0, .string ⟨#[]⟩, .int .i64 0]) kr_ kr_ kr_ rfl rfl (by rfl) kr_ fun b58 => ⟨_, rfl, ?_⟩)
 refine WL.h rfl (Hd.appendRow (e := 215) (sz := 3) (bytes := 32) (zs := [.int .u32 0, .string ⟨#[]⟩, .int .i64 0]) kr_ kr_ rfl (by omega) rfl rfl (hL) sp_ mem_ (by rfl) one_ (by simp only [maxLen]; omega) (by omega) fun v2 C2 h2 => ⟨_, rfl, ?_⟩)
 obtain ⟨zo, zc, rfl, _⟩ := h2.form
 refine n_ rfl rfl (f_ 1 kr_ rfl rfl ?_)
 refine WL.s (Hd.store1s kr_ rfl rfl (by rfl) fr_ (by rfl) (by first | (simp only [List.set_cons_zero, List.set_cons_succ, Nat.zero_add, Nat.add_zero, Nat.reduceAdd]; rfl) | rfl) ⟨rfl, ?_⟩)
 refine ntsr_ (a_ rfl rfl (nt_ (WC.ret (DN.block_ret (DN.then_ret (DN.then_ret (DN.block_ret (DN.then_ret ?_))))))))
 first | refine DN.fit (C := row p [.slice fo F.length fc, .slice zo (L.length + 1) zc, .slice wo A.length wc] 147 :: (Cf ++ (C2 ++ Ca))) sp_ ?_ | refine DN.fit (C := row p [.slice fo F.length fc, .slice lo L.length lc, .slice wo A.length wc] 147 :: (Cf ++ (Cl ++ Ca))) sp_ ?_
 refine DN.ret1 Tryz.results112 rfl ?_
 rotate_left
 refine WC.skip (DN.block_normal (DN.then_normal (WC.region (m_ rfl rfl (WL.y rfl (Yd.add rfl rfl (by omega) (by omega)) ?_)))))
 refine a_ rfl rfl (WL.nil ?_)
 exact DN.againS (i + 1) (show (i + 1) ≤ G.length ∧ ∀ (j : Nat) (hj : j < G.length), j < (i + 1) → ¬ (G[j].name = nm ∧ n ≤ G[j].free) from ⟨by omega, fun j hj h => by
   rcases Nat.lt_or_ge j i with h5 | h5
   · exact hno j hj h5
   obtain rfl : j = i := by omega
   first | exact fun e => hg40 e.1 | exact fun e => h48 (by have := e.2; omega)⟩) (show G.length - (i + 1) < G.length - i by omega) (Sx.put rfl (sx_)) sp_
 iterate 7 refine gn_ 40 rfl rfl rfl rfl ?_
 refine WL.y rfl (Yd.pickF rfl rfl) (nt_ (WC.no rfl (WC.skip (DN.block_normal (DN.then_normal (WC.region (m_ rfl rfl (WL.y rfl (Yd.add rfl rfl (by omega) (by omega)) ?_))))))))
 refine a_ rfl rfl (WL.nil ?_)
 exact DN.againS (i + 1) (show (i + 1) ≤ G.length ∧ ∀ (j : Nat) (hj : j < G.length), j < (i + 1) → ¬ (G[j].name = nm ∧ n ≤ G[j].free) from ⟨by omega, fun j hj h => by
   rcases Nat.lt_or_ge j i with h5 | h5
   · exact hno j hj h5
   obtain rfl : j = i := by omega
   first | exact fun e => hg40 e.1 | exact fun e => h48 (by have := e.2; omega)⟩) (show G.length - (i + 1) < G.length - i by omega) (Sx.put rfl (sx_)) sp_
 refine WC.exit (DN.then_exit (DN.then_exit (DN.block_exit (ts_ (WC.region (a_ rfl rfl (nt_ (WC.ret ?_))))))))
 first | refine DN.fit (C := row p [.slice fo F.length fc, .slice zo (L.length + 1) zc, .slice wo A.length wc] 147 :: (Cf ++ (C2 ++ Ca))) sp_ ?_ | refine DN.fit (C := row p [.slice fo F.length fc, .slice lo L.length lc, .slice wo A.length wc] 147 :: (Cf ++ (Cl ++ Ca))) sp_ ?_
 refine DN.ret1 Tryz.results112 rfl ?_
 rotate_left
 all_goals
  first
    | (rw [hb, hK]
       exact ⟨rfl, _, _, _, Cf, C2, Ca, rfl, hF, by rw [List.flatMap_append, List.length_append]; exact h2, hA⟩)
    | (have hb : holdB K L o nm n = false := by
         first
         | (subst hG; exact hold_lost hR inv hg21 fun j hj => hno j hj (by omega))
         | (rw [Bool.eq_false_iff]
            intro e
            have hp := holdB_parts e
            first
            | exact hp.1 hg17
            | exact absurd hp.2.1 (by omega)
            | (rcases hat with h | ⟨i, hi, h1, _, h2⟩
               · exact absurd h.1 (by omega)
               rw [hp.2.2.1] at h2; cases h2))
       rw [hb, (hold_no hb).2]
       exact ⟨rfl, h0⟩)
theorem rleave_tells (p : Nat) (gs K F : List Gd) (L A : List Ho) (C : List Ck) (h : RsAt 147 73 215 p F L A C) (inv : SInv gs K L) (hR : RInv gs K L F A) (o : BitVec 32) (away : Bool) : Tells Tryz.prog 109 [.pointer (some ⟨p, 0, none⟩), .int .u32 o.toNat, .bool away] C fun r H' => r = .int .i64 (vd (findK Ho.o L o).isSome) ∧ RsAt 147 73 215 p F (delK Ho.o L o) (awayL L A o away) H' := by
 refine Tells.enter Tryz.func109 rfl Tryz.ntmps109 rfl ?_
 intro w0 R
 have hat := atK_spec (key := Ho.o) L o
 have h0 := h
 obtain ⟨vf, vl, va, Cf, Cl, Ca, rfl, hF, hL, hA⟩ := h
 obtain ⟨fo, fc, rfl, _⟩ := hF.form
 obtain ⟨lo, lc, rfl, _⟩ := hL.form
 obtain ⟨wo, wc, rfl, _⟩ := hA.form
 have hlens := hR.lens inv
 have hmany := inv.many
 refine sr_ (a_ rfl rfl (ntsr_ (m_ rfl rfl (m_ rfl rfl (WL.rf rfl (Ent.func Tryz.call138 rfl) (rat_reads p F L A _ h0 (by omega) o) sp_ ?_)))))
 refine a_ rfl rfl (nt_ (WC.seq (sr_ (m_ rfl rfl (WL.y rfl (Yd.lss rfl rfl) (nt_ (WC.ite rfl (fun h14 => ?_) (fun h14 => ?_))))))))
 have hnone : findK Ho.o L o = none := by
   rcases hat with h | ⟨i, hi, h, _⟩
   · exact h.2
   omega
 refine sr_ (a_ rfl rfl (nt_ (WC.ret (DN.then_ret ?_))))
 first | refine DN.fit (C := row p [.slice fo F.length fc, .slice oo ((L.take L.length).eraseIdx q).length oc, .slice wo (awayL L A o away).length wc] 147 :: (Cf ++ (Co ++ Ca))) sp_ ?_ | skip
 refine DN.ret1 Tryz.results109 rfl ?_
 rotate_left
 obtain ⟨q, hq, haq, hoq, hfq⟩ : ∃ (i : Nat) (hi : i < L.length), atK Ho.o L o = i ∧ o = L[i].o ∧ findK Ho.o L o = some L[i] := by
   rcases hat with h | h
   · exact absurd h.1 (by omega)
   exact h
 rw [haq]
 have haw : awayL L A o away = if away then A ++ [L[q]] else A := by unfold awayL; rw [hfq]
 refine WC.skip (DN.then_normal (WC.cutK (fun z : List Ck => RsAt 147 73 215 p F L (awayL L A o away) z) (fun z : List Ck => []) (fun z : List Ck => z) ?_ ?_))
 refine sr_ (m_ rfl rfl (nt_ (WC.cond rfl (fun h15 => ?_) (fun h15 => ?_))))
 rw [if_pos h15] at haw
 obtain ⟨ub, uf, us, uT, ufr, uex, elo, _, hum, hus⟩ := hL.rs.lies (by omega)
 refine WC.draw 17 kr_ rfl ?_
 refine WAG.start (N := 17) rfl (wy_ 0 [] rfl (Yd.move rfl) kr_ ?_)
 refine wy_ 1 [] rfl (Yd.move rfl) kr_ ?_
 refine wy_ 2 [1] rfl (Yd.notNil rfl) kr_ ?_
 refine wy_ 3 [2] rfl (Yd.fieldAddr (k := 2) kr_ rfl) kr_ ?_
 refine wq_ (wf_ (i := 4) [3] rfl (QAt.rd Wt.none (Rd.load1 kr_ rfl mem_ (by rfl))) kr_) kr_ ?_
 refine wy_ 5 [] rfl (Yd.move rfl) kr_ ?_
 refine wy_ 6 [5] rfl (Yd.notNil rfl) kr_ ?_
 refine wy_ 7 [6] rfl (Yd.fieldAddr (k := 1) kr_ rfl) kr_ ?_
 refine wq_ (wf_ (i := 8) [7] rfl (QAt.rd Wt.none (Rd.load1 kr_ rfl mem_ (by rfl))) kr_) kr_ ?_
 refine wy_ 9 [] rfl (Yd.move rfl) kr_ ?_
 refine wy_ 10 [9, 8] rfl (Yd.indexAddr (e := 215) (s := 3) (b := ub) (o := uf) (n := L.length) (c := lc) kr_ kr_ (congrArg (fun q => some (Value.slice q L.length lc)) elo) rfl (by omega) (by omega)) kr_ ?_
 refine wq_ (wf_ (i := 11) [10] rfl (QAt.rd Wt.none (Rd.loadA (n := 3) (b := ub) (o := uf + (q : Int).toNat * 3) (cs := us) (vs := cellsH L[q]) kr_ rfl (Gr.get gr_ hum) (cellsH_len _) (rs_cell hus (by rw [flat_len cellsH 3 cellsH_len]; omega) (flat_row cellsH 3 cellsH_len L q hq)))) kr_) kr_ ?_
 refine ws_ [(12, [11])] kr_ (all_c ?_ (all_n))
 refine so_ (j := 12) [_] rfl (SO.h rfl Wt.none rfl (Hd.buildA (e := 215) (sz := 3) (zs := [.int .u32 0, .string ⟨#[]⟩, .int .i64 0]) kr_ kr_ kr_ rfl rfl (by rfl) kr_ fun b28 => ⟨_, rfl, ?_⟩))
 refine wk_ [_, _, _, _, _, _, _, _, _, _, _] (_ :: ([_] ++ _)) rfl rfl (all_c (wf_ [7] rfl (QAt.rd Wt.none (Rd.load1 kr_ rfl mem_ (by rfl))) kr_) (all_c (wf_ [3] rfl (QAt.rd Wt.none (Rd.load1 kr_ rfl mem_ (by rfl))) kr_) all_n)) ?_
 refine ws_ [(13, [4])] kr_ (all_c ?_ (all_n))
 refine so_ (j := 13) [_] rfl ?_
 refine SO.h rfl Wt.none rfl (Hd.appendRow (e := 215) (sz := 3) (bytes := 32) (zs := [.int .u32 0, .string ⟨#[]⟩, .int .i64 0]) kr_ kr_ rfl (by omega) rfl rfl (hA) sp_ mem_ (by rfl) one_ (by simp only [maxLen]; omega) (by omega) fun v29 C29 h29 => ⟨_, rfl, ?_⟩)
 obtain ⟨zo, zc, rfl, _⟩ := h29.form
 refine wk_ [_, _, _, _, _, _, _, _, _, _] (_ :: ([_] ++ _)) rfl rfl (all_c (wf_ [7] rfl (QAt.rd Wt.none (Rd.load1 kr_ rfl mem_ (by rfl))) kr_) all_n) ?_
 refine wy_ 14 [10, 9, 8, 7, 6, 5, 3, 2, 1, 0] rfl (Yd.notNil rfl) kr_ ?_
 refine wy_ 15 [14, 10, 9, 8, 7, 6, 5, 3, 2, 1, 0] rfl (Yd.fieldAddr (k := 2) kr_ rfl) kr_ ?_
 refine ws_ [(16, [15, 10, 9, 8, 7, 6, 5, 3, 2, 1, 0])] kr_ (all_c ?_ (all_n))
 refine so_ (j := 16) [_, _, _, _, _, _, _, _, _, _, _] rfl ?_
 refine SO.s rfl Wt.none (Hd.store1s kr_ rfl rfl (by rfl) fr_ (by rfl) (by first | (simp only [List.set_cons_zero, List.set_cons_succ, Nat.zero_add, Nat.add_zero, Nat.reduceAdd]; rfl) | rfl) ⟨rfl, ?_⟩)
 refine wk_ [_] (([_, _, _, _, _, _, _, _, _, _, _] ++ _)) rfl rfl all_n (wd_ [_] rfl kr_ ?_)
 refine DN.fit (C := row p [.slice fo F.length fc, .slice lo L.length lc, .slice zo (A.length + 1) zc] 147 :: (Cf ++ (Cl ++ C29))) sp_ ?_
 exact DN.reachK (row p [.slice fo F.length fc, .slice lo L.length lc, .slice zo (A.length + 1) zc] 147 :: (Cf ++ (Cl ++ C29))) (⟨_, _, _, Cf, Cl, C29, rfl, hF, hL, by rw [haw, List.flatMap_append, List.length_append]; exact h29⟩) (sx_) (Sp.all sp_)
 rw [if_neg (by rw [h15]; simp)] at haw
 refine WC.skip ?_
 exact DN.reachK (row p [.slice fo F.length fc, .slice lo L.length lc, .slice wo A.length wc] 147 :: (Cf ++ (Cl ++ Ca))) (⟨_, _, _, Cf, Cl, Ca, rfl, hF, hL, by rw [haw]; exact hA⟩) (sx_) (Sp.all sp_)
 intro z hz
 clear hF hL hA h0
 obtain ⟨vf, vl, va, Cf, Cl, Ca, rfl, hF, hL, hA⟩ := hz
 obtain ⟨fo, fc, rfl, _⟩ := hF.form
 obtain ⟨lo, lc, rfl, _⟩ := hL.form
 obtain ⟨wo, wc, rfl, _⟩ := hA.form
 refine sr_ (a_ rfl rfl (nt_ (WC.seq (sr_ (a_ rfl rfl (nt_ (WC.block (WC.loopS (fun z : Nat × Value × List Ck => z.1 ≤ L.length ∧ Own z.2.1 ((L.take z.1).eraseIdx q).length (((L.take z.1).eraseIdx q).flatMap cellsH) 215 3 z.2.2) (fun z : Nat × Value × List Ck => [(9, .int .i64 (z.1 : Int)), (8, z.2.1)]) (fun z : Nat × Value × List Ck => z.2.2 ++ (row p [.slice fo F.length fc, .slice lo L.length lc, .slice wo (awayL L A o away).length wc] 147 :: (Cf ++ (Cl ++ Ca)))) (fun z : Nat × Value × List Ck => L.length - z.1) (⟨0, .slice none 0 0, []⟩) (show 0 ≤ L.length ∧ Own (.slice none 0 0) ((L.take 0).eraseIdx q).length (((L.take 0).eraseIdx q).flatMap cellsH) 215 3 [] from ⟨Nat.zero_le _, by simpa using Own.nil 215 3⟩) (Sx.put rfl (Sx.put rfl (sx_))) sp_ ?_))))))))
 rintro ⟨i, v, Co⟩ hI
 replace hI : i ≤ L.length ∧ Own v ((L.take i).eraseIdx q).length (((L.take i).eraseIdx q).flatMap cellsH) 215 3 Co := hI
 obtain ⟨hi, ho⟩ := hI
 change WC _ _ _ _ _ _ ([(9, .int .i64 (i : Int)), (8, v)] ++ _) (Co ++ (row p [.slice fo F.length fc, .slice lo L.length lc, .slice wo (awayL L A o away).length wc] 147 :: (Cf ++ (Cl ++ Ca))))
 obtain ⟨oo, oc, rfl, hoc⟩ := ho.form
 refine WC.seq (sr_ (m_ rfl rfl (m_ rfl rfl (n_ rfl rfl (f_ 1 kr_ rfl rfl ?_)))))
 refine d_ kr_ rfl mem_ (by rfl) rfl ?_
 refine WL.y rfl (Yd.len (e := 215) kr_ rfl) ?_
 refine WL.y rfl (Yd.lss rfl rfl) (nt_ (WC.ite rfl (fun h38 => ?_) (fun h38 => ?_)))
 have hlt : i < L.length := by omega
 obtain ⟨ub, uf, us, uT, ufr, uex, rfl, _, hum, hus⟩ := hL.rs.lies (by omega)
 have hel : ((L.take i).eraseIdx q).length ≤ L.length := by rw [List.length_eraseIdx, List.length_take]; split <;> omega
 refine WC.skip (ts_ (WC.block (sr_ (m_ rfl rfl (m_ rfl rfl (WL.y rfl (Yd.neq rfl rfl) (nt_ (WC.ite rfl (fun h43 => ?_) (fun h43 => ?_)))))))))
 refine WC.region (m_ rfl rfl (m_ rfl rfl (n_ rfl rfl (f_ 1 kr_ rfl rfl ?_))))
 refine d_ kr_ rfl mem_ (by rfl) rfl ?_
 refine m_ rfl rfl (WL.y rfl (Yd.indexAddr (e := 215) (s := 3) kr_ kr_ rfl rfl (by omega) (by omega)) ?_)
 refine WL.h rfl (Hd.loadA (n := 3) (b := ub) (o := uf + (i : Int).toNat * 3) (cs := us) (vs := cellsH L[i]) kr_ rfl (Gr.get gr_ hum) (cellsH_len _) (rs_cell hus (by rw [flat_len cellsH 3 cellsH_len]; omega) (flat_row cellsH 3 cellsH_len L i hlt)) ⟨_, rfl, ?_⟩)
 refine WL.h rfl (Hd.buildA (e := 215) (sz := 3) (zs := [.int .u32 0, .string ⟨#[]⟩, .int .i64 0]) kr_ kr_ kr_ rfl rfl (by rfl) kr_ fun b52 => ⟨_, rfl, ?_⟩)
 refine WL.h rfl (Hd.appendRow (e := 215) (sz := 3) (bytes := 32) (zs := [.int .u32 0, .string ⟨#[]⟩, .int .i64 0]) kr_ kr_ rfl (by omega) rfl rfl (ho) sp_ mem_ (by rfl) one_ (by simp only [maxLen]; omega) (by omega) fun v2 C2 h2 => ⟨_, rfl, ?_⟩)
 refine a_ rfl rfl (WL.nil (DN.block_normal (DN.then_normal (WC.region (m_ rfl rfl (WL.y rfl (Yd.add rfl rfl (by omega) (by omega)) ?_))))))
 refine a_ rfl rfl (WL.nil ?_)
 exact DN.againS (⟨i + 1, v2, C2⟩) (show (i + 1) ≤ L.length ∧ Own v2 ((L.take (i + 1)).eraseIdx q).length (((L.take (i + 1)).eraseIdx q).flatMap cellsH) 215 3 C2 from ⟨by omega, by rw [erase_skip L i q hlt (by omega), List.flatMap_append, List.length_append]; simpa using h2⟩) (show L.length - (i + 1) < L.length - i by omega) (Sx.put rfl (Sx.put rfl (sx_))) sp_
 refine WC.skip (DN.block_normal (DN.then_normal (WC.region (m_ rfl rfl (WL.y rfl (Yd.add rfl rfl (by omega) (by omega)) ?_)))))
 refine a_ rfl rfl (WL.nil ?_)
 exact DN.againS (⟨i + 1, .slice oo ((L.take i).eraseIdx q).length oc, Co⟩) (show (i + 1) ≤ L.length ∧ Own (.slice oo ((L.take i).eraseIdx q).length oc) ((L.take (i + 1)).eraseIdx q).length (((L.take (i + 1)).eraseIdx q).flatMap cellsH) 215 3 Co from ⟨by omega, by obtain rfl : i = q := (by omega); rw [erase_here L i hlt]; exact ho⟩) (show L.length - (i + 1) < L.length - i by omega) (Sx.put rfl (Sx.put rfl (sx_))) sp_
 obtain rfl : i = L.length := by omega
 refine WC.exit (DN.then_exit (DN.then_exit (DN.block_exit (ts_ (WC.region (m_ rfl rfl (m_ rfl rfl (n_ rfl rfl (f_ 1 kr_ rfl rfl ?_)))))))))
 refine WL.s (Hd.store1s kr_ rfl rfl (by rfl) fr_ (by rfl) (by first | (simp only [List.set_cons_zero, List.set_cons_succ, Nat.zero_add, Nat.add_zero, Nat.reduceAdd]; rfl) | rfl) ⟨rfl, ?_⟩)
 refine ntsr_ (a_ rfl rfl (nt_ (WC.ret ?_)))
 first | refine DN.fit (C := row p [.slice fo F.length fc, .slice oo ((L.take L.length).eraseIdx q).length oc, .slice wo (awayL L A o away).length wc] 147 :: (Cf ++ (Co ++ Ca))) sp_ ?_ | skip
 refine DN.ret1 Tryz.results109 rfl ?_
 rotate_left
 all_goals
  first
    | (rw [hnone, (leave_none (K := K) hnone away).2]
       refine ⟨rfl, ?_⟩
       unfold awayL
       rw [hnone]
       exact h0)
    | (rw [List.take_length] at ho ⊢
       rw [hfq]
       refine ⟨rfl, _, _, _, Cf, Co, Ca, rfl, hF, ?_, hA⟩
       have e : delK Ho.o L o = L.eraseIdx q := by rw [eraseK inv.keys hq, ← hoq]
       rw [e]
       exact ho)
end Go.Proofs.YtkamlondepceiaaGreat.St
