/-
  Lemmas and walks that CrewStale stands on (part 4); no condition.
-/
import Derived.Orders
import Derived.Tactics
import Derived.Scope
import Derived.Below
import Derived.WalkKit
import Derived.KernelRfl
import Derived.Laws.RangeString
import Derived.Laws.StructEq
import Derived.Lib.AppendZerosOnto
import Derived.Laws.CopyRow
import Derived.Lib.Overlaps
import Derived.Laws.IdiomStrings
import Derived.Deep.Quiet
import Derived.Lib.Bytealg
import Derived.Shelf.SlSortCmp.NoneTotal
import Derived.Test.YtkamlondepceiaaGreatRows
import Derived.Ground.SlsfProg
import Derived.Shelf.Small.Strs
import Derived.Test.YtkamlondepceiaaGreatCrewStaleB3

set_option linter.unusedVariables false
set_option linter.unusedSimpArgs false
set_option maxHeartbeats 2000000
namespace Go.Proofs.YtkamlondepceiaaGreat
open Go.SL
theorem find_reads (e : BitVec 32) (v : Value) (ks : List Kp) (H : List Ck) (hv : KV v ks H) (hck : chk ks) (o : BitVec 32) (s : Int) (u : Bool) (h0 : 0 ≤ s) (h : s < 16) : Reads Tryz.prog 93 [.agg #[.int .u32 e.toNat, v], .agg (keyc o s u).toArray] H (.tuple #[.int .i64 (pos ks (numb o s u) : Nat), .bool (getK ks (numb o s u)).isSome]) := by
 refine Tells.enter Tryz.func93 rfl Tryz.ntmps93 rfl ?_
 intro w0 R
 refine sr_ ?_
 refine WL.h rfl (Hd.boxA rfl fun b2 => ⟨_, rfl, ?_⟩)
 refine WL.h rfl (Hd.boxA rfl fun b3 => ⟨_, rfl, ?_⟩)
 refine a_ rfl rfl ?_
 refine a_ rfl rfl ?_
 refine nt_ ?_
 refine WC.seq ?_
 refine WC.draw 9 kr_ rfl ?_
 refine WA.quiet 9 0 rfl rfl kr_ kr_ kr_ rfl ?_
 refine WQ.y rfl (Yd.fieldAddr (k := 1) kr_ rfl) ?_
 refine WQ.rd rfl Wt.none (Rd.load1 kr_ rfl mem_ (by rfl)) ?_
 refine WQ.rd rfl Wt.none (Rd.loadAll (n := 3) kr_ rfl mem_ (by rfl)) ?_
 refine WQ.rf rfl Wt.none (Ent.func Tryz.call117 rfl) (number_reads o s u h0 h _) Sp.sn ?_
 refine WQ.rf rfl Wt.none (Ent.func Tryz.call126 rfl) (bsf_reads v ks _ (hv.mono gr_) hck (numb o s u)) Sp.sn ?_
 refine WQ.y rfl (Yd.extract rfl rfl) ?_
 refine WQ.y rfl (Yd.extract rfl rfl) ?_
 refine WQ.y rfl (Yd.assign rfl) ?_
 refine WQ.y rfl (Yd.assign rfl) ?_
 refine WQ.nil ?_
 refine WA.done kr_ ?_
 refine DN.then_normal ?_
 refine WC.ret ?_
 refine DN.fit (C := H) sp_ ?_
 refine DN.ret2 Tryz.results93 rfl rfl ?_
 exact ⟨rfl, rfl⟩
theorem own_tells (k : Kp) (va vr : Value) (H : List Ck) (hva : Bs va k.asked H) (hvr : Bs vr k.reply H) (hla : k.asked.length ≤ 1000000) (hlr : k.reply.length ≤ 1000000) : Tells Tryz.prog 96 [.agg (kc k va vr).toArray] H fun r H' => ∃ wa wr A B, r = .agg (kc k wa wr).toArray ∧ Ob 5 wa k.asked A ∧ Ob 5 wr k.reply B ∧ H' = A ++ (B ++ H) := by
 refine Tells.enter Tryz.func96 rfl Tryz.ntmps96 rfl ?_
 intro w0 R
 obtain ⟨ao, ac, rfl, hac⟩ := hva.form
 obtain ⟨ro, rc, rfl, hrc⟩ := hvr.form
 refine sr_ ?_
 refine WL.h rfl (Hd.boxA rfl fun b1 => ⟨_, rfl, ?_⟩)
 refine WL.h rfl (Hd.alloc (zs := [.int .u32 0, .int .i64 0, .bool false, .slice none 0 0, .int .i64 0, .slice none 0 0]) kr_ fun b2 => ⟨_, rfl, ?_⟩)
 refine ntsr_ ?_
 refine WL.h rfl (Hd.buildBytes (e := 5) [] kr_ kr_ kr_ rfl rfl kr_ fun b => ⟨_, rfl, ?_⟩)
 refine f_ 3 kr_ rfl rfl ?_
 refine d_ kr_ rfl mem_ (by rfl) rfl ?_
 refine WL.h rfl (Hd.appendBs (e := 5) (zs := [.int .u8 0]) kr_ kr_ rfl rfl rfl (Ob.block b [] (by simp)) sp_ (hva.mono gr_) (by simp; omega) fun wa A hA => ⟨_, rfl, ?_⟩)
 rw [List.nil_append] at hA
 obtain ⟨o1, c1, rfl, hc1⟩ := hA.form
 refine f_ 3 kr_ rfl rfl ?_
 refine WL.s (Hd.store1s kr_ rfl rfl (by rfl) fr_ (by rfl) (by first | (simp only [List.set_cons_zero, List.set_cons_succ, Nat.zero_add, Nat.add_zero, Nat.reduceAdd]; rfl) | rfl) ⟨rfl, ?_⟩)
 refine ntsr_ ?_
 refine WL.h rfl (Hd.buildBytes (e := 5) [] kr_ kr_ kr_ rfl rfl kr_ fun b => ⟨_, rfl, ?_⟩)
 refine f_ 5 kr_ rfl rfl ?_
 refine d_ kr_ rfl mem_ (by rfl) rfl ?_
 refine WL.h rfl (Hd.appendBs (e := 5) (zs := [.int .u8 0]) kr_ kr_ rfl rfl rfl (Ob.block b [] (by simp)) sp_ (hvr.mono gr_) (by simp; omega) fun wr B hB => ⟨_, rfl, ?_⟩)
 rw [List.nil_append] at hB
 obtain ⟨o2, c2, rfl, hc2⟩ := hB.form
 refine f_ 5 kr_ rfl rfl ?_
 refine WL.s (Hd.store1s kr_ rfl rfl (by rfl) fr_ (by rfl) (by first | (simp only [List.set_cons_zero, List.set_cons_succ, Nat.zero_add, Nat.add_zero, Nat.reduceAdd]; rfl) | rfl) ⟨rfl, ?_⟩)
 refine ntsr_ ?_
 refine WL.h rfl (Hd.loadAll (n := 6) kr_ rfl mem_ (by rfl) ⟨_, rfl, ?_⟩)
 refine WL.s (Hd.storeAll (n := 6) kr_ rfl rfl (by rfl) one_ fr_ (by rfl) ⟨rfl, ?_⟩)
 refine nt_ ?_
 refine WC.ret ?_
 refine DN.retCS (s := 6) (A ++ (B ++ H)) Tryz.results96 kr_ rfl mem_ (by rfl) sp_ ?_
 exact ⟨_, _, A, B, rfl, hA, hB, rfl⟩
theorem all_tells (e : BitVec 32) (v : Value) (ks : List Kp) (H : List Ck) (hv : KV v ks H) (hck : chk ks) : Tells Tryz.prog 85 [.agg #[.int .u32 e.toNat, v]] H fun r H' => ∃ w D, r = .agg #[.int .u32 e.toNat, w] ∧ FAt 5 118 w ks D ∧ H' = D ++ H := by
 refine Tells.enter Tryz.func85 rfl Tryz.ntmps85 rfl ?_
 intro w0 R
 obtain ⟨cs, hr, hk⟩ := hv
 obtain ⟨ao, c, rfl, hc⟩ := hr.form
 have h200 := hck.1
 refine sr_ ?_
 refine WL.h rfl (Hd.boxA rfl fun b1 => ⟨_, rfl, ?_⟩)
 refine WL.h rfl (Hd.alloc (zs := [.int .u32 0, .slice none 0 0]) kr_ fun b2 => ⟨_, rfl, ?_⟩)
 refine ntsr_ ?_
 refine a_ rfl rfl ?_
 refine nt_ ?_
 refine WC.seq ?_
 refine sr_ ?_
 refine f_ 1 kr_ rfl rfl ?_
 refine d_ kr_ rfl mem_ (by rfl) rfl ?_
 refine WL.y rfl (Yd.len (e := 118) kr_ rfl) ?_
 refine m_ rfl rfl ?_
 refine nt_ ?_
 refine WC.block ?_
 refine WC.loopS (fun z : Nat × Value × List Value × List Ck × List Ck => z.1 ≤ ks.length ∧ Own z.2.1 z.1 z.2.2.1 118 6 z.2.2.2.1 ∧ Kts 5 z.2.2.1 (ks.take z.1) z.2.2.2.2) (fun z : Nat × Value × List Value × List Ck × List Ck => [(9, .int .i64 (z.1 : Int)), (3, z.2.1)]) (fun z : Nat × Value × List Value × List Ck × List Ck => z.2.2.2.1 ++ (z.2.2.2.2 ++ (row b2 [.int .u32 0, .slice none 0 0] 82 :: row b1 [.int .u32 e.toNat, .slice ao ks.length c] 82 :: H))) (fun z : Nat × Value × List Value × List Ck × List Ck => ks.length - z.1) (⟨0, .slice none 0 0, [], [], []⟩) (show 0 ≤ ks.length ∧ Own (.slice none 0 0) 0 [] 118 6 [] ∧ Kts 5 [] (ks.take 0) [] from ⟨Nat.zero_le _, Own.nil _ _, by rw [List.take_zero]; exact .nil⟩) (Sx.put rfl (Sx.put rfl (sx_))) sp_ ?_
 rintro ⟨i, vl, cl, Cl, Dl⟩ hI
 replace hI : i ≤ ks.length ∧ Own vl i cl 118 6 Cl ∧ Kts 5 cl (ks.take i) Dl := hI
 obtain ⟨hi, hOl, hKt⟩ := hI
 change WC _ _ _ _ _ _ ([(9, .int .i64 (i : Int)), (3, vl)] ++ _) (Cl ++ (Dl ++ (row b2 [.int .u32 0, .slice none 0 0] 82 :: row b1 [.int .u32 e.toNat, .slice ao ks.length c] 82 :: H)))
 obtain ⟨lo, lc, rfl, hlc⟩ := hOl.form
 refine sr_ ?_
 refine WL.y rfl (Yd.lss rfl rfl) ?_
 refine nt_ ?_
 refine WC.seq ?_
 refine WC.ite rfl (fun h10 => ?_) (fun h10 => ?_)
 ·have hlt : i < ks.length := by omega
  obtain ⟨va, vr, hg, hva, hvr⟩ := hk.at i hlt
  have hrt := chk_right hck hlt
  refine WC.skip ?_
  refine ts_ ?_
  refine WC.block ?_
  refine sr_ ?_
  refine WL.elemA (e := 118) (s := 6) kr_ kr_ kr_ rfl rfl (rfl) (hr.mono gr_) (hg) (by rfl) (by omega) (hlt) rfl rfl ?_
  intro p11
  refine WL.h rfl (Hd.alloc (zs := [.int .u32 0, .int .i64 0, .bool false, .slice none 0 0, .int .i64 0, .slice none 0 0]) kr_ fun b5 => ⟨_, rfl, ?_⟩)
  refine WL.s (Hd.storeAll (n := 6) kr_ rfl rfl (by rfl) (kc_one (IsSl.of hva).one (IsSl.of hvr).one) fr_ (by rfl) ⟨rfl, ?_⟩)
  refine ntr_ ?_
  refine m_ rfl rfl ?_
  refine WL.h rfl (Hd.loadAll (n := 6) kr_ rfl mem_ (by rfl) ⟨_, rfl, ?_⟩)
  refine WL.c rfl (Ent.func Tryz.call96 rfl) (own_tells ks[i] va vr H hva hvr (by have := hrt.2.2.2.1; omega) (by have := hrt.2.2.2.2.1; omega)) (Sp.p sp_) ?_
  rintro x H1 ⟨wa, wr, A, B, rfl, hA, hB, rfl⟩
  obtain ⟨o1, c1, rfl, hc1⟩ := hA.form
  obtain ⟨o2, c2, rfl, hc2⟩ := hB.form
  refine WL.h rfl (Hd.buildA (e := 118) (sz := 6) (zs := [.int .u32 0, .int .i64 0, .bool false, .slice none 0 0, .int .i64 0, .slice none 0 0]) kr_ kr_ kr_ rfl rfl (by rfl) kr_ fun b16 => ⟨_, rfl, ?_⟩)
  refine WL.h rfl (Hd.appendRow (e := 118) (sz := 6) (bytes := 80) (zs := [.int .u32 0, .int .i64 0, .bool false, .slice none 0 0, .int .i64 0, .slice none 0 0]) kr_ kr_ rfl (by omega) rfl rfl (hOl) sp_ mem_ (by rfl) (kc_one (by rfl) (by rfl)) (by simp only [maxLen]; omega) (by omega) fun v2 C2 h2 => ⟨_, rfl, ?_⟩)
  refine a_ rfl rfl ?_
  refine WL.nil ?_
  refine DN.block_normal ?_
  refine DN.then_normal ?_
  refine WC.region ?_
  refine WL.y rfl (Yd.add rfl rfl (by omega) (by omega)) ?_
  refine m_ rfl rfl ?_
  refine WL.nil ?_
  exact DN.againS (⟨i + 1, v2, cl ++ kc ks[i] (.slice o1 ks[i].asked.length c1) (.slice o2 ks[i].reply.length c2), C2, Dl ++ (A ++ B)⟩) (show (i + 1) ≤ ks.length ∧ Own v2 (i + 1) (cl ++ kc ks[i] (.slice o1 ks[i].asked.length c1) (.slice o2 ks[i].reply.length c2)) 118 6 C2 ∧ Kts 5 (cl ++ kc ks[i] (.slice o1 ks[i].asked.length c1) (.slice o2 ks[i].reply.length c2)) (ks.take (i + 1)) (Dl ++ (A ++ B)) from ⟨by omega, h2, by rw [List.take_succ_eq_append_getElem hlt]; exact hKt.append (Kts.one' hA hB)⟩) (show ks.length - (i + 1) < ks.length - i by omega) (Sx.put rfl (Sx.put rfl (sx_))) sp_
 ·obtain rfl : i = ks.length := by omega
  rw [List.take_length] at hKt
  refine WC.exit ?_
  refine DN.then_exit ?_
  refine DN.then_exit ?_
  refine DN.block_exit ?_
  refine ts_ ?_
  refine WC.region ?_
  refine m_ rfl rfl ?_
  refine f_ 1 kr_ rfl rfl ?_
  refine WL.s (Hd.store1s kr_ rfl rfl (by rfl) fr_ (by rfl) (by first | (simp only [List.set_cons_zero, List.set_cons_succ, Nat.zero_add, Nat.add_zero, Nat.reduceAdd]; rfl) | rfl) ⟨rfl, ?_⟩)
  refine ntsr_ ?_
  refine WL.h rfl (Hd.loadAll (n := 2) kr_ rfl mem_ (by rfl) ⟨_, rfl, ?_⟩)
  refine WL.s (Hd.storeAll (n := 2) kr_ rfl rfl (by rfl) one_ fr_ (by rfl) ⟨rfl, ?_⟩)
  refine nt_ ?_
  refine WC.ret ?_
  refine DN.retCS (s := 2) (Cl ++ (Dl ++ H)) Tryz.results85 kr_ rfl mem_ (by rfl) sp_ ?_
  exact ⟨_, Cl ++ Dl, rfl, ⟨cl, Cl, Dl, hOl, hKt, rfl⟩, by rw [List.append_assoc]⟩
theorem see_tells (e : BitVec 32) (v : Value) (ks : List Kp) (H : List Ck) (hv : KV v ks H) (hl : ks.length ≤ 9223372036854775807) (x : BitVec 32) : Tells Tryz.prog 56 [.agg #[.int .u32 e.toNat, v], .int .u32 x.toNat] H fun r H' => ∃ w D, r = .tuple #[.agg #[.int .u32 (seeK e ks x).1.toNat, w], .int .i64 (seeK e ks x).2.2] ∧ FAt 5 118 w (seeK e ks x).2.1 D ∧ H' = D ++ H := by
 refine Tells.enter Tryz.func56 rfl Tryz.ntmps56 rfl ?_
 intro w0 R
 obtain ⟨ao, c, rfl, hc⟩ := hv.form
 refine sr_ ?_
 refine WL.h rfl (Hd.boxA rfl fun b2 => ⟨_, rfl, ?_⟩)
 refine WL.h rfl (Hd.alloc (zs := [.int .u32 0, .slice none 0 0]) kr_ fun b4 => ⟨_, rfl, ?_⟩)
 refine a_ rfl rfl ?_
 refine nt_ ?_
 refine WC.seq ?_
 refine WC.block ?_
 refine sr_ ?_
 refine WL.h rfl (Hd.loadAll (n := 2) kr_ rfl mem_ (by rfl) ⟨_, rfl, ?_⟩)
 refine WL.r rfl (Ent.func Tryz.call82 rfl) (check2_reads e _ ks _ (hv.mono gr_) hl) ?_
 refine WL.y rfl (Yd.neq rfl rfl) ?_
 refine a_ rfl rfl ?_
 refine nt_ ?_
 refine WC.ite rfl (fun h9 => ?_) (fun h9 => ?_)
 ·have hn : ¬ chk ks := fun h => by rw [if_pos h] at h9; exact h9 rfl
  refine sr_ ?_
  refine WL.y rfl (Yd.buildL (pl := [(0, 1), (1, 1)]) (zs := [.int .u32 0, .slice none 0 0]) (parts := []) (vs := []) (cells := [.int .u32 0, .slice none 0 0]) kr_ kr_ rfl rfl) ?_
  refine WL.s (Hd.storeAll (n := 2) kr_ rfl rfl (by rfl) one_ fr_ (by rfl) ⟨rfl, ?_⟩)
  refine a_ rfl rfl ?_
  refine nt_ ?_
  refine WC.ret ?_
  refine DN.block_ret ?_
  refine DN.then_ret ?_
  refine DN.retCT (s := 2) H Tryz.results56 kr_ rfl rfl mem_ (by rfl) sp_ ?_
  rw [show seeK e ks x = (0#32, [], 2) from if_pos hn]
  exact ⟨_, [], rfl, FAt.nil _ _, rfl⟩
 ·have hy : chk ks := Classical.byContradiction fun h => by rw [if_neg h] at h9; exact h9 (by decide)
  refine sr_ ?_
  refine m_ rfl rfl ?_
  refine f_ 0 kr_ rfl rfl ?_
  refine d_ kr_ rfl mem_ (by rfl) rfl ?_
  refine WL.y rfl (Yd.lss rfl rfl) ?_
  refine a_ rfl rfl ?_
  refine nt_ ?_
  refine WC.ite rfl (fun h11 => ?_) (fun h11 => ?_)
  ·refine sr_ ?_
   refine WL.y rfl (Yd.buildL (pl := [(0, 1), (1, 1)]) (zs := [.int .u32 0, .slice none 0 0]) (parts := []) (vs := []) (cells := [.int .u32 0, .slice none 0 0]) kr_ kr_ rfl rfl) ?_
   refine WL.s (Hd.storeAll (n := 2) kr_ rfl rfl (by rfl) one_ fr_ (by rfl) ⟨rfl, ?_⟩)
   refine a_ rfl rfl ?_
   refine nt_ ?_
   refine WC.ret ?_
   refine DN.block_ret ?_
   refine DN.then_ret ?_
   refine DN.retCT (s := 2) H Tryz.results56 kr_ rfl rfl mem_ (by rfl) sp_ ?_
   rw [show seeK e ks x = (0#32, [], 72) by unfold seeK; rw [if_neg (not_not_intro hy), if_pos (by omega)]]
   exact ⟨_, [], rfl, FAt.nil _ _, rfl⟩
  ·refine WC.skip ?_
   refine DN.block_normal ?_
   refine ts_ ?_
   refine WC.region ?_
   refine WL.h rfl (Hd.loadAll (n := 2) kr_ rfl mem_ (by rfl) ⟨_, rfl, ?_⟩)
   refine WL.c rfl (Ent.func Tryz.call85 rfl) (all_tells e _ ks H hv (by first | assumption | exact Classical.byContradiction fun h => (by rw [if_neg h] at h9; exact h9 (by decide)))) (Sp.p sp_) ?_
   rintro r2 H1 ⟨w, D, rfl, hF, rfl⟩
   obtain ⟨wo, wc, rfl⟩ := hF.form
   refine WL.s (Hd.storeAll (n := 2) kr_ rfl rfl (by rfl) one_ fr_ (by rfl) ⟨rfl, ?_⟩)
   refine ntsr_ ?_
   refine m_ rfl rfl ?_
   refine f_ 0 kr_ rfl rfl ?_
   refine WL.s (Hd.store1s kr_ rfl rfl (by rfl) fr_ (by rfl) (by first | (simp only [List.set_cons_zero, List.set_cons_succ, Nat.zero_add, Nat.add_zero, Nat.reduceAdd]; rfl) | rfl) ⟨rfl, ?_⟩)
   refine ntsr_ ?_
   refine WL.h rfl (Hd.loadAll (n := 2) kr_ rfl mem_ (by rfl) ⟨_, rfl, ?_⟩)
   refine WL.s (Hd.storeAll (n := 2) kr_ rfl rfl (by rfl) one_ fr_ (by rfl) ⟨rfl, ?_⟩)
   refine a_ rfl rfl ?_
   refine nt_ ?_
   refine WC.ret ?_
   refine DN.retCT (s := 2) (D ++ H) Tryz.results56 kr_ rfl rfl mem_ (by rfl) sp_ ?_
   rw [show seeK e ks x = (x, ks, 0) by unfold seeK; rw [if_neg (not_not_intro hy), if_neg (by omega)]]
   exact ⟨_, D, rfl, hF, rfl⟩
theorem find2_tells (e : BitVec 32) (v : Value) (ks : List Kp) (H : List Ck) (hv : KV v ks H) (hl : ks.length ≤ 9223372036854775807) (o : BitVec 32) (s : Int) (u : Bool) : Tells Tryz.prog 84 [.agg #[.int .u32 e.toNat, v], .int .u32 o.toNat, .int .i64 s, .bool u] H fun r H' => ∃ wa wr A B, r = .tuple #[.agg (kc ((findF ks o s u).getD Kp.z) wa wr).toArray, .bool (findF ks o s u).isSome] ∧ Ob 5 wa ((findF ks o s u).getD Kp.z).asked A ∧ Ob 5 wr ((findF ks o s u).getD Kp.z).reply B ∧ H' = A ++ (B ++ H) := by
 refine Tells.enter Tryz.func84 rfl Tryz.ntmps84 rfl ?_
 intro w0 R
 have hv9 := hv
 obtain ⟨cs, hr, hk⟩ := hv9
 obtain ⟨ao, c, rfl, hc⟩ := hr.form
 refine sr_ ?_
 refine WL.h rfl (Hd.boxA rfl fun b4 => ⟨_, rfl, ?_⟩)
 refine WL.h rfl (Hd.alloc (zs := [.int .u32 0, .int .i64 0, .bool false, .slice none 0 0, .int .i64 0, .slice none 0 0]) kr_ fun b8 => ⟨_, rfl, ?_⟩)
 refine a_ rfl rfl ?_
 refine nt_ ?_
 refine WC.seq ?_
 refine sr_ ?_
 refine WL.h rfl (Hd.loadAll (n := 2) kr_ rfl mem_ (by rfl) ⟨_, rfl, ?_⟩)
 refine WL.r rfl (Ent.func Tryz.call82 rfl) (check2_reads e _ ks _ (hv.mono gr_) hl) ?_
 refine WL.y rfl (Yd.neq rfl rfl) ?_
 refine m_ rfl rfl ?_
 refine WL.partP (t := 15) rfl (fun hg15 => ?_) (fun hg15 => ?_)
 ·refine gn_ 15 rfl rfl rfl rfl ?_
  refine gn_ 15 rfl rfl rfl rfl ?_
  refine WL.y rfl (Yd.pickT rfl rfl) ?_
  refine m_ rfl rfl ?_
  refine gn_ 19 rfl rfl rfl rfl ?_
  refine gn_ 19 rfl rfl rfl rfl ?_
  refine WL.y rfl (Yd.pickT rfl rfl) ?_
  refine nt_ ?_
  refine WC.yes rfl ?_
  refine sr_ ?_
  refine WL.y rfl (Yd.buildL (pl := [(0, 1), (1, 1), (2, 1), (3, 1), (4, 1), (5, 1)]) (zs := [.int .u32 0, .int .i64 0, .bool false, .slice none 0 0, .int .i64 0, .slice none 0 0]) (parts := []) (vs := []) (cells := [.int .u32 0, .int .i64 0, .bool false, .slice none 0 0, .int .i64 0, .slice none 0 0]) kr_ kr_ rfl rfl) ?_
  refine WL.s (Hd.storeAll (n := 6) kr_ rfl rfl (by rfl) one_ fr_ (by rfl) ⟨rfl, ?_⟩)
  refine a_ rfl rfl ?_
  refine nt_ ?_
  refine WC.ret ?_
  refine DN.then_ret ?_
  first | refine DN.retCT (s := 6) (A ++ (B ++ H)) Tryz.results84 kr_ rfl rfl mem_ (by rfl) sp_ ?_ | refine DN.retCT (s := 6) H Tryz.results84 kr_ rfl rfl mem_ (by rfl) sp_ ?_
  first
    | (have e9 : findF ks o s u = some ks[pos ks (numb o s u)] := by rw [hfb, hgk]
       rw [e9]
       exact ⟨_, _, A, B, rfl, hA, hB, rfl⟩)
    | (rw [hno]
       exact ⟨_, _, [], [], rfl, Ob.nil _, Ob.nil _, rfl⟩)
    | (have e9 : findF ks o s u = none := findF_no fun ⟨g1, g2, g3⟩ => by
         first
         | (simp only [if_pos g1] at hg15; revert hg15; decide)
         | (simp only [decide_eq_true_eq, decide_eq_false_iff_not] at *; omega)
       rw [e9]
       exact ⟨_, _, [], [], rfl, Ob.nil _, Ob.nil _, rfl⟩)
 ·refine gy_ 15 rfl rfl rfl (Yd.move rfl) ?_
  refine gy_ 15 rfl rfl rfl (Yd.lss rfl rfl) ?_
  refine WL.y rfl (Yd.pickF rfl rfl) ?_
  refine m_ rfl rfl ?_
  refine WL.part (t := 19) rfl (fun hg19 => ?_) (fun hg19 => ?_)
  ·refine gn_ 19 rfl rfl rfl rfl ?_
   refine gn_ 19 rfl rfl rfl rfl ?_
   refine WL.y rfl (Yd.pickT rfl rfl) ?_
   refine nt_ ?_
   refine WC.yes rfl ?_
   refine sr_ ?_
   refine WL.y rfl (Yd.buildL (pl := [(0, 1), (1, 1), (2, 1), (3, 1), (4, 1), (5, 1)]) (zs := [.int .u32 0, .int .i64 0, .bool false, .slice none 0 0, .int .i64 0, .slice none 0 0]) (parts := []) (vs := []) (cells := [.int .u32 0, .int .i64 0, .bool false, .slice none 0 0, .int .i64 0, .slice none 0 0]) kr_ kr_ rfl rfl) ?_
   refine WL.s (Hd.storeAll (n := 6) kr_ rfl rfl (by rfl) one_ fr_ (by rfl) ⟨rfl, ?_⟩)
   refine a_ rfl rfl ?_
   refine nt_ ?_
   refine WC.ret ?_
   refine DN.then_ret ?_
   first | refine DN.retCT (s := 6) (A ++ (B ++ H)) Tryz.results84 kr_ rfl rfl mem_ (by rfl) sp_ ?_ | refine DN.retCT (s := 6) H Tryz.results84 kr_ rfl rfl mem_ (by rfl) sp_ ?_
   first
     | (have e9 : findF ks o s u = some ks[pos ks (numb o s u)] := by rw [hfb, hgk]
        rw [e9]
        exact ⟨_, _, A, B, rfl, hA, hB, rfl⟩)
     | (rw [hno]
        exact ⟨_, _, [], [], rfl, Ob.nil _, Ob.nil _, rfl⟩)
     | (have e9 : findF ks o s u = none := findF_no fun ⟨g1, g2, g3⟩ => by
          first
          | (simp only [if_pos g1] at hg15; revert hg15; decide)
          | (simp only [decide_eq_true_eq, decide_eq_false_iff_not] at *; omega)
        rw [e9]
        exact ⟨_, _, [], [], rfl, Ob.nil _, Ob.nil _, rfl⟩)
  ·refine gy_ 19 rfl rfl rfl (Yd.move rfl) ?_
   refine gy_ 19 rfl rfl rfl (Yd.geq rfl rfl) ?_
   refine WL.y rfl (Yd.pickF rfl rfl) ?_
   refine nt_ ?_
   refine WC.cond rfl (fun h22 => ?_) (fun h22 => ?_)
   ·refine sr_ ?_
    refine WL.y rfl (Yd.buildL (pl := [(0, 1), (1, 1), (2, 1), (3, 1), (4, 1), (5, 1)]) (zs := [.int .u32 0, .int .i64 0, .bool false, .slice none 0 0, .int .i64 0, .slice none 0 0]) (parts := []) (vs := []) (cells := [.int .u32 0, .int .i64 0, .bool false, .slice none 0 0, .int .i64 0, .slice none 0 0]) kr_ kr_ rfl rfl) ?_
    refine WL.s (Hd.storeAll (n := 6) kr_ rfl rfl (by rfl) one_ fr_ (by rfl) ⟨rfl, ?_⟩)
    refine a_ rfl rfl ?_
    refine nt_ ?_
    refine WC.ret ?_
    refine DN.then_ret ?_
    first | refine DN.retCT (s := 6) (A ++ (B ++ H)) Tryz.results84 kr_ rfl rfl mem_ (by rfl) sp_ ?_ | refine DN.retCT (s := 6) H Tryz.results84 kr_ rfl rfl mem_ (by rfl) sp_ ?_
    first
      | (have e9 : findF ks o s u = some ks[pos ks (numb o s u)] := by rw [hfb, hgk]
         rw [e9]
         exact ⟨_, _, A, B, rfl, hA, hB, rfl⟩)
      | (rw [hno]
         exact ⟨_, _, [], [], rfl, Ob.nil _, Ob.nil _, rfl⟩)
      | (have e9 : findF ks o s u = none := findF_no fun ⟨g1, g2, g3⟩ => by
           first
           | (simp only [if_pos g1] at hg15; revert hg15; decide)
           | (simp only [decide_eq_true_eq, decide_eq_false_iff_not] at *; omega)
         rw [e9]
         exact ⟨_, _, [], [], rfl, Ob.nil _, Ob.nil _, rfl⟩)
   ·refine WC.skip ?_
    refine ts_ ?_
    refine WC.region ?_
    refine WL.h rfl (Hd.loadAll (n := 2) kr_ rfl mem_ (by rfl) ⟨_, rfl, ?_⟩)
    have hok : chk ks ∧ 0 ≤ s ∧ s < 16 := ⟨Classical.byContradiction fun h => (by simp only [if_neg h] at hg15; revert hg15; decide), by simp only [decide_eq_true_eq, decide_eq_false_iff_not] at *; omega, by simp only [decide_eq_true_eq, decide_eq_false_iff_not] at *; omega⟩
    have hfb := findF_ok (o := o) (u := u) hok.1 hok.2.1 hok.2.2
    iterate 3 refine m_ rfl rfl ?_
    refine WL.y rfl (Yd.buildL (pl := [(0, 1), (1, 1), (2, 1)]) (zs := [.int .u32 0, .int .i64 0, .bool false]) (parts := [(0, .tmp 26), (1, .tmp 27), (2, .tmp 28)]) (vs := [(0, _), (1, _), (2, _)]) (cells := [_, _, _]) kr_ kr_ rfl rfl) ?_
    refine WL.r rfl (Ent.func Tryz.call93 rfl) (find_reads e _ ks _ (hv.mono gr_) hok.1 o s u hok.2.1 hok.2.2) ?_
    refine m_ rfl rfl ?_
    refine x_ rfl rfl rfl ?_
    refine x_ rfl rfl rfl ?_
    refine a_ rfl rfl ?_
    refine a_ rfl rfl ?_
    refine nt_ ?_
    refine WC.seq ?_
    refine sr_ ?_
    refine m_ rfl rfl ?_
    refine WL.y rfl (Yd.notB rfl) ?_
    refine nt_ ?_
    refine WC.cond rfl (fun h34 => ?_) (fun h34 => ?_)
    ·have hno : findF ks o s u = none := by
       rw [hfb]
       simpa using h34
     refine sr_ ?_
     refine WL.y rfl (Yd.buildL (pl := [(0, 1), (1, 1), (2, 1), (3, 1), (4, 1), (5, 1)]) (zs := [.int .u32 0, .int .i64 0, .bool false, .slice none 0 0, .int .i64 0, .slice none 0 0]) (parts := []) (vs := []) (cells := [.int .u32 0, .int .i64 0, .bool false, .slice none 0 0, .int .i64 0, .slice none 0 0]) kr_ kr_ rfl rfl) ?_
     refine WL.s (Hd.storeAll (n := 6) kr_ rfl rfl (by rfl) one_ fr_ (by rfl) ⟨rfl, ?_⟩)
     refine a_ rfl rfl ?_
     refine nt_ ?_
     refine WC.ret ?_
     refine DN.then_ret ?_
     first | refine DN.retCT (s := 6) (A ++ (B ++ H)) Tryz.results84 kr_ rfl rfl mem_ (by rfl) sp_ ?_ | refine DN.retCT (s := 6) H Tryz.results84 kr_ rfl rfl mem_ (by rfl) sp_ ?_
     first
       | (have e9 : findF ks o s u = some ks[pos ks (numb o s u)] := by rw [hfb, hgk]
          rw [e9]
          exact ⟨_, _, A, B, rfl, hA, hB, rfl⟩)
       | (rw [hno]
          exact ⟨_, _, [], [], rfl, Ob.nil _, Ob.nil _, rfl⟩)
       | (have e9 : findF ks o s u = none := findF_no fun ⟨g1, g2, g3⟩ => by
            first
            | (simp only [if_pos g1] at hg15; revert hg15; decide)
            | (simp only [decide_eq_true_eq, decide_eq_false_iff_not] at *; omega)
          rw [e9]
          exact ⟨_, _, [], [], rfl, Ob.nil _, Ob.nil _, rfl⟩)
    ·have hso : (getK ks (numb o s u)).isSome = true := by simpa using h34
     obtain ⟨hlt, hnum, hgk⟩ : ∃ hi : pos ks (numb o s u) < ks.length, ks[pos ks (numb o s u)].num = numb o s u ∧ getK ks (numb o s u) = some ks[pos ks (numb o s u)] := by
       rcases getK_pos hok.1 (n := numb o s u) with ⟨e1, e2⟩ | h9
       · rw [e1] at hso; cases hso
       · exact h9
     refine WC.skip ?_
     refine ts_ ?_
     refine WC.region ?_
     refine f_ 1 kr_ rfl rfl ?_
     refine d_ kr_ rfl mem_ (by rfl) rfl ?_
     refine m_ rfl rfl ?_
     obtain ⟨va, vr, hg, hva, hvr⟩ := hk.at (pos ks (numb o s u)) hlt
     have hrt := chk_right hok.1 hlt
     refine WL.elemA (e := 118) (s := 6) kr_ kr_ kr_ rfl rfl (rfl) (hr.mono gr_) (hg) (by rfl) (by omega) (hlt) rfl rfl ?_
     intro p39
     refine WL.c rfl (Ent.func Tryz.call96 rfl) (own_tells ks[pos ks (numb o s u)] va vr H hva hvr (by have := hrt.2.2.2.1; omega) (by have := hrt.2.2.2.2.1; omega)) (Sp.p sp_) ?_
     rintro x H1 ⟨wa, wr, A, B, rfl, hA, hB, rfl⟩
     obtain ⟨o1, c1, rfl, hc1⟩ := hA.form
     obtain ⟨o2, c2, rfl, hc2⟩ := hB.form
     refine WL.s (Hd.storeAll (n := 6) kr_ rfl rfl (by rfl) one_ fr_ (by rfl) ⟨rfl, ?_⟩)
     refine a_ rfl rfl ?_
     refine nt_ ?_
     refine WC.ret ?_
     first | refine DN.retCT (s := 6) (A ++ (B ++ H)) Tryz.results84 kr_ rfl rfl mem_ (by rfl) sp_ ?_ | refine DN.retCT (s := 6) H Tryz.results84 kr_ rfl rfl mem_ (by rfl) sp_ ?_
     first
       | (have e9 : findF ks o s u = some ks[pos ks (numb o s u)] := by rw [hfb, hgk]
          rw [e9]
          exact ⟨_, _, A, B, rfl, hA, hB, rfl⟩)
       | (rw [hno]
          exact ⟨_, _, [], [], rfl, Ob.nil _, Ob.nil _, rfl⟩)
       | (have e9 : findF ks o s u = none := findF_no fun ⟨g1, g2, g3⟩ => by
            first
            | (simp only [if_pos g1] at hg15; revert hg15; decide)
            | (simp only [decide_eq_true_eq, decide_eq_false_iff_not] at *; omega)
          rw [e9]
          exact ⟨_, _, [], [], rfl, Ob.nil _, Ob.nil _, rfl⟩)
end Go.Proofs.YtkamlondepceiaaGreat

set_option linter.unusedVariables false
set_option linter.unusedSimpArgs false
set_option maxHeartbeats 2000000
namespace Go.Proofs.YtkamlondepceiaaGreat
open Go.SL
theorem insert_tells (v : Value) (n : Nat) (cells : List Value) (C : List Ck) (own : Own v n cells 118 6 C) (h1 : ∀ u ∈ cells, u.oneCell' = true) (hn : n ≤ 1000000) (i : Nat) (hi : i ≤ n) (rb : Nat) (x : List Value) (hx : x.length = 6) (hx1 : ∀ u ∈ x, u.oneCell' = true) : Tells Tryz.prog 95 [v, .int .i64 (i : Int), .slice (some ⟨rb, 0, none⟩) 1 1] (C ++ [row rb x 118]) fun r H' => Own r (n + 1) (cells.take (i * 6) ++ (x ++ cells.drop (i * 6))) 118 6 H' := by
 refine Tells.enter Tryz.func95 rfl Tryz.ntmps95 rfl ?_
 intro w0 R
 obtain ⟨ao, cap, rfl, hcap⟩ := own.form
 have hcl := own.len
 refine sr_ ?_
 refine a_ rfl rfl ?_
 refine ntsr_ ?_
 refine m_ rfl rfl ?_
 refine m_ rfl rfl ?_
 refine WL.y rfl (Yd.slice (i := i) (j := n) (e := 118) (s := 6) kr_ kr_ rfl ⟨_, _, rfl, rfl⟩ rfl hi hcap) ?_
 refine ntsr_ ?_
 refine m_ rfl rfl ?_
 refine WL.y rfl (Yd.len (e := 118) kr_ rfl) ?_
 refine a_ rfl rfl ?_
 refine nt_ ?_
 refine WC.seq ?_
 refine sr_ ?_
 refine m_ rfl rfl ?_
 refine WL.y rfl (Yd.eql rfl rfl) ?_
 refine WL.renamed (t := 16) (v := .bool false) rfl (congrArg Value.bool (by simp)) ?_
 refine nt_ ?_
 refine WC.no rfl ?_
 refine WC.skip ?_
 refine ts_ ?_
 refine WC.region ?_
 refine m_ rfl rfl ?_
 refine WL.y rfl (Yd.len (e := 118) kr_ rfl) ?_
 refine a_ rfl rfl ?_
 refine nt_ ?_
 refine WC.seq ?_
 refine sr_ ?_
 refine m_ rfl rfl ?_
 refine m_ rfl rfl ?_
 refine WL.y rfl (Yd.eql rfl rfl) ?_
 refine nt_ ?_
 refine WC.ite rfl (fun h22 => ?_) (fun h22 => ?_)
 ·obtain rfl : i = n := by omega
  refine sr_ ?_
  refine m_ rfl rfl ?_
  refine m_ rfl rfl ?_
  refine WL.h rfl (Hd.appendF (e := 118) (sz := 6) (bytes := 80) (zs := [.int .u32 0, .int .i64 0, .bool false, .slice none 0 0, .int .i64 0, .slice none 0 0]) kr_ kr_ rfl (by omega) rfl rfl own sp_ (.inr ⟨rb, 0, 1, x, 118, (0, 0), true, rfl, Nat.le_refl _, mem_, by simp⟩) (by omega) hx1 (by simp only [maxLen]; omega) (by omega) fun v2 C2 h2 => ⟨_, rfl, ?_⟩)
  refine a_ rfl rfl ?_
  refine nt_ ?_
  refine WC.ret ?_
  refine DN.then_ret ?_
  refine DN.fit (C := C2) sp_ ?_
  refine DN.ret1 Tryz.results95 rfl ?_
  rw [List.take_of_length_le (by omega), List.drop_of_length_le (by omega), List.append_nil]
  exact h2
 ·obtain ⟨b, cap', extra, e1, h2, h3, h4, h5, rfl⟩ : ∃ (b cap' : Nat) (extra : List Value), Value.slice ao n cap = .slice (some ⟨b, 0, none⟩) n cap' ∧ n ≤ cap' ∧ cap' ≤ maxLen ∧ cells.length = n * 6 ∧ extra.length = (cap' - n) * 6 ∧ C = [row b (cells ++ extra) 118] := by
    rcases own with ⟨_, h, _⟩ | h
    · omega
    · exact h
  simp only [Value.slice.injEq, true_and] at e1
  obtain ⟨rfl, rfl⟩ := e1
  simp only [maxLen] at h3
  have htl : (cells.take (i * 6)).length = i * 6 := by rw [List.length_take]; omega
  have hdl : (cells.drop (i * 6)).length = (n - i) * 6 := by rw [List.length_drop]; omega
  refine WC.skip ?_
  refine ts_ ?_
  refine sr_ ?_
  refine m_ rfl rfl ?_
  refine m_ rfl rfl ?_
  refine WL.y rfl (Yd.add rfl rfl (by omega) (by omega)) ?_
  refine m_ rfl rfl ?_
  refine WL.y rfl (Yd.capS (e := 118) kr_ rfl) ?_
  refine WL.y rfl (Yd.gtr rfl rfl) ?_
  refine nt_ ?_
  refine WC.ite rfl (fun h31 => ?_) (fun h31 => ?_)
  ·refine sr_ ?_
   refine m_ rfl rfl ?_
   refine m_ rfl rfl ?_
   refine WL.y rfl (Yd.sliceTo (j := i) (e := 118) (s := 6) kr_ kr_ rfl rfl rfl (by omega)) ?_
   refine m_ rfl rfl ?_
   refine m_ rfl rfl ?_
   refine WL.y rfl (Yd.add rfl rfl (by omega) (by omega)) ?_
   refine m_ rfl rfl ?_
   refine WL.y rfl (Yd.sub rfl rfl (by omega) (by omega)) ?_
   refine WL.h rfl (Hd.appendZ (i := i) (k := n + 1 - i) (olds := cells.take (i * 6)) (e := 118) (sz := 6) (bytes := 80) (zs := [.int .u32 0, .int .i64 0, .bool false, .slice none 0 0, .int .i64 0, .slice none 0 0]) kr_ Tryz.underlying3 kr_ rfl (by omega) rfl (by exact congrArg (fun q => some (Value.int .i64 q)) (by omega)) ((own.rs.upto hcl hi).mono gr_) htl (by omega) (by omega) (by simp only [maxLen]; omega) (by omega) fun b2 c2 ex2 g1 g2 g3 => ⟨_, rfl, ?_⟩)
   refine a_ rfl rfl ?_
   refine ntsr_ ?_
   refine m_ rfl rfl ?_
   refine m_ rfl rfl ?_
   refine WL.y rfl (Yd.slFrom (i := i) (e := 118) (s := 6) kr_ kr_ rfl rfl (by omega) (by omega) (by omega) (by omega)) ?_
   refine m_ rfl rfl ?_
   refine WL.h rfl (Hd.copyR (cells' := cells.take (i * 6) ++ (x ++ ex2.drop x.length)) (q := 1) (e := 118) (sz := 6) (bytes := 80) (zs := [.int .u32 0, .int .i64 0, .bool false, .slice none 0 0, .int .i64 0, .slice none 0 0]) kr_ kr_ rfl rfl fr_ (.inr ⟨rb, 0, 1, x, 118, (0, 0), true, rfl, Nat.le_refl _, mem_, by simp⟩) (by show min _ _ = _; omega) (by omega) hx1 (by rw [List.length_append]; omega) (ins_a _ _ _ _ htl) ⟨_, rfl, ?_⟩)
   refine nt_ ?_
   refine WC.seq ?_
   refine WC.draw 9 kr_ rfl ?_
   refine WA.y (i := 0) (NoPanic.then (NoPanic.then (NoPanic.body))) rfl kr_ kr_ kr_ rfl (Yd.move rfl) ?_
   refine WA.y (i := 1) (NoPanic.then (NoPanic.then (NoPanic.body))) rfl kr_ kr_ kr_ rfl (Yd.move rfl) ?_
   refine WA.y (i := 2) (NoPanic.then (NoPanic.then (NoPanic.body))) rfl kr_ kr_ kr_ rfl (Yd.move rfl) ?_
   refine WA.y (i := 3) (NoPanic.then (NoPanic.then (NoPanic.body))) rfl kr_ kr_ kr_ rfl (Yd.add rfl rfl (by omega) (by omega)) ?_
   refine WA.y (i := 4) (NoPanic.then (NoPanic.then (NoPanic.body))) rfl kr_ kr_ kr_ rfl (Yd.slFrom (i := i + 1) (e := 118) (s := 6) kr_ kr_ rfl rfl (by omega) (by omega) (by omega) (by omega)) ?_
   refine WA.y (i := 5) (NoPanic.then (NoPanic.then (NoPanic.body))) rfl kr_ kr_ kr_ rfl (Yd.move rfl) ?_
   refine WA.y (i := 6) (NoPanic.then (NoPanic.then (NoPanic.body))) rfl kr_ kr_ kr_ rfl (Yd.move rfl) ?_
   refine WA.y (i := 7) (NoPanic.then (NoPanic.then (NoPanic.body))) rfl kr_ kr_ kr_ rfl (Yd.slFrom (i := i) (e := 118) (s := 6) kr_ kr_ rfl rfl (by omega) (by omega) (by omega) (by omega)) ?_
   refine WA.one (i := 8) kr_ ?_
   refine WO.h rfl Wt.none rfl (Hd.copyR (cells' := cells.take (i * 6) ++ (x ++ (cells.drop (i * 6) ++ (ex2.drop x.length).drop (cells.drop (i * 6)).length))) (q := n - i) (news := cells.drop (i * 6)) (e := 118) (sz := 6) (bytes := 80) (zs := [.int .u32 0, .int .i64 0, .bool false, .slice none 0 0, .int .i64 0, .slice none 0 0]) kr_ kr_ rfl rfl fr_ (.inr ⟨b, i * 6, cap - i, cells ++ extra, 118, (0, 0), true, rfl, by omega, mem_, by
       rw [List.drop_append_of_le_length (by omega), List.take_append_of_le_length (by omega), List.take_of_length_le (by omega)]⟩) (by show min _ _ = _; omega) hdl (fun u hu => h1 u (List.mem_of_mem_drop hu)) (by simp only [List.length_append, List.length_drop]; omega) (ins_b _ _ _ _ _ (by omega)) ⟨_, rfl, ?_⟩)
   refine WA.done kr_ ?_
   refine ts_ ?_
   refine WC.region ?_
   refine m_ rfl rfl ?_
   refine a_ rfl rfl ?_
   refine nt_ ?_
   refine WC.ret ?_
   refine DN.then_ret ?_
   refine DN.fit (C := [row b2 (cells.take (i * 6) ++ (x ++ (cells.drop (i * 6) ++ (ex2.drop x.length).drop (cells.drop (i * 6)).length))) 118]) sp_ ?_
   refine DN.ret1 Tryz.results95 rfl ?_
   exact .inr ⟨b2, c2, (ex2.drop x.length).drop (cells.drop (i * 6)).length, by rw [show i + (n + 1 - i) = n + 1 by omega], by omega, g2, by simp only [List.length_append]; omega, by simp only [List.length_drop]; omega, by simp only [List.append_assoc]⟩
  ·refine WC.skip ?_
   refine ts_ ?_
   refine WC.region ?_
   iterate 3 refine m_ rfl rfl ?_
   refine WL.y rfl (Yd.add rfl rfl (by omega) (by omega)) ?_
   refine WL.y rfl (Yd.sliceTo (j := n + 1) (e := 118) (s := 6) kr_ kr_ rfl rfl (by omega) (by omega)) ?_
   refine a_ rfl rfl ?_
   refine nt_ ?_
   refine WC.seq ?_
   refine sr_ ?_
   iterate 4 refine m_ rfl rfl ?_
   refine WL.y rfl (Yd.add rfl rfl (by omega) (by omega)) ?_
   refine WL.y rfl (Yd.slFrom (i := i + 1) (e := 118) (s := 6) kr_ kr_ rfl rfl (by omega) (by omega) (by omega) (by omega)) ?_
   refine WL.h rfl (Hd.overF (tS := 80) (tR := 4) (e := 118) (sz := 6) Tryz.func128 kr_ kr_ kr_ kr_ kr_ kr_ rfl rfl fr_ fr_ (by intro h0; have := congrArg List.length h0; rw [List.length_append, List.length_nil] at this; omega) ⟨_, rfl, ?_⟩)
   refine WL.y rfl (Yd.notB rfl) ?_
   refine WL.renamed (t := 68) (v := .bool true) rfl (congrArg Value.bool (by rfl)) ?_
   refine nt_ ?_
   refine WC.yes rfl ?_
   refine WC.seq ?_
   refine WC.draw 9 kr_ rfl ?_
   refine WA.y (i := 0) (NoPanic.then (NoPanic.then (NoPanic.body))) rfl kr_ kr_ kr_ rfl (Yd.move rfl) ?_
   refine WA.y (i := 1) (NoPanic.then (NoPanic.then (NoPanic.body))) rfl kr_ kr_ kr_ rfl (Yd.move rfl) ?_
   refine WA.y (i := 2) (NoPanic.then (NoPanic.then (NoPanic.body))) rfl kr_ kr_ kr_ rfl (Yd.move rfl) ?_
   refine WA.y (i := 3) (NoPanic.then (NoPanic.then (NoPanic.body))) rfl kr_ kr_ kr_ rfl (Yd.add rfl rfl (by omega) (by omega)) ?_
   refine WA.y (i := 4) (NoPanic.then (NoPanic.then (NoPanic.body))) rfl kr_ kr_ kr_ rfl (Yd.slFrom (i := i + 1) (e := 118) (s := 6) kr_ kr_ rfl rfl (by omega) (by omega) (by omega) (by omega)) ?_
   refine WA.y (i := 5) (NoPanic.then (NoPanic.then (NoPanic.body))) rfl kr_ kr_ kr_ rfl (Yd.move rfl) ?_
   refine WA.y (i := 6) (NoPanic.then (NoPanic.then (NoPanic.body))) rfl kr_ kr_ kr_ rfl (Yd.move rfl) ?_
   refine WA.y (i := 7) (NoPanic.then (NoPanic.then (NoPanic.body))) rfl kr_ kr_ kr_ rfl (Yd.slFrom (i := i) (e := 118) (s := 6) kr_ kr_ rfl rfl (by omega) (by omega) (by omega) (by omega)) ?_
   refine WA.one (i := 8) kr_ ?_
   refine WO.h rfl Wt.none rfl (Hd.copyR (q := n - i) (news := cells.drop (i * 6)) (e := 118) (sz := 6) (bytes := 80) (zs := [.int .u32 0, .int .i64 0, .bool false, .slice none 0 0, .int .i64 0, .slice none 0 0]) kr_ kr_ rfl rfl fr_ (.inr ⟨b, i * 6, cap - i, cells ++ extra, 118, (0, 0), true, rfl, by omega, mem_, by
       rw [List.drop_append_of_le_length (by omega), List.take_append_of_le_length (by omega), List.take_of_length_le (by omega)]⟩) (by show min _ _ = _; omega) hdl (fun u hu => h1 u (List.mem_of_mem_drop hu)) (by simp only [List.length_append, List.length_drop]; omega) rfl ⟨_, rfl, ?_⟩)
   refine WA.done kr_ ?_
   refine ts_ ?_
   refine WC.region ?_
   refine m_ rfl rfl ?_
   refine m_ rfl rfl ?_
   refine WL.y rfl (Yd.slFrom (i := i) (e := 118) (s := 6) kr_ kr_ rfl rfl (by omega) (by omega) (by omega) (by omega)) ?_
   refine m_ rfl rfl ?_
   have hfit := show i * 6 + x.length ≤ (List.take ((i + 1) * 6) (cells ++ extra) ++ (List.drop (i * 6) cells ++ List.drop ((i + 1) * 6 + (List.drop (i * 6) cells).length) (cells ++ extra))).length by
     rw [List.length_append, List.length_take, List.length_append, hcl, h5]; omega
   have hE : (i + 1) * 6 + (cells.drop (i * 6)).length ≤ (cells.take (i * 6)).length + ((cells.drop (i * 6)).length + extra.length) := by
     rw [htl, hdl, h5]; omega
   have ho : i * 6 + x.length = (i + 1) * 6 := by rw [hx]; omega
   have hcp := ins_c (cells.take (i * 6)) x extra (cells.drop (i * 6)) (i * 6) ((i + 1) * 6) htl ho hE
   rw [← List.append_assoc (cells.take (i * 6)) (cells.drop (i * 6)) extra, List.take_append_drop] at hcp
   refine WL.h rfl (Hd.copyR (cells' := cells.take (i * 6) ++ (x ++ (cells.drop (i * 6) ++ extra.drop x.length))) (q := 1) (e := 118) (sz := 6) (bytes := 80) (zs := [.int .u32 0, .int .i64 0, .bool false, .slice none 0 0, .int .i64 0, .slice none 0 0]) kr_ kr_ rfl rfl fr_ (.inr ⟨rb, 0, 1, x, 118, (0, 0), true, rfl, Nat.le_refl _, mem_, by simp⟩) (by show min _ _ = _; omega) (by omega) hx1 hfit hcp ⟨_, rfl, ?_⟩)
   refine ntsr_ ?_
   refine m_ rfl rfl ?_
   refine a_ rfl rfl ?_
   refine nt_ ?_
   refine WC.ret ?_
   refine DN.then_ret ?_
   refine DN.fit (C := [row b (cells.take (i * 6) ++ (x ++ (cells.drop (i * 6) ++ extra.drop x.length))) 118]) sp_ ?_
   refine DN.ret1 Tryz.results95 rfl ?_
   exact .inr ⟨b, cap, extra.drop x.length, rfl, by omega, by simp only [maxLen]; omega, by simp only [List.length_append]; omega, by simp only [List.length_drop]; omega, by simp only [List.append_assoc]⟩
end Go.Proofs.YtkamlondepceiaaGreat

set_option linter.unusedVariables false
set_option linter.unusedSimpArgs false
set_option maxHeartbeats 2000000
namespace Go.Proofs.YtkamlondepceiaaGreat
open Go.SL
theorem noteBad_of {n : Nt} (h : decide ((if noteBad n then (50 : Int) else 0) ≠ 0) = true) : noteBad n = true := by
  cases e : noteBad n with
  | true => rfl
  | false => rw [e] at h; exact absurd h (by decide)
theorem ask_tells (e : BitVec 32) (v : Value) (ks : List Kp) (H : List Ck) (hv : KV v ks H) (hl : ks.length ≤ 9223372036854775807) (n : Nt) (vk vd : Value) (hvk : Bs vk n.key H) (hvd : Bs vd n.data H) : Tells Tryz.prog 55 [.agg #[.int .u32 e.toNat, v], .agg (ntc n vk vd).toArray] H fun r H' => ∃ wa wr A B, r = .tuple #[.int .i64 (askK e ks n).1, .agg (kc (askK e ks n).2.1 wa wr).toArray, .int .i64 (askK e ks n).2.2] ∧ Ob 5 wa (askK e ks n).2.1.asked A ∧ Ob 5 wr (askK e ks n).2.1.reply B ∧ H' = A ++ (B ++ H) := by
 refine Tells.enter Tryz.func55 rfl Tryz.ntmps55 rfl ?_
 intro w0 R
 obtain ⟨ao, c, rfl, hc⟩ := hv.form
 obtain ⟨ko, kcap, rfl, hkc⟩ := hvk.form
 obtain ⟨do_, dc, rfl, hdc⟩ := hvd.form
 refine sr_ ?_
 refine WL.h rfl (Hd.boxA rfl fun b2 => ⟨_, rfl, ?_⟩)
 refine WL.h rfl (Hd.boxA rfl fun b3 => ⟨_, rfl, ?_⟩)
 refine a_ rfl rfl ?_
 refine WL.h rfl (Hd.alloc (zs := [.int .u32 0, .int .i64 0, .bool false, .slice none 0 0, .int .i64 0, .slice none 0 0]) kr_ fun b5 => ⟨_, rfl, ?_⟩)
 refine a_ rfl rfl ?_
 refine nt_ ?_
 refine WC.seq ?_
 refine WC.block ?_
 refine sr_ ?_
 refine WL.h rfl (Hd.loadAll (n := 2) kr_ rfl mem_ (by rfl) ⟨_, rfl, ?_⟩)
 refine WL.r rfl (Ent.func Tryz.call82 rfl) (check2_reads e _ ks _ (hv.mono gr_) hl) ?_
 refine WL.y rfl (Yd.neq rfl rfl) ?_
 refine m_ rfl rfl ?_
 refine WL.partP (t := 15) rfl (fun hg15 => ?_) (fun hg15 => ?_)
 ·iterate 3 refine gn_ 15 rfl rfl rfl rfl ?_
  refine WL.y rfl (Yd.pickT rfl rfl) ?_
  refine m_ rfl rfl ?_
  iterate 3 refine gn_ 20 rfl rfl rfl rfl ?_
  refine WL.y rfl (Yd.pickT rfl rfl) ?_
  refine m_ rfl rfl ?_
  iterate 3 refine gn_ 25 rfl rfl rfl rfl ?_
  refine WL.y rfl (Yd.pickT rfl rfl) ?_
  refine m_ rfl rfl ?_
  iterate 3 refine gn_ 30 rfl rfl rfl rfl ?_
  refine WL.y rfl (Yd.pickT rfl rfl) ?_
  refine a_ rfl rfl ?_
  refine nt_ ?_
  refine WC.yes rfl ?_
  refine sr_ ?_
  refine WL.y rfl (Yd.buildL (pl := [(0, 1), (1, 1), (2, 1), (3, 1), (4, 1), (5, 1)]) (zs := [.int .u32 0, .int .i64 0, .bool false, .slice none 0 0, .int .i64 0, .slice none 0 0]) (parts := []) (vs := []) (cells := [.int .u32 0, .int .i64 0, .bool false, .slice none 0 0, .int .i64 0, .slice none 0 0]) kr_ kr_ rfl rfl) ?_
  refine a_ rfl rfl ?_
  refine WL.s (Hd.storeAll (n := 6) kr_ rfl rfl (by rfl) one_ fr_ (by rfl) ⟨rfl, ?_⟩)
  refine a_ rfl rfl ?_
  refine nt_ ?_
  refine WC.ret ?_
  refine DN.block_ret ?_
  refine DN.then_ret ?_
  refine DN.retTCT (s := 6) (H) Tryz.results55 kr_ rfl rfl rfl mem_ (by rfl) sp_ ?_
  have hb : askBad ks n := by
    unfold askBad
    first
    | exact .inl (fun h => by simp only [if_pos h] at hg15; exact hg15 rfl)
    | exact .inr (.inl (by simpa using hg20))
    | exact .inr (.inr (.inl (noteBad_of hg25)))
    | exact .inr (.inr (.inr (.inl (by simpa using hg30))))
    | exact .inr (.inr (.inr (.inr (by simpa using h11))))
  rw [askK_arg hb]
  exact ⟨_, _, [], [], rfl, Ob.nil _, Ob.nil _, rfl⟩
 ·refine gy_ 15 rfl rfl rfl (Yd.fieldAddr (k := 0) kr_ rfl) ?_
  refine WL.gh (dj := 15) rfl rfl rfl (Hd.load1 kr_ rfl mem_ (by rfl) ⟨_, rfl, ?_⟩)
  refine gy_ 15 rfl rfl rfl (Yd.neq rfl rfl) ?_
  refine WL.y rfl (Yd.pickF rfl rfl) ?_
  refine m_ rfl rfl ?_
  refine WL.part (t := 20) rfl (fun hg20 => ?_) (fun hg20 => ?_)
  ·iterate 3 refine gn_ 20 rfl rfl rfl rfl ?_
   refine WL.y rfl (Yd.pickT rfl rfl) ?_
   refine m_ rfl rfl ?_
   iterate 3 refine gn_ 25 rfl rfl rfl rfl ?_
   refine WL.y rfl (Yd.pickT rfl rfl) ?_
   refine m_ rfl rfl ?_
   iterate 3 refine gn_ 30 rfl rfl rfl rfl ?_
   refine WL.y rfl (Yd.pickT rfl rfl) ?_
   refine a_ rfl rfl ?_
   refine nt_ ?_
   refine WC.yes rfl ?_
   refine sr_ ?_
   refine WL.y rfl (Yd.buildL (pl := [(0, 1), (1, 1), (2, 1), (3, 1), (4, 1), (5, 1)]) (zs := [.int .u32 0, .int .i64 0, .bool false, .slice none 0 0, .int .i64 0, .slice none 0 0]) (parts := []) (vs := []) (cells := [.int .u32 0, .int .i64 0, .bool false, .slice none 0 0, .int .i64 0, .slice none 0 0]) kr_ kr_ rfl rfl) ?_
   refine a_ rfl rfl ?_
   refine WL.s (Hd.storeAll (n := 6) kr_ rfl rfl (by rfl) one_ fr_ (by rfl) ⟨rfl, ?_⟩)
   refine a_ rfl rfl ?_
   refine nt_ ?_
   refine WC.ret ?_
   refine DN.block_ret ?_
   refine DN.then_ret ?_
   refine DN.retTCT (s := 6) (H) Tryz.results55 kr_ rfl rfl rfl mem_ (by rfl) sp_ ?_
   have hb : askBad ks n := by
     unfold askBad
     first
     | exact .inl (fun h => by simp only [if_pos h] at hg15; exact hg15 rfl)
     | exact .inr (.inl (by simpa using hg20))
     | exact .inr (.inr (.inl (noteBad_of hg25)))
     | exact .inr (.inr (.inr (.inl (by simpa using hg30))))
     | exact .inr (.inr (.inr (.inr (by simpa using h11))))
   rw [askK_arg hb]
   exact ⟨_, _, [], [], rfl, Ob.nil _, Ob.nil _, rfl⟩
  ·refine WL.gh (dj := 20) rfl rfl rfl (Hd.loadAll (n := 11) kr_ rfl mem_ (by rfl) ⟨_, rfl, ?_⟩)
   refine WL.gr (dj := 20) rfl rfl rfl (Ent.func Tryz.call83 rfl) (check_reads n (.slice ko _ kcap) (.slice do_ _ dc) ⟨_, _, rfl⟩ ⟨_, _, rfl⟩ _) ?_
   refine gy_ 20 rfl rfl rfl (Yd.neq rfl rfl) ?_
   refine WL.y rfl (Yd.pickF rfl rfl) ?_
   refine m_ rfl rfl ?_
   refine WL.part (t := 25) rfl (fun hg25 => ?_) (fun hg25 => ?_)
   ·iterate 3 refine gn_ 25 rfl rfl rfl rfl ?_
    refine WL.y rfl (Yd.pickT rfl rfl) ?_
    refine m_ rfl rfl ?_
    iterate 3 refine gn_ 30 rfl rfl rfl rfl ?_
    refine WL.y rfl (Yd.pickT rfl rfl) ?_
    refine a_ rfl rfl ?_
    refine nt_ ?_
    refine WC.yes rfl ?_
    refine sr_ ?_
    refine WL.y rfl (Yd.buildL (pl := [(0, 1), (1, 1), (2, 1), (3, 1), (4, 1), (5, 1)]) (zs := [.int .u32 0, .int .i64 0, .bool false, .slice none 0 0, .int .i64 0, .slice none 0 0]) (parts := []) (vs := []) (cells := [.int .u32 0, .int .i64 0, .bool false, .slice none 0 0, .int .i64 0, .slice none 0 0]) kr_ kr_ rfl rfl) ?_
    refine a_ rfl rfl ?_
    refine WL.s (Hd.storeAll (n := 6) kr_ rfl rfl (by rfl) one_ fr_ (by rfl) ⟨rfl, ?_⟩)
    refine a_ rfl rfl ?_
    refine nt_ ?_
    refine WC.ret ?_
    refine DN.block_ret ?_
    refine DN.then_ret ?_
    refine DN.retTCT (s := 6) (H) Tryz.results55 kr_ rfl rfl rfl mem_ (by rfl) sp_ ?_
    have hb : askBad ks n := by
      unfold askBad
      first
      | exact .inl (fun h => by simp only [if_pos h] at hg15; exact hg15 rfl)
      | exact .inr (.inl (by simpa using hg20))
      | exact .inr (.inr (.inl (noteBad_of hg25)))
      | exact .inr (.inr (.inr (.inl (by simpa using hg30))))
      | exact .inr (.inr (.inr (.inr (by simpa using h11))))
    rw [askK_arg hb]
    exact ⟨_, _, [], [], rfl, Ob.nil _, Ob.nil _, rfl⟩
   ·refine gy_ 25 rfl rfl rfl (Yd.fieldAddr (k := 1) kr_ rfl) ?_
    refine WL.gh (dj := 25) rfl rfl rfl (Hd.load1 kr_ rfl mem_ (by rfl) ⟨_, rfl, ?_⟩)
    refine gy_ 25 rfl rfl rfl (Yd.eql32 _ (0#32) rfl rfl rfl rfl) ?_
    refine WL.y rfl (Yd.pickF rfl rfl) ?_
    refine m_ rfl rfl ?_
    refine WL.part (t := 30) rfl (fun hg30 => ?_) (fun hg30 => ?_)
    ·iterate 3 refine gn_ 30 rfl rfl rfl rfl ?_
     refine WL.y rfl (Yd.pickT rfl rfl) ?_
     refine a_ rfl rfl ?_
     refine nt_ ?_
     refine WC.yes rfl ?_
     refine sr_ ?_
     refine WL.y rfl (Yd.buildL (pl := [(0, 1), (1, 1), (2, 1), (3, 1), (4, 1), (5, 1)]) (zs := [.int .u32 0, .int .i64 0, .bool false, .slice none 0 0, .int .i64 0, .slice none 0 0]) (parts := []) (vs := []) (cells := [.int .u32 0, .int .i64 0, .bool false, .slice none 0 0, .int .i64 0, .slice none 0 0]) kr_ kr_ rfl rfl) ?_
     refine a_ rfl rfl ?_
     refine WL.s (Hd.storeAll (n := 6) kr_ rfl rfl (by rfl) one_ fr_ (by rfl) ⟨rfl, ?_⟩)
     refine a_ rfl rfl ?_
     refine nt_ ?_
     refine WC.ret ?_
     refine DN.block_ret ?_
     refine DN.then_ret ?_
     refine DN.retTCT (s := 6) (H) Tryz.results55 kr_ rfl rfl rfl mem_ (by rfl) sp_ ?_
     have hb : askBad ks n := by
       unfold askBad
       first
       | exact .inl (fun h => by simp only [if_pos h] at hg15; exact hg15 rfl)
       | exact .inr (.inl (by simpa using hg20))
       | exact .inr (.inr (.inl (noteBad_of hg25)))
       | exact .inr (.inr (.inr (.inl (by simpa using hg30))))
       | exact .inr (.inr (.inr (.inr (by simpa using h11))))
     rw [askK_arg hb]
     exact ⟨_, _, [], [], rfl, Ob.nil _, Ob.nil _, rfl⟩
    ·refine gy_ 30 rfl rfl rfl (Yd.fieldAddr (k := 5) kr_ rfl) ?_
     refine WL.gh (dj := 30) rfl rfl rfl (Hd.load1 kr_ rfl mem_ (by rfl) ⟨_, rfl, ?_⟩)
     refine gy_ 30 rfl rfl rfl (Yd.eql32 _ (0#32) rfl rfl rfl rfl) ?_
     refine WL.y rfl (Yd.pickF rfl rfl) ?_
     refine a_ rfl rfl ?_
     refine nt_ ?_
     refine WC.cond rfl (fun h11 => ?_) (fun h11 => ?_)
     ·refine sr_ ?_
      refine WL.y rfl (Yd.buildL (pl := [(0, 1), (1, 1), (2, 1), (3, 1), (4, 1), (5, 1)]) (zs := [.int .u32 0, .int .i64 0, .bool false, .slice none 0 0, .int .i64 0, .slice none 0 0]) (parts := []) (vs := []) (cells := [.int .u32 0, .int .i64 0, .bool false, .slice none 0 0, .int .i64 0, .slice none 0 0]) kr_ kr_ rfl rfl) ?_
      refine a_ rfl rfl ?_
      refine WL.s (Hd.storeAll (n := 6) kr_ rfl rfl (by rfl) one_ fr_ (by rfl) ⟨rfl, ?_⟩)
      refine a_ rfl rfl ?_
      refine nt_ ?_
      refine WC.ret ?_
      refine DN.block_ret ?_
      refine DN.then_ret ?_
      refine DN.retTCT (s := 6) (H) Tryz.results55 kr_ rfl rfl rfl mem_ (by rfl) sp_ ?_
      have hb : askBad ks n := by
        unfold askBad
        first
        | exact .inl (fun h => by simp only [if_pos h] at hg15; exact hg15 rfl)
        | exact .inr (.inl (by simpa using hg20))
        | exact .inr (.inr (.inl (noteBad_of hg25)))
        | exact .inr (.inr (.inr (.inl (by simpa using hg30))))
        | exact .inr (.inr (.inr (.inr (by simpa using h11))))
      rw [askK_arg hb]
      exact ⟨_, _, [], [], rfl, Ob.nil _, Ob.nil _, rfl⟩
     ·refine sr_ ?_
      have hgood : ¬ askBad ks n := by
        rintro (h | h | h | h | h)
        · simp only [if_neg h] at hg15; revert hg15; decide
        · simp [h] at hg20
        · simp [h] at hg25
        · simp [h] at hg30
        · simp [h] at h11
      have hck : chk ks := Classical.byContradiction fun h => hgood (.inl h)
      have hst := noteBad_step (n := n) (by
        cases e9 : noteBad n
        · rfl
        · exact absurd (.inr (.inr (.inl e9))) hgood)
      refine f_ 1 kr_ rfl rfl ?_
      refine d_ kr_ rfl mem_ (by rfl) rfl ?_
      refine f_ 0 kr_ rfl rfl ?_
      refine d_ kr_ rfl mem_ (by rfl) rfl ?_
      refine WL.y rfl (Yd.lss rfl rfl) ?_
      refine a_ rfl rfl ?_
      refine nt_ ?_
      refine WC.ite rfl (fun h36 => ?_) (fun h36 => ?_)
      ·refine sr_ ?_
       refine WL.y rfl (Yd.buildL (pl := [(0, 1), (1, 1), (2, 1), (3, 1), (4, 1), (5, 1)]) (zs := [.int .u32 0, .int .i64 0, .bool false, .slice none 0 0, .int .i64 0, .slice none 0 0]) (parts := []) (vs := []) (cells := [.int .u32 0, .int .i64 0, .bool false, .slice none 0 0, .int .i64 0, .slice none 0 0]) kr_ kr_ rfl rfl) ?_
       refine a_ rfl rfl ?_
       refine WL.s (Hd.storeAll (n := 6) kr_ rfl rfl (by rfl) one_ fr_ (by rfl) ⟨rfl, ?_⟩)
       refine a_ rfl rfl ?_
       refine nt_ ?_
       refine WC.ret ?_
       refine DN.block_ret ?_
       refine DN.then_ret ?_
       refine DN.retTCT (s := 6) (H) Tryz.results55 kr_ rfl rfl rfl mem_ (by rfl) sp_ ?_
       rw [askK_old hgood (by omega)]
       exact ⟨_, _, [], [], rfl, Ob.nil _, Ob.nil _, rfl⟩
      ·refine WC.skip ?_
       refine DN.block_normal ?_
       refine ts_ ?_
       refine sr_ ?_
       refine WL.h rfl (Hd.loadAll (n := 2) kr_ rfl mem_ (by rfl) ⟨_, rfl, ?_⟩)
       refine f_ 5 kr_ rfl rfl ?_
       refine d_ kr_ rfl mem_ (by rfl) rfl ?_
       refine f_ 6 kr_ rfl rfl ?_
       refine d_ kr_ rfl mem_ (by rfl) rfl ?_
       refine f_ 7 kr_ rfl rfl ?_
       refine d_ kr_ rfl mem_ (by rfl) rfl ?_
       refine WL.c rfl (Ent.func Tryz.call84 rfl) (find2_tells e _ ks H hv hl n.order n.step n.undo) (Sp.p sp_) ?_
       rintro x H1 ⟨wa, wr, A, B, rfl, hA, hB, rfl⟩
       obtain ⟨fk, hfk⟩ : ∃ q, q = findF ks n.order n.step n.undo := ⟨_, rfl⟩
       rw [← hfk] at hA hB ⊢
       rw [findF_ok hck hst.1 hst.2.1] at hfk
       obtain ⟨oa, ca, rfl, _⟩ := hA.form
       obtain ⟨or, cr, rfl, _⟩ := hB.form
       refine m_ rfl rfl ?_
       refine x_ rfl rfl rfl ?_
       refine x_ rfl rfl rfl ?_
       refine WL.h rfl (Hd.alloc (zs := [.int .u32 0, .int .i64 0, .bool false, .slice none 0 0, .int .i64 0, .slice none 0 0]) kr_ fun b7 => ⟨_, rfl, ?_⟩)
       refine WL.s (Hd.storeAll (n := 6) kr_ rfl rfl (by rfl) (kc_one rfl rfl) fr_ (by rfl) ⟨rfl, ?_⟩)
       refine a_ rfl rfl ?_
       refine ntsr_ ?_
       refine m_ rfl rfl ?_
       refine nt_ ?_
       refine WC.cond rfl (fun h54 => ?_) (fun h54 => ?_)
       ·obtain ⟨k1, rfl⟩ := Option.isSome_iff_exists.1 h54
        refine WC.seq ?_
        refine sr_ ?_
        refine f_ 3 kr_ rfl rfl ?_
        refine d_ kr_ rfl mem_ (by rfl) rfl ?_
        refine WL.h rfl (Hd.toStr (e := 5) (bs := ((some k1).getD Kp.z).asked) kr_ kr_ Tryz.underlying9 rfl (hA.bs.mono gr_) ⟨_, rfl, ?_⟩)
        refine f_ 10 kr_ rfl rfl ?_
        refine d_ kr_ rfl mem_ (by rfl) rfl ?_
        refine WL.h rfl (Hd.toStr (e := 5) (bs := n.data) kr_ kr_ Tryz.underlying9 rfl (hvd.mono gr_) ⟨_, rfl, ?_⟩)
        refine WL.y rfl (Yd.neqS rfl rfl) ?_
        refine nt_ ?_
        refine WC.ite rfl (fun h61 => ?_) (fun h61 => ?_)
        ·refine sr_ ?_
         refine WL.y rfl (Yd.buildL (pl := [(0, 1), (1, 1), (2, 1), (3, 1), (4, 1), (5, 1)]) (zs := [.int .u32 0, .int .i64 0, .bool false, .slice none 0 0, .int .i64 0, .slice none 0 0]) (parts := []) (vs := []) (cells := [.int .u32 0, .int .i64 0, .bool false, .slice none 0 0, .int .i64 0, .slice none 0 0]) kr_ kr_ rfl rfl) ?_
         refine a_ rfl rfl ?_
         refine WL.s (Hd.storeAll (n := 6) kr_ rfl rfl (by rfl) one_ fr_ (by rfl) ⟨rfl, ?_⟩)
         refine a_ rfl rfl ?_
         refine nt_ ?_
         refine WC.ret ?_
         refine DN.then_ret ?_
         refine DN.then_ret ?_
         refine DN.retTCT (s := 6) (H) Tryz.results55 kr_ rfl rfl rfl mem_ (by rfl) sp_ ?_
         rw [askK_clash hgood (by omega) hfk.symm (fun h => h61 (congrArg str h))]
         exact ⟨_, _, [], [], rfl, Ob.nil _, Ob.nil _, rfl⟩
        ·refine WC.skip ?_
         refine ts_ ?_
         refine WC.draw 4 kr_ rfl ?_
         refine WA.y (i := 1) (NoPanic.then (NoPanic.then (NoPanic.body))) rfl kr_ kr_ kr_ rfl (Yd.assign rfl) ?_
         refine WA.one (i := 0) kr_ ?_
         refine WO.h rfl Wt.none rfl (Hd.loadAll (n := 6) kr_ rfl mem_ (by rfl) ⟨_, rfl, ?_⟩)
         refine WA.one (i := 2) kr_ ?_
         refine WO.s rfl Wt.none (Hd.storeAll (n := 6) kr_ rfl rfl (by rfl) (kc_one rfl rfl) fr_ (by rfl) ⟨rfl, ?_⟩)
         refine WA.y (i := 3) (NoPanic.then (NoPanic.then (NoPanic.body))) rfl kr_ kr_ kr_ rfl (Yd.assign rfl) ?_
         refine WA.done kr_ ?_
         refine DN.then_normal ?_
         refine WC.ret ?_
         refine DN.then_ret ?_
         refine DN.retTCT (s := 6) (A ++ (B ++ H)) Tryz.results55 kr_ rfl rfl rfl mem_ (by rfl) sp_ ?_
         rw [askK_again hgood (by omega) hfk.symm (Classical.byContradiction fun h => h61 fun h9 => h (str_inj.1 h9))]
         exact ⟨_, _, A, B, rfl, hA, hB, rfl⟩
       ·obtain rfl : fk = none := by simpa using h54
        refine WC.skip ?_
        refine ts_ ?_
        refine WC.region ?_
        refine WL.h rfl (Hd.loadAll (n := 2) kr_ rfl mem_ (by rfl) ⟨_, rfl, ?_⟩)
        refine f_ 5 kr_ rfl rfl ?_
        refine d_ kr_ rfl mem_ (by rfl) rfl ?_
        refine f_ 6 kr_ rfl rfl ?_
        refine d_ kr_ rfl mem_ (by rfl) rfl ?_
        refine f_ 7 kr_ rfl rfl ?_
        refine d_ kr_ rfl mem_ (by rfl) rfl ?_
        refine WL.y rfl (Yd.notB rfl) ?_
        refine WL.c rfl (Ent.func Tryz.call84 rfl) (find2_tells e _ ks H hv hl n.order n.step (!n.undo)) (Sp.p sp_) ?_
        rintro x H1 ⟨wa2, wr2, A2, B2, rfl, hA2, hB2, rfl⟩
        obtain ⟨gk, hgk⟩ : ∃ q, q = findF ks n.order n.step (!n.undo) := ⟨_, rfl⟩
        rw [← hgk] at hA2 hB2 ⊢
        rw [findF_ok hck hst.1 hst.2.1] at hgk
        obtain ⟨oa2, ca2, rfl, _⟩ := hA2.form
        obtain ⟨or2, cr2, rfl, _⟩ := hB2.form
        refine m_ rfl rfl ?_
        refine x_ rfl rfl rfl ?_
        refine x_ rfl rfl rfl ?_
        refine WL.h rfl (Hd.alloc (zs := [.int .u32 0, .int .i64 0, .bool false, .slice none 0 0, .int .i64 0, .slice none 0 0]) kr_ fun b9 => ⟨_, rfl, ?_⟩)
        refine WL.s (Hd.storeAll (n := 6) kr_ rfl rfl (by rfl) (kc_one rfl rfl) fr_ (by rfl) ⟨rfl, ?_⟩)
        refine a_ rfl rfl ?_
        refine nt_ ?_
        refine WC.seq ?_
        refine WC.block ?_
        refine sr_ ?_
        refine f_ 7 kr_ rfl rfl ?_
        refine d_ kr_ rfl mem_ (by rfl) rfl ?_
        refine WL.y rfl (Yd.notB rfl) ?_
        refine m_ rfl rfl ?_
        refine WL.part (t := 80) rfl (fun hg80 => ?_) (fun hg80 => ?_)
        ·refine gy_ 80 rfl rfl rfl (Yd.move rfl) ?_
         refine WL.y rfl (Yd.pickT rfl rfl) ?_
         refine a_ rfl rfl ?_
         refine nt_ ?_
         refine WC.cond rfl (fun h76 => ?_) (fun h76 => ?_)
         ·refine sr_ ?_
          refine WL.y rfl (Yd.buildL (pl := [(0, 1), (1, 1), (2, 1), (3, 1), (4, 1), (5, 1)]) (zs := [.int .u32 0, .int .i64 0, .bool false, .slice none 0 0, .int .i64 0, .slice none 0 0]) (parts := []) (vs := []) (cells := [.int .u32 0, .int .i64 0, .bool false, .slice none 0 0, .int .i64 0, .slice none 0 0]) kr_ kr_ rfl rfl) ?_
          refine a_ rfl rfl ?_
          refine WL.s (Hd.storeAll (n := 6) kr_ rfl rfl (by rfl) one_ fr_ (by rfl) ⟨rfl, ?_⟩)
          refine a_ rfl rfl ?_
          refine nt_ ?_
          refine WC.ret ?_
          refine DN.block_ret ?_
          refine DN.then_ret ?_
          refine DN.retTCT (s := 6) (H) Tryz.results55 kr_ rfl rfl rfl mem_ (by rfl) sp_ ?_
          first
          | (have e9 : askK e ks n = (3, Kp.z, 0) := by rw [askK_two hgood (by omega) hfk.symm hgk]; exact if_pos ⟨by simpa using hg80, h76⟩
             rw [e9]
             exact ⟨_, _, [], [], rfl, Ob.nil _, Ob.nil _, rfl⟩)
          | (have e9 : askK e ks n = (4, Kp.z, 0) := by
               rw [askK_two hgood (by omega) hfk.symm hgk, if_neg (by rintro ⟨h5, h6⟩; rw [hg87] at h5; cases h5)]
               first
               | exact if_pos ⟨hg87, .inl (by simpa using hg90)⟩
               | exact if_pos ⟨hg87, .inr (by simpa using h84)⟩
             rw [e9]
             exact ⟨_, _, [], [], rfl, Ob.nil _, Ob.nil _, rfl⟩)
          | (have e9 : askK e ks n = (1, Kp.z, 0) := by
               rw [askK_two hgood (by omega) hfk.symm hgk]
               first
               | rw [if_neg (by rintro ⟨h5, h6⟩; rw [hg87] at h5; cases h5), if_neg (by
                   rintro ⟨h5, h6⟩
                   exact h6.elim (fun h6 => by rw [h6] at hg90; exact absurd hg90 (by decide)) (fun h6 => absurd h6 (by simpa using h84)))]
               | rw [if_neg (by
                   rintro ⟨h5, h6⟩
                   first
                   | (rw [h6] at h76; exact absurd h76 (by decide))
                   | (rw [h5] at hg80; exact absurd hg80 (by decide))), if_neg (by rintro ⟨h5, h6⟩; rw [hg87] at h5; cases h5)]
             rw [e9]
             exact ⟨_, _, [], [], rfl, Ob.nil _, Ob.nil _, rfl⟩)
         ·refine sr_ ?_
          refine f_ 7 kr_ rfl rfl ?_
          refine d_ kr_ rfl mem_ (by rfl) rfl ?_
          refine m_ rfl rfl ?_
          refine WL.part (t := 87) rfl (fun hg87 => ?_) (fun hg87 => ?_)
          ·refine gy_ 87 rfl rfl rfl (Yd.move rfl) ?_
           refine gy_ 87 rfl rfl rfl (Yd.notB rfl) ?_
           refine gy_ 87 rfl rfl rfl (Yd.move rfl) ?_
           refine WL.part (t := 90) rfl (fun hg90 => ?_) (fun hg90 => ?_)
           ·iterate 3 refine gn_ 90 rfl rfl rfl rfl ?_
            refine gy_ 87 rfl rfl rfl (Yd.pickT rfl rfl) ?_
            refine WL.y rfl (Yd.pickT rfl rfl) ?_
            refine a_ rfl rfl ?_
            refine nt_ ?_
            refine WC.yes rfl ?_
            refine sr_ ?_
            refine WL.y rfl (Yd.buildL (pl := [(0, 1), (1, 1), (2, 1), (3, 1), (4, 1), (5, 1)]) (zs := [.int .u32 0, .int .i64 0, .bool false, .slice none 0 0, .int .i64 0, .slice none 0 0]) (parts := []) (vs := []) (cells := [.int .u32 0, .int .i64 0, .bool false, .slice none 0 0, .int .i64 0, .slice none 0 0]) kr_ kr_ rfl rfl) ?_
            refine a_ rfl rfl ?_
            refine WL.s (Hd.storeAll (n := 6) kr_ rfl rfl (by rfl) one_ fr_ (by rfl) ⟨rfl, ?_⟩)
            refine a_ rfl rfl ?_
            refine nt_ ?_
            refine WC.ret ?_
            refine DN.block_ret ?_
            refine DN.then_ret ?_
            refine DN.retTCT (s := 6) (H) Tryz.results55 kr_ rfl rfl rfl mem_ (by rfl) sp_ ?_
            first
            | (have e9 : askK e ks n = (3, Kp.z, 0) := by rw [askK_two hgood (by omega) hfk.symm hgk]; exact if_pos ⟨by simpa using hg80, h76⟩
               rw [e9]
               exact ⟨_, _, [], [], rfl, Ob.nil _, Ob.nil _, rfl⟩)
            | (have e9 : askK e ks n = (4, Kp.z, 0) := by
                 rw [askK_two hgood (by omega) hfk.symm hgk, if_neg (by rintro ⟨h5, h6⟩; rw [hg87] at h5; cases h5)]
                 first
                 | exact if_pos ⟨hg87, .inl (by simpa using hg90)⟩
                 | exact if_pos ⟨hg87, .inr (by simpa using h84)⟩
               rw [e9]
               exact ⟨_, _, [], [], rfl, Ob.nil _, Ob.nil _, rfl⟩)
            | (have e9 : askK e ks n = (1, Kp.z, 0) := by
                 rw [askK_two hgood (by omega) hfk.symm hgk]
                 first
                 | rw [if_neg (by rintro ⟨h5, h6⟩; rw [hg87] at h5; cases h5), if_neg (by
                     rintro ⟨h5, h6⟩
                     exact h6.elim (fun h6 => by rw [h6] at hg90; exact absurd hg90 (by decide)) (fun h6 => absurd h6 (by simpa using h84)))]
                 | rw [if_neg (by
                     rintro ⟨h5, h6⟩
                     first
                     | (rw [h6] at h76; exact absurd h76 (by decide))
                     | (rw [h5] at hg80; exact absurd hg80 (by decide))), if_neg (by rintro ⟨h5, h6⟩; rw [hg87] at h5; cases h5)]
               rw [e9]
               exact ⟨_, _, [], [], rfl, Ob.nil _, Ob.nil _, rfl⟩)
           ·refine gy_ 90 rfl rfl rfl (Yd.fieldAddr (k := 4) kr_ rfl) ?_
            refine WL.gh (dj := 90) rfl rfl rfl (Hd.load1 kr_ rfl mem_ (by rfl) ⟨_, rfl, ?_⟩)
            refine gy_ 90 rfl rfl rfl (Yd.eql rfl rfl) ?_
            refine gy_ 87 rfl rfl rfl (Yd.pickF rfl rfl) ?_
            refine WL.y rfl (Yd.pickT rfl rfl) ?_
            refine a_ rfl rfl ?_
            refine nt_ ?_
            refine WC.cond rfl (fun h84 => ?_) (fun h84 => ?_)
            ·refine sr_ ?_
             refine WL.y rfl (Yd.buildL (pl := [(0, 1), (1, 1), (2, 1), (3, 1), (4, 1), (5, 1)]) (zs := [.int .u32 0, .int .i64 0, .bool false, .slice none 0 0, .int .i64 0, .slice none 0 0]) (parts := []) (vs := []) (cells := [.int .u32 0, .int .i64 0, .bool false, .slice none 0 0, .int .i64 0, .slice none 0 0]) kr_ kr_ rfl rfl) ?_
             refine a_ rfl rfl ?_
             refine WL.s (Hd.storeAll (n := 6) kr_ rfl rfl (by rfl) one_ fr_ (by rfl) ⟨rfl, ?_⟩)
             refine a_ rfl rfl ?_
             refine nt_ ?_
             refine WC.ret ?_
             refine DN.block_ret ?_
             refine DN.then_ret ?_
             refine DN.retTCT (s := 6) (H) Tryz.results55 kr_ rfl rfl rfl mem_ (by rfl) sp_ ?_
             first
             | (have e9 : askK e ks n = (3, Kp.z, 0) := by rw [askK_two hgood (by omega) hfk.symm hgk]; exact if_pos ⟨by simpa using hg80, h76⟩
                rw [e9]
                exact ⟨_, _, [], [], rfl, Ob.nil _, Ob.nil _, rfl⟩)
             | (have e9 : askK e ks n = (4, Kp.z, 0) := by
                  rw [askK_two hgood (by omega) hfk.symm hgk, if_neg (by rintro ⟨h5, h6⟩; rw [hg87] at h5; cases h5)]
                  first
                  | exact if_pos ⟨hg87, .inl (by simpa using hg90)⟩
                  | exact if_pos ⟨hg87, .inr (by simpa using h84)⟩
                rw [e9]
                exact ⟨_, _, [], [], rfl, Ob.nil _, Ob.nil _, rfl⟩)
             | (have e9 : askK e ks n = (1, Kp.z, 0) := by
                  rw [askK_two hgood (by omega) hfk.symm hgk]
                  first
                  | rw [if_neg (by rintro ⟨h5, h6⟩; rw [hg87] at h5; cases h5), if_neg (by
                      rintro ⟨h5, h6⟩
                      exact h6.elim (fun h6 => by rw [h6] at hg90; exact absurd hg90 (by decide)) (fun h6 => absurd h6 (by simpa using h84)))]
                  | rw [if_neg (by
                      rintro ⟨h5, h6⟩
                      first
                      | (rw [h6] at h76; exact absurd h76 (by decide))
                      | (rw [h5] at hg80; exact absurd hg80 (by decide))), if_neg (by rintro ⟨h5, h6⟩; rw [hg87] at h5; cases h5)]
                rw [e9]
                exact ⟨_, _, [], [], rfl, Ob.nil _, Ob.nil _, rfl⟩)
            ·refine WC.skip ?_
             refine DN.block_normal ?_
             refine ts_ ?_
             refine WC.region ?_
             refine WL.y rfl (Yd.buildL (pl := [(0, 1), (1, 1), (2, 1), (3, 1), (4, 1), (5, 1)]) (zs := [.int .u32 0, .int .i64 0, .bool false, .slice none 0 0, .int .i64 0, .slice none 0 0]) (parts := []) (vs := []) (cells := [.int .u32 0, .int .i64 0, .bool false, .slice none 0 0, .int .i64 0, .slice none 0 0]) kr_ kr_ rfl rfl) ?_
             refine a_ rfl rfl ?_
             refine WL.s (Hd.storeAll (n := 6) kr_ rfl rfl (by rfl) one_ fr_ (by rfl) ⟨rfl, ?_⟩)
             refine a_ rfl rfl ?_
             refine nt_ ?_
             refine WC.ret ?_
             refine DN.retTCT (s := 6) (H) Tryz.results55 kr_ rfl rfl rfl mem_ (by rfl) sp_ ?_
             first
             | (have e9 : askK e ks n = (3, Kp.z, 0) := by rw [askK_two hgood (by omega) hfk.symm hgk]; exact if_pos ⟨by simpa using hg80, h76⟩
                rw [e9]
                exact ⟨_, _, [], [], rfl, Ob.nil _, Ob.nil _, rfl⟩)
             | (have e9 : askK e ks n = (4, Kp.z, 0) := by
                  rw [askK_two hgood (by omega) hfk.symm hgk, if_neg (by rintro ⟨h5, h6⟩; rw [hg87] at h5; cases h5)]
                  first
                  | exact if_pos ⟨hg87, .inl (by simpa using hg90)⟩
                  | exact if_pos ⟨hg87, .inr (by simpa using h84)⟩
                rw [e9]
                exact ⟨_, _, [], [], rfl, Ob.nil _, Ob.nil _, rfl⟩)
             | (have e9 : askK e ks n = (1, Kp.z, 0) := by
                  rw [askK_two hgood (by omega) hfk.symm hgk]
                  first
                  | rw [if_neg (by rintro ⟨h5, h6⟩; rw [hg87] at h5; cases h5), if_neg (by
                      rintro ⟨h5, h6⟩
                      exact h6.elim (fun h6 => by rw [h6] at hg90; exact absurd hg90 (by decide)) (fun h6 => absurd h6 (by simpa using h84)))]
                  | rw [if_neg (by
                      rintro ⟨h5, h6⟩
                      first
                      | (rw [h6] at h76; exact absurd h76 (by decide))
                      | (rw [h5] at hg80; exact absurd hg80 (by decide))), if_neg (by rintro ⟨h5, h6⟩; rw [hg87] at h5; cases h5)]
                rw [e9]
                exact ⟨_, _, [], [], rfl, Ob.nil _, Ob.nil _, rfl⟩)
          ·iterate 3 refine gn_ 87 rfl rfl rfl rfl ?_
           iterate 3 refine gu_ 90 rfl rfl rfl ?_
           refine gn_ 87 rfl rfl rfl rfl ?_
           refine WL.y rfl (Yd.pickF rfl rfl) ?_
           refine a_ rfl rfl ?_
           refine nt_ ?_
           refine WC.no rfl ?_
           refine WC.skip ?_
           refine DN.block_normal ?_
           refine ts_ ?_
           refine WC.region ?_
           refine WL.y rfl (Yd.buildL (pl := [(0, 1), (1, 1), (2, 1), (3, 1), (4, 1), (5, 1)]) (zs := [.int .u32 0, .int .i64 0, .bool false, .slice none 0 0, .int .i64 0, .slice none 0 0]) (parts := []) (vs := []) (cells := [.int .u32 0, .int .i64 0, .bool false, .slice none 0 0, .int .i64 0, .slice none 0 0]) kr_ kr_ rfl rfl) ?_
           refine a_ rfl rfl ?_
           refine WL.s (Hd.storeAll (n := 6) kr_ rfl rfl (by rfl) one_ fr_ (by rfl) ⟨rfl, ?_⟩)
           refine a_ rfl rfl ?_
           refine nt_ ?_
           refine WC.ret ?_
           refine DN.retTCT (s := 6) (H) Tryz.results55 kr_ rfl rfl rfl mem_ (by rfl) sp_ ?_
           first
           | (have e9 : askK e ks n = (3, Kp.z, 0) := by rw [askK_two hgood (by omega) hfk.symm hgk]; exact if_pos ⟨by simpa using hg80, h76⟩
              rw [e9]
              exact ⟨_, _, [], [], rfl, Ob.nil _, Ob.nil _, rfl⟩)
           | (have e9 : askK e ks n = (4, Kp.z, 0) := by
                rw [askK_two hgood (by omega) hfk.symm hgk, if_neg (by rintro ⟨h5, h6⟩; rw [hg87] at h5; cases h5)]
                first
                | exact if_pos ⟨hg87, .inl (by simpa using hg90)⟩
                | exact if_pos ⟨hg87, .inr (by simpa using h84)⟩
              rw [e9]
              exact ⟨_, _, [], [], rfl, Ob.nil _, Ob.nil _, rfl⟩)
           | (have e9 : askK e ks n = (1, Kp.z, 0) := by
                rw [askK_two hgood (by omega) hfk.symm hgk]
                first
                | rw [if_neg (by rintro ⟨h5, h6⟩; rw [hg87] at h5; cases h5), if_neg (by
                    rintro ⟨h5, h6⟩
                    exact h6.elim (fun h6 => by rw [h6] at hg90; exact absurd hg90 (by decide)) (fun h6 => absurd h6 (by simpa using h84)))]
                | rw [if_neg (by
                    rintro ⟨h5, h6⟩
                    first
                    | (rw [h6] at h76; exact absurd h76 (by decide))
                    | (rw [h5] at hg80; exact absurd hg80 (by decide))), if_neg (by rintro ⟨h5, h6⟩; rw [hg87] at h5; cases h5)]
              rw [e9]
              exact ⟨_, _, [], [], rfl, Ob.nil _, Ob.nil _, rfl⟩)
        ·refine gn_ 80 rfl rfl rfl rfl ?_
         refine WL.y rfl (Yd.pickF rfl rfl) ?_
         refine a_ rfl rfl ?_
         refine nt_ ?_
         refine WC.no rfl ?_
         refine sr_ ?_
         refine f_ 7 kr_ rfl rfl ?_
         refine d_ kr_ rfl mem_ (by rfl) rfl ?_
         refine m_ rfl rfl ?_
         refine WL.part (t := 87) rfl (fun hg87 => ?_) (fun hg87 => ?_)
         ·refine gy_ 87 rfl rfl rfl (Yd.move rfl) ?_
          refine gy_ 87 rfl rfl rfl (Yd.notB rfl) ?_
          refine gy_ 87 rfl rfl rfl (Yd.move rfl) ?_
          refine WL.part (t := 90) rfl (fun hg90 => ?_) (fun hg90 => ?_)
          ·iterate 3 refine gn_ 90 rfl rfl rfl rfl ?_
           refine gy_ 87 rfl rfl rfl (Yd.pickT rfl rfl) ?_
           refine WL.y rfl (Yd.pickT rfl rfl) ?_
           refine a_ rfl rfl ?_
           refine nt_ ?_
           refine WC.yes rfl ?_
           refine sr_ ?_
           refine WL.y rfl (Yd.buildL (pl := [(0, 1), (1, 1), (2, 1), (3, 1), (4, 1), (5, 1)]) (zs := [.int .u32 0, .int .i64 0, .bool false, .slice none 0 0, .int .i64 0, .slice none 0 0]) (parts := []) (vs := []) (cells := [.int .u32 0, .int .i64 0, .bool false, .slice none 0 0, .int .i64 0, .slice none 0 0]) kr_ kr_ rfl rfl) ?_
           refine a_ rfl rfl ?_
           refine WL.s (Hd.storeAll (n := 6) kr_ rfl rfl (by rfl) one_ fr_ (by rfl) ⟨rfl, ?_⟩)
           refine a_ rfl rfl ?_
           refine nt_ ?_
           refine WC.ret ?_
           refine DN.block_ret ?_
           refine DN.then_ret ?_
           refine DN.retTCT (s := 6) (H) Tryz.results55 kr_ rfl rfl rfl mem_ (by rfl) sp_ ?_
           first
           | (have e9 : askK e ks n = (3, Kp.z, 0) := by rw [askK_two hgood (by omega) hfk.symm hgk]; exact if_pos ⟨by simpa using hg80, h76⟩
              rw [e9]
              exact ⟨_, _, [], [], rfl, Ob.nil _, Ob.nil _, rfl⟩)
           | (have e9 : askK e ks n = (4, Kp.z, 0) := by
                rw [askK_two hgood (by omega) hfk.symm hgk, if_neg (by rintro ⟨h5, h6⟩; rw [hg87] at h5; cases h5)]
                first
                | exact if_pos ⟨hg87, .inl (by simpa using hg90)⟩
                | exact if_pos ⟨hg87, .inr (by simpa using h84)⟩
              rw [e9]
              exact ⟨_, _, [], [], rfl, Ob.nil _, Ob.nil _, rfl⟩)
           | (have e9 : askK e ks n = (1, Kp.z, 0) := by
                rw [askK_two hgood (by omega) hfk.symm hgk]
                first
                | rw [if_neg (by rintro ⟨h5, h6⟩; rw [hg87] at h5; cases h5), if_neg (by
                    rintro ⟨h5, h6⟩
                    exact h6.elim (fun h6 => by rw [h6] at hg90; exact absurd hg90 (by decide)) (fun h6 => absurd h6 (by simpa using h84)))]
                | rw [if_neg (by
                    rintro ⟨h5, h6⟩
                    first
                    | (rw [h6] at h76; exact absurd h76 (by decide))
                    | (rw [h5] at hg80; exact absurd hg80 (by decide))), if_neg (by rintro ⟨h5, h6⟩; rw [hg87] at h5; cases h5)]
              rw [e9]
              exact ⟨_, _, [], [], rfl, Ob.nil _, Ob.nil _, rfl⟩)
          ·refine gy_ 90 rfl rfl rfl (Yd.fieldAddr (k := 4) kr_ rfl) ?_
           refine WL.gh (dj := 90) rfl rfl rfl (Hd.load1 kr_ rfl mem_ (by rfl) ⟨_, rfl, ?_⟩)
           refine gy_ 90 rfl rfl rfl (Yd.eql rfl rfl) ?_
           refine gy_ 87 rfl rfl rfl (Yd.pickF rfl rfl) ?_
           refine WL.y rfl (Yd.pickT rfl rfl) ?_
           refine a_ rfl rfl ?_
           refine nt_ ?_
           refine WC.cond rfl (fun h84 => ?_) (fun h84 => ?_)
           ·refine sr_ ?_
            refine WL.y rfl (Yd.buildL (pl := [(0, 1), (1, 1), (2, 1), (3, 1), (4, 1), (5, 1)]) (zs := [.int .u32 0, .int .i64 0, .bool false, .slice none 0 0, .int .i64 0, .slice none 0 0]) (parts := []) (vs := []) (cells := [.int .u32 0, .int .i64 0, .bool false, .slice none 0 0, .int .i64 0, .slice none 0 0]) kr_ kr_ rfl rfl) ?_
            refine a_ rfl rfl ?_
            refine WL.s (Hd.storeAll (n := 6) kr_ rfl rfl (by rfl) one_ fr_ (by rfl) ⟨rfl, ?_⟩)
            refine a_ rfl rfl ?_
            refine nt_ ?_
            refine WC.ret ?_
            refine DN.block_ret ?_
            refine DN.then_ret ?_
            refine DN.retTCT (s := 6) (H) Tryz.results55 kr_ rfl rfl rfl mem_ (by rfl) sp_ ?_
            first
            | (have e9 : askK e ks n = (3, Kp.z, 0) := by rw [askK_two hgood (by omega) hfk.symm hgk]; exact if_pos ⟨by simpa using hg80, h76⟩
               rw [e9]
               exact ⟨_, _, [], [], rfl, Ob.nil _, Ob.nil _, rfl⟩)
            | (have e9 : askK e ks n = (4, Kp.z, 0) := by
                 rw [askK_two hgood (by omega) hfk.symm hgk, if_neg (by rintro ⟨h5, h6⟩; rw [hg87] at h5; cases h5)]
                 first
                 | exact if_pos ⟨hg87, .inl (by simpa using hg90)⟩
                 | exact if_pos ⟨hg87, .inr (by simpa using h84)⟩
               rw [e9]
               exact ⟨_, _, [], [], rfl, Ob.nil _, Ob.nil _, rfl⟩)
            | (have e9 : askK e ks n = (1, Kp.z, 0) := by
                 rw [askK_two hgood (by omega) hfk.symm hgk]
                 first
                 | rw [if_neg (by rintro ⟨h5, h6⟩; rw [hg87] at h5; cases h5), if_neg (by
                     rintro ⟨h5, h6⟩
                     exact h6.elim (fun h6 => by rw [h6] at hg90; exact absurd hg90 (by decide)) (fun h6 => absurd h6 (by simpa using h84)))]
                 | rw [if_neg (by
                     rintro ⟨h5, h6⟩
                     first
                     | (rw [h6] at h76; exact absurd h76 (by decide))
                     | (rw [h5] at hg80; exact absurd hg80 (by decide))), if_neg (by rintro ⟨h5, h6⟩; rw [hg87] at h5; cases h5)]
               rw [e9]
               exact ⟨_, _, [], [], rfl, Ob.nil _, Ob.nil _, rfl⟩)
           ·refine WC.skip ?_
            refine DN.block_normal ?_
            refine ts_ ?_
            refine WC.region ?_
            refine WL.y rfl (Yd.buildL (pl := [(0, 1), (1, 1), (2, 1), (3, 1), (4, 1), (5, 1)]) (zs := [.int .u32 0, .int .i64 0, .bool false, .slice none 0 0, .int .i64 0, .slice none 0 0]) (parts := []) (vs := []) (cells := [.int .u32 0, .int .i64 0, .bool false, .slice none 0 0, .int .i64 0, .slice none 0 0]) kr_ kr_ rfl rfl) ?_
            refine a_ rfl rfl ?_
            refine WL.s (Hd.storeAll (n := 6) kr_ rfl rfl (by rfl) one_ fr_ (by rfl) ⟨rfl, ?_⟩)
            refine a_ rfl rfl ?_
            refine nt_ ?_
            refine WC.ret ?_
            refine DN.retTCT (s := 6) (H) Tryz.results55 kr_ rfl rfl rfl mem_ (by rfl) sp_ ?_
            first
            | (have e9 : askK e ks n = (3, Kp.z, 0) := by rw [askK_two hgood (by omega) hfk.symm hgk]; exact if_pos ⟨by simpa using hg80, h76⟩
               rw [e9]
               exact ⟨_, _, [], [], rfl, Ob.nil _, Ob.nil _, rfl⟩)
            | (have e9 : askK e ks n = (4, Kp.z, 0) := by
                 rw [askK_two hgood (by omega) hfk.symm hgk, if_neg (by rintro ⟨h5, h6⟩; rw [hg87] at h5; cases h5)]
                 first
                 | exact if_pos ⟨hg87, .inl (by simpa using hg90)⟩
                 | exact if_pos ⟨hg87, .inr (by simpa using h84)⟩
               rw [e9]
               exact ⟨_, _, [], [], rfl, Ob.nil _, Ob.nil _, rfl⟩)
            | (have e9 : askK e ks n = (1, Kp.z, 0) := by
                 rw [askK_two hgood (by omega) hfk.symm hgk]
                 first
                 | rw [if_neg (by rintro ⟨h5, h6⟩; rw [hg87] at h5; cases h5), if_neg (by
                     rintro ⟨h5, h6⟩
                     exact h6.elim (fun h6 => by rw [h6] at hg90; exact absurd hg90 (by decide)) (fun h6 => absurd h6 (by simpa using h84)))]
                 | rw [if_neg (by
                     rintro ⟨h5, h6⟩
                     first
                     | (rw [h6] at h76; exact absurd h76 (by decide))
                     | (rw [h5] at hg80; exact absurd hg80 (by decide))), if_neg (by rintro ⟨h5, h6⟩; rw [hg87] at h5; cases h5)]
               rw [e9]
               exact ⟨_, _, [], [], rfl, Ob.nil _, Ob.nil _, rfl⟩)
         ·iterate 3 refine gn_ 87 rfl rfl rfl rfl ?_
          iterate 3 refine gu_ 90 rfl rfl rfl ?_
          refine gn_ 87 rfl rfl rfl rfl ?_
          refine WL.y rfl (Yd.pickF rfl rfl) ?_
          refine a_ rfl rfl ?_
          refine nt_ ?_
          refine WC.no rfl ?_
          refine WC.skip ?_
          refine DN.block_normal ?_
          refine ts_ ?_
          refine WC.region ?_
          refine WL.y rfl (Yd.buildL (pl := [(0, 1), (1, 1), (2, 1), (3, 1), (4, 1), (5, 1)]) (zs := [.int .u32 0, .int .i64 0, .bool false, .slice none 0 0, .int .i64 0, .slice none 0 0]) (parts := []) (vs := []) (cells := [.int .u32 0, .int .i64 0, .bool false, .slice none 0 0, .int .i64 0, .slice none 0 0]) kr_ kr_ rfl rfl) ?_
          refine a_ rfl rfl ?_
          refine WL.s (Hd.storeAll (n := 6) kr_ rfl rfl (by rfl) one_ fr_ (by rfl) ⟨rfl, ?_⟩)
          refine a_ rfl rfl ?_
          refine nt_ ?_
          refine WC.ret ?_
          refine DN.retTCT (s := 6) (H) Tryz.results55 kr_ rfl rfl rfl mem_ (by rfl) sp_ ?_
          first
          | (have e9 : askK e ks n = (3, Kp.z, 0) := by rw [askK_two hgood (by omega) hfk.symm hgk]; exact if_pos ⟨by simpa using hg80, h76⟩
             rw [e9]
             exact ⟨_, _, [], [], rfl, Ob.nil _, Ob.nil _, rfl⟩)
          | (have e9 : askK e ks n = (4, Kp.z, 0) := by
               rw [askK_two hgood (by omega) hfk.symm hgk, if_neg (by rintro ⟨h5, h6⟩; rw [hg87] at h5; cases h5)]
               first
               | exact if_pos ⟨hg87, .inl (by simpa using hg90)⟩
               | exact if_pos ⟨hg87, .inr (by simpa using h84)⟩
             rw [e9]
             exact ⟨_, _, [], [], rfl, Ob.nil _, Ob.nil _, rfl⟩)
          | (have e9 : askK e ks n = (1, Kp.z, 0) := by
               rw [askK_two hgood (by omega) hfk.symm hgk]
               first
               | rw [if_neg (by rintro ⟨h5, h6⟩; rw [hg87] at h5; cases h5), if_neg (by
                   rintro ⟨h5, h6⟩
                   exact h6.elim (fun h6 => by rw [h6] at hg90; exact absurd hg90 (by decide)) (fun h6 => absurd h6 (by simpa using h84)))]
               | rw [if_neg (by
                   rintro ⟨h5, h6⟩
                   first
                   | (rw [h6] at h76; exact absurd h76 (by decide))
                   | (rw [h5] at hg80; exact absurd hg80 (by decide))), if_neg (by rintro ⟨h5, h6⟩; rw [hg87] at h5; cases h5)]
             rw [e9]
             exact ⟨_, _, [], [], rfl, Ob.nil _, Ob.nil _, rfl⟩)
end Go.Proofs.YtkamlondepceiaaGreat

set_option linter.unusedVariables false
set_option linter.unusedSimpArgs false
set_option maxHeartbeats 2000000
namespace Go.Proofs.YtkamlondepceiaaGreat
open Go.SL
section
variable {act er code : Int} {kk : Kp} {n : Nt} {reply : List (BitVec 8)}
theorem keep_no (h42 : (!decide (rightP (stepK n code reply))) = false) : keepBad (act, kk, er) (stepK n code reply) ↔ (act = 3 ∧ code ≠ 2) ∨ (act = 4 ∧ code ≠ 1) := by
  have h : rightP (stepK n code reply) := by simpa using h42
  unfold keepBad
  exact ⟨fun h9 => h9.elim (fun h9 => absurd h h9) id, .inr⟩
theorem keep_z0 (h42 : (!decide (rightP (stepK n code reply))) = true) : (true = true ↔ keepBad (act, kk, er) (stepK n code reply)) := ⟨fun _ => .inl (by simpa using h42), fun _ => rfl⟩
theorem keep_z1 (h42 : (!decide (rightP (stepK n code reply))) = false) (h45 : decide (act = 3) = true) (h50 : decide (code ≠ 2) = true) : (true = true ↔ keepBad (act, kk, er) (stepK n code reply)) := by
  rw [keep_no h42]
  exact ⟨fun _ => .inl ⟨of_decide_eq_true h45, of_decide_eq_true h50⟩, fun _ => rfl⟩
theorem keep_z2 (h42 : (!decide (rightP (stepK n code reply))) = false) (h45 : decide (act = 3) = true) (h50 : decide (code ≠ 2) = false) (h53 : decide (act = 4) = true) : (decide (code ≠ 1) = true ↔ keepBad (act, kk, er) (stepK n code reply)) := by
  have h1 := of_decide_eq_true h45
  have h2 := of_decide_eq_true h53
  omega
theorem keep_z3 (h42 : (!decide (rightP (stepK n code reply))) = false) (h45 : decide (act = 3) = true) (h50 : decide (code ≠ 2) = false) (h53 : decide (act = 4) = false) : (false = true ↔ keepBad (act, kk, er) (stepK n code reply)) := by
  rw [keep_no h42]
  have h1 := of_decide_eq_true h45
  have h2 := of_decide_eq_false h50
  exact ⟨fun h => absurd h (by decide), fun h => by omega⟩
theorem keep_z4 (h42 : (!decide (rightP (stepK n code reply))) = false) (h45 : decide (act = 3) = false) (h53 : decide (act = 4) = true) : (decide (code ≠ 1) = true ↔ keepBad (act, kk, er) (stepK n code reply)) := by
  rw [keep_no h42, decide_eq_true_eq]
  have h1 := of_decide_eq_false h45
  have h2 := of_decide_eq_true h53
  omega
theorem keep_z5 (h42 : (!decide (rightP (stepK n code reply))) = false) (h45 : decide (act = 3) = false) (h53 : decide (act = 4) = false) : (false = true ↔ keepBad (act, kk, er) (stepK n code reply)) := by
  rw [keep_no h42]
  have h1 := of_decide_eq_false h45
  have h2 := of_decide_eq_false h53
  exact ⟨fun h => absurd h (by decide), fun h => by omega⟩
end
theorem keep_tells (e : BitVec 32) (v : Value) (ks : List Kp) (H : List Ck) (hv : KV v ks H) (hl : ks.length ≤ 9223372036854775807) (n : Nt) (vk vd : Value) (hvk : Bs vk n.key H) (hvd : Bs vd n.data H) (code : Int) (vr : Value) (reply : List (BitVec 8)) (hvr : Bs vr reply H) : Tells Tryz.prog 59 [.agg #[.int .u32 e.toNat, v], .agg (ntc n vk vd).toArray, .int .i64 code, vr] H fun r H' => ∃ w D, r = .tuple #[.agg #[.int .u32 (keepK e ks n code reply).1.toNat, w], .int .i64 (keepK e ks n code reply).2.2] ∧ FAt 5 118 w (keepK e ks n code reply).2.1 D ∧ H' = D ++ H := by
 refine Tells.enter Tryz.func59 rfl Tryz.ntmps59 rfl ?_
 intro w0 R
 obtain ⟨ao, c, rfl, hc⟩ := hv.form
 obtain ⟨ko, kcap, rfl, hkc⟩ := hvk.form
 obtain ⟨do_, dc, rfl, hdc⟩ := hvd.form
 obtain ⟨ro, rc, rfl, hrc⟩ := hvr.form
 refine sr_ ?_
 refine WL.h rfl (Hd.boxA rfl fun b4 => ⟨_, rfl, ?_⟩)
 refine WL.h rfl (Hd.boxA rfl fun b5 => ⟨_, rfl, ?_⟩)
 refine WL.h rfl (Hd.alloc (zs := [.int .u32 0, .slice none 0 0]) kr_ fun b8 => ⟨_, rfl, ?_⟩)
 refine a_ rfl rfl ?_
 refine ntsr_ ?_
 refine WL.h rfl (Hd.loadAll (n := 2) kr_ rfl mem_ (by rfl) ⟨_, rfl, ?_⟩)
 refine WL.h rfl (Hd.loadAll (n := 11) kr_ rfl mem_ (by rfl) ⟨_, rfl, ?_⟩)
 refine WL.c rfl (Ent.func Tryz.call55 rfl) (ask_tells e _ ks H hv hl n _ _ hvk hvd) (Sp.p sp_) ?_
 rintro x H1 ⟨wa, wr, A, B, rfl, hA, hB, rfl⟩
 obtain ⟨q, hq⟩ : ∃ q, q = askK e ks n := ⟨_, rfl⟩
 rw [← hq] at hA hB ⊢
 obtain ⟨act, kk, er⟩ := q
 dsimp only at hA hB ⊢
 obtain ⟨oa, ca, rfl, _⟩ := hA.form
 obtain ⟨or_, cr, rfl, _⟩ := hB.form
 refine m_ rfl rfl ?_
 iterate 3 refine x_ rfl rfl rfl ?_
 refine WL.h rfl (Hd.alloc (zs := [.int .u32 0, .int .i64 0, .bool false, .slice none 0 0, .int .i64 0, .slice none 0 0]) kr_ fun b11 => ⟨_, rfl, ?_⟩)
 refine a_ rfl rfl ?_
 refine WL.s (Hd.storeAll (n := 6) kr_ rfl rfl (by rfl) (kc_one rfl rfl) fr_ (by rfl) ⟨rfl, ?_⟩)
 refine a_ rfl rfl ?_
 refine nt_ ?_
 refine WC.seq ?_
 refine sr_ ?_
 refine m_ rfl rfl ?_
 refine WL.y rfl (Yd.neq rfl rfl) ?_
 refine nt_ ?_
 refine WC.ite rfl (fun h24 => ?_) (fun h24 => ?_)
 ·refine sr_ ?_
  refine WL.y rfl (Yd.buildL (pl := [(0, 1), (1, 1)]) (zs := [.int .u32 0, .slice none 0 0]) (parts := []) (vs := []) (cells := [.int .u32 0, .slice none 0 0]) kr_ kr_ rfl rfl) ?_
  refine m_ rfl rfl ?_
  refine WL.s (Hd.storeAll (n := 2) kr_ rfl rfl (by rfl) one_ fr_ (by rfl) ⟨rfl, ?_⟩)
  refine a_ rfl rfl ?_
  refine nt_ ?_
  refine WC.ret ?_
  refine DN.then_ret ?_
  refine DN.retCT (s := 2) (H) Tryz.results59 kr_ rfl rfl mem_ (by rfl) sp_ ?_
  rw [keepK_err (by rw [← hq]; exact h24), ← hq]
  exact ⟨_, [], rfl, FAt.nil _ _, rfl⟩
 ·refine WC.skip ?_
  refine ts_ ?_
  refine WC.region ?_
  have hgo := askK_ok (show (askK e ks n).2.2 = 0 by rw [← hq]; exact Classical.byContradiction h24)
  have hck := good_chk hgo.1
  refine f_ 5 kr_ rfl rfl ?_
  refine d_ kr_ rfl mem_ (by rfl) rfl ?_
  refine f_ 6 kr_ rfl rfl ?_
  refine d_ kr_ rfl mem_ (by rfl) rfl ?_
  refine f_ 7 kr_ rfl rfl ?_
  refine d_ kr_ rfl mem_ (by rfl) rfl ?_
  refine f_ 10 kr_ rfl rfl ?_
  refine d_ kr_ rfl mem_ (by rfl) rfl ?_
  refine m_ rfl rfl ?_
  refine m_ rfl rfl ?_
  refine WL.y rfl (Yd.buildL (pl := [(0, 1), (1, 1), (2, 1), (3, 1), (4, 1), (5, 1)]) (zs := [.int .u32 0, .int .i64 0, .bool false, .slice none 0 0, .int .i64 0, .slice none 0 0]) (parts := [(0, .tmp 28), (1, .tmp 30), (2, .tmp 32), (3, .tmp 34), (4, .tmp 35), (5, .tmp 36)]) (vs := [(0, _), (1, _), (2, _), (3, _), (4, _), (5, _)]) (cells := [_, _, _, _, _, _]) kr_ kr_ rfl rfl) ?_
  refine WL.h rfl (Hd.alloc (zs := [.int .u32 0, .int .i64 0, .bool false, .slice none 0 0, .int .i64 0, .slice none 0 0]) kr_ fun b13 => ⟨_, rfl, ?_⟩)
  refine WL.s (Hd.storeAll (n := 6) kr_ rfl rfl (by rfl) one_ fr_ (by rfl) ⟨rfl, ?_⟩)
  refine nt_ ?_
  refine WC.seq ?_
  refine WC.block ?_
  refine WC.cutK (fun z : Bool => z = true ↔ keepBad (act, kk, er) (stepK n code reply)) (fun z : Bool => [(38, .bool z)]) (fun z : Bool => row b13 (kc (stepK n code reply) (.slice do_ n.data.length dc) (.slice ro reply.length rc)) 118 :: row b11 (kc kk (.slice oa kk.asked.length ca) (.slice or_ kk.reply.length cr)) 118 :: (A ++ (B ++ (row b4 [.int .u32 e.toNat, .slice ao ks.length c] 82 :: row b5 (ntc n (.slice ko n.key.length kcap) (.slice do_ n.data.length dc)) 52 :: row b8 [.int .u32 0, .slice none 0 0] 82 :: H)))) ?_ ?_
  ·refine WC.region ?_
   refine WL.h rfl (Hd.loadAll (n := 6) kr_ rfl mem_ (by rfl) ⟨_, rfl, ?_⟩)
   refine WL.r rfl (Ent.func Tryz.call92 rfl) (right_reads (stepK n code reply) (.slice do_ n.data.length dc) (.slice ro reply.length rc) ⟨_, _, rfl⟩ ⟨_, _, rfl⟩ _) ?_
   refine WL.y rfl (Yd.notB rfl) ?_
   refine m_ rfl rfl ?_
   refine WL.part (t := 42) rfl (fun hg42 => ?_) (fun hg42 => ?_)
   ·iterate 3 refine gn_ 42 rfl rfl rfl rfl ?_
    refine gu_ 45 rfl rfl rfl ?_
    refine gu_ 45 rfl rfl rfl ?_
    refine gn_ 42 rfl rfl rfl rfl ?_
    refine WL.y rfl (Yd.pickT rfl rfl) ?_
    refine m_ rfl rfl ?_
    iterate 3 refine gn_ 50 rfl rfl rfl rfl ?_
    refine gu_ 53 rfl rfl rfl ?_
    refine gu_ 53 rfl rfl rfl ?_
    refine gn_ 50 rfl rfl rfl rfl ?_
    refine WL.y rfl (Yd.pickT rfl rfl) ?_
    refine a_ rfl rfl ?_
    refine WL.nil ?_
    exact DN.reachK (_) (by first | exact keep_z0 hg42 | exact keep_z1 hg42 hg45 hg50 | exact keep_z2 hg42 hg45 hg50 hg53 | exact keep_z3 hg42 hg45 hg50 hg53 | exact keep_z4 hg42 hg45 hg53 | exact keep_z5 hg42 hg45 hg53) (Sx.put rfl (sx_)) (Sp.all sp_)
   ·refine gy_ 42 rfl rfl rfl (Yd.move rfl) ?_
    refine gy_ 42 rfl rfl rfl (Yd.eql rfl rfl) ?_
    refine gy_ 42 rfl rfl rfl (Yd.move rfl) ?_
    refine WL.part (t := 45) rfl (fun hg45 => ?_) (fun hg45 => ?_)
    ·refine gy_ 45 rfl rfl rfl (Yd.move rfl) ?_
     refine gy_ 45 rfl rfl rfl (Yd.neq rfl rfl) ?_
     refine gy_ 42 rfl rfl rfl (Yd.pickT rfl rfl) ?_
     refine WL.y rfl (Yd.pickF rfl rfl) ?_
     refine m_ rfl rfl ?_
     refine WL.part (t := 50) rfl (fun hg50 => ?_) (fun hg50 => ?_)
     ·iterate 3 refine gn_ 50 rfl rfl rfl rfl ?_
      refine gu_ 53 rfl rfl rfl ?_
      refine gu_ 53 rfl rfl rfl ?_
      refine gn_ 50 rfl rfl rfl rfl ?_
      refine WL.y rfl (Yd.pickT rfl rfl) ?_
      refine a_ rfl rfl ?_
      refine WL.nil ?_
      exact DN.reachK (_) (by first | exact keep_z0 hg42 | exact keep_z1 hg42 hg45 hg50 | exact keep_z2 hg42 hg45 hg50 hg53 | exact keep_z3 hg42 hg45 hg50 hg53 | exact keep_z4 hg42 hg45 hg53 | exact keep_z5 hg42 hg45 hg53) (Sx.put rfl (sx_)) (Sp.all sp_)
     ·refine gy_ 50 rfl rfl rfl (Yd.move rfl) ?_
      refine gy_ 50 rfl rfl rfl (Yd.eql rfl rfl) ?_
      refine gy_ 50 rfl rfl rfl (Yd.move rfl) ?_
      refine WL.part (t := 53) rfl (fun hg53 => ?_) (fun hg53 => ?_)
      ·refine gy_ 53 rfl rfl rfl (Yd.move rfl) ?_
       refine gy_ 53 rfl rfl rfl (Yd.neq rfl rfl) ?_
       refine gy_ 50 rfl rfl rfl (Yd.pickT rfl rfl) ?_
       refine WL.y rfl (Yd.pickF rfl rfl) ?_
       refine a_ rfl rfl ?_
       refine WL.nil ?_
       exact DN.reachK (_) (by first | exact keep_z0 hg42 | exact keep_z1 hg42 hg45 hg50 | exact keep_z2 hg42 hg45 hg50 hg53 | exact keep_z3 hg42 hg45 hg50 hg53 | exact keep_z4 hg42 hg45 hg53 | exact keep_z5 hg42 hg45 hg53) (Sx.put rfl (sx_)) (Sp.all sp_)
      ·refine gn_ 53 rfl rfl rfl rfl ?_
       refine gn_ 53 rfl rfl rfl rfl ?_
       refine gy_ 50 rfl rfl rfl (Yd.pickF rfl rfl) ?_
       refine WL.y rfl (Yd.pickF rfl rfl) ?_
       refine a_ rfl rfl ?_
       refine WL.nil ?_
       exact DN.reachK (_) (by first | exact keep_z0 hg42 | exact keep_z1 hg42 hg45 hg50 | exact keep_z2 hg42 hg45 hg50 hg53 | exact keep_z3 hg42 hg45 hg50 hg53 | exact keep_z4 hg42 hg45 hg53 | exact keep_z5 hg42 hg45 hg53) (Sx.put rfl (sx_)) (Sp.all sp_)
    ·refine gn_ 45 rfl rfl rfl rfl ?_
     refine gn_ 45 rfl rfl rfl rfl ?_
     refine gy_ 42 rfl rfl rfl (Yd.pickF rfl rfl) ?_
     refine WL.y rfl (Yd.pickF rfl rfl) ?_
     refine m_ rfl rfl ?_
     refine gy_ 50 rfl rfl rfl (Yd.move rfl) ?_
     refine gy_ 50 rfl rfl rfl (Yd.eql rfl rfl) ?_
     refine gy_ 50 rfl rfl rfl (Yd.move rfl) ?_
     refine WL.part (t := 53) rfl (fun hg53 => ?_) (fun hg53 => ?_)
     ·refine gy_ 53 rfl rfl rfl (Yd.move rfl) ?_
      refine gy_ 53 rfl rfl rfl (Yd.neq rfl rfl) ?_
      refine gy_ 50 rfl rfl rfl (Yd.pickT rfl rfl) ?_
      refine WL.y rfl (Yd.pickF rfl rfl) ?_
      refine a_ rfl rfl ?_
      refine WL.nil ?_
      exact DN.reachK (_) (by first | exact keep_z0 hg42 | exact keep_z1 hg42 hg45 hg50 | exact keep_z2 hg42 hg45 hg50 hg53 | exact keep_z3 hg42 hg45 hg50 hg53 | exact keep_z4 hg42 hg45 hg53 | exact keep_z5 hg42 hg45 hg53) (Sx.put rfl (sx_)) (Sp.all sp_)
     ·refine gn_ 53 rfl rfl rfl rfl ?_
      refine gn_ 53 rfl rfl rfl rfl ?_
      refine gy_ 50 rfl rfl rfl (Yd.pickF rfl rfl) ?_
      refine WL.y rfl (Yd.pickF rfl rfl) ?_
      refine a_ rfl rfl ?_
      refine WL.nil ?_
      exact DN.reachK (_) (by first | exact keep_z0 hg42 | exact keep_z1 hg42 hg45 hg50 | exact keep_z2 hg42 hg45 hg50 hg53 | exact keep_z3 hg42 hg45 hg50 hg53 | exact keep_z4 hg42 hg45 hg53 | exact keep_z5 hg42 hg45 hg53) (Sx.put rfl (sx_)) (Sp.all sp_)
  ·intro z38 hz38
   refine WC.cond rfl (fun h38 => ?_) (fun h38 => ?_)
   ·refine sr_ ?_
    refine WL.y rfl (Yd.buildL (pl := [(0, 1), (1, 1)]) (zs := [.int .u32 0, .slice none 0 0]) (parts := []) (vs := []) (cells := [.int .u32 0, .slice none 0 0]) kr_ kr_ rfl rfl) ?_
    refine WL.s (Hd.storeAll (n := 2) kr_ rfl rfl (by rfl) one_ fr_ (by rfl) ⟨rfl, ?_⟩)
    refine a_ rfl rfl ?_
    refine nt_ ?_
    refine WC.ret ?_
    refine DN.block_ret ?_
    refine DN.then_ret ?_
    refine DN.retCT (s := 2) (H) Tryz.results59 kr_ rfl rfl mem_ (by rfl) sp_ ?_
    rw [keepK_bad (by rw [← hq]; exact h24) (by rw [← hq]; exact hz38.1 h38)]
    exact ⟨_, [], rfl, FAt.nil _ _, rfl⟩
   ·refine sr_ ?_
    refine m_ rfl rfl ?_
    refine WL.y rfl (Yd.eql rfl rfl) ?_
    refine a_ rfl rfl ?_
    refine nt_ ?_
    refine WC.ite rfl (fun h59 => ?_) (fun h59 => ?_)
    ·refine sr_ ?_
     refine WL.y rfl (Yd.buildL (pl := [(0, 1), (1, 1)]) (zs := [.int .u32 0, .slice none 0 0]) (parts := []) (vs := []) (cells := [.int .u32 0, .slice none 0 0]) kr_ kr_ rfl rfl) ?_
     refine WL.s (Hd.storeAll (n := 2) kr_ rfl rfl (by rfl) one_ fr_ (by rfl) ⟨rfl, ?_⟩)
     refine a_ rfl rfl ?_
     refine nt_ ?_
     refine WC.ret ?_
     refine DN.block_ret ?_
     refine DN.then_ret ?_
     refine DN.retCT (s := 2) (H) Tryz.results59 kr_ rfl rfl mem_ (by rfl) sp_ ?_
     rw [keepK_twice (by rw [← hq]; exact h24) (by rw [← hq]; exact fun h => by rw [hz38.2 h] at h38; cases h38) (by rw [← hq]; exact h59)]
     exact ⟨_, [], rfl, FAt.nil _ _, rfl⟩
    ·refine sr_ ?_
     refine f_ 1 kr_ rfl rfl ?_
     refine d_ kr_ rfl mem_ (by rfl) rfl ?_
     refine WL.y rfl (Yd.len (e := 118) kr_ rfl) ?_
     refine WL.y rfl (Yd.geq rfl rfl) ?_
     refine a_ rfl rfl ?_
     refine nt_ ?_
     refine WC.ite rfl (fun h63 => ?_) (fun h63 => ?_)
     ·refine sr_ ?_
      refine WL.y rfl (Yd.buildL (pl := [(0, 1), (1, 1)]) (zs := [.int .u32 0, .slice none 0 0]) (parts := []) (vs := []) (cells := [.int .u32 0, .slice none 0 0]) kr_ kr_ rfl rfl) ?_
      refine WL.s (Hd.storeAll (n := 2) kr_ rfl rfl (by rfl) one_ fr_ (by rfl) ⟨rfl, ?_⟩)
      refine a_ rfl rfl ?_
      refine nt_ ?_
      refine WC.ret ?_
      refine DN.block_ret ?_
      refine DN.then_ret ?_
      refine DN.retCT (s := 2) (H) Tryz.results59 kr_ rfl rfl mem_ (by rfl) sp_ ?_
      rw [keepK_full (by rw [← hq]; exact h24) (by rw [← hq]; exact fun h => by rw [hz38.2 h] at h38; cases h38) (by rw [← hq]; exact h59) (by omega)]
      exact ⟨_, [], rfl, FAt.nil _ _, rfl⟩
     ·refine WC.skip ?_
      refine DN.block_normal ?_
      refine ts_ ?_
      refine WC.draw 9 kr_ rfl ?_
      refine WA.quiet 9 0 rfl rfl kr_ kr_ kr_ rfl ?_
      have hrt : rightP (stepK n code reply) := Classical.byContradiction fun h => by rw [hz38.2 (.inl h)] at h38; cases h38
      have h200 := hck.1
      refine WQ.rd rfl Wt.none (Rd.loadAll (n := 2) kr_ rfl mem_ (by rfl)) ?_
      refine WQ.rd rfl Wt.none (Rd.loadAll (n := 6) kr_ rfl mem_ (by rfl)) ?_
      refine WQ.rf rfl Wt.none (Ent.func Tryz.call94 rfl) (of_reads (stepK n code reply) (.slice do_ n.data.length dc) (.slice ro reply.length rc) rfl rfl _) Sp.sn ?_
      refine WQ.rf rfl Wt.none (Ent.func Tryz.call93 rfl) (find_reads e _ ks _ (hv.mono gr_) hck n.order n.step n.undo hrt.2.1 hrt.2.2.1) Sp.sn ?_
      refine WQ.y rfl (Yd.move rfl) ?_
      refine WQ.y rfl (Yd.extract rfl rfl) ?_
      refine WQ.y rfl (Yd.extract rfl rfl) ?_
      refine WQ.y rfl (Yd.assign rfl) ?_
      refine WQ.y rfl (Yd.assign rfl) ?_
      refine WQ.nil ?_
      refine WA.done kr_ ?_
      refine ts_ ?_
      refine WC.region ?_
      refine WL.h rfl (Hd.loadAll (n := 2) kr_ rfl mem_ (by rfl) ⟨_, rfl, ?_⟩)
      refine WL.c rfl (Ent.func Tryz.call85 rfl) (all_tells e _ ks H hv hck) (Sp.p sp_) ?_
      rintro r2 H1 ⟨w, D, rfl, hF, rfl⟩
      obtain ⟨cs2, C2, D2, hO2, hK2, rfl⟩ := hF
      obtain ⟨wo, wc, rfl, hwc⟩ := hO2.form
      refine WL.s (Hd.storeAll (n := 2) kr_ rfl rfl (by rfl) one_ fr_ (by rfl) ⟨rfl, ?_⟩)
      refine ntsr_ ?_
      refine f_ 1 kr_ rfl rfl ?_
      refine d_ kr_ rfl mem_ (by rfl) rfl ?_
      refine f_ 0 kr_ rfl rfl ?_
      refine WL.s (Hd.store1s kr_ rfl rfl (by rfl) fr_ (by rfl) (by first | (simp only [List.set_cons_zero, List.set_cons_succ, Nat.zero_add, Nat.add_zero, Nat.reduceAdd]; rfl) | rfl) ⟨rfl, ?_⟩)
      refine nt_ ?_
      refine WC.seq ?_
      refine WC.draw 9 kr_ rfl ?_
      refine WA.y (i := 0) (NoPanic.then (NoPanic.body)) rfl kr_ kr_ kr_ rfl (Yd.fieldAddr (k := 1) kr_ rfl) ?_
      refine WA.y (i := 2) (NoPanic.then (NoPanic.body)) rfl kr_ kr_ kr_ rfl (Yd.move rfl) ?_
      refine WA.two (i := 1) (j := 3) kr_ ?_ ?_
      ·refine WO.h rfl Wt.none rfl (Hd.load1 kr_ rfl mem_ (by rfl) ⟨_, rfl, ?_⟩)
       refine WA.one (i := 3) kr_ ?_
       refine WO.h rfl Wt.none rfl (Hd.loadAll (n := 6) kr_ rfl mem_ (by rfl) ⟨_, rfl, ?_⟩)
       refine WA.one (i := 4) kr_ ?_
       refine WO.c rfl Wt.none rfl (Ent.func Tryz.call96 rfl) (own_tells (stepK n code reply) (.slice do_ n.data.length dc) (.slice ro reply.length rc) H hvd hvr (by have := hrt.2.2.2.1; omega) (by have := hrt.2.2.2.2.1; omega)) (Sp.p sp_) ?_
       rintro x5 H5 ⟨wa5, wr5, A5, B5, rfl, hA5, hB5, rfl⟩
       obtain ⟨o5, c5, rfl, hc5⟩ := hA5.form
       obtain ⟨o6, c6, rfl, hc6⟩ := hB5.form
       refine WA.one (i := 5) kr_ ?_
       refine WO.h rfl Wt.none rfl (Hd.buildA (e := 118) (sz := 6) (zs := [.int .u32 0, .int .i64 0, .bool false, .slice none 0 0, .int .i64 0, .slice none 0 0]) kr_ kr_ kr_ rfl rfl (by rfl) kr_ fun b86 => ⟨_, rfl, ?_⟩)
       refine WA.one (i := 6) kr_ ?_
       refine WO.c rfl Wt.none rfl (Ent.func Tryz.call95 rfl) (insert_tells _ ks.length cs2 C2 hO2 hK2.one (by omega) (pos ks (stepK n code reply).num) (pos_le _ _) b86 (kc (stepK n code reply) (.slice o5 _ c5) (.slice o6 _ c6)) rfl (kc_one rfl rfl)) (Sp.p sp_) ?_
       intro r7 H7 hO7
       obtain ⟨D7, hK7, hp7⟩ := hK2.ins (pos_le ks (stepK n code reply).num) hA5 hB5
       obtain ⟨io, ic7, rfl, hic7⟩ := hO7.form
       refine WA.y (i := 7) (NoPanic.then (NoPanic.body)) rfl kr_ kr_ kr_ rfl (Yd.fieldAddr (k := 1) kr_ rfl) ?_
       refine WA.one (i := 8) kr_ ?_
       refine WO.s rfl Wt.none (Hd.store1s kr_ rfl rfl (by rfl) fr_ (by rfl) (by first | (simp only [List.set_cons_zero, List.set_cons_succ, Nat.zero_add, Nat.add_zero, Nat.reduceAdd]; rfl) | rfl) ⟨rfl, ?_⟩)
       refine WA.done kr_ ?_
       refine ts_ ?_
       refine WC.region ?_
       refine WL.h rfl (Hd.loadAll (n := 2) kr_ rfl mem_ (by rfl) ⟨_, rfl, ?_⟩)
       refine WL.s (Hd.storeAll (n := 2) kr_ rfl rfl (by rfl) one_ fr_ (by rfl) ⟨rfl, ?_⟩)
       refine a_ rfl rfl ?_
       refine nt_ ?_
       refine WC.ret ?_
       refine DN.fit (C := row b8 [.int .u32 n.epoch.toNat, .slice io (ks.length + 1) ic7] 82 :: (H7 ++ ((D2 ++ (A5 ++ B5)) ++ H))) sp_ ?_
       refine DN.blocks (row b8 [.int .u32 n.epoch.toNat, .slice io (ks.length + 1) ic7] 82 :: (H7 ++ (D7 ++ H))) (List.Perm.cons _ (List.Perm.append_left _ (hp7.symm.append_right _))) ?_
       refine DN.retCT (s := 2) (H7 ++ (D7 ++ H)) Tryz.results59 kr_ rfl rfl mem_ (by rfl) sp_ ?_
       rw [keepK_ok (by rw [← hq]; exact h24) (by rw [← hq]; exact fun h => by rw [hz38.2 h] at h38; cases h38) (by rw [← hq]; exact h59) (by omega)]
       exact ⟨_, H7 ++ D7, rfl, ⟨_, H7, D7, by rw [insAt_len _ (pos_le _ _)]; exact hO7, hK7, rfl⟩, by rw [List.append_assoc]⟩
      ·refine WO.h rfl Wt.none rfl (Hd.loadAll (n := 6) kr_ rfl mem_ (by rfl) ⟨_, rfl, ?_⟩)
       refine WA.two (i := 1) (j := 4) kr_ ?_ ?_
       ·refine WO.h rfl Wt.none rfl (Hd.load1 kr_ rfl mem_ (by rfl) ⟨_, rfl, ?_⟩)
        refine WA.one (i := 4) kr_ ?_
        refine WO.c rfl Wt.none rfl (Ent.func Tryz.call96 rfl) (own_tells (stepK n code reply) (.slice do_ n.data.length dc) (.slice ro reply.length rc) H hvd hvr (by have := hrt.2.2.2.1; omega) (by have := hrt.2.2.2.2.1; omega)) (Sp.p sp_) ?_
        rintro x5 H5 ⟨wa5, wr5, A5, B5, rfl, hA5, hB5, rfl⟩
        obtain ⟨o5, c5, rfl, hc5⟩ := hA5.form
        obtain ⟨o6, c6, rfl, hc6⟩ := hB5.form
        refine WA.one (i := 5) kr_ ?_
        refine WO.h rfl Wt.none rfl (Hd.buildA (e := 118) (sz := 6) (zs := [.int .u32 0, .int .i64 0, .bool false, .slice none 0 0, .int .i64 0, .slice none 0 0]) kr_ kr_ kr_ rfl rfl (by rfl) kr_ fun b86 => ⟨_, rfl, ?_⟩)
        refine WA.one (i := 6) kr_ ?_
        refine WO.c rfl Wt.none rfl (Ent.func Tryz.call95 rfl) (insert_tells _ ks.length cs2 C2 hO2 hK2.one (by omega) (pos ks (stepK n code reply).num) (pos_le _ _) b86 (kc (stepK n code reply) (.slice o5 _ c5) (.slice o6 _ c6)) rfl (kc_one rfl rfl)) (Sp.p sp_) ?_
        intro r7 H7 hO7
        obtain ⟨D7, hK7, hp7⟩ := hK2.ins (pos_le ks (stepK n code reply).num) hA5 hB5
        obtain ⟨io, ic7, rfl, hic7⟩ := hO7.form
        refine WA.y (i := 7) (NoPanic.then (NoPanic.body)) rfl kr_ kr_ kr_ rfl (Yd.fieldAddr (k := 1) kr_ rfl) ?_
        refine WA.one (i := 8) kr_ ?_
        refine WO.s rfl Wt.none (Hd.store1s kr_ rfl rfl (by rfl) fr_ (by rfl) (by first | (simp only [List.set_cons_zero, List.set_cons_succ, Nat.zero_add, Nat.add_zero, Nat.reduceAdd]; rfl) | rfl) ⟨rfl, ?_⟩)
        refine WA.done kr_ ?_
        refine ts_ ?_
        refine WC.region ?_
        refine WL.h rfl (Hd.loadAll (n := 2) kr_ rfl mem_ (by rfl) ⟨_, rfl, ?_⟩)
        refine WL.s (Hd.storeAll (n := 2) kr_ rfl rfl (by rfl) one_ fr_ (by rfl) ⟨rfl, ?_⟩)
        refine a_ rfl rfl ?_
        refine nt_ ?_
        refine WC.ret ?_
        refine DN.fit (C := row b8 [.int .u32 n.epoch.toNat, .slice io (ks.length + 1) ic7] 82 :: (H7 ++ ((D2 ++ (A5 ++ B5)) ++ H))) sp_ ?_
        refine DN.blocks (row b8 [.int .u32 n.epoch.toNat, .slice io (ks.length + 1) ic7] 82 :: (H7 ++ (D7 ++ H))) (List.Perm.cons _ (List.Perm.append_left _ (hp7.symm.append_right _))) ?_
        refine DN.retCT (s := 2) (H7 ++ (D7 ++ H)) Tryz.results59 kr_ rfl rfl mem_ (by rfl) sp_ ?_
        rw [keepK_ok (by rw [← hq]; exact h24) (by rw [← hq]; exact fun h => by rw [hz38.2 h] at h38; cases h38) (by rw [← hq]; exact h59) (by omega)]
        exact ⟨_, H7 ++ D7, rfl, ⟨_, H7, D7, by rw [insAt_len _ (pos_le _ _)]; exact hO7, hK7, rfl⟩, by rw [List.append_assoc]⟩
       ·refine WO.c rfl Wt.none rfl (Ent.func Tryz.call96 rfl) (own_tells (stepK n code reply) (.slice do_ n.data.length dc) (.slice ro reply.length rc) H hvd hvr (by have := hrt.2.2.2.1; omega) (by have := hrt.2.2.2.2.1; omega)) (Sp.p sp_) ?_
        rintro x5 H5 ⟨wa5, wr5, A5, B5, rfl, hA5, hB5, rfl⟩
        obtain ⟨o5, c5, rfl, hc5⟩ := hA5.form
        obtain ⟨o6, c6, rfl, hc6⟩ := hB5.form
        refine WA.two (i := 1) (j := 5) kr_ ?_ ?_
        ·refine WO.h rfl Wt.none rfl (Hd.load1 kr_ rfl mem_ (by rfl) ⟨_, rfl, ?_⟩)
         refine WA.one (i := 5) kr_ ?_
         refine WO.h rfl Wt.none rfl (Hd.buildA (e := 118) (sz := 6) (zs := [.int .u32 0, .int .i64 0, .bool false, .slice none 0 0, .int .i64 0, .slice none 0 0]) kr_ kr_ kr_ rfl rfl (by rfl) kr_ fun b86 => ⟨_, rfl, ?_⟩)
         refine WA.one (i := 6) kr_ ?_
         refine WO.c rfl Wt.none rfl (Ent.func Tryz.call95 rfl) (insert_tells _ ks.length cs2 C2 hO2 hK2.one (by omega) (pos ks (stepK n code reply).num) (pos_le _ _) b86 (kc (stepK n code reply) (.slice o5 _ c5) (.slice o6 _ c6)) rfl (kc_one rfl rfl)) (Sp.p sp_) ?_
         intro r7 H7 hO7
         obtain ⟨D7, hK7, hp7⟩ := hK2.ins (pos_le ks (stepK n code reply).num) hA5 hB5
         obtain ⟨io, ic7, rfl, hic7⟩ := hO7.form
         refine WA.y (i := 7) (NoPanic.then (NoPanic.body)) rfl kr_ kr_ kr_ rfl (Yd.fieldAddr (k := 1) kr_ rfl) ?_
         refine WA.one (i := 8) kr_ ?_
         refine WO.s rfl Wt.none (Hd.store1s kr_ rfl rfl (by rfl) fr_ (by rfl) (by first | (simp only [List.set_cons_zero, List.set_cons_succ, Nat.zero_add, Nat.add_zero, Nat.reduceAdd]; rfl) | rfl) ⟨rfl, ?_⟩)
         refine WA.done kr_ ?_
         refine ts_ ?_
         refine WC.region ?_
         refine WL.h rfl (Hd.loadAll (n := 2) kr_ rfl mem_ (by rfl) ⟨_, rfl, ?_⟩)
         refine WL.s (Hd.storeAll (n := 2) kr_ rfl rfl (by rfl) one_ fr_ (by rfl) ⟨rfl, ?_⟩)
         refine a_ rfl rfl ?_
         refine nt_ ?_
         refine WC.ret ?_
         refine DN.fit (C := row b8 [.int .u32 n.epoch.toNat, .slice io (ks.length + 1) ic7] 82 :: (H7 ++ ((D2 ++ (A5 ++ B5)) ++ H))) sp_ ?_
         refine DN.blocks (row b8 [.int .u32 n.epoch.toNat, .slice io (ks.length + 1) ic7] 82 :: (H7 ++ (D7 ++ H))) (List.Perm.cons _ (List.Perm.append_left _ (hp7.symm.append_right _))) ?_
         refine DN.retCT (s := 2) (H7 ++ (D7 ++ H)) Tryz.results59 kr_ rfl rfl mem_ (by rfl) sp_ ?_
         rw [keepK_ok (by rw [← hq]; exact h24) (by rw [← hq]; exact fun h => by rw [hz38.2 h] at h38; cases h38) (by rw [← hq]; exact h59) (by omega)]
         exact ⟨_, H7 ++ D7, rfl, ⟨_, H7, D7, by rw [insAt_len _ (pos_le _ _)]; exact hO7, hK7, rfl⟩, by rw [List.append_assoc]⟩
        ·refine WO.h rfl Wt.none rfl (Hd.buildA (e := 118) (sz := 6) (zs := [.int .u32 0, .int .i64 0, .bool false, .slice none 0 0, .int .i64 0, .slice none 0 0]) kr_ kr_ kr_ rfl rfl (by rfl) kr_ fun b86 => ⟨_, rfl, ?_⟩)
         refine WA.one (i := 1) kr_ ?_
         refine WO.h rfl Wt.none rfl (Hd.load1 kr_ rfl mem_ (by rfl) ⟨_, rfl, ?_⟩)
         refine WA.one (i := 6) kr_ ?_
         refine WO.c rfl Wt.none rfl (Ent.func Tryz.call95 rfl) (insert_tells _ ks.length cs2 C2 hO2 hK2.one (by omega) (pos ks (stepK n code reply).num) (pos_le _ _) b86 (kc (stepK n code reply) (.slice o5 _ c5) (.slice o6 _ c6)) rfl (kc_one rfl rfl)) (Sp.p sp_) ?_
         intro r7 H7 hO7
         obtain ⟨D7, hK7, hp7⟩ := hK2.ins (pos_le ks (stepK n code reply).num) hA5 hB5
         obtain ⟨io, ic7, rfl, hic7⟩ := hO7.form
         refine WA.y (i := 7) (NoPanic.then (NoPanic.body)) rfl kr_ kr_ kr_ rfl (Yd.fieldAddr (k := 1) kr_ rfl) ?_
         refine WA.one (i := 8) kr_ ?_
         refine WO.s rfl Wt.none (Hd.store1s kr_ rfl rfl (by rfl) fr_ (by rfl) (by first | (simp only [List.set_cons_zero, List.set_cons_succ, Nat.zero_add, Nat.add_zero, Nat.reduceAdd]; rfl) | rfl) ⟨rfl, ?_⟩)
         refine WA.done kr_ ?_
         refine ts_ ?_
         refine WC.region ?_
         refine WL.h rfl (Hd.loadAll (n := 2) kr_ rfl mem_ (by rfl) ⟨_, rfl, ?_⟩)
         refine WL.s (Hd.storeAll (n := 2) kr_ rfl rfl (by rfl) one_ fr_ (by rfl) ⟨rfl, ?_⟩)
         refine a_ rfl rfl ?_
         refine nt_ ?_
         refine WC.ret ?_
         refine DN.fit (C := row b8 [.int .u32 n.epoch.toNat, .slice io (ks.length + 1) ic7] 82 :: (H7 ++ ((D2 ++ (A5 ++ B5)) ++ H))) sp_ ?_
         refine DN.blocks (row b8 [.int .u32 n.epoch.toNat, .slice io (ks.length + 1) ic7] 82 :: (H7 ++ (D7 ++ H))) (List.Perm.cons _ (List.Perm.append_left _ (hp7.symm.append_right _))) ?_
         refine DN.retCT (s := 2) (H7 ++ (D7 ++ H)) Tryz.results59 kr_ rfl rfl mem_ (by rfl) sp_ ?_
         rw [keepK_ok (by rw [← hq]; exact h24) (by rw [← hq]; exact fun h => by rw [hz38.2 h] at h38; cases h38) (by rw [← hq]; exact h59) (by omega)]
         exact ⟨_, H7 ++ D7, rfl, ⟨_, H7, D7, by rw [insAt_len _ (pos_le _ _)]; exact hO7, hK7, rfl⟩, by rw [List.append_assoc]⟩
end Go.Proofs.YtkamlondepceiaaGreat

set_option linter.unusedVariables false
set_option linter.unusedSimpArgs false
set_option maxHeartbeats 4000000
namespace Go.Proofs.YtkamlondepceiaaGreat
open Go.SL
theorem serve_tells (p : Nat) (s : Cw) (C : List Ck) (h : CwAt 189 198 203 3 5 118 111 22 116 p s C) {g0 : List Gd} {u0 : List Au} {r0 : List Int} (inv : CInv g0 u0 r0 s) (n : Nt) (vk vd : Value) (H : List Ck) (hvk : Bs vk n.key H) (hvd : Bs vd n.data H) : Tells Tryz.prog 22 [.pointer (some ⟨p, 0, none⟩), .agg (ntc n vk vd).toArray] (C ++ H) fun r H' => ∃ C' w A, r = .agg (ntc (serveN s n) (.slice none 0 0) w).toArray ∧ CwAt 189 198 203 3 5 118 111 22 116 p (serveS s n) C' ∧ Ob 5 w (serveN s n).data A ∧ H' = C' ++ (A ++ H) := by
 refine Tells.enter Tryz.func22 rfl Tryz.ntmps22 rfl ?_
 intro w0 R
 have hAt := h
 have hck := inv.ck
 have h200 := hck.1
 have hefl := inv.ef
 have hnol := inv.no
 obtain ⟨pd, ps, pp, vL, vE, vN, CS, CP, CD, CF, CE, cn, CN, DO, rfl, hS, hP, hD, hF, hE, hN, hO⟩ := h
 obtain ⟨lo, lc, rfl⟩ := hF.form
 obtain ⟨eo, ec, rfl, hec⟩ := hE.form
 obtain ⟨no, nc, rfl, hnc⟩ := hN.form
 obtain ⟨ko, kc9, rfl, hkc⟩ := hvk.form
 obtain ⟨do_, dc, rfl, hdc⟩ := hvd.form
 obtain ⟨q, hq⟩ : ∃ q, q = askK s.e s.ks n := ⟨_, rfl⟩
 have hkr : q.2.1.reply.length ≤ 255 := by rw [hq]; exact ask_reply hck
 obtain ⟨act, kk, er⟩ := q
 have hkr : kk.reply.length ≤ 255 := hkr
 have hq1 : (askK s.e s.ks n).1 = act := by rw [← hq]
 have hq2 : (askK s.e s.ks n).2.1 = kk := by rw [← hq]
 have hq3 : (askK s.e s.ks n).2.2 = er := by rw [← hq]
 refine sr_ ?_
 refine WL.h rfl (Hd.boxA rfl fun b3 => ⟨_, rfl, ?_⟩)
 refine WL.h rfl (Hd.alloc (zs := [.int .i64 0, .int .u32 0, .int .u32 0, .int .u64 0, .int .u64 0, .int .u32 0, .int .i64 0, .bool false, .int .i64 0, .slice none 0 0, .slice none 0 0]) kr_ fun b4 => ⟨_, rfl, ?_⟩)
 refine nt_ ?_
 refine WC.seq ?_
 refine sr_ ?_
 refine m_ rfl rfl ?_
 refine WL.y rfl (Yd.eqlNil Tryz.underlying40 rfl rfl) ?_
 refine WL.renamed (t := 11) (v := .bool false) rfl (congrArg Value.bool (rfl)) ?_
 refine nt_ ?_
 refine WC.no rfl ?_
 refine WC.skip ?_
 refine DN.then_normal ?_
 refine WC.cutK (fun z : Nat × (Option Addr × Nat) × (Option Addr × Nat) × List Ck × List Ck => Ob 5 (.slice z.2.1.1 kk.asked.length z.2.1.2) kk.asked z.2.2.2.1 ∧ Ob 5 (.slice z.2.2.1.1 kk.reply.length z.2.2.1.2) kk.reply z.2.2.2.2) (fun z : Nat × (Option Addr × Nat) × (Option Addr × Nat) × List Ck × List Ck => [(5, .int .i64 act), (6, .pointer (some ⟨z.1, 0, none⟩)), (7, .int .i64 er)]) (fun z : Nat × (Option Addr × Nat) × (Option Addr × Nat) × List Ck × List Ck => row z.1 (kc kk (.slice z.2.1.1 kk.asked.length z.2.1.2) (.slice z.2.2.1.1 kk.reply.length z.2.2.1.2)) 118 :: (z.2.2.2.1 ++ (z.2.2.2.2 ++ ((row p [.pointer (some ⟨pd, 0, none⟩), .pointer (some ⟨ps, 0, none⟩), .pointer (some ⟨pp, 0, none⟩), .int .u32 s.e.toNat, .slice lo s.ks.length lc, .slice eo s.ef.length ec, .slice no s.no.length nc] 116 :: (CS ++ (CP ++ (CD ++ (CF ++ (CE ++ (CN ++ DO))))))) ++ (row b4 [.int .i64 0, .int .u32 0, .int .u32 0, .int .u64 0, .int .u64 0, .int .u32 0, .int .i64 0, .bool false, .int .i64 0, .slice none 0 0, .slice none 0 0] 52 :: (row b3 (ntc n (.slice ko n.key.length kc9) (.slice do_ n.data.length dc)) 52 :: H)))))) ?_ ?_
 ·refine WC.draw 14 kr_ rfl ?_
  refine WA.float (N := 14) rfl ?_
  refine WAF.add (i := 0) (d := 14) rfl (QF.mk [] [] rfl rfl kr_ rfl (QAt.y Wt.none (Yd.move rfl))) ?_
  refine WAF.add (i := 1) (d := 15) rfl (QF.mk [0] [(14, _)] rfl rfl kr_ rfl (QAt.y Wt.none (Yd.notNil rfl))) ?_
  refine WAF.add (i := 2) (d := 16) rfl (QF.mk [1] [(15, _)] rfl rfl kr_ rfl (QAt.y Wt.none (Yd.fieldAddr (k := 3) kr_ rfl))) ?_
  refine WAF.add (i := 3) (d := 17) rfl (QF.mk [2] [(16, _)] rfl rfl kr_ rfl (QAt.rd Wt.none (Rd.loadA (n := 2) (vs := [_, _]) kr_ rfl mem_ (by rfl) (by rfl)))) ?_
  refine WAF.add (i := 4) (d := 18) rfl (QF.mk [] [] rfl rfl kr_ rfl (QAt.rd Wt.none (Rd.loadAll (n := 11) kr_ rfl mem_ (by rfl)))) ?_
  refine WAF.step (pd := [(4, 18), (3, 17), (2, 16), (1, 15), (0, 14)]) [(5, [4, 3]), (10, [])] rfl kr_ kr_ (all_c rfl (all_c rfl (all_c rfl (all_c rfl (all_c rfl (all_n)))))) (all_c (QF.mk [] [] rfl rfl kr_ rfl (QAt.rd Wt.none (Rd.loadAll (n := 11) kr_ rfl mem_ (by rfl)))) (all_c (QF.mk [2] [(16, _)] rfl rfl kr_ rfl (QAt.rd Wt.none (Rd.loadA (n := 2) (vs := [_, _]) kr_ rfl mem_ (by rfl) (by rfl)))) (all_c (QF.mk [1] [(15, _)] rfl rfl kr_ rfl (QAt.y Wt.none (Yd.fieldAddr (k := 3) kr_ rfl))) (all_c (QF.mk [0] [(14, _)] rfl rfl kr_ rfl (QAt.y Wt.none (Yd.notNil rfl))) (all_c (QF.mk [] [] rfl rfl kr_ rfl (QAt.y Wt.none (Yd.move rfl))) (all_n)))))) (all_c ?_ (all_c ?_ (all_n)))
  ·change SO _ _ _ _ _ _ 5 ([(18, _), (17, _)] ++ _) _ _
   refine SO.c rfl Wt.none rfl (Ent.func Tryz.call55 rfl) (ask_tells s.e _ s.ks (CF ++ H) (hF.kv.mono gr_) (by omega) n _ _ (hvk.mono gr_) (hvd.mono gr_)) (Sp.p sp_) ?_
   rintro x H9 ⟨wa, wr, A, B, rfl, hA, hB, rfl⟩
   rw [← hq] at hA hB ⊢
   dsimp only at hA hB ⊢
   obtain ⟨oa, ca, rfl, _⟩ := hA.form
   obtain ⟨or_, cr, rfl, _⟩ := hB.form
   change WAF _ _ _ _ _ _ [(2, 16, _), (1, 15, _), (0, 14, _)] _ [5, 4, 3] ((19, _) :: ([(18, _), (17, _)] ++ _)) _
   refine WAF.add (i := 6) (d := 13) rfl (QF.mk [] [] rfl rfl kr_ rfl (QAt.y Wt.none (Yd.move rfl))) ?_
   refine WAF.add (i := 7) (d := 20) rfl (QF.mk [6] [(13, _)] rfl rfl kr_ rfl (QAt.y Wt.none (Yd.extract rfl rfl))) ?_
   refine WAF.add (i := 8) (d := 21) rfl (QF.mk [6] [(13, _)] rfl rfl kr_ rfl (QAt.y Wt.none (Yd.extract rfl rfl))) ?_
   refine WAF.add (i := 9) (d := 22) rfl (QF.mk [6] [(13, _)] rfl rfl kr_ rfl (QAt.y Wt.none (Yd.extract rfl rfl))) ?_
   refine WAF.step (pd := [(9, 22), (8, 21), (7, 20), (6, 13), (2, 16), (1, 15), (0, 14)]) [(10, [])] rfl kr_ kr_ (all_c rfl (all_c rfl (all_c rfl (all_c rfl (all_c rfl (all_c rfl (all_c rfl (all_n)))))))) (all_c (QF.mk [6] [(13, _)] rfl rfl kr_ rfl (QAt.y Wt.none (Yd.extract rfl rfl))) (all_c (QF.mk [6] [(13, _)] rfl rfl kr_ rfl (QAt.y Wt.none (Yd.extract rfl rfl))) (all_c (QF.mk [6] [(13, _)] rfl rfl kr_ rfl (QAt.y Wt.none (Yd.extract rfl rfl))) (all_c (QF.mk [] [] rfl rfl kr_ rfl (QAt.y Wt.none (Yd.move rfl))) (all_c (QF.mk [1] [(15, _)] rfl rfl kr_ rfl (QAt.y Wt.none (Yd.fieldAddr (k := 3) kr_ rfl))) (all_c (QF.mk [0] [(14, _)] rfl rfl kr_ rfl (QAt.y Wt.none (Yd.notNil rfl))) (all_c (QF.mk [] [] rfl rfl kr_ rfl (QAt.y Wt.none (Yd.move rfl))) (all_n)))))))) (all_c ?_ (all_n))
   ·change SO _ _ _ _ _ _ 10 ([] ++ _) _ _
    refine SO.h rfl Wt.none rfl (Hd.alloc (zs := [.int .u32 0, .int .i64 0, .bool false, .slice none 0 0, .int .i64 0, .slice none 0 0]) kr_ fun b6 => ⟨_, rfl, ?_⟩)
    change WAF _ _ _ _ _ _ [(9, 22, _), (8, 21, _), (7, 20, _), (6, 13, _), (2, 16, _), (1, 15, _), (0, 14, _)] _ [10, 5, 4, 3] ((6, _) :: ([] ++ _)) _
    refine WAF.add (i := 11) (d := 5) rfl (QF.mk [7, 6, 2, 1, 0] [(20, _), (13, _), (16, _), (15, _), (14, _)] rfl rfl kr_ rfl (QAt.y Wt.none (Yd.assign rfl))) ?_
    refine WAF.step (pd := [(11, 5), (9, 22), (8, 21), (7, 20), (6, 13), (2, 16), (1, 15), (0, 14)]) [(12, [11, 8, 7, 6, 2, 1, 0])] rfl kr_ kr_ (all_c rfl (all_c rfl (all_c rfl (all_c rfl (all_c rfl (all_c rfl (all_c rfl (all_c rfl (all_n))))))))) (all_c (QF.mk [7, 6, 2, 1, 0] [(20, _), (13, _), (16, _), (15, _), (14, _)] rfl rfl kr_ rfl (QAt.y Wt.none (Yd.assign rfl))) (all_c (QF.mk [6] [(13, _)] rfl rfl kr_ rfl (QAt.y Wt.none (Yd.extract rfl rfl))) (all_c (QF.mk [6] [(13, _)] rfl rfl kr_ rfl (QAt.y Wt.none (Yd.extract rfl rfl))) (all_c (QF.mk [6] [(13, _)] rfl rfl kr_ rfl (QAt.y Wt.none (Yd.extract rfl rfl))) (all_c (QF.mk [] [] rfl rfl kr_ rfl (QAt.y Wt.none (Yd.move rfl))) (all_c (QF.mk [1] [(15, _)] rfl rfl kr_ rfl (QAt.y Wt.none (Yd.fieldAddr (k := 3) kr_ rfl))) (all_c (QF.mk [0] [(14, _)] rfl rfl kr_ rfl (QAt.y Wt.none (Yd.notNil rfl))) (all_c (QF.mk [] [] rfl rfl kr_ rfl (QAt.y Wt.none (Yd.move rfl))) (all_n))))))))) (all_c ?_ (all_n))
    ·change SO _ _ _ _ _ _ 12 ([(5, _), (21, _), (20, _), (13, _), (16, _), (15, _), (14, _)] ++ _) _ _
     refine SO.s rfl Wt.none (Hd.storeAll (n := 6) kr_ rfl rfl (by rfl) (kc_one rfl rfl) fr_ (by rfl) ⟨rfl, ?_⟩)
     change WAF _ _ _ _ _ _ [(9, 22, _)] _ [12, 11, 8, 7, 6, 2, 1, 0, 10, 5, 4, 3] (([(5, _), (21, _), (20, _), (13, _), (16, _), (15, _), (14, _)] ++ _)) _
     refine WAF.add (i := 13) (d := 7) rfl (QF.mk [9] [(22, _)] rfl rfl kr_ rfl (QAt.y Wt.none (Yd.assign rfl))) ?_
     refine WAF.done (pd := [(13, 7), (9, 22)]) rfl kr_ kr_ (all_c rfl (all_c rfl (all_n))) (all_c (QF.mk [9] [(22, _)] rfl rfl kr_ rfl (QAt.y Wt.none (Yd.assign rfl))) (all_c (QF.mk [] [] rfl rfl kr_ rfl (QAt.y Wt.none (Yd.extract rfl rfl))) (all_n))) ?_
     change DN _ _ _ _ _ _ ([(7, _), (22, _)] ++ _) _
     exact DN.reachK ((b6, (oa, ca), (or_, cr), A, B)) (⟨hA, hB⟩) (Sx.put rfl (Sx.put rfl (Sx.put rfl (sx_)))) (Sp.all sp_)
  ·change SO _ _ _ _ _ _ 10 ([] ++ _) _ _
   refine SO.h rfl Wt.none rfl (Hd.alloc (zs := [.int .u32 0, .int .i64 0, .bool false, .slice none 0 0, .int .i64 0, .slice none 0 0]) kr_ fun b6 => ⟨_, rfl, ?_⟩)
   change WAF _ _ _ _ _ _ [(4, 18, _), (3, 17, _), (2, 16, _), (1, 15, _), (0, 14, _)] _ [10] ((6, _) :: ([] ++ _)) _
   refine WAF.step (pd := [(4, 18), (3, 17), (2, 16), (1, 15), (0, 14)]) [(5, [4, 3])] rfl kr_ kr_ (all_c rfl (all_c rfl (all_c rfl (all_c rfl (all_c rfl (all_n)))))) (all_c (QF.mk [] [] rfl rfl kr_ rfl (QAt.rd Wt.none (Rd.loadAll (n := 11) kr_ rfl mem_ (by rfl)))) (all_c (QF.mk [2] [(16, _)] rfl rfl kr_ rfl (QAt.rd Wt.none (Rd.loadA (n := 2) (vs := [_, _]) kr_ rfl mem_ (by rfl) (by rfl)))) (all_c (QF.mk [1] [(15, _)] rfl rfl kr_ rfl (QAt.y Wt.none (Yd.fieldAddr (k := 3) kr_ rfl))) (all_c (QF.mk [0] [(14, _)] rfl rfl kr_ rfl (QAt.y Wt.none (Yd.notNil rfl))) (all_c (QF.mk [] [] rfl rfl kr_ rfl (QAt.y Wt.none (Yd.move rfl))) (all_n)))))) (all_c ?_ (all_n))
   ·change SO _ _ _ _ _ _ 5 ([(18, _), (17, _)] ++ _) _ _
    refine SO.c rfl Wt.none rfl (Ent.func Tryz.call55 rfl) (ask_tells s.e _ s.ks (CF ++ H) (hF.kv.mono gr_) (by omega) n _ _ (hvk.mono gr_) (hvd.mono gr_)) (Sp.p sp_) ?_
    rintro x H9 ⟨wa, wr, A, B, rfl, hA, hB, rfl⟩
    rw [← hq] at hA hB ⊢
    dsimp only at hA hB ⊢
    obtain ⟨oa, ca, rfl, _⟩ := hA.form
    obtain ⟨or_, cr, rfl, _⟩ := hB.form
    change WAF _ _ _ _ _ _ [(2, 16, _), (1, 15, _), (0, 14, _)] _ [5, 4, 3, 10] ((19, _) :: ([(18, _), (17, _)] ++ _)) _
    refine WAF.add (i := 6) (d := 13) rfl (QF.mk [] [] rfl rfl kr_ rfl (QAt.y Wt.none (Yd.move rfl))) ?_
    refine WAF.add (i := 7) (d := 20) rfl (QF.mk [6] [(13, _)] rfl rfl kr_ rfl (QAt.y Wt.none (Yd.extract rfl rfl))) ?_
    refine WAF.add (i := 8) (d := 21) rfl (QF.mk [6] [(13, _)] rfl rfl kr_ rfl (QAt.y Wt.none (Yd.extract rfl rfl))) ?_
    refine WAF.add (i := 9) (d := 22) rfl (QF.mk [6] [(13, _)] rfl rfl kr_ rfl (QAt.y Wt.none (Yd.extract rfl rfl))) ?_
    refine WAF.add (i := 11) (d := 5) rfl (QF.mk [7, 6, 2, 1, 0] [(20, _), (13, _), (16, _), (15, _), (14, _)] rfl rfl kr_ rfl (QAt.y Wt.none (Yd.assign rfl))) ?_
    refine WAF.step (pd := [(11, 5), (9, 22), (8, 21), (7, 20), (6, 13), (2, 16), (1, 15), (0, 14)]) [(12, [11, 8, 7, 6, 2, 1, 0])] rfl kr_ kr_ (all_c rfl (all_c rfl (all_c rfl (all_c rfl (all_c rfl (all_c rfl (all_c rfl (all_c rfl (all_n))))))))) (all_c (QF.mk [7, 6, 2, 1, 0] [(20, _), (13, _), (16, _), (15, _), (14, _)] rfl rfl kr_ rfl (QAt.y Wt.none (Yd.assign rfl))) (all_c (QF.mk [6] [(13, _)] rfl rfl kr_ rfl (QAt.y Wt.none (Yd.extract rfl rfl))) (all_c (QF.mk [6] [(13, _)] rfl rfl kr_ rfl (QAt.y Wt.none (Yd.extract rfl rfl))) (all_c (QF.mk [6] [(13, _)] rfl rfl kr_ rfl (QAt.y Wt.none (Yd.extract rfl rfl))) (all_c (QF.mk [] [] rfl rfl kr_ rfl (QAt.y Wt.none (Yd.move rfl))) (all_c (QF.mk [1] [(15, _)] rfl rfl kr_ rfl (QAt.y Wt.none (Yd.fieldAddr (k := 3) kr_ rfl))) (all_c (QF.mk [0] [(14, _)] rfl rfl kr_ rfl (QAt.y Wt.none (Yd.notNil rfl))) (all_c (QF.mk [] [] rfl rfl kr_ rfl (QAt.y Wt.none (Yd.move rfl))) (all_n))))))))) (all_c ?_ (all_n))
    ·change SO _ _ _ _ _ _ 12 ([(5, _), (21, _), (20, _), (13, _), (16, _), (15, _), (14, _)] ++ _) _ _
     refine SO.s rfl Wt.none (Hd.storeAll (n := 6) kr_ rfl rfl (by rfl) (kc_one rfl rfl) fr_ (by rfl) ⟨rfl, ?_⟩)
     change WAF _ _ _ _ _ _ [(9, 22, _)] _ [12, 11, 8, 7, 6, 2, 1, 0, 5, 4, 3, 10] (([(5, _), (21, _), (20, _), (13, _), (16, _), (15, _), (14, _)] ++ _)) _
     refine WAF.add (i := 13) (d := 7) rfl (QF.mk [9] [(22, _)] rfl rfl kr_ rfl (QAt.y Wt.none (Yd.assign rfl))) ?_
     refine WAF.done (pd := [(13, 7), (9, 22)]) rfl kr_ kr_ (all_c rfl (all_c rfl (all_n))) (all_c (QF.mk [9] [(22, _)] rfl rfl kr_ rfl (QAt.y Wt.none (Yd.assign rfl))) (all_c (QF.mk [] [] rfl rfl kr_ rfl (QAt.y Wt.none (Yd.extract rfl rfl))) (all_n))) ?_
     change DN _ _ _ _ _ _ ([(7, _), (22, _)] ++ _) _
     exact DN.reachK ((b6, (oa, ca), (or_, cr), A, B)) (⟨hA, hB⟩) (Sx.put rfl (Sx.put rfl (Sx.put rfl (sx_)))) (Sp.all sp_)
 ·rintro ⟨b6, ⟨oa, ca⟩, ⟨or_, cr⟩, A, B⟩ ⟨hA, hB⟩
  dsimp only at hA hB ⊢
  refine WC.seq ?_
  refine WC.block ?_
  refine sr_ ?_
  refine m_ rfl rfl ?_
  refine WL.y rfl (Yd.eql rfl rfl) ?_
  refine a_ rfl rfl ?_
  refine nt_ ?_
  refine WC.ite rfl (fun h23 => ?_) (fun h23 => ?_)
  ·have e72 := hq3.trans h23
   refine WC.seq ?_
   refine WC.draw 13 kr_ rfl ?_
   refine WA.float (N := 13) rfl ?_
   refine WAF.add (i := 0) (d := 26) rfl (QF.mk [] [] rfl rfl kr_ rfl (QAt.y Wt.none (Yd.move rfl))) ?_
   refine WAF.add (i := 1) (d := 27) rfl (QF.mk [0] [(26, _)] rfl rfl kr_ rfl (QAt.y Wt.none (Yd.notNil rfl))) ?_
   refine WAF.add (i := 2) (d := 28) rfl (QF.mk [1] [(27, _)] rfl rfl kr_ rfl (QAt.y Wt.none (Yd.fieldAddr (k := 3) kr_ rfl))) ?_
   refine WAF.add (i := 3) (d := 29) rfl (QF.mk [2] [(28, _)] rfl rfl kr_ rfl (QAt.y Wt.none (Yd.fieldAddr (k := 0) kr_ rfl))) ?_
   refine WAF.add (i := 4) (d := 30) rfl (QF.mk [3] [(29, _)] rfl rfl kr_ rfl (QAt.rd Wt.none (Rd.load1 kr_ rfl mem_ (by rfl)))) ?_
   refine WAF.add (i := 5) (d := 31) rfl (QF.mk [] [] rfl rfl kr_ rfl (QAt.y Wt.none (Yd.fieldAddr (k := 5) kr_ rfl))) ?_
   refine WAF.add (i := 6) (d := 32) rfl (QF.mk [5] [(31, _)] rfl rfl kr_ rfl (QAt.rd Wt.none (Rd.load1 kr_ rfl mem_ (by rfl)))) ?_
   refine WAF.add (i := 7) (d := 33) rfl (QF.mk [] [] rfl rfl kr_ rfl (QAt.y Wt.none (Yd.fieldAddr (k := 6) kr_ rfl))) ?_
   refine WAF.add (i := 8) (d := 34) rfl (QF.mk [7] [(33, _)] rfl rfl kr_ rfl (QAt.rd Wt.none (Rd.load1 kr_ rfl mem_ (by rfl)))) ?_
   refine WAF.add (i := 9) (d := 35) rfl (QF.mk [] [] rfl rfl kr_ rfl (QAt.y Wt.none (Yd.fieldAddr (k := 7) kr_ rfl))) ?_
   refine WAF.add (i := 10) (d := 36) rfl (QF.mk [9] [(35, _)] rfl rfl kr_ rfl (QAt.rd Wt.none (Rd.load1 kr_ rfl mem_ (by rfl)))) ?_
   refine WAF.add (i := 11) (d := 37) rfl (QF.mk [10, 8, 6, 4] [(36, _), (34, _), (32, _), (30, _)] rfl rfl kr_ rfl (QAt.y Wt.none (Yd.buildL (pl := [(0, 1), (1, 1), (2, 1), (3, 1), (4, 1), (5, 1), (6, 1), (7, 1), (8, 1), (9, 1), (10, 1)]) (zs := [.int .i64 0, .int .u32 0, .int .u32 0, .int .u64 0, .int .u64 0, .int .u32 0, .int .i64 0, .bool false, .int .i64 0, .slice none 0 0, .slice none 0 0]) (parts := [(0, .const (.int .i64 9)), (1, .tmp 30), (5, .tmp 32), (6, .tmp 34), (7, .tmp 36)]) (vs := [(0, _), (1, _), (5, _), (6, _), (7, _)]) (cells := [_, _, .int .u32 0, .int .u64 0, .int .u64 0, _, _, _, .int .i64 0, .slice none 0 0, .slice none 0 0]) kr_ kr_ rfl rfl))) ?_
   refine WAF.step (pd := [(11, 37), (10, 36), (9, 35), (8, 34), (7, 33), (6, 32), (5, 31), (4, 30), (3, 29), (2, 28), (1, 27), (0, 26)]) [(12, [11, 10, 9, 8, 7, 6, 5, 4, 3, 2, 1, 0])] rfl kr_ kr_ (all_c rfl (all_c rfl (all_c rfl (all_c rfl (all_c rfl (all_c rfl (all_c rfl (all_c rfl (all_c rfl (all_c rfl (all_c rfl (all_c rfl (all_n))))))))))))) (all_c (QF.mk [10, 8, 6, 4] [(36, _), (34, _), (32, _), (30, _)] rfl rfl kr_ rfl (QAt.y Wt.none (Yd.buildL (pl := [(0, 1), (1, 1), (2, 1), (3, 1), (4, 1), (5, 1), (6, 1), (7, 1), (8, 1), (9, 1), (10, 1)]) (zs := [.int .i64 0, .int .u32 0, .int .u32 0, .int .u64 0, .int .u64 0, .int .u32 0, .int .i64 0, .bool false, .int .i64 0, .slice none 0 0, .slice none 0 0]) (parts := [(0, .const (.int .i64 9)), (1, .tmp 30), (5, .tmp 32), (6, .tmp 34), (7, .tmp 36)]) (vs := [(0, _), (1, _), (5, _), (6, _), (7, _)]) (cells := [_, _, .int .u32 0, .int .u64 0, .int .u64 0, _, _, _, .int .i64 0, .slice none 0 0, .slice none 0 0]) kr_ kr_ rfl rfl))) (all_c (QF.mk [9] [(35, _)] rfl rfl kr_ rfl (QAt.rd Wt.none (Rd.load1 kr_ rfl mem_ (by rfl)))) (all_c (QF.mk [] [] rfl rfl kr_ rfl (QAt.y Wt.none (Yd.fieldAddr (k := 7) kr_ rfl))) (all_c (QF.mk [7] [(33, _)] rfl rfl kr_ rfl (QAt.rd Wt.none (Rd.load1 kr_ rfl mem_ (by rfl)))) (all_c (QF.mk [] [] rfl rfl kr_ rfl (QAt.y Wt.none (Yd.fieldAddr (k := 6) kr_ rfl))) (all_c (QF.mk [5] [(31, _)] rfl rfl kr_ rfl (QAt.rd Wt.none (Rd.load1 kr_ rfl mem_ (by rfl)))) (all_c (QF.mk [] [] rfl rfl kr_ rfl (QAt.y Wt.none (Yd.fieldAddr (k := 5) kr_ rfl))) (all_c (QF.mk [3] [(29, _)] rfl rfl kr_ rfl (QAt.rd Wt.none (Rd.load1 kr_ rfl mem_ (by rfl)))) (all_c (QF.mk [2] [(28, _)] rfl rfl kr_ rfl (QAt.y Wt.none (Yd.fieldAddr (k := 0) kr_ rfl))) (all_c (QF.mk [1] [(27, _)] rfl rfl kr_ rfl (QAt.y Wt.none (Yd.fieldAddr (k := 3) kr_ rfl))) (all_c (QF.mk [0] [(26, _)] rfl rfl kr_ rfl (QAt.y Wt.none (Yd.notNil rfl))) (all_c (QF.mk [] [] rfl rfl kr_ rfl (QAt.y Wt.none (Yd.move rfl))) (all_n))))))))))))) (all_c ?_ (all_n))
   ·change SO _ _ _ _ _ _ 12 ([(37, _), (36, _), (35, _), (34, _), (33, _), (32, _), (31, _), (30, _), (29, _), (28, _), (27, _), (26, _)] ++ _) _ _
    refine SO.s rfl Wt.none (Hd.storeAll (n := 11) kr_ rfl rfl (by rfl) one_ fr_ (by rfl) ⟨rfl, ?_⟩)
    change WAF _ _ _ _ _ _ [] _ [12, 11, 10, 9, 8, 7, 6, 5, 4, 3, 2, 1, 0] (([(37, _), (36, _), (35, _), (34, _), (33, _), (32, _), (31, _), (30, _), (29, _), (28, _), (27, _), (26, _)] ++ _)) _
    refine WAF.done (pd := []) rfl kr_ kr_ (all_n) (all_n) ?_
    change DN _ _ _ _ _ _ ([] ++ _) _
    refine DN.then_normal ?_
    refine WC.ret ?_
    refine DN.block_ret ?_
    refine DN.then_ret ?_
    refine DN.retCS (s := 11) ((row p [.pointer (some ⟨pd, 0, none⟩), .pointer (some ⟨ps, 0, none⟩), .pointer (some ⟨pp, 0, none⟩), .int .u32 s.e.toNat, .slice lo s.ks.length lc, .slice eo s.ef.length ec, .slice no s.no.length nc] 116 :: (CS ++ (CP ++ (CD ++ (CF ++ (CE ++ (CN ++ DO))))))) ++ H) Tryz.results22 kr_ rfl mem_ (by rfl) sp_ ?_
    rw [(serve_72 (hq3.trans h23)).1, (serve_72 (hq3.trans h23)).2]
    exact ⟨_, _, [], rfl, ⟨pd, ps, pp, _, _, _, _, _, _, _, _, _, _, _, rfl, hS, hP, hD, hF, hE, hN, hO⟩, Ob.nil _, rfl⟩
  ·refine sr_ ?_
   refine m_ rfl rfl ?_
   refine WL.y rfl (Yd.eql rfl rfl) ?_
   refine a_ rfl rfl ?_
   refine nt_ ?_
   refine WC.ite rfl (fun h38 => ?_) (fun h38 => ?_)
   ·refine sr_ ?_
    refine m_ rfl rfl ?_
    refine n_ rfl rfl ?_
    refine f_ 3 kr_ rfl rfl ?_
    refine f_ 0 kr_ rfl rfl ?_
    refine d_ kr_ rfl mem_ (by rfl) rfl ?_
    refine WL.y rfl (Yd.buildL (pl := [(0, 1), (1, 1), (2, 1), (3, 1), (4, 1), (5, 1), (6, 1), (7, 1), (8, 1), (9, 1), (10, 1)]) (zs := [.int .i64 0, .int .u32 0, .int .u32 0, .int .u64 0, .int .u64 0, .int .u32 0, .int .i64 0, .bool false, .int .i64 0, .slice none 0 0, .slice none 0 0]) (parts := [(0, .const (.int .i64 6)), (1, .tmp 45), (8, .const (.int .i64 2))]) (vs := [(0, _), (1, _), (8, _)]) (cells := [_, _, .int .u32 0, .int .u64 0, .int .u64 0, .int .u32 0, .int .i64 0, .bool false, _, .slice none 0 0, .slice none 0 0]) kr_ kr_ rfl rfl) ?_
    refine WL.s (Hd.storeAll (n := 11) kr_ rfl rfl (by rfl) one_ fr_ (by rfl) ⟨rfl, ?_⟩)
    refine nt_ ?_
    refine WC.ret ?_
    refine DN.block_ret ?_
    refine DN.then_ret ?_
    refine DN.retCS (s := 11) ((row p [.pointer (some ⟨pd, 0, none⟩), .pointer (some ⟨ps, 0, none⟩), .pointer (some ⟨pp, 0, none⟩), .int .u32 s.e.toNat, .slice lo s.ks.length lc, .slice eo s.ef.length ec, .slice no s.no.length nc] 116 :: (CS ++ (CP ++ (CD ++ (CF ++ (CE ++ (CN ++ DO))))))) ++ H) Tryz.results22 kr_ rfl mem_ (by rfl) sp_ ?_
    rw [(serve_80 (fun e => h23 (hq3.symm.trans e)) (hq3.trans h38)).1, (serve_80 (fun e => h23 (hq3.symm.trans e)) (hq3.trans h38)).2]
    exact ⟨_, _, [], rfl, ⟨pd, ps, pp, _, _, _, _, _, _, _, _, _, _, _, rfl, hS, hP, hD, hF, hE, hN, hO⟩, Ob.nil _, rfl⟩
   ·refine sr_ ?_
    refine m_ rfl rfl ?_
    refine WL.y rfl (Yd.neq rfl rfl) ?_
    refine a_ rfl rfl ?_
    refine nt_ ?_
    refine WC.ite rfl (fun h47 => ?_) (fun h47 => ?_)
    ·refine sr_ ?_
     refine m_ rfl rfl ?_
     refine n_ rfl rfl ?_
     refine f_ 3 kr_ rfl rfl ?_
     refine f_ 0 kr_ rfl rfl ?_
     refine d_ kr_ rfl mem_ (by rfl) rfl ?_
     refine WL.y rfl (Yd.buildL (pl := [(0, 1), (1, 1), (2, 1), (3, 1), (4, 1), (5, 1), (6, 1), (7, 1), (8, 1), (9, 1), (10, 1)]) (zs := [.int .i64 0, .int .u32 0, .int .u32 0, .int .u64 0, .int .u64 0, .int .u32 0, .int .i64 0, .bool false, .int .i64 0, .slice none 0 0, .slice none 0 0]) (parts := [(0, .const (.int .i64 6)), (1, .tmp 54), (8, .const (.int .i64 1))]) (vs := [(0, _), (1, _), (8, _)]) (cells := [_, _, .int .u32 0, .int .u64 0, .int .u64 0, .int .u32 0, .int .i64 0, .bool false, _, .slice none 0 0, .slice none 0 0]) kr_ kr_ rfl rfl) ?_
     refine WL.s (Hd.storeAll (n := 11) kr_ rfl rfl (by rfl) one_ fr_ (by rfl) ⟨rfl, ?_⟩)
     refine nt_ ?_
     refine WC.ret ?_
     refine DN.block_ret ?_
     refine DN.then_ret ?_
     refine DN.retCS (s := 11) ((row p [.pointer (some ⟨pd, 0, none⟩), .pointer (some ⟨ps, 0, none⟩), .pointer (some ⟨pp, 0, none⟩), .int .u32 s.e.toNat, .slice lo s.ks.length lc, .slice eo s.ef.length ec, .slice no s.no.length nc] 116 :: (CS ++ (CP ++ (CD ++ (CF ++ (CE ++ (CN ++ DO))))))) ++ H) Tryz.results22 kr_ rfl mem_ (by rfl) sp_ ?_
     rw [(serve_no (fun e => h23 (hq3.symm.trans e)) (fun e => h38 (hq3.symm.trans e)) (by rw [hq3]; exact h47)).1, (serve_no (fun e => h23 (hq3.symm.trans e)) (fun e => h38 (hq3.symm.trans e)) (by rw [hq3]; exact h47)).2]
     exact ⟨_, _, [], rfl, ⟨pd, ps, pp, _, _, _, _, _, _, _, _, _, _, _, rfl, hS, hP, hD, hF, hE, hN, hO⟩, Ob.nil _, rfl⟩
    ·have her : (askK s.e s.ks n).2.2 = 0 := hq3.trans (Classical.byContradiction h47)
     have hgo := askK_ok her
     have hdl : n.data.length ≤ 1000 := by
       have h9 : noteBad n = false := by
         cases e9 : noteBad n
         · rfl
         · exact absurd (.inr (.inr (.inl e9))) hgo.1
       have := (noteBad_step h9).2.2
       omega
     refine sr_ ?_
     refine m_ rfl rfl ?_
     refine WL.y rfl (Yd.eql rfl rfl) ?_
     refine a_ rfl rfl ?_
     refine nt_ ?_
     refine WC.ite rfl (fun h56 => ?_) (fun h56 => ?_)
     ·refine WC.seq ?_
      refine WC.draw 14 kr_ rfl ?_
      refine WA.float (N := 14) rfl ?_
      refine WAF.add (i := 0) (d := 60) rfl (QF.mk [] [] rfl rfl kr_ rfl (QAt.y Wt.none (Yd.move rfl))) ?_
      refine WAF.add (i := 1) (d := 61) rfl (QF.mk [] [] rfl rfl kr_ rfl (QAt.y Wt.none (Yd.move rfl))) ?_
      refine WAF.add (i := 2) (d := 62) rfl (QF.mk [1] [(61, _)] rfl rfl kr_ rfl (QAt.y Wt.none (Yd.notNil rfl))) ?_
      refine WAF.add (i := 3) (d := 63) rfl (QF.mk [2] [(62, _)] rfl rfl kr_ rfl (QAt.y Wt.none (Yd.fieldAddr (k := 3) kr_ rfl))) ?_
      refine WAF.add (i := 4) (d := 64) rfl (QF.mk [3] [(63, _)] rfl rfl kr_ rfl (QAt.rd Wt.none (Rd.loadA (n := 2) (vs := [_, _]) kr_ rfl mem_ (by rfl) (by rfl)))) ?_
      refine WAF.add (i := 5) (d := 65) rfl (QF.mk [] [] rfl rfl kr_ rfl (QAt.y Wt.none (Yd.fieldAddr (k := 1) kr_ rfl))) ?_
      refine WAF.add (i := 6) (d := 66) rfl (QF.mk [5] [(65, _)] rfl rfl kr_ rfl (QAt.rd Wt.none (Rd.load1 kr_ rfl mem_ (by rfl)))) ?_
      refine WAF.step (pd := [(6, 66), (5, 65), (4, 64), (3, 63), (2, 62), (1, 61), (0, 60)]) [(7, [6, 4])] rfl kr_ kr_ (all_c rfl (all_c rfl (all_c rfl (all_c rfl (all_c rfl (all_c rfl (all_c rfl (all_n)))))))) (all_c (QF.mk [5] [(65, _)] rfl rfl kr_ rfl (QAt.rd Wt.none (Rd.load1 kr_ rfl mem_ (by rfl)))) (all_c (QF.mk [] [] rfl rfl kr_ rfl (QAt.y Wt.none (Yd.fieldAddr (k := 1) kr_ rfl))) (all_c (QF.mk [3] [(63, _)] rfl rfl kr_ rfl (QAt.rd Wt.none (Rd.loadA (n := 2) (vs := [_, _]) kr_ rfl mem_ (by rfl) (by rfl)))) (all_c (QF.mk [2] [(62, _)] rfl rfl kr_ rfl (QAt.y Wt.none (Yd.fieldAddr (k := 3) kr_ rfl))) (all_c (QF.mk [1] [(61, _)] rfl rfl kr_ rfl (QAt.y Wt.none (Yd.notNil rfl))) (all_c (QF.mk [] [] rfl rfl kr_ rfl (QAt.y Wt.none (Yd.move rfl))) (all_c (QF.mk [] [] rfl rfl kr_ rfl (QAt.y Wt.none (Yd.move rfl))) (all_n)))))))) (all_c ?_ (all_n))
      ·change SO _ _ _ _ _ _ 7 ([(66, _), (64, _)] ++ _) _ _
       refine SO.c rfl Wt.none rfl (Ent.func Tryz.call56 rfl) (see_tells s.e _ s.ks CF hF.kv (by omega) n.epoch) (Sp.p sp_) ?_
       rintro x H9 ⟨ws, DS, rfl, hSF, rfl⟩
       obtain ⟨so, sc, rfl⟩ := hSF.form
       change WAF _ _ _ _ _ _ [(5, 65, _), (3, 63, _), (2, 62, _), (1, 61, _), (0, 60, _)] _ [7, 6, 4] ((67, _) :: ([(66, _), (64, _)] ++ _)) _
       refine WAF.add (i := 8) (d := 59) rfl (QF.mk [] [] rfl rfl kr_ rfl (QAt.y Wt.none (Yd.move rfl))) ?_
       refine WAF.add (i := 9) (d := 68) rfl (QF.mk [8] [(59, _)] rfl rfl kr_ rfl (QAt.y Wt.none (Yd.extract rfl rfl))) ?_
       refine WAF.add (i := 10) (d := 69) rfl (QF.mk [8] [(59, _)] rfl rfl kr_ rfl (QAt.y Wt.none (Yd.extract rfl rfl))) ?_
       refine WAF.add (i := 11) (d := 70) rfl (QF.mk [9, 8, 5, 3, 2, 1, 0] [(68, _), (59, _), (65, _), (63, _), (62, _), (61, _), (60, _)] rfl rfl kr_ rfl (QAt.y Wt.none (Yd.notNil rfl))) ?_
       refine WAF.add (i := 12) (d := 71) rfl (QF.mk [11, 9, 8, 5, 3, 2, 1, 0] [(70, _), (68, _), (59, _), (65, _), (63, _), (62, _), (61, _), (60, _)] rfl rfl kr_ rfl (QAt.y Wt.none (Yd.fieldAddr (k := 3) kr_ rfl))) ?_
       refine WAF.step (pd := [(12, 71), (11, 70), (10, 69), (9, 68), (8, 59), (5, 65), (3, 63), (2, 62), (1, 61), (0, 60)]) [(13, [12, 9, 8, 5, 3, 2, 1, 0])] rfl kr_ kr_ (all_c rfl (all_c rfl (all_c rfl (all_c rfl (all_c rfl (all_c rfl (all_c rfl (all_c rfl (all_c rfl (all_c rfl (all_n))))))))))) (all_c (QF.mk [11, 9, 8, 5, 3, 2, 1, 0] [(70, _), (68, _), (59, _), (65, _), (63, _), (62, _), (61, _), (60, _)] rfl rfl kr_ rfl (QAt.y Wt.none (Yd.fieldAddr (k := 3) kr_ rfl))) (all_c (QF.mk [9, 8, 5, 3, 2, 1, 0] [(68, _), (59, _), (65, _), (63, _), (62, _), (61, _), (60, _)] rfl rfl kr_ rfl (QAt.y Wt.none (Yd.notNil rfl))) (all_c (QF.mk [8] [(59, _)] rfl rfl kr_ rfl (QAt.y Wt.none (Yd.extract rfl rfl))) (all_c (QF.mk [8] [(59, _)] rfl rfl kr_ rfl (QAt.y Wt.none (Yd.extract rfl rfl))) (all_c (QF.mk [] [] rfl rfl kr_ rfl (QAt.y Wt.none (Yd.move rfl))) (all_c (QF.mk [] [] rfl rfl kr_ rfl (QAt.y Wt.none (Yd.fieldAddr (k := 1) kr_ rfl))) (all_c (QF.mk [2] [(62, _)] rfl rfl kr_ rfl (QAt.y Wt.none (Yd.fieldAddr (k := 3) kr_ rfl))) (all_c (QF.mk [1] [(61, _)] rfl rfl kr_ rfl (QAt.y Wt.none (Yd.notNil rfl))) (all_c (QF.mk [] [] rfl rfl kr_ rfl (QAt.y Wt.none (Yd.move rfl))) (all_c (QF.mk [] [] rfl rfl kr_ rfl (QAt.y Wt.none (Yd.move rfl))) (all_n))))))))))) (all_c ?_ (all_n))
       ·change SO _ _ _ _ _ _ 13 ([(71, _), (68, _), (59, _), (65, _), (63, _), (62, _), (61, _), (60, _)] ++ _) _ _
        refine SO.s rfl Wt.none (Hd.storeP (n := 2) kr_ rfl rfl (by rfl) one_ fr_ (by show 0 + 3 + 2 ≤ 7; decide) (by rfl) ⟨rfl, ?_⟩)
        change WAF _ _ _ _ _ _ [(11, 70, _), (10, 69, _)] _ [13, 12, 9, 8, 5, 3, 2, 1, 0, 7, 6, 4] (([(71, _), (68, _), (59, _), (65, _), (63, _), (62, _), (61, _), (60, _)] ++ _)) _
        refine WAF.done (pd := [(11, 70), (10, 69)]) rfl kr_ kr_ (all_c rfl (all_c rfl (all_n))) (all_c (QF.mk [] [] rfl rfl kr_ rfl (QAt.y Wt.none (Yd.notNil rfl))) (all_c (QF.mk [] [] rfl rfl kr_ rfl (QAt.y Wt.none (Yd.extract rfl rfl))) (all_n))) ?_
        change DN _ _ _ _ _ _ ([(70, _), (69, _)] ++ _) _
        refine ts_ ?_
        refine WC.region ?_
        refine WL.h rfl (Hd.loadAll (n := 11) kr_ rfl mem_ (by rfl) ⟨_, rfl, ?_⟩)
        refine f_ 4 kr_ rfl rfl ?_
        refine d_ kr_ rfl mem_ (by rfl) rfl ?_
        refine f_ 5 kr_ rfl rfl ?_
        refine d_ kr_ rfl mem_ (by rfl) rfl ?_
        refine WL.c rfl (Ent.func Tryz.call57 rfl) (done_tells n _ _ ⟨_, _, rfl⟩ ⟨_, _, rfl⟩ kk.code _ kk.reply B hB.bs (by omega)) (Sp.p sp_) ?_
        rintro x H9 ⟨wd, AD, rfl, hAD, rfl⟩
        obtain ⟨od, cd, rfl, _⟩ := hAD.form
        refine WL.s (Hd.storeAll (n := 11) kr_ rfl rfl (by rfl) one_ fr_ (by rfl) ⟨rfl, ?_⟩)
        refine nt_ ?_
        refine WC.ret ?_
        refine DN.block_ret ?_
        refine DN.then_ret ?_
        refine DN.retCS (s := 11) ((row p [.pointer (some ⟨pd, 0, none⟩), .pointer (some ⟨ps, 0, none⟩), .pointer (some ⟨pp, 0, none⟩), .int .u32 (seeK s.e s.ks n.epoch).1.toNat, .slice so (seeK s.e s.ks n.epoch).2.1.length sc, .slice eo s.ef.length ec, .slice no s.no.length nc] 116 :: (CS ++ (CP ++ (CD ++ (DS ++ (CE ++ (CN ++ DO))))))) ++ (AD ++ H)) Tryz.results22 kr_ rfl mem_ (by rfl) sp_ ?_
        have g := serve_again (s := s) (n := n) (by rw [hq3]; exact h47) (hq1.trans h56)
        rw [hq2] at g
        rw [g.1, g.2]
        exact ⟨_, _, AD, rfl, ⟨pd, ps, pp, _, _, _, CS, CP, CD, DS, CE, cn, CN, DO, rfl, hS, hP, hD, hSF, hE, hN, hO⟩, hAD, rfl⟩
     ·refine sr_ ?_
      refine m_ rfl rfl ?_
      refine n_ rfl rfl ?_
      refine f_ 3 kr_ rfl rfl ?_
      refine f_ 1 kr_ rfl rfl ?_
      refine d_ kr_ rfl mem_ (by rfl) rfl ?_
      refine WL.y rfl (Yd.len (e := 118) kr_ rfl) ?_
      refine WL.y rfl (Yd.geq rfl rfl) ?_
      refine a_ rfl rfl ?_
      refine nt_ ?_
      refine WC.ite rfl (fun h78 => ?_) (fun h78 => ?_)
      ·refine sr_ ?_
       refine m_ rfl rfl ?_
       refine n_ rfl rfl ?_
       refine f_ 3 kr_ rfl rfl ?_
       refine f_ 0 kr_ rfl rfl ?_
       refine d_ kr_ rfl mem_ (by rfl) rfl ?_
       refine WL.y rfl (Yd.buildL (pl := [(0, 1), (1, 1), (2, 1), (3, 1), (4, 1), (5, 1), (6, 1), (7, 1), (8, 1), (9, 1), (10, 1)]) (zs := [.int .i64 0, .int .u32 0, .int .u32 0, .int .u64 0, .int .u64 0, .int .u32 0, .int .i64 0, .bool false, .int .i64 0, .slice none 0 0, .slice none 0 0]) (parts := [(0, .const (.int .i64 6)), (1, .tmp 90), (8, .const (.int .i64 3))]) (vs := [(0, _), (1, _), (8, _)]) (cells := [_, _, .int .u32 0, .int .u64 0, .int .u64 0, .int .u32 0, .int .i64 0, .bool false, _, .slice none 0 0, .slice none 0 0]) kr_ kr_ rfl rfl) ?_
       refine WL.s (Hd.storeAll (n := 11) kr_ rfl rfl (by rfl) one_ fr_ (by rfl) ⟨rfl, ?_⟩)
       refine nt_ ?_
       refine WC.ret ?_
       refine DN.block_ret ?_
       refine DN.then_ret ?_
       refine DN.retCS (s := 11) ((row p [.pointer (some ⟨pd, 0, none⟩), .pointer (some ⟨ps, 0, none⟩), .pointer (some ⟨pp, 0, none⟩), .int .u32 s.e.toNat, .slice lo s.ks.length lc, .slice eo s.ef.length ec, .slice no s.no.length nc] 116 :: (CS ++ (CP ++ (CD ++ (CF ++ (CE ++ (CN ++ DO))))))) ++ H) Tryz.results22 kr_ rfl mem_ (by rfl) sp_ ?_
       rw [(serve_full (by rw [hq3]; exact h47) (by rw [hq1]; exact h56) (by omega)).1, (serve_full (by rw [hq3]; exact h47) (by rw [hq1]; exact h56) (by omega)).2]
       exact ⟨_, _, [], rfl, ⟨pd, ps, pp, _, _, _, _, _, _, _, _, _, _, _, rfl, hS, hP, hD, hF, hE, hN, hO⟩, Ob.nil _, rfl⟩
      ·refine WC.skip ?_
       refine DN.block_normal ?_
       refine ts_ ?_
       refine WC.region ?_
       refine a_ rfl rfl ?_
       refine a_ rfl rfl ?_
       refine nt_ ?_
       refine WC.cutK (fun z : Int × List (BitVec 8) × List Ck × (Option Addr × Nat) × List Ck => z.1 = codeOf s n act ∧ z.2.1 = replyOf s n act ∧ CwAt 189 198 203 3 5 118 111 22 116 p (didS s n act) z.2.2.1 ∧ Ob 5 (.slice z.2.2.2.1.1 z.2.1.length z.2.2.2.1.2) z.2.1 z.2.2.2.2) (fun z : Int × List (BitVec 8) × List Ck × (Option Addr × Nat) × List Ck => [(8, .int .i64 z.1), (9, .slice z.2.2.2.1.1 z.2.1.length z.2.2.2.1.2)]) (fun z : Int × List (BitVec 8) × List Ck × (Option Addr × Nat) × List Ck => z.2.2.1 ++ (z.2.2.2.2 ++ (row b4 [.int .i64 0, .int .u32 0, .int .u32 0, .int .u64 0, .int .u64 0, .int .u32 0, .int .i64 0, .bool false, .int .i64 0, .slice none 0 0, .slice none 0 0] 52 :: (row b3 (ntc n (.slice ko n.key.length kc9) (.slice do_ n.data.length dc)) 52 :: H)))) ?_ ?_
       ·refine sr_ ?_
        refine m_ rfl rfl ?_
        refine nt_ ?_
        refine WC.block ?_
        refine sr_ ?_
        refine WL.y rfl (Yd.eql rfl rfl) ?_
        refine a_ rfl rfl ?_
        refine nt_ ?_
        refine WC.ite rfl (fun h93 => ?_) (fun h93 => ?_)
        ·refine WC.region ?_
         refine a_ rfl rfl ?_
         refine WL.nil ?_
         refine DN.block_normal ?_
         exact DN.reachS ((1, [], row p [.pointer (some ⟨pd, 0, none⟩), .pointer (some ⟨ps, 0, none⟩), .pointer (some ⟨pp, 0, none⟩), .int .u32 s.e.toNat, .slice lo s.ks.length lc, .slice eo s.ef.length ec, .slice no s.no.length nc] 116 :: (CS ++ (CP ++ (CD ++ (CF ++ (CE ++ (CN ++ DO)))))), (none, 0), [])) (by have g := did_4 (s := s) (n := n) h93; exact ⟨g.1.symm, g.2.1.symm, by rw [g.2.2]; exact ⟨pd, ps, pp, _, _, _, _, _, _, _, _, _, _, _, rfl, hS, hP, hD, hF, hE, hN, hO⟩, Ob.nil _⟩) (Sx.put rfl (Sx.put rfl (sx_))) sp_
        ·refine sr_ ?_
         refine WL.y rfl (Yd.eql rfl rfl) ?_
         refine a_ rfl rfl ?_
         refine nt_ ?_
         refine WC.ite rfl (fun h95 => ?_) (fun h95 => ?_)
         ·refine sr_ ?_
          refine m_ rfl rfl ?_
          refine WL.h rfl (Hd.loadAll (n := 11) kr_ rfl mem_ (by rfl) ⟨_, rfl, ?_⟩)
          refine WL.c rfl (Ent.func Tryz.call58 rfl) (do_tells p s _ hAt inv.st inv.pu inv.dk (by omega) n _ _ H ⟨_, _, rfl⟩ hvd hdl) (Sp.p sp_) ?_
          rintro x H9 ⟨C9, xr, AR, rfl, h9, hAR, rfl⟩
          obtain ⟨ro, rc, rfl, _⟩ := hAR.form
          refine m_ rfl rfl ?_
          refine x_ rfl rfl rfl ?_
          refine x_ rfl rfl rfl ?_
          refine a_ rfl rfl ?_
          refine a_ rfl rfl ?_
          refine ntsr_ ?_
          refine m_ rfl rfl ?_
          refine WL.y rfl (Yd.eql rfl rfl) ?_
          refine nt_ ?_
          refine WC.ite rfl (fun h104 => ?_) (fun h104 => ?_)
          ·have hF9 : (doS s n).ef.length = s.ef.length := by rw [do_fence.2.2]
           refine WC.draw 17 kr_ rfl ?_
           refine WA.float (N := 17) rfl ?_
           refine WAF.add (i := 0) (d := 105) rfl (QF.mk [] [] rfl rfl kr_ rfl (QAt.y Wt.none (Yd.move rfl))) ?_
           refine WAF.add (i := 1) (d := 106) rfl (QF.mk [] [] rfl rfl kr_ rfl (QAt.y Wt.none (Yd.move rfl))) ?_
           refine WAF.add (i := 2) (d := 107) rfl (QF.mk [1] [(106, _)] rfl rfl kr_ rfl (QAt.y Wt.none (Yd.notNil rfl))) ?_
           refine WAF.add (i := 3) (d := 108) rfl (QF.mk [2] [(107, _)] rfl rfl kr_ rfl (QAt.y Wt.none (Yd.fieldAddr (k := 5) kr_ rfl))) ?_
           obtain ⟨pd, ps, pp, vL, vE, vN, CS, CP, CD, CF, CE, cn, CN, DO, rfl, hS, hP, hD, hF, hE, hN, hO⟩ := h9
           obtain ⟨lo, lc, rfl⟩ := hF.form
           obtain ⟨eo, ec, rfl, hec⟩ := hE.form
           obtain ⟨no, nc, rfl, hnc⟩ := hN.form
           refine WAF.add (i := 4) (d := 109) rfl (QF.mk [3] [(108, _)] rfl rfl kr_ rfl (QAt.rd Wt.none (Rd.load1 kr_ rfl mem_ (by rfl)))) ?_
           refine WAF.add (i := 5) (d := 110) rfl (QF.mk [] [] rfl rfl kr_ rfl (QAt.y Wt.none (Yd.fieldAddr (k := 5) kr_ rfl))) ?_
           refine WAF.add (i := 6) (d := 111) rfl (QF.mk [5] [(110, _)] rfl rfl kr_ rfl (QAt.rd Wt.none (Rd.load1 kr_ rfl mem_ (by rfl)))) ?_
           refine WAF.add (i := 7) (d := 112) rfl (QF.mk [] [] rfl rfl kr_ rfl (QAt.y Wt.none (Yd.fieldAddr (k := 6) kr_ rfl))) ?_
           refine WAF.add (i := 8) (d := 113) rfl (QF.mk [7] [(112, _)] rfl rfl kr_ rfl (QAt.rd Wt.none (Rd.load1 kr_ rfl mem_ (by rfl)))) ?_
           refine WAF.add (i := 9) (d := 114) rfl (QF.mk [] [] rfl rfl kr_ rfl (QAt.y Wt.none (Yd.fieldAddr (k := 7) kr_ rfl))) ?_
           refine WAF.add (i := 10) (d := 115) rfl (QF.mk [9] [(114, _)] rfl rfl kr_ rfl (QAt.rd Wt.none (Rd.load1 kr_ rfl mem_ (by rfl)))) ?_
           refine WAF.add (i := 11) (d := 116) rfl (QF.mk [10, 8, 6] [(115, _), (113, _), (111, _)] rfl rfl kr_ rfl (QAt.y Wt.none (Yd.buildL (pl := [(0, 1), (1, 1), (2, 1)]) (zs := [.int .u32 0, .int .i64 0, .bool false]) (parts := [(0, .tmp 111), (1, .tmp 113), (2, .tmp 115)]) (vs := [(0, _), (1, _), (2, _)]) (cells := [_, _, _]) kr_ kr_ rfl rfl))) ?_
           refine WAF.step (pd := [(11, 116), (10, 115), (9, 114), (8, 113), (7, 112), (6, 111), (5, 110), (4, 109), (3, 108), (2, 107), (1, 106), (0, 105)]) [(12, [11])] rfl kr_ kr_ (all_c rfl (all_c rfl (all_c rfl (all_c rfl (all_c rfl (all_c rfl (all_c rfl (all_c rfl (all_c rfl (all_c rfl (all_c rfl (all_c rfl (all_n))))))))))))) (all_c (QF.mk [10, 8, 6] [(115, _), (113, _), (111, _)] rfl rfl kr_ rfl (QAt.y Wt.none (Yd.buildL (pl := [(0, 1), (1, 1), (2, 1)]) (zs := [.int .u32 0, .int .i64 0, .bool false]) (parts := [(0, .tmp 111), (1, .tmp 113), (2, .tmp 115)]) (vs := [(0, _), (1, _), (2, _)]) (cells := [_, _, _]) kr_ kr_ rfl rfl))) (all_c (QF.mk [9] [(114, _)] rfl rfl kr_ rfl (QAt.rd Wt.none (Rd.load1 kr_ rfl mem_ (by rfl)))) (all_c (QF.mk [] [] rfl rfl kr_ rfl (QAt.y Wt.none (Yd.fieldAddr (k := 7) kr_ rfl))) (all_c (QF.mk [7] [(112, _)] rfl rfl kr_ rfl (QAt.rd Wt.none (Rd.load1 kr_ rfl mem_ (by rfl)))) (all_c (QF.mk [] [] rfl rfl kr_ rfl (QAt.y Wt.none (Yd.fieldAddr (k := 6) kr_ rfl))) (all_c (QF.mk [5] [(110, _)] rfl rfl kr_ rfl (QAt.rd Wt.none (Rd.load1 kr_ rfl mem_ (by rfl)))) (all_c (QF.mk [] [] rfl rfl kr_ rfl (QAt.y Wt.none (Yd.fieldAddr (k := 5) kr_ rfl))) (all_c (QF.mk [3] [(108, _)] rfl rfl kr_ rfl (QAt.rd Wt.none (Rd.load1 kr_ rfl mem_ (by rfl)))) (all_c (QF.mk [2] [(107, _)] rfl rfl kr_ rfl (QAt.y Wt.none (Yd.fieldAddr (k := 5) kr_ rfl))) (all_c (QF.mk [1] [(106, _)] rfl rfl kr_ rfl (QAt.y Wt.none (Yd.notNil rfl))) (all_c (QF.mk [] [] rfl rfl kr_ rfl (QAt.y Wt.none (Yd.move rfl))) (all_c (QF.mk [] [] rfl rfl kr_ rfl (QAt.y Wt.none (Yd.move rfl))) (all_n))))))))))))) (all_c ?_ (all_n))
           ·change SO _ _ _ _ _ _ 12 ([(116, _)] ++ _) _ _
            refine SO.h rfl Wt.none rfl (Hd.buildA (e := 111) (sz := 3) (zs := [.int .u32 0, .int .i64 0, .bool false]) kr_ kr_ kr_ rfl rfl (by rfl) kr_ fun b117 => ⟨_, rfl, ?_⟩)
            change WAF _ _ _ _ _ _ [(10, 115, _), (9, 114, _), (8, 113, _), (7, 112, _), (6, 111, _), (5, 110, _), (4, 109, _), (3, 108, _), (2, 107, _), (1, 106, _), (0, 105, _)] _ [12, 11] ((117, _) :: ([(116, _)] ++ _)) _
            refine WAF.step (pd := [(10, 115), (9, 114), (8, 113), (7, 112), (6, 111), (5, 110), (4, 109), (3, 108), (2, 107), (1, 106), (0, 105)]) [(13, [4])] rfl kr_ kr_ (all_c rfl (all_c rfl (all_c rfl (all_c rfl (all_c rfl (all_c rfl (all_c rfl (all_c rfl (all_c rfl (all_c rfl (all_c rfl (all_n)))))))))))) (all_c (QF.mk [9] [(114, _)] rfl rfl kr_ rfl (QAt.rd Wt.none (Rd.load1 kr_ rfl mem_ (by rfl)))) (all_c (QF.mk [] [] rfl rfl kr_ rfl (QAt.y Wt.none (Yd.fieldAddr (k := 7) kr_ rfl))) (all_c (QF.mk [7] [(112, _)] rfl rfl kr_ rfl (QAt.rd Wt.none (Rd.load1 kr_ rfl mem_ (by rfl)))) (all_c (QF.mk [] [] rfl rfl kr_ rfl (QAt.y Wt.none (Yd.fieldAddr (k := 6) kr_ rfl))) (all_c (QF.mk [5] [(110, _)] rfl rfl kr_ rfl (QAt.rd Wt.none (Rd.load1 kr_ rfl mem_ (by rfl)))) (all_c (QF.mk [] [] rfl rfl kr_ rfl (QAt.y Wt.none (Yd.fieldAddr (k := 5) kr_ rfl))) (all_c (QF.mk [3] [(108, _)] rfl rfl kr_ rfl (QAt.rd Wt.none (Rd.load1 kr_ rfl mem_ (by rfl)))) (all_c (QF.mk [2] [(107, _)] rfl rfl kr_ rfl (QAt.y Wt.none (Yd.fieldAddr (k := 5) kr_ rfl))) (all_c (QF.mk [1] [(106, _)] rfl rfl kr_ rfl (QAt.y Wt.none (Yd.notNil rfl))) (all_c (QF.mk [] [] rfl rfl kr_ rfl (QAt.y Wt.none (Yd.move rfl))) (all_c (QF.mk [] [] rfl rfl kr_ rfl (QAt.y Wt.none (Yd.move rfl))) (all_n)))))))))))) (all_c ?_ (all_n))
            ·change SO _ _ _ _ _ _ 13 ([(109, _)] ++ _) _ _
             refine SO.h rfl Wt.none rfl (Hd.appendRow (e := 111) (sz := 3) (bytes := 24) (zs := [.int .u32 0, .int .i64 0, .bool false]) kr_ kr_ rfl (by omega) rfl rfl (hE) sp_ mem_ (by rfl) (efc_one (⟨n.order, n.step, n.undo⟩ : Ef)) (by simp only [maxLen]; omega) (by omega) fun v2 C2 h2 => ⟨_, rfl, ?_⟩)
             change WAF _ _ _ _ _ _ [(10, 115, _), (9, 114, _), (8, 113, _), (7, 112, _), (6, 111, _), (5, 110, _), (3, 108, _), (2, 107, _), (1, 106, _), (0, 105, _)] _ [13, 4, 12, 11] ((118, _) :: ([(109, _)] ++ _)) _
             obtain ⟨eo2, ec2, rfl, _⟩ := h2.form
             refine WAF.add (i := 14) (d := 119) rfl (QF.mk [10, 9, 8, 7, 6, 5, 3, 2, 1, 0] [(115, _), (114, _), (113, _), (112, _), (111, _), (110, _), (108, _), (107, _), (106, _), (105, _)] rfl rfl kr_ rfl (QAt.y Wt.none (Yd.notNil rfl))) ?_
             refine WAF.add (i := 15) (d := 120) rfl (QF.mk [14, 10, 9, 8, 7, 6, 5, 3, 2, 1, 0] [(119, _), (115, _), (114, _), (113, _), (112, _), (111, _), (110, _), (108, _), (107, _), (106, _), (105, _)] rfl rfl kr_ rfl (QAt.y Wt.none (Yd.fieldAddr (k := 5) kr_ rfl))) ?_
             refine WAF.step (pd := [(15, 120), (14, 119), (10, 115), (9, 114), (8, 113), (7, 112), (6, 111), (5, 110), (3, 108), (2, 107), (1, 106), (0, 105)]) [(16, [15, 10, 9, 8, 7, 6, 5, 3, 2, 1, 0])] rfl kr_ kr_ (all_c rfl (all_c rfl (all_c rfl (all_c rfl (all_c rfl (all_c rfl (all_c rfl (all_c rfl (all_c rfl (all_c rfl (all_c rfl (all_c rfl (all_n))))))))))))) (all_c (QF.mk [14, 10, 9, 8, 7, 6, 5, 3, 2, 1, 0] [(119, _), (115, _), (114, _), (113, _), (112, _), (111, _), (110, _), (108, _), (107, _), (106, _), (105, _)] rfl rfl kr_ rfl (QAt.y Wt.none (Yd.fieldAddr (k := 5) kr_ rfl))) (all_c (QF.mk [10, 9, 8, 7, 6, 5, 3, 2, 1, 0] [(115, _), (114, _), (113, _), (112, _), (111, _), (110, _), (108, _), (107, _), (106, _), (105, _)] rfl rfl kr_ rfl (QAt.y Wt.none (Yd.notNil rfl))) (all_c (QF.mk [9] [(114, _)] rfl rfl kr_ rfl (QAt.rd Wt.none (Rd.load1 kr_ rfl mem_ (by rfl)))) (all_c (QF.mk [] [] rfl rfl kr_ rfl (QAt.y Wt.none (Yd.fieldAddr (k := 7) kr_ rfl))) (all_c (QF.mk [7] [(112, _)] rfl rfl kr_ rfl (QAt.rd Wt.none (Rd.load1 kr_ rfl mem_ (by rfl)))) (all_c (QF.mk [] [] rfl rfl kr_ rfl (QAt.y Wt.none (Yd.fieldAddr (k := 6) kr_ rfl))) (all_c (QF.mk [5] [(110, _)] rfl rfl kr_ rfl (QAt.rd Wt.none (Rd.load1 kr_ rfl mem_ (by rfl)))) (all_c (QF.mk [] [] rfl rfl kr_ rfl (QAt.y Wt.none (Yd.fieldAddr (k := 5) kr_ rfl))) (all_c (QF.mk [2] [(107, _)] rfl rfl kr_ rfl (QAt.y Wt.none (Yd.fieldAddr (k := 5) kr_ rfl))) (all_c (QF.mk [1] [(106, _)] rfl rfl kr_ rfl (QAt.y Wt.none (Yd.notNil rfl))) (all_c (QF.mk [] [] rfl rfl kr_ rfl (QAt.y Wt.none (Yd.move rfl))) (all_c (QF.mk [] [] rfl rfl kr_ rfl (QAt.y Wt.none (Yd.move rfl))) (all_n))))))))))))) (all_c ?_ (all_n))
             ·change SO _ _ _ _ _ _ 16 ([(120, _), (115, _), (114, _), (113, _), (112, _), (111, _), (110, _), (108, _), (107, _), (106, _), (105, _)] ++ _) _ _
              refine SO.s rfl Wt.none (Hd.store1s kr_ rfl rfl (by rfl) fr_ (by rfl) (by first | (simp only [List.set_cons_zero, List.set_cons_succ, Nat.zero_add, Nat.add_zero, Nat.reduceAdd]; rfl) | rfl) ⟨rfl, ?_⟩)
              change WAF _ _ _ _ _ _ [(14, 119, _)] _ [16, 15, 10, 9, 8, 7, 6, 5, 3, 2, 1, 0, 13, 4, 12, 11] (([(120, _), (115, _), (114, _), (113, _), (112, _), (111, _), (110, _), (108, _), (107, _), (106, _), (105, _)] ++ _)) _
              refine WAF.done (pd := [(14, 119)]) rfl kr_ kr_ (all_c rfl (all_n)) (all_c (QF.mk [] [] rfl rfl kr_ rfl (QAt.y Wt.none (Yd.notNil rfl))) (all_n)) ?_
              change DN _ _ _ _ _ _ ([(119, _)] ++ _) _
              refine DN.block_normal ?_
              exact DN.reachS ((doV s n, doR s n, row p [.pointer (some ⟨pd, 0, none⟩), .pointer (some ⟨ps, 0, none⟩), .pointer (some ⟨pp, 0, none⟩), .int .u32 (doS s n).e.toNat, .slice lo (doS s n).ks.length lc, .slice eo2 ((doS s n).ef.length + 1) ec2, .slice no (doS s n).no.length nc] 116 :: (CS ++ (CP ++ (CD ++ (CF ++ (C2 ++ (CN ++ DO)))))), (ro, rc), AR)) (by have g := did_1 (s := s) (n := n) h93 h95; exact ⟨g.1.symm, g.2.1.symm, by rw [g.2.2, if_pos h104]; exact ⟨pd, ps, pp, _, _, _, _, _, _, _, _, _, _, _, rfl, hS, hP, hD, hF, by show Own _ ((doS s n).ef ++ [_]).length (((doS s n).ef ++ [_]).flatMap efc) _ 3 _; rw [List.length_append, List.flatMap_append]; exact h2, hN, hO⟩, hAR⟩) (Sx.put rfl (Sx.put rfl (sx_))) sp_
          ·refine WC.skip ?_
           refine DN.block_normal ?_
           exact DN.reachS ((doV s n, doR s n, C9, (ro, rc), AR)) (by have g := did_1 (s := s) (n := n) h93 h95; exact ⟨g.1.symm, g.2.1.symm, by rw [g.2.2, if_neg h104]; exact h9, hAR⟩) (Sx.put rfl (Sx.put rfl (sx_))) sp_
         ·refine WC.skip ?_
          refine DN.block_normal ?_
          exact DN.reachS ((2, [], row p [.pointer (some ⟨pd, 0, none⟩), .pointer (some ⟨ps, 0, none⟩), .pointer (some ⟨pp, 0, none⟩), .int .u32 s.e.toNat, .slice lo s.ks.length lc, .slice eo s.ef.length ec, .slice no s.no.length nc] 116 :: (CS ++ (CP ++ (CD ++ (CF ++ (CE ++ (CN ++ DO)))))), (none, 0), [])) (by have g := did_0 (s := s) (n := n) h93 h95; exact ⟨g.1.symm, g.2.1.symm, by rw [g.2.2]; exact ⟨pd, ps, pp, _, _, _, _, _, _, _, _, _, _, _, rfl, hS, hP, hD, hF, hE, hN, hO⟩, Ob.nil _⟩) (Sx.put rfl (Sx.put rfl (sx_))) sp_
       ·clear hS hP hD hF hE hN hO hec hnc
        rintro ⟨cd9, rp, C9, ⟨ro, rc⟩, AR⟩ ⟨hcd, hrp, h9, hAR⟩
        dsimp only at hcd hrp h9 hAR ⊢
        have hdf := did_fence (s := s) (n := n) (act := act)
        obtain ⟨d, hdd⟩ : ∃ d, d = didS s n act := ⟨_, rfl⟩
        rw [← hdd] at h9 hdf
        have hdl9 : d.ks.length = s.ks.length := by rw [hdf.2]
        obtain ⟨pd, ps, pp, vL, vE, vN, CS, CP, CD, CF, CE, cn, CN, DO, rfl, hS, hP, hD, hF, hE, hN, hO⟩ := h9
        obtain ⟨lo, lc, rfl⟩ := hF.form
        obtain ⟨eo, ec, rfl, hec⟩ := hE.form
        obtain ⟨no, nc, rfl, hnc⟩ := hN.form
        refine WC.seq ?_
        refine WC.draw 15 kr_ rfl ?_
        refine WA.float (N := 15) rfl ?_
        refine WAF.add (i := 0) (d := 122) rfl (QF.mk [] [] rfl rfl kr_ rfl (QAt.y Wt.none (Yd.move rfl))) ?_
        refine WAF.add (i := 1) (d := 123) rfl (QF.mk [] [] rfl rfl kr_ rfl (QAt.y Wt.none (Yd.move rfl))) ?_
        refine WAF.add (i := 2) (d := 124) rfl (QF.mk [1] [(123, _)] rfl rfl kr_ rfl (QAt.y Wt.none (Yd.notNil rfl))) ?_
        refine WAF.add (i := 3) (d := 125) rfl (QF.mk [2] [(124, _)] rfl rfl kr_ rfl (QAt.y Wt.none (Yd.fieldAddr (k := 3) kr_ rfl))) ?_
        refine WAF.add (i := 4) (d := 126) rfl (QF.mk [3] [(125, _)] rfl rfl kr_ rfl (QAt.rd Wt.none (Rd.loadA (n := 2) (vs := [_, _]) kr_ rfl mem_ (by rfl) (by rfl)))) ?_
        refine WAF.add (i := 5) (d := 127) rfl (QF.mk [] [] rfl rfl kr_ rfl (QAt.rd Wt.none (Rd.loadAll (n := 11) kr_ rfl mem_ (by rfl)))) ?_
        refine WAF.add (i := 6) (d := 128) rfl (QF.mk [] [] rfl rfl kr_ rfl (QAt.y Wt.none (Yd.move rfl))) ?_
        refine WAF.add (i := 7) (d := 129) rfl (QF.mk [] [] rfl rfl kr_ rfl (QAt.y Wt.none (Yd.move rfl))) ?_
        refine WAF.step (pd := [(7, 129), (6, 128), (5, 127), (4, 126), (3, 125), (2, 124), (1, 123), (0, 122)]) [(8, [7, 6, 5, 4])] rfl kr_ kr_ (all_c rfl (all_c rfl (all_c rfl (all_c rfl (all_c rfl (all_c rfl (all_c rfl (all_c rfl (all_n))))))))) (all_c (QF.mk [] [] rfl rfl kr_ rfl (QAt.y Wt.none (Yd.move rfl))) (all_c (QF.mk [] [] rfl rfl kr_ rfl (QAt.y Wt.none (Yd.move rfl))) (all_c (QF.mk [] [] rfl rfl kr_ rfl (QAt.rd Wt.none (Rd.loadAll (n := 11) kr_ rfl mem_ (by rfl)))) (all_c (QF.mk [3] [(125, _)] rfl rfl kr_ rfl (QAt.rd Wt.none (Rd.loadA (n := 2) (vs := [_, _]) kr_ rfl mem_ (by rfl) (by rfl)))) (all_c (QF.mk [2] [(124, _)] rfl rfl kr_ rfl (QAt.y Wt.none (Yd.fieldAddr (k := 3) kr_ rfl))) (all_c (QF.mk [1] [(123, _)] rfl rfl kr_ rfl (QAt.y Wt.none (Yd.notNil rfl))) (all_c (QF.mk [] [] rfl rfl kr_ rfl (QAt.y Wt.none (Yd.move rfl))) (all_c (QF.mk [] [] rfl rfl kr_ rfl (QAt.y Wt.none (Yd.move rfl))) (all_n))))))))) (all_c ?_ (all_n))
        ·change SO _ _ _ _ _ _ 8 ([(129, _), (128, _), (127, _), (126, _)] ++ _) _ _
         refine SO.c rfl Wt.none rfl (Ent.func Tryz.call59 rfl) (keep_tells d.e _ d.ks (CF ++ (AR ++ H)) (hF.kv.mono gr_) (by rw [hdf.2]; omega) n _ _ (hvk.mono gr_) (hvd.mono gr_) cd9 _ rp (hAR.bs.mono gr_)) (Sp.p sp_) ?_
         rintro x H9 ⟨wk, DK, rfl, hKF, rfl⟩
         obtain ⟨ko2, kc2, rfl⟩ := hKF.form
         change WAF _ _ _ _ _ _ [(3, 125, _), (2, 124, _), (1, 123, _), (0, 122, _)] _ [8, 7, 6, 5, 4] ((130, _) :: ([(129, _), (128, _), (127, _), (126, _)] ++ _)) _
         refine WAF.add (i := 9) (d := 121) rfl (QF.mk [] [] rfl rfl kr_ rfl (QAt.y Wt.none (Yd.move rfl))) ?_
         refine WAF.add (i := 10) (d := 131) rfl (QF.mk [9] [(121, _)] rfl rfl kr_ rfl (QAt.y Wt.none (Yd.extract rfl rfl))) ?_
         refine WAF.add (i := 11) (d := 132) rfl (QF.mk [9] [(121, _)] rfl rfl kr_ rfl (QAt.y Wt.none (Yd.extract rfl rfl))) ?_
         refine WAF.add (i := 12) (d := 133) rfl (QF.mk [10, 9, 3, 2, 1, 0] [(131, _), (121, _), (125, _), (124, _), (123, _), (122, _)] rfl rfl kr_ rfl (QAt.y Wt.none (Yd.notNil rfl))) ?_
         refine WAF.add (i := 13) (d := 134) rfl (QF.mk [12, 10, 9, 3, 2, 1, 0] [(133, _), (131, _), (121, _), (125, _), (124, _), (123, _), (122, _)] rfl rfl kr_ rfl (QAt.y Wt.none (Yd.fieldAddr (k := 3) kr_ rfl))) ?_
         refine WAF.step (pd := [(13, 134), (12, 133), (11, 132), (10, 131), (9, 121), (3, 125), (2, 124), (1, 123), (0, 122)]) [(14, [13, 10, 9, 3, 2, 1, 0])] rfl kr_ kr_ (all_c rfl (all_c rfl (all_c rfl (all_c rfl (all_c rfl (all_c rfl (all_c rfl (all_c rfl (all_c rfl (all_n)))))))))) (all_c (QF.mk [12, 10, 9, 3, 2, 1, 0] [(133, _), (131, _), (121, _), (125, _), (124, _), (123, _), (122, _)] rfl rfl kr_ rfl (QAt.y Wt.none (Yd.fieldAddr (k := 3) kr_ rfl))) (all_c (QF.mk [10, 9, 3, 2, 1, 0] [(131, _), (121, _), (125, _), (124, _), (123, _), (122, _)] rfl rfl kr_ rfl (QAt.y Wt.none (Yd.notNil rfl))) (all_c (QF.mk [9] [(121, _)] rfl rfl kr_ rfl (QAt.y Wt.none (Yd.extract rfl rfl))) (all_c (QF.mk [9] [(121, _)] rfl rfl kr_ rfl (QAt.y Wt.none (Yd.extract rfl rfl))) (all_c (QF.mk [] [] rfl rfl kr_ rfl (QAt.y Wt.none (Yd.move rfl))) (all_c (QF.mk [2] [(124, _)] rfl rfl kr_ rfl (QAt.y Wt.none (Yd.fieldAddr (k := 3) kr_ rfl))) (all_c (QF.mk [1] [(123, _)] rfl rfl kr_ rfl (QAt.y Wt.none (Yd.notNil rfl))) (all_c (QF.mk [] [] rfl rfl kr_ rfl (QAt.y Wt.none (Yd.move rfl))) (all_c (QF.mk [] [] rfl rfl kr_ rfl (QAt.y Wt.none (Yd.move rfl))) (all_n)))))))))) (all_c ?_ (all_n))
         ·change SO _ _ _ _ _ _ 14 ([(134, _), (131, _), (121, _), (125, _), (124, _), (123, _), (122, _)] ++ _) _ _
          refine SO.s rfl Wt.none (Hd.storeP (n := 2) kr_ rfl rfl (by rfl) one_ fr_ (by show 0 + 3 + 2 ≤ 7; decide) (by rfl) ⟨rfl, ?_⟩)
          change WAF _ _ _ _ _ _ [(12, 133, _), (11, 132, _)] _ [14, 13, 10, 9, 3, 2, 1, 0, 8, 7, 6, 5, 4] (([(134, _), (131, _), (121, _), (125, _), (124, _), (123, _), (122, _)] ++ _)) _
          refine WAF.done (pd := [(12, 133), (11, 132)]) rfl kr_ kr_ (all_c rfl (all_c rfl (all_n))) (all_c (QF.mk [] [] rfl rfl kr_ rfl (QAt.y Wt.none (Yd.notNil rfl))) (all_c (QF.mk [] [] rfl rfl kr_ rfl (QAt.y Wt.none (Yd.extract rfl rfl))) (all_n))) ?_
          change DN _ _ _ _ _ _ ([(133, _), (132, _)] ++ _) _
          refine ts_ ?_
          refine WC.region ?_
          refine WL.h rfl (Hd.loadAll (n := 11) kr_ rfl mem_ (by rfl) ⟨_, rfl, ?_⟩)
          refine m_ rfl rfl ?_
          refine m_ rfl rfl ?_
          refine WL.c rfl (Ent.func Tryz.call57 rfl) (done_tells n _ _ ⟨_, _, rfl⟩ ⟨_, _, rfl⟩ cd9 _ rp AR hAR.bs (by rw [hrp]; have := reply_len (s := s) (n := n) (act := act); omega)) (Sp.p sp_) ?_
          rintro x H9 ⟨wd, AD, rfl, hAD, rfl⟩
          obtain ⟨od, cd, rfl, _⟩ := hAD.form
          refine WL.s (Hd.storeAll (n := 11) kr_ rfl rfl (by rfl) one_ fr_ (by rfl) ⟨rfl, ?_⟩)
          refine nt_ ?_
          refine WC.ret ?_
          refine DN.retCS (s := 11) ((row p [.pointer (some ⟨pd, 0, none⟩), .pointer (some ⟨ps, 0, none⟩), .pointer (some ⟨pp, 0, none⟩), .int .u32 (keepK d.e d.ks n cd9 rp).1.toNat, .slice ko2 (keepK d.e d.ks n cd9 rp).2.1.length kc2, .slice eo d.ef.length ec, .slice no d.no.length nc] 116 :: (CS ++ (CP ++ (CD ++ (DK ++ (CE ++ (CN ++ DO))))))) ++ (AD ++ H)) Tryz.results22 kr_ rfl mem_ (by rfl) sp_ ?_
          have g := serve_new (s := s) (n := n) (by rw [hq3]; exact h47) (by rw [hq1]; exact h56) (by omega)
          rw [hq1, ← hdd, ← hcd, ← hrp] at g
          rw [g.1, g.2]
          exact ⟨_, _, AD, rfl, ⟨pd, ps, pp, _, _, _, CS, CP, CD, DK, CE, cn, CN, DO, rfl, hS, hP, hD, hKF, hE, hN, hO⟩, hAD, rfl⟩
end Go.Proofs.YtkamlondepceiaaGreat

set_option linter.unusedVariables false
set_option linter.unusedSimpArgs false
set_option maxHeartbeats 4000000
namespace Go.Proofs
def Tryz.sortG_ren : Go.Shelf.Ren := ⟨fun | 6 => 97 | 15 => 131 | 14 => 130 | 28 => 150 | 29 => 151 | 20 => 142 | 21 => 143 | 22 => 144 | 23 => 145 | 24 => 146 | 25 => 147 | 26 => 148 | 27 => 149 | 46 => 162 | 47 => 163 | 48 => 164 | 49 => 165 | 50 => 166 | 57 => 170 | n => n, fun | 22 => 43 | 24 => 73 | 25 => 194 | 3 => 3 | 39 => 218 | 0 => 0 | 53 => 49 | 55 => 50 | 4 => 4 | 46 => 240 | 45 => 239 | 50 => 179 | 5 => 5 | 9 => 9 | 66 => 252 | 70 => 255 | 76 => 259 | 77 => 176 | n => n, fun | n => n⟩
theorem Tryz.sortG : SlLaysF0.n6 Tryz.prog Tryz.sortG_ren := {
  mixed := by kernel_rfl,
  f6 := ⟨Tryz.f97.name, by decide, Tryz.func97.trans (congrArg some (by kernel_rfl))⟩,
  f14 := ⟨Tryz.f130.name, by decide, Tryz.func130.trans (congrArg some (by kernel_rfl))⟩,
  f15 := Tryz.func131.trans (congrArg some (by kernel_rfl)),
  f20 := ⟨Tryz.f142.name, by decide, Tryz.func142.trans (congrArg some (by kernel_rfl))⟩,
  f21 := ⟨Tryz.f143.name, by decide, Tryz.func143.trans (congrArg some (by kernel_rfl))⟩,
  f22 := ⟨Tryz.f144.name, by decide, Tryz.func144.trans (congrArg some (by kernel_rfl))⟩,
  f23 := ⟨Tryz.f145.name, by decide, Tryz.func145.trans (congrArg some (by kernel_rfl))⟩,
  f24 := ⟨Tryz.f146.name, by decide, Tryz.func146.trans (congrArg some (by kernel_rfl))⟩,
  f25 := ⟨Tryz.f147.name, by decide, Tryz.func147.trans (congrArg some (by kernel_rfl))⟩,
  f26 := ⟨Tryz.f148.name, by decide, Tryz.func148.trans (congrArg some (by kernel_rfl))⟩,
  f27 := ⟨Tryz.f149.name, by decide, Tryz.func149.trans (congrArg some (by kernel_rfl))⟩,
  f28 := Tryz.func150.trans (congrArg some (by kernel_rfl)),
  f29 := Tryz.func151.trans (congrArg some (by kernel_rfl)),
  f46 := ⟨Tryz.f162.name, by decide, Tryz.func162.trans (congrArg some (by kernel_rfl))⟩,
  f47 := Tryz.func163.trans (congrArg some (by kernel_rfl)),
  f48 := Tryz.func164.trans (congrArg some (by kernel_rfl)),
  f49 := ⟨Tryz.f165.name, by decide, Tryz.func165.trans (congrArg some (by kernel_rfl))⟩,
  f50 := ⟨Tryz.f166.name, by decide, Tryz.func166.trans (congrArg some (by kernel_rfl))⟩,
  f57 := ⟨Tryz.f170.name, by decide, Tryz.func170.trans (congrArg some (by kernel_rfl))⟩,
  t0 := Tryz.underlying0,
  a0 := Tryz.isAgg0,
  z0 := Tryz.sizeOf0,
  v0 := Tryz.zeroValue0,
  t3 := Tryz.underlying3,
  a3 := Tryz.isAgg3,
  z3 := Tryz.sizeOf3,
  v3 := Tryz.zeroValue3,
  t4 := Tryz.underlying4,
  a4 := Tryz.isAgg4,
  z4 := Tryz.sizeOf4,
  v4 := Tryz.zeroValue4,
  t5 := Tryz.underlying5,
  a5 := Tryz.isAgg5,
  z5 := Tryz.sizeOf5,
  v5 := Tryz.zeroValue5,
  t9 := Tryz.underlying9,
  a9 := Tryz.isAgg9,
  z9 := Tryz.sizeOf9,
  v9 := Tryz.zeroValue9,
  t22 := Tryz.underlying43,
  a22 := Tryz.isAgg43,
  z22 := Tryz.sizeOf43,
  v22 := Tryz.zeroValue43,
  t25 := Tryz.underlying194,
  a25 := Tryz.isAgg194,
  z25 := Tryz.sizeOf194,
  v25 := Tryz.zeroValue194,
  t39 := Tryz.underlying218,
  a39 := Tryz.isAgg218,
  z39 := Tryz.sizeOf218,
  v39 := Tryz.zeroValue218,
  t45 := Tryz.underlying239,
  a45 := Tryz.isAgg239,
  z45 := Tryz.sizeOf239,
  v45 := Tryz.zeroValue239,
  t46 := Tryz.underlying240,
  a46 := Tryz.isAgg240,
  z46 := Tryz.sizeOf240,
  v46 := Tryz.zeroValue240,
  t50 := Tryz.underlying179,
  a50 := Tryz.isAgg179,
  z50 := Tryz.sizeOf179,
  v50 := Tryz.zeroValue179,
  t53 := Tryz.underlying49,
  a53 := Tryz.isAgg49,
  z53 := Tryz.sizeOf49,
  v53 := Tryz.zeroValue49,
  t55 := Tryz.underlying50,
  a55 := Tryz.isAgg50,
  z55 := Tryz.sizeOf50,
  v55 := Tryz.zeroValue50,
  t66 := Tryz.underlying252,
  a66 := Tryz.isAgg252,
  z66 := Tryz.sizeOf252,
  v66 := Tryz.zeroValue252,
  t70 := Tryz.underlying255,
  a70 := Tryz.isAgg255,
  z70 := Tryz.sizeOf255,
  v70 := Tryz.zeroValue255,
  t76 := Tryz.underlying259,
  a76 := Tryz.isAgg259,
  z76 := Tryz.sizeOf259,
  v76 := Tryz.zeroValue259,
  t77 := Tryz.underlying176,
  a77 := Tryz.isAgg176,
  z77 := Tryz.sizeOf176,
  v77 := Tryz.zeroValue176
}
def Tryz.cmp_ren : Go.Shelf.Ren := ⟨fun | 106 => 99 | 213 => 132 | 265 => 152 | n => n, fun | 3 => 3 | 9 => 9 | n => n, fun | n => n⟩
theorem Tryz.cmpStr : Lays.n106 Tryz.prog Tryz.cmp_ren := {
  mixed := by kernel_rfl,
  f106 := Tryz.func99.trans (congrArg some (by kernel_rfl)),
  f213 := Tryz.func132.trans (congrArg some (by kernel_rfl)),
  f265 := Tryz.func152.trans (congrArg some (by kernel_rfl)),
  t3 := Tryz.underlying3, a3 := Tryz.isAgg3, z3 := Tryz.sizeOf3, v3 := Tryz.zeroValue3,
  t9 := Tryz.underlying9, a9 := Tryz.isAgg9, z9 := Tryz.sizeOf9, v9 := Tryz.zeroValue9 }
end Go.Proofs
namespace Go.Proofs.YtkamlondepceiaaGreat.St
open Go.SL
theorem compare_reads (a b : ByteArray) (H : List Ck) : Reads Tryz.prog 99 [.string a, .string b] H (.int .i64 (cmpS a b)) := fun w R s =>
  (Any.strings_Compare (ρ := Tryz.cmp_ren) Tryz.cmpStr a b w).mono fun e w' ⟨he, hw⟩ => ⟨_, H, he, ⟨rfl, rfl⟩, by rw [hw]; exact s, by rw [hw]; exact Kept.refl w⟩
theorem cmpG_tells (x y : Gd) : Tells Tryz.prog 98 [.agg (cellsG x).toArray, .agg (cellsG y).toArray] [] fun r H' => r = .int .i64 (cfG x y) := by
 refine Tells.enter Tryz.func98 rfl Tryz.ntmps98 rfl ?_
 intro w0 R
 refine sr_ ?_
 refine WL.h rfl (Hd.boxA rfl fun b2 => ⟨_, rfl, ?_⟩)
 refine WL.h rfl (Hd.boxA rfl fun b3 => ⟨_, rfl, ?_⟩)
 refine a_ rfl rfl ?_
 refine ntsr_ ?_
 refine f_ 0 kr_ rfl rfl ?_
 refine d_ kr_ rfl mem_ (by rfl) rfl ?_
 refine f_ 0 kr_ rfl rfl ?_
 refine d_ kr_ rfl mem_ (by rfl) rfl ?_
 refine WL.rf rfl (Ent.func Tryz.call99 rfl) (compare_reads x.name y.name []) sp_ ?_
 refine a_ rfl rfl ?_
 refine nt_ ?_
 refine WC.ret ?_
 refine DN.ret1 Tryz.results98 rfl ?_
 rfl
theorem goods_tells (p : Nat) (K : List Gd) (L : List Ho) (C : List Ck) (h : StAt 189 p K L C) (hl : K.length ≤ 100000000) : Tells Tryz.prog 60 [.pointer (some ⟨p, 0, none⟩)] C fun r C' => ∃ S Cs, ToldK Gd.name sLt K S ∧ Own r S.length (S.flatMap cellsG) 73 2 Cs ∧ C' = Cs ++ C := by
 refine Tells.enter Tryz.func60 rfl Tryz.ntmps60 rfl ?_
 intro w0 R
 obtain ⟨b1, b2, C1, C2, rfl, hK, hL⟩ := h
 obtain ⟨es, clock, rfl, hes, hborn, hbn⟩ := hK
 have hsz := hes.size
 simp only [kvs, List.length_map] at hsz
 refine sr_ ?_
 refine a_ rfl rfl ?_
 refine nt_ ?_
 refine WC.seq ?_
 refine sr_ ?_
 refine m_ rfl rfl ?_
 refine WL.y rfl (Yd.eqlNil Tryz.underlying113 rfl rfl) ?_
 refine nt_ ?_
 refine WC.no rfl ?_
 refine WC.skip ?_
 refine ts_ ?_
 refine WC.region ?_
 refine a_ rfl rfl ?_
 refine nt_ ?_
 refine WC.seq ?_
 refine sr_ ?_
 refine m_ rfl rfl ?_
 refine n_ rfl rfl ?_
 refine f_ 0 kr_ rfl rfl ?_
 refine d_ kr_ rfl mem_ (by rfl) rfl ?_
 refine WL.h rfl (Hd.rangeM (KT := 9) (ET := 191) kr_ rfl mem_ fun i => ⟨_, rfl, ?_⟩)
 refine nt_ ?_
 refine WC.block ?_
 refine WC.loopS (fun z : List MapEntry × List Gd × (Array Nat) × Value × List Ck => Seen es z.1 z.2.2.1 ∧ z.1.map (fun e : MapEntry => (e.key, e.val)) = z.2.1.map (fun r : Gd => (kStr.kv (Gd.name r), encG r)) ∧ Own z.2.2.2.1 z.2.1.length (z.2.1.flatMap cellsG) 73 2 z.2.2.2.2) (fun z : List MapEntry × List Gd × (Array Nat) × Value × List Ck => [(3, z.2.2.2.1)]) (fun z : List MapEntry × List Gd × (Array Nat) × Value × List Ck => ⟨i, .mapIter (some b1) clock z.2.2.1 clock, true⟩ :: (z.2.2.2.2 ++ (row p [.map (some b1), .map (some b2)] 189 :: ([⟨b1, .map es clock, true⟩] ++ C2)))) (fun z : List MapEntry × List Gd × (Array Nat) × Value × List Ck => es.size - z.1.length) (⟨[], [], #[], .slice none 0 0, []⟩) (show Seen es [] #[] ∧ [].map (fun e : MapEntry => (e.key, e.val)) = [].map (fun r : Gd => (kStr.kv (Gd.name r), encG r)) ∧ Own (.slice none 0 0) [].length ([].flatMap cellsG) 73 2 [] from ⟨Seen.start es, rfl, Own.nil _ _⟩) (Sx.put rfl (sx_)) sp_ ?_
 rintro ⟨col, B, seen, v, Cs⟩ hI
 replace hI : Seen es col seen ∧ col.map (fun e : MapEntry => (e.key, e.val)) = B.map (fun r : Gd => (kStr.kv (Gd.name r), encG r)) ∧ Own v B.length (B.flatMap cellsG) 73 2 Cs := hI
 obtain ⟨hs, hB, ho⟩ := hI
 change WC _ _ _ _ _ _ ([(3, v)] ++ _) (⟨i, .mapIter (some b1) clock seen clock, true⟩ :: (Cs ++ (row p [.map (some b1), .map (some b2)] 189 :: ([⟨b1, .map es clock, true⟩] ++ C2))))
 have hcl := hs.len hbn
 obtain ⟨vo, vc, rfl, _⟩ := ho.form
 have hBl : B.length = col.length := by simpa using (congrArg List.length hB).symm
 refine sr_ ?_
 refine WL.h rfl (Hd.nextM rfl fr_ mem_ hborn (fun e he => ⟨_, rfl, ?_⟩) (fun hu => ⟨_, rfl, ?_⟩))
 ·obtain ⟨hs2, hee⟩ := hs.next he
  obtain ⟨b, hbL, hek, hev⟩ := entsK_one hes hee
  refine x_ rfl rfl rfl ?_
  refine nt_ ?_
  refine WC.seq ?_
  refine WC.yes rfl ?_
  refine WC.skip ?_
  refine DN.then_normal ?_
  refine WC.block ?_
  refine sr_ ?_
  refine WL.h rfl (Hd.entryM rfl List.mem_cons_self mem_ hbn hee ⟨_, rfl, ?_⟩)
  refine x_ rfl rfl rfl ?_
  refine WL.renamed (t := 16) (v := .string b.name) rfl (by show e.key = _; rw [hek]; rfl) ?_
  refine x_ rfl rfl rfl ?_
  refine WL.renamed (t := 17) (v := .agg #[.int .i64 b.free, .int .i64 b.gone]) rfl (by show e.val = _; rw [hev]; rfl) ?_
  refine WL.h rfl (Hd.alloc (zs := [.int .i64 0, .int .i64 0]) kr_ fun b5 => ⟨_, rfl, ?_⟩)
  refine a_ rfl rfl ?_
  refine WL.s (Hd.storeAll (n := 2) kr_ rfl rfl (by rfl) one_ fr_ (by rfl) ⟨rfl, ?_⟩)
  refine ntr_ ?_
  refine m_ rfl rfl ?_
  refine m_ rfl rfl ?_
  refine f_ 0 kr_ rfl rfl ?_
  refine d_ kr_ rfl mem_ (by rfl) rfl ?_
  refine WL.y rfl (Yd.buildL (pl := [(0, 1), (1, 1)]) (zs := [.string ⟨#[]⟩, .int .i64 0]) (parts := [(0, .tmp 19), (1, .tmp 21)]) (vs := [(0, _), (1, _)]) (cells := [_, _]) kr_ kr_ rfl rfl) ?_
  refine WL.h rfl (Hd.buildA (e := 73) (sz := 2) (zs := [.string ⟨#[]⟩, .int .i64 0]) kr_ kr_ kr_ rfl rfl (by rfl) kr_ fun b23 => ⟨_, rfl, ?_⟩)
  refine WL.h rfl (Hd.appendRow (e := 73) (sz := 2) (bytes := 24) (zs := [.string ⟨#[]⟩, .int .i64 0]) kr_ kr_ rfl (by omega) rfl rfl (ho) sp_ mem_ (by rfl) one_ (by simp only [maxLen]; omega) (by omega) fun v2 Ca ho2 => ⟨_, rfl, ?_⟩)
  refine a_ rfl rfl ?_
  refine WL.nil ?_
  refine DN.block_normal ?_
  have hcl2 := hs2.len hbn
  have hcl3 : (col ++ [e]).length = col.length + 1 := by simp
  exact DN.againS (⟨col ++ [e], B ++ [b], seen.push e.born, v2, Ca⟩) (show Seen es (col ++ [e]) (seen.push e.born) ∧ (col ++ [e]).map (fun e : MapEntry => (e.key, e.val)) = (B ++ [b]).map (fun r : Gd => (kStr.kv (Gd.name r), encG r)) ∧ Own v2 (B ++ [b]).length ((B ++ [b]).flatMap cellsG) 73 2 Ca from ⟨hs2, by rw [List.map_append, List.map_append, hB]; simp [hek, hev], by rw [List.flatMap_append, List.length_append]; simpa [cellsG, cellsH] using ho2⟩) (show es.size - (col ++ [e]).length < es.size - col.length by omega) (Sx.put rfl (sx_)) sp_
 ·refine x_ rfl rfl rfl ?_
  refine nt_ ?_
  refine WC.seq ?_
  refine WC.no rfl ?_
  refine WC.exit ?_
  refine DN.then_exit ?_
  refine DN.then_exit ?_
  refine DN.block_exit ?_
  refine ts_ ?_
  refine WC.region ?_
  refine m_ rfl rfl ?_
  refine WL.c rfl (Ent.func Tryz.call97 rfl) (sort_tells Tryz.sortG 2 (by omega) Tryz.isAgg73 Tryz.sizeOf73 cellsG cellsG_len cellsG_one cfG swoG 98 Tryz.call98 cmpG_tells ho (by omega)) (Sp.p sp_) ?_
  rintro q Cz ⟨rfl, S, hS, hpw, ho2⟩
  refine ntsr_ ?_
  refine m_ rfl rfl ?_
  refine a_ rfl rfl ?_
  refine nt_ ?_
  refine WC.ret ?_
  refine DN.fit (C := Cz ++ (row p [.map (some b1), .map (some b2)] 189 :: ([⟨b1, .map es clock, true⟩] ++ C2))) sp_ ?_
  refine DN.ret1 Tryz.results60 rfl ?_
  exact ⟨S, Cz, ⟨hS.trans (entsK_all injG hes (hs.all hbn hu) hB), hpw.imp fun {x y} hxy => by rw [← hxy]; exact (ltG y x).symm⟩, by rw [hS.length_eq]; rwa [hS.length_eq] at ho2, rfl⟩
end Go.Proofs.YtkamlondepceiaaGreat.St

set_option linter.unusedVariables false
set_option linter.unusedSimpArgs false
set_option maxHeartbeats 4000000
namespace Go.Proofs.YtkamlondepceiaaGreat.St
open Go.SL
theorem new_tells (v : Value) (gs : List Gd) (hg : ∀ g ∈ gs, g.gone = 0) (H : List Ck) (hv : Rs v gs.length (gs.flatMap cellsG) H) (hl : gs.length ≤ 9223372036854775807) : Tells Tryz.prog 63 [v] H fun r H' => (GoodL gs ∧ ∃ p C, r = .tuple #[.pointer (some ⟨p, 0, none⟩), .int .i64 0] ∧ StAt 189 p gs [] C ∧ H' = C ++ H) ∨ (¬ GoodL gs ∧ r = .tuple #[.pointer none, .int .i64 2] ∧ H' = H) := by
 refine Tells.enter Tryz.func63 rfl Tryz.ntmps63 rfl ?_
 intro w0 R
 obtain ⟨vo, vc, rfl, hvc⟩ := hv.form
 refine sr_ ?_
 refine a_ rfl rfl ?_
 refine a_ rfl rfl ?_
 refine nt_ ?_
 refine WC.seq ?_
 refine sr_ ?_
 refine m_ rfl rfl ?_
 refine WL.y rfl (Yd.len (e := 73) kr_ rfl) ?_
 refine WL.y rfl (Yd.gtr rfl rfl) ?_
 refine nt_ ?_
 refine WC.ite rfl (fun h11 => ?_) (fun h11 => ?_)
 ·refine sr_ ?_
  refine a_ rfl rfl ?_
  refine a_ rfl rfl ?_
  refine nt_ ?_
  refine WC.ret ?_
  refine DN.then_ret ?_
  first | (have hlt2 : i < gs.length := hlt; refine DN.fit (C := H) sp_ ?_) | refine DN.fit (C := row b15 [.map (some b1), .map (some b2)] 189 :: (C1 ++ (C2 ++ H))) sp_ ?_ | skip
  refine DN.ret2 Tryz.results63 rfl rfl ?_
  first
    | exact .inr ⟨fun hG => by have := hG.1; omega, rfl, rfl⟩
    | exact .inr ⟨fun hG => (hG.2.2 gs[i] (List.getElem_mem hlt)).1 hg35, rfl, rfl⟩
    | exact .inr ⟨fun hG => by have := (hG.2.2 gs[i] (List.getElem_mem hlt)).2; omega, rfl, rfl⟩
    | exact .inr ⟨fun hG => (twice_no hlt h53) hG.2.1, rfl, rfl⟩
    | exact .inl ⟨⟨by omega, hnd, fun g hm => by obtain ⟨j, hj, rfl⟩ := List.getElem_of_mem hm; exact hgood j hj hj⟩, b15, row b15 [.map (some b1), .map (some b2)] 189 :: (C1 ++ C2), rfl, ⟨b1, b2, C1, C2, rfl, hK, h2⟩, by simp⟩
 ·refine WC.skip ?_
  refine ts_ ?_
  refine WC.region ?_
  refine WL.h rfl (Hd.makeMapG kStr fun b1 C1 h1 => ⟨_, rfl, ?_⟩)
  refine WL.h rfl (Hd.makeMapG kU32 fun b2 C2 h2 => ⟨_, rfl, ?_⟩)
  refine WL.y rfl (Yd.buildL (pl := [(0, 1), (1, 1)]) (zs := [.map none, .map none]) (parts := [(0, .tmp 12), (1, .tmp 13)]) (vs := [(0, _), (1, _)]) (cells := [_, _]) kr_ kr_ rfl rfl) ?_
  refine WL.h rfl (Hd.boxA rfl fun b15 => ⟨_, rfl, ?_⟩)
  refine a_ rfl rfl ?_
  refine nt_ ?_
  refine WC.seq ?_
  refine sr_ ?_
  refine m_ rfl rfl ?_
  refine WL.y rfl (Yd.len (e := 73) kr_ rfl) ?_
  refine m_ rfl rfl ?_
  refine nt_ ?_
  refine WC.block ?_
  refine WC.loopS (fun z : Nat × List Ck => z.1 ≤ gs.length ∧ (∀ (j : Nat) (h : j < gs.length), j < z.1 → goodB gs[j]) ∧ ((gs.take z.1).map Gd.name).Nodup ∧ MpG kStr b1 (kvs Gd.name encG (gs.take z.1)) z.2) (fun z : Nat × List Ck => [(18, .int .i64 (z.1 : Int))]) (fun z : Nat × List Ck => row b15 [.map (some b1), .map (some b2)] 189 :: (z.2 ++ (C2 ++ H))) (fun z : Nat × List Ck => gs.length - z.1) (⟨0, C1⟩) (show 0 ≤ gs.length ∧ (∀ (j : Nat) (h : j < gs.length), j < 0 → goodB gs[j]) ∧ ((gs.take 0).map Gd.name).Nodup ∧ MpG kStr b1 (kvs Gd.name encG (gs.take 0)) C1 from ⟨Nat.zero_le _, fun j h hj => by omega, by simp, by simpa [kvs] using h1⟩) (Sx.put rfl (sx_)) sp_ ?_
  rintro ⟨i, C1⟩ hI
  replace hI : i ≤ gs.length ∧ (∀ (j : Nat) (h : j < gs.length), j < i → goodB gs[j]) ∧ ((gs.take i).map Gd.name).Nodup ∧ MpG kStr b1 (kvs Gd.name encG (gs.take i)) C1 := hI
  obtain ⟨hi, hgood, hnd, hK⟩ := hI
  change WC _ _ _ _ _ _ ([(18, .int .i64 (i : Int))] ++ _) (row b15 [.map (some b1), .map (some b2)] 189 :: (C1 ++ (C2 ++ H)))
  refine sr_ ?_
  refine WL.y rfl (Yd.lss rfl rfl) ?_
  refine nt_ ?_
  refine WC.seq ?_
  refine WC.ite rfl (fun h19 => ?_) (fun h19 => ?_)
  ·have hlt : i < gs.length := by omega
   have hgn := hg gs[i] (List.getElem_mem hlt)
   have htk : gs.take (i + 1) = gs.take i ++ [gs[i]] := List.take_succ_eq_append_getElem hlt
   refine WC.skip ?_
   refine ts_ ?_
   refine WC.block ?_
   refine sr_ ?_
   refine WL.elemA (e := 73) (s := 2) kr_ kr_ kr_ rfl rfl (rfl) (hv.mono gr_) (flat_row cellsG 2 cellsG_len gs i hlt) (by rfl) (by omega) (hlt) rfl rfl ?_
   intro p20
   refine WL.h rfl (Hd.alloc (zs := [.string ⟨#[]⟩, .int .i64 0]) kr_ fun b6 => ⟨_, rfl, ?_⟩)
   refine WL.s (Hd.storeAll (n := 2) kr_ rfl rfl (by rfl) one_ fr_ (by rfl) ⟨rfl, ?_⟩)
   refine nt_ ?_
   refine WC.cutK (fun z : Nat => True) (fun z : Nat => [(8, .bool (findK Gd.name (gs.take i) gs[i].name).isSome)]) (fun z : Nat => row b6 (cellsG gs[i]) 73 :: (row b15 [.map (some b1), .map (some b2)] 189 :: (C1 ++ (C2 ++ H)))) ?_ ?_
   ·refine WC.draw 13 kr_ rfl ?_
    refine WA.y (i := 0) (NoPanic.then (NoPanic.block (NoPanic.then (NoPanic.then (NoPanic.block (NoPanic.then (NoPanic.body))))))) rfl kr_ kr_ kr_ rfl (Yd.move rfl) ?_
    refine WA.y (i := 1) (NoPanic.then (NoPanic.block (NoPanic.then (NoPanic.then (NoPanic.block (NoPanic.then (NoPanic.body))))))) rfl kr_ kr_ kr_ rfl (Yd.notNil rfl) ?_
    refine WA.y (i := 2) (NoPanic.then (NoPanic.block (NoPanic.then (NoPanic.then (NoPanic.block (NoPanic.then (NoPanic.body))))))) rfl kr_ kr_ kr_ rfl (Yd.fieldAddr (k := 0) kr_ rfl) ?_
    refine WA.y (i := 4) (NoPanic.then (NoPanic.block (NoPanic.then (NoPanic.then (NoPanic.block (NoPanic.then (NoPanic.body))))))) rfl kr_ kr_ kr_ rfl (Yd.fieldAddr (k := 0) kr_ rfl) ?_
    refine WA.three (i := 3) (j := 5) (k := 10) kr_ ?_ ?_ ?_
    ·refine WO.h rfl Wt.none rfl (Hd.load1 kr_ rfl mem_ (by rfl) ⟨_, rfl, ?_⟩)
     refine WA.two (i := 5) (j := 10) kr_ ?_ ?_
     ·refine WO.h rfl Wt.none rfl (Hd.load1 kr_ rfl mem_ (by rfl) ⟨_, rfl, ?_⟩)
      refine WA.two (i := 6) (j := 10) kr_ ?_ ?_
      ·refine WO.h rfl Wt.none rfl (Hd.lookupG (k0 := kStr) (KT := 9) (ET := 191) (TD := .string) (n := gs[i].name) (z := .agg #[.int .i64 0, .int .i64 0]) kr_ Tryz.underlying9 rfl kr_ rfl rfl hK sp_ (lkG2 (gs.take i) gs[i].name) ⟨_, rfl, ?_⟩)
       refine WA.y (i := 7) (NoPanic.then (NoPanic.block (NoPanic.then (NoPanic.then (NoPanic.block (NoPanic.then (NoPanic.body))))))) rfl kr_ kr_ kr_ rfl (Yd.move rfl) ?_
       refine WA.y (i := 8) (NoPanic.then (NoPanic.block (NoPanic.then (NoPanic.then (NoPanic.block (NoPanic.then (NoPanic.body))))))) rfl kr_ kr_ kr_ rfl (Yd.extract rfl rfl) ?_
       refine WA.y (i := 9) (NoPanic.then (NoPanic.block (NoPanic.then (NoPanic.then (NoPanic.block (NoPanic.then (NoPanic.body))))))) rfl kr_ kr_ kr_ rfl (Yd.extract rfl rfl) ?_
       refine WA.one (i := 10) kr_ ?_
       refine WO.h rfl Wt.none rfl (Hd.alloc (zs := [.int .i64 0, .int .i64 0]) kr_ fun b7 => ⟨_, rfl, ?_⟩)
       refine WA.one (i := 11) kr_ ?_
       refine WO.s rfl Wt.none (Hd.storeAll (n := 2) kr_ rfl rfl (by rfl) one_ fr_ (by rfl) ⟨rfl, ?_⟩)
       refine WA.y (i := 12) (NoPanic.then (NoPanic.block (NoPanic.then (NoPanic.then (NoPanic.block (NoPanic.then (NoPanic.body))))))) rfl kr_ kr_ kr_ rfl (Yd.assign rfl) ?_
       refine WA.done kr_ ?_
       refine DN.fit (C := row b6 (cellsG gs[i]) 73 :: (row b15 [.map (some b1), .map (some b2)] 189 :: (C1 ++ (C2 ++ H)))) sp_ ?_
       exact DN.reachK (0) (trivial) (Sx.put rfl (sx_)) (Sp.all sp_)
      ·refine WO.h rfl Wt.none rfl (Hd.alloc (zs := [.int .i64 0, .int .i64 0]) kr_ fun b7 => ⟨_, rfl, ?_⟩)
       refine WA.one (i := 6) kr_ ?_
       refine WO.h rfl Wt.none rfl (Hd.lookupG (k0 := kStr) (KT := 9) (ET := 191) (TD := .string) (n := gs[i].name) (z := .agg #[.int .i64 0, .int .i64 0]) kr_ Tryz.underlying9 rfl kr_ rfl rfl hK sp_ (lkG2 (gs.take i) gs[i].name) ⟨_, rfl, ?_⟩)
       refine WA.y (i := 7) (NoPanic.then (NoPanic.block (NoPanic.then (NoPanic.then (NoPanic.block (NoPanic.then (NoPanic.body))))))) rfl kr_ kr_ kr_ rfl (Yd.move rfl) ?_
       refine WA.y (i := 8) (NoPanic.then (NoPanic.block (NoPanic.then (NoPanic.then (NoPanic.block (NoPanic.then (NoPanic.body))))))) rfl kr_ kr_ kr_ rfl (Yd.extract rfl rfl) ?_
       refine WA.y (i := 9) (NoPanic.then (NoPanic.block (NoPanic.then (NoPanic.then (NoPanic.block (NoPanic.then (NoPanic.body))))))) rfl kr_ kr_ kr_ rfl (Yd.extract rfl rfl) ?_
       refine WA.one (i := 11) kr_ ?_
       refine WO.s rfl Wt.none (Hd.storeAll (n := 2) kr_ rfl rfl (by rfl) one_ fr_ (by rfl) ⟨rfl, ?_⟩)
       refine WA.y (i := 12) (NoPanic.then (NoPanic.block (NoPanic.then (NoPanic.then (NoPanic.block (NoPanic.then (NoPanic.body))))))) rfl kr_ kr_ kr_ rfl (Yd.assign rfl) ?_
       refine WA.done kr_ ?_
       refine DN.fit (C := row b6 (cellsG gs[i]) 73 :: (row b15 [.map (some b1), .map (some b2)] 189 :: (C1 ++ (C2 ++ H)))) sp_ ?_
       exact DN.reachK (0) (trivial) (Sx.put rfl (sx_)) (Sp.all sp_)
     ·refine WO.h rfl Wt.none rfl (Hd.alloc (zs := [.int .i64 0, .int .i64 0]) kr_ fun b7 => ⟨_, rfl, ?_⟩)
      refine WA.one (i := 5) kr_ ?_
      refine WO.h rfl Wt.none rfl (Hd.load1 kr_ rfl mem_ (by rfl) ⟨_, rfl, ?_⟩)
      refine WA.one (i := 6) kr_ ?_
      refine WO.h rfl Wt.none rfl (Hd.lookupG (k0 := kStr) (KT := 9) (ET := 191) (TD := .string) (n := gs[i].name) (z := .agg #[.int .i64 0, .int .i64 0]) kr_ Tryz.underlying9 rfl kr_ rfl rfl hK sp_ (lkG2 (gs.take i) gs[i].name) ⟨_, rfl, ?_⟩)
      refine WA.y (i := 7) (NoPanic.then (NoPanic.block (NoPanic.then (NoPanic.then (NoPanic.block (NoPanic.then (NoPanic.body))))))) rfl kr_ kr_ kr_ rfl (Yd.move rfl) ?_
      refine WA.y (i := 8) (NoPanic.then (NoPanic.block (NoPanic.then (NoPanic.then (NoPanic.block (NoPanic.then (NoPanic.body))))))) rfl kr_ kr_ kr_ rfl (Yd.extract rfl rfl) ?_
      refine WA.y (i := 9) (NoPanic.then (NoPanic.block (NoPanic.then (NoPanic.then (NoPanic.block (NoPanic.then (NoPanic.body))))))) rfl kr_ kr_ kr_ rfl (Yd.extract rfl rfl) ?_
      refine WA.one (i := 11) kr_ ?_
      refine WO.s rfl Wt.none (Hd.storeAll (n := 2) kr_ rfl rfl (by rfl) one_ fr_ (by rfl) ⟨rfl, ?_⟩)
      refine WA.y (i := 12) (NoPanic.then (NoPanic.block (NoPanic.then (NoPanic.then (NoPanic.block (NoPanic.then (NoPanic.body))))))) rfl kr_ kr_ kr_ rfl (Yd.assign rfl) ?_
      refine WA.done kr_ ?_
      refine DN.fit (C := row b6 (cellsG gs[i]) 73 :: (row b15 [.map (some b1), .map (some b2)] 189 :: (C1 ++ (C2 ++ H)))) sp_ ?_
      exact DN.reachK (0) (trivial) (Sx.put rfl (sx_)) (Sp.all sp_)
    ·refine WO.h rfl Wt.none rfl (Hd.load1 kr_ rfl mem_ (by rfl) ⟨_, rfl, ?_⟩)
     refine WA.two (i := 3) (j := 10) kr_ ?_ ?_
     ·refine WO.h rfl Wt.none rfl (Hd.load1 kr_ rfl mem_ (by rfl) ⟨_, rfl, ?_⟩)
      refine WA.two (i := 6) (j := 10) kr_ ?_ ?_
      ·refine WO.h rfl Wt.none rfl (Hd.lookupG (k0 := kStr) (KT := 9) (ET := 191) (TD := .string) (n := gs[i].name) (z := .agg #[.int .i64 0, .int .i64 0]) kr_ Tryz.underlying9 rfl kr_ rfl rfl hK sp_ (lkG2 (gs.take i) gs[i].name) ⟨_, rfl, ?_⟩)
       refine WA.y (i := 7) (NoPanic.then (NoPanic.block (NoPanic.then (NoPanic.then (NoPanic.block (NoPanic.then (NoPanic.body))))))) rfl kr_ kr_ kr_ rfl (Yd.move rfl) ?_
       refine WA.y (i := 8) (NoPanic.then (NoPanic.block (NoPanic.then (NoPanic.then (NoPanic.block (NoPanic.then (NoPanic.body))))))) rfl kr_ kr_ kr_ rfl (Yd.extract rfl rfl) ?_
       refine WA.y (i := 9) (NoPanic.then (NoPanic.block (NoPanic.then (NoPanic.then (NoPanic.block (NoPanic.then (NoPanic.body))))))) rfl kr_ kr_ kr_ rfl (Yd.extract rfl rfl) ?_
       refine WA.one (i := 10) kr_ ?_
       refine WO.h rfl Wt.none rfl (Hd.alloc (zs := [.int .i64 0, .int .i64 0]) kr_ fun b7 => ⟨_, rfl, ?_⟩)
       refine WA.one (i := 11) kr_ ?_
       refine WO.s rfl Wt.none (Hd.storeAll (n := 2) kr_ rfl rfl (by rfl) one_ fr_ (by rfl) ⟨rfl, ?_⟩)
       refine WA.y (i := 12) (NoPanic.then (NoPanic.block (NoPanic.then (NoPanic.then (NoPanic.block (NoPanic.then (NoPanic.body))))))) rfl kr_ kr_ kr_ rfl (Yd.assign rfl) ?_
       refine WA.done kr_ ?_
       refine DN.fit (C := row b6 (cellsG gs[i]) 73 :: (row b15 [.map (some b1), .map (some b2)] 189 :: (C1 ++ (C2 ++ H)))) sp_ ?_
       exact DN.reachK (0) (trivial) (Sx.put rfl (sx_)) (Sp.all sp_)
      ·refine WO.h rfl Wt.none rfl (Hd.alloc (zs := [.int .i64 0, .int .i64 0]) kr_ fun b7 => ⟨_, rfl, ?_⟩)
       refine WA.one (i := 6) kr_ ?_
       refine WO.h rfl Wt.none rfl (Hd.lookupG (k0 := kStr) (KT := 9) (ET := 191) (TD := .string) (n := gs[i].name) (z := .agg #[.int .i64 0, .int .i64 0]) kr_ Tryz.underlying9 rfl kr_ rfl rfl hK sp_ (lkG2 (gs.take i) gs[i].name) ⟨_, rfl, ?_⟩)
       refine WA.y (i := 7) (NoPanic.then (NoPanic.block (NoPanic.then (NoPanic.then (NoPanic.block (NoPanic.then (NoPanic.body))))))) rfl kr_ kr_ kr_ rfl (Yd.move rfl) ?_
       refine WA.y (i := 8) (NoPanic.then (NoPanic.block (NoPanic.then (NoPanic.then (NoPanic.block (NoPanic.then (NoPanic.body))))))) rfl kr_ kr_ kr_ rfl (Yd.extract rfl rfl) ?_
       refine WA.y (i := 9) (NoPanic.then (NoPanic.block (NoPanic.then (NoPanic.then (NoPanic.block (NoPanic.then (NoPanic.body))))))) rfl kr_ kr_ kr_ rfl (Yd.extract rfl rfl) ?_
       refine WA.one (i := 11) kr_ ?_
       refine WO.s rfl Wt.none (Hd.storeAll (n := 2) kr_ rfl rfl (by rfl) one_ fr_ (by rfl) ⟨rfl, ?_⟩)
       refine WA.y (i := 12) (NoPanic.then (NoPanic.block (NoPanic.then (NoPanic.then (NoPanic.block (NoPanic.then (NoPanic.body))))))) rfl kr_ kr_ kr_ rfl (Yd.assign rfl) ?_
       refine WA.done kr_ ?_
       refine DN.fit (C := row b6 (cellsG gs[i]) 73 :: (row b15 [.map (some b1), .map (some b2)] 189 :: (C1 ++ (C2 ++ H)))) sp_ ?_
       exact DN.reachK (0) (trivial) (Sx.put rfl (sx_)) (Sp.all sp_)
     ·refine WO.h rfl Wt.none rfl (Hd.alloc (zs := [.int .i64 0, .int .i64 0]) kr_ fun b7 => ⟨_, rfl, ?_⟩)
      refine WA.one (i := 3) kr_ ?_
      refine WO.h rfl Wt.none rfl (Hd.load1 kr_ rfl mem_ (by rfl) ⟨_, rfl, ?_⟩)
      refine WA.one (i := 6) kr_ ?_
      refine WO.h rfl Wt.none rfl (Hd.lookupG (k0 := kStr) (KT := 9) (ET := 191) (TD := .string) (n := gs[i].name) (z := .agg #[.int .i64 0, .int .i64 0]) kr_ Tryz.underlying9 rfl kr_ rfl rfl hK sp_ (lkG2 (gs.take i) gs[i].name) ⟨_, rfl, ?_⟩)
      refine WA.y (i := 7) (NoPanic.then (NoPanic.block (NoPanic.then (NoPanic.then (NoPanic.block (NoPanic.then (NoPanic.body))))))) rfl kr_ kr_ kr_ rfl (Yd.move rfl) ?_
      refine WA.y (i := 8) (NoPanic.then (NoPanic.block (NoPanic.then (NoPanic.then (NoPanic.block (NoPanic.then (NoPanic.body))))))) rfl kr_ kr_ kr_ rfl (Yd.extract rfl rfl) ?_
      refine WA.y (i := 9) (NoPanic.then (NoPanic.block (NoPanic.then (NoPanic.then (NoPanic.block (NoPanic.then (NoPanic.body))))))) rfl kr_ kr_ kr_ rfl (Yd.extract rfl rfl) ?_
      refine WA.one (i := 11) kr_ ?_
      refine WO.s rfl Wt.none (Hd.storeAll (n := 2) kr_ rfl rfl (by rfl) one_ fr_ (by rfl) ⟨rfl, ?_⟩)
      refine WA.y (i := 12) (NoPanic.then (NoPanic.block (NoPanic.then (NoPanic.then (NoPanic.block (NoPanic.then (NoPanic.body))))))) rfl kr_ kr_ kr_ rfl (Yd.assign rfl) ?_
      refine WA.done kr_ ?_
      refine DN.fit (C := row b6 (cellsG gs[i]) 73 :: (row b15 [.map (some b1), .map (some b2)] 189 :: (C1 ++ (C2 ++ H)))) sp_ ?_
      exact DN.reachK (0) (trivial) (Sx.put rfl (sx_)) (Sp.all sp_)
    ·refine WO.h rfl Wt.none rfl (Hd.alloc (zs := [.int .i64 0, .int .i64 0]) kr_ fun b7 => ⟨_, rfl, ?_⟩)
     refine WA.two (i := 3) (j := 5) kr_ ?_ ?_
     ·refine WO.h rfl Wt.none rfl (Hd.load1 kr_ rfl mem_ (by rfl) ⟨_, rfl, ?_⟩)
      refine WA.one (i := 5) kr_ ?_
      refine WO.h rfl Wt.none rfl (Hd.load1 kr_ rfl mem_ (by rfl) ⟨_, rfl, ?_⟩)
      refine WA.one (i := 6) kr_ ?_
      refine WO.h rfl Wt.none rfl (Hd.lookupG (k0 := kStr) (KT := 9) (ET := 191) (TD := .string) (n := gs[i].name) (z := .agg #[.int .i64 0, .int .i64 0]) kr_ Tryz.underlying9 rfl kr_ rfl rfl hK sp_ (lkG2 (gs.take i) gs[i].name) ⟨_, rfl, ?_⟩)
      refine WA.y (i := 7) (NoPanic.then (NoPanic.block (NoPanic.then (NoPanic.then (NoPanic.block (NoPanic.then (NoPanic.body))))))) rfl kr_ kr_ kr_ rfl (Yd.move rfl) ?_
      refine WA.y (i := 8) (NoPanic.then (NoPanic.block (NoPanic.then (NoPanic.then (NoPanic.block (NoPanic.then (NoPanic.body))))))) rfl kr_ kr_ kr_ rfl (Yd.extract rfl rfl) ?_
      refine WA.y (i := 9) (NoPanic.then (NoPanic.block (NoPanic.then (NoPanic.then (NoPanic.block (NoPanic.then (NoPanic.body))))))) rfl kr_ kr_ kr_ rfl (Yd.extract rfl rfl) ?_
      refine WA.one (i := 11) kr_ ?_
      refine WO.s rfl Wt.none (Hd.storeAll (n := 2) kr_ rfl rfl (by rfl) one_ fr_ (by rfl) ⟨rfl, ?_⟩)
      refine WA.y (i := 12) (NoPanic.then (NoPanic.block (NoPanic.then (NoPanic.then (NoPanic.block (NoPanic.then (NoPanic.body))))))) rfl kr_ kr_ kr_ rfl (Yd.assign rfl) ?_
      refine WA.done kr_ ?_
      refine DN.fit (C := row b6 (cellsG gs[i]) 73 :: (row b15 [.map (some b1), .map (some b2)] 189 :: (C1 ++ (C2 ++ H)))) sp_ ?_
      exact DN.reachK (0) (trivial) (Sx.put rfl (sx_)) (Sp.all sp_)
     ·refine WO.h rfl Wt.none rfl (Hd.load1 kr_ rfl mem_ (by rfl) ⟨_, rfl, ?_⟩)
      refine WA.one (i := 3) kr_ ?_
      refine WO.h rfl Wt.none rfl (Hd.load1 kr_ rfl mem_ (by rfl) ⟨_, rfl, ?_⟩)
      refine WA.one (i := 6) kr_ ?_
      refine WO.h rfl Wt.none rfl (Hd.lookupG (k0 := kStr) (KT := 9) (ET := 191) (TD := .string) (n := gs[i].name) (z := .agg #[.int .i64 0, .int .i64 0]) kr_ Tryz.underlying9 rfl kr_ rfl rfl hK sp_ (lkG2 (gs.take i) gs[i].name) ⟨_, rfl, ?_⟩)
      refine WA.y (i := 7) (NoPanic.then (NoPanic.block (NoPanic.then (NoPanic.then (NoPanic.block (NoPanic.then (NoPanic.body))))))) rfl kr_ kr_ kr_ rfl (Yd.move rfl) ?_
      refine WA.y (i := 8) (NoPanic.then (NoPanic.block (NoPanic.then (NoPanic.then (NoPanic.block (NoPanic.then (NoPanic.body))))))) rfl kr_ kr_ kr_ rfl (Yd.extract rfl rfl) ?_
      refine WA.y (i := 9) (NoPanic.then (NoPanic.block (NoPanic.then (NoPanic.then (NoPanic.block (NoPanic.then (NoPanic.body))))))) rfl kr_ kr_ kr_ rfl (Yd.extract rfl rfl) ?_
      refine WA.one (i := 11) kr_ ?_
      refine WO.s rfl Wt.none (Hd.storeAll (n := 2) kr_ rfl rfl (by rfl) one_ fr_ (by rfl) ⟨rfl, ?_⟩)
      refine WA.y (i := 12) (NoPanic.then (NoPanic.block (NoPanic.then (NoPanic.then (NoPanic.block (NoPanic.then (NoPanic.body))))))) rfl kr_ kr_ kr_ rfl (Yd.assign rfl) ?_
      refine WA.done kr_ ?_
      refine DN.fit (C := row b6 (cellsG gs[i]) 73 :: (row b15 [.map (some b1), .map (some b2)] 189 :: (C1 ++ (C2 ++ H)))) sp_ ?_
      exact DN.reachK (0) (trivial) (Sx.put rfl (sx_)) (Sp.all sp_)
   ·intro _ _
    refine WC.seq ?_
    refine sr_ ?_
    refine f_ 0 kr_ rfl rfl ?_
    refine d_ kr_ rfl mem_ (by rfl) rfl ?_
    refine WL.y rfl (Yd.eqlS rfl rfl) ?_
    refine m_ rfl rfl ?_
    refine WL.partP (t := 35) rfl (fun hg35 => ?_) (fun hg35 => ?_)
    ·iterate 4 refine gn_ 35 rfl rfl rfl rfl ?_
     refine WL.y rfl (Yd.pickT rfl rfl) ?_
     refine m_ rfl rfl ?_
     iterate 3 refine gn_ 41 rfl rfl rfl rfl ?_
     refine WL.y rfl (Yd.pickT rfl rfl) ?_
     refine m_ rfl rfl ?_
     iterate 3 refine gn_ 46 rfl rfl rfl rfl ?_
     refine WL.y rfl (Yd.pickT rfl rfl) ?_
     refine m_ rfl rfl ?_
     refine gn_ 51 rfl rfl rfl rfl ?_
     refine WL.y rfl (Yd.pickT rfl rfl) ?_
     refine nt_ ?_
     refine WC.yes rfl ?_
     refine sr_ ?_
     refine a_ rfl rfl ?_
     refine a_ rfl rfl ?_
     refine nt_ ?_
     refine WC.ret ?_
     refine DN.then_ret ?_
     refine DN.block_ret ?_
     refine DN.then_ret ?_
     refine DN.then_ret ?_
     refine DN.block_ret ?_
     refine DN.then_ret ?_
     first | (have hlt2 : i < gs.length := hlt; refine DN.fit (C := H) sp_ ?_) | refine DN.fit (C := row b15 [.map (some b1), .map (some b2)] 189 :: (C1 ++ (C2 ++ H))) sp_ ?_ | skip
     refine DN.ret2 Tryz.results63 rfl rfl ?_
     first
       | exact .inr ⟨fun hG => by have := hG.1; omega, rfl, rfl⟩
       | exact .inr ⟨fun hG => (hG.2.2 gs[i] (List.getElem_mem hlt)).1 hg35, rfl, rfl⟩
       | exact .inr ⟨fun hG => by have := (hG.2.2 gs[i] (List.getElem_mem hlt)).2; omega, rfl, rfl⟩
       | exact .inr ⟨fun hG => (twice_no hlt h53) hG.2.1, rfl, rfl⟩
       | exact .inl ⟨⟨by omega, hnd, fun g hm => by obtain ⟨j, hj, rfl⟩ := List.getElem_of_mem hm; exact hgood j hj hj⟩, b15, row b15 [.map (some b1), .map (some b2)] 189 :: (C1 ++ C2), rfl, ⟨b1, b2, C1, C2, rfl, hK, h2⟩, by simp⟩
    ·refine gy_ 35 rfl rfl rfl (Yd.fieldAddr (k := 0) kr_ rfl) ?_
     refine WL.gh (dj := 35) rfl rfl rfl (Hd.load1 kr_ rfl mem_ (by rfl) ⟨_, rfl, ?_⟩)
     refine gy_ 35 rfl rfl rfl (Yd.lenS Tryz.underlying9 rfl) ?_
     refine gy_ 35 rfl rfl rfl (Yd.gtr rfl rfl) ?_
     refine WL.y rfl (Yd.pickF rfl rfl) ?_
     refine m_ rfl rfl ?_
     refine WL.partP (t := 41) rfl (fun hg41 => ?_) (fun hg41 => ?_)
     ·iterate 3 refine gn_ 41 rfl rfl rfl rfl ?_
      refine WL.y rfl (Yd.pickT rfl rfl) ?_
      refine m_ rfl rfl ?_
      iterate 3 refine gn_ 46 rfl rfl rfl rfl ?_
      refine WL.y rfl (Yd.pickT rfl rfl) ?_
      refine m_ rfl rfl ?_
      refine gn_ 51 rfl rfl rfl rfl ?_
      refine WL.y rfl (Yd.pickT rfl rfl) ?_
      refine nt_ ?_
      refine WC.yes rfl ?_
      refine sr_ ?_
      refine a_ rfl rfl ?_
      refine a_ rfl rfl ?_
      refine nt_ ?_
      refine WC.ret ?_
      refine DN.then_ret ?_
      refine DN.block_ret ?_
      refine DN.then_ret ?_
      refine DN.then_ret ?_
      refine DN.block_ret ?_
      refine DN.then_ret ?_
      first | (have hlt2 : i < gs.length := hlt; refine DN.fit (C := H) sp_ ?_) | refine DN.fit (C := row b15 [.map (some b1), .map (some b2)] 189 :: (C1 ++ (C2 ++ H))) sp_ ?_ | skip
      refine DN.ret2 Tryz.results63 rfl rfl ?_
      first
        | exact .inr ⟨fun hG => by have := hG.1; omega, rfl, rfl⟩
        | exact .inr ⟨fun hG => (hG.2.2 gs[i] (List.getElem_mem hlt)).1 hg35, rfl, rfl⟩
        | exact .inr ⟨fun hG => by have := (hG.2.2 gs[i] (List.getElem_mem hlt)).2; omega, rfl, rfl⟩
        | exact .inr ⟨fun hG => (twice_no hlt h53) hG.2.1, rfl, rfl⟩
        | exact .inl ⟨⟨by omega, hnd, fun g hm => by obtain ⟨j, hj, rfl⟩ := List.getElem_of_mem hm; exact hgood j hj hj⟩, b15, row b15 [.map (some b1), .map (some b2)] 189 :: (C1 ++ C2), rfl, ⟨b1, b2, C1, C2, rfl, hK, h2⟩, by simp⟩
     ·refine gy_ 41 rfl rfl rfl (Yd.fieldAddr (k := 1) kr_ rfl) ?_
      refine WL.gh (dj := 41) rfl rfl rfl (Hd.load1 kr_ rfl mem_ (by rfl) ⟨_, rfl, ?_⟩)
      refine gy_ 41 rfl rfl rfl (Yd.lss rfl rfl) ?_
      refine WL.y rfl (Yd.pickF rfl rfl) ?_
      refine m_ rfl rfl ?_
      refine WL.partP (t := 46) rfl (fun hg46 => ?_) (fun hg46 => ?_)
      ·iterate 3 refine gn_ 46 rfl rfl rfl rfl ?_
       refine WL.y rfl (Yd.pickT rfl rfl) ?_
       refine m_ rfl rfl ?_
       refine gn_ 51 rfl rfl rfl rfl ?_
       refine WL.y rfl (Yd.pickT rfl rfl) ?_
       refine nt_ ?_
       refine WC.yes rfl ?_
       refine sr_ ?_
       refine a_ rfl rfl ?_
       refine a_ rfl rfl ?_
       refine nt_ ?_
       refine WC.ret ?_
       refine DN.then_ret ?_
       refine DN.block_ret ?_
       refine DN.then_ret ?_
       refine DN.then_ret ?_
       refine DN.block_ret ?_
       refine DN.then_ret ?_
       first | (have hlt2 : i < gs.length := hlt; refine DN.fit (C := H) sp_ ?_) | refine DN.fit (C := row b15 [.map (some b1), .map (some b2)] 189 :: (C1 ++ (C2 ++ H))) sp_ ?_ | skip
       refine DN.ret2 Tryz.results63 rfl rfl ?_
       first
         | exact .inr ⟨fun hG => by have := hG.1; omega, rfl, rfl⟩
         | exact .inr ⟨fun hG => (hG.2.2 gs[i] (List.getElem_mem hlt)).1 hg35, rfl, rfl⟩
         | exact .inr ⟨fun hG => by have := (hG.2.2 gs[i] (List.getElem_mem hlt)).2; omega, rfl, rfl⟩
         | exact .inr ⟨fun hG => (twice_no hlt h53) hG.2.1, rfl, rfl⟩
         | exact .inl ⟨⟨by omega, hnd, fun g hm => by obtain ⟨j, hj, rfl⟩ := List.getElem_of_mem hm; exact hgood j hj hj⟩, b15, row b15 [.map (some b1), .map (some b2)] 189 :: (C1 ++ C2), rfl, ⟨b1, b2, C1, C2, rfl, hK, h2⟩, by simp⟩
      ·refine gy_ 46 rfl rfl rfl (Yd.fieldAddr (k := 1) kr_ rfl) ?_
       refine WL.gh (dj := 46) rfl rfl rfl (Hd.load1 kr_ rfl mem_ (by rfl) ⟨_, rfl, ?_⟩)
       refine gy_ 46 rfl rfl rfl (Yd.gtr rfl rfl) ?_
       refine WL.y rfl (Yd.pickF rfl rfl) ?_
       refine m_ rfl rfl ?_
       refine WL.partP (t := 51) rfl (fun hg51 => ?_) (fun hg51 => ?_)
       ·refine gn_ 51 rfl rfl rfl rfl ?_
        refine WL.y rfl (Yd.pickT rfl rfl) ?_
        refine nt_ ?_
        refine WC.yes rfl ?_
        refine sr_ ?_
        refine a_ rfl rfl ?_
        refine a_ rfl rfl ?_
        refine nt_ ?_
        refine WC.ret ?_
        refine DN.then_ret ?_
        refine DN.block_ret ?_
        refine DN.then_ret ?_
        refine DN.then_ret ?_
        refine DN.block_ret ?_
        refine DN.then_ret ?_
        first | (have hlt2 : i < gs.length := hlt; refine DN.fit (C := H) sp_ ?_) | refine DN.fit (C := row b15 [.map (some b1), .map (some b2)] 189 :: (C1 ++ (C2 ++ H))) sp_ ?_ | skip
        refine DN.ret2 Tryz.results63 rfl rfl ?_
        first
          | exact .inr ⟨fun hG => by have := hG.1; omega, rfl, rfl⟩
          | exact .inr ⟨fun hG => (hG.2.2 gs[i] (List.getElem_mem hlt)).1 hg35, rfl, rfl⟩
          | exact .inr ⟨fun hG => by have := (hG.2.2 gs[i] (List.getElem_mem hlt)).2; omega, rfl, rfl⟩
          | exact .inr ⟨fun hG => (twice_no hlt h53) hG.2.1, rfl, rfl⟩
          | exact .inl ⟨⟨by omega, hnd, fun g hm => by obtain ⟨j, hj, rfl⟩ := List.getElem_of_mem hm; exact hgood j hj hj⟩, b15, row b15 [.map (some b1), .map (some b2)] 189 :: (C1 ++ C2), rfl, ⟨b1, b2, C1, C2, rfl, hK, h2⟩, by simp⟩
       ·refine gy_ 51 rfl rfl rfl (Yd.move rfl) ?_
        refine WL.y rfl (Yd.pickF rfl rfl) ?_
        refine nt_ ?_
        refine WC.cond rfl (fun h53 => ?_) (fun h53 => ?_)
        ·refine sr_ ?_
         refine a_ rfl rfl ?_
         refine a_ rfl rfl ?_
         refine nt_ ?_
         refine WC.ret ?_
         refine DN.then_ret ?_
         refine DN.block_ret ?_
         refine DN.then_ret ?_
         refine DN.then_ret ?_
         refine DN.block_ret ?_
         refine DN.then_ret ?_
         first | (have hlt2 : i < gs.length := hlt; refine DN.fit (C := H) sp_ ?_) | refine DN.fit (C := row b15 [.map (some b1), .map (some b2)] 189 :: (C1 ++ (C2 ++ H))) sp_ ?_ | skip
         refine DN.ret2 Tryz.results63 rfl rfl ?_
         first
           | exact .inr ⟨fun hG => by have := hG.1; omega, rfl, rfl⟩
           | exact .inr ⟨fun hG => (hG.2.2 gs[i] (List.getElem_mem hlt)).1 hg35, rfl, rfl⟩
           | exact .inr ⟨fun hG => by have := (hG.2.2 gs[i] (List.getElem_mem hlt)).2; omega, rfl, rfl⟩
           | exact .inr ⟨fun hG => (twice_no hlt h53) hG.2.1, rfl, rfl⟩
           | exact .inl ⟨⟨by omega, hnd, fun g hm => by obtain ⟨j, hj, rfl⟩ := List.getElem_of_mem hm; exact hgood j hj hj⟩, b15, row b15 [.map (some b1), .map (some b2)] 189 :: (C1 ++ C2), rfl, ⟨b1, b2, C1, C2, rfl, hK, h2⟩, by simp⟩
        ·have hgi : goodB gs[i] := ⟨hg35, by omega, by omega, by omega⟩
         have hnone : findK Gd.name (gs.take i) gs[i].name = none := by simpa using h53
         have hndi := once_more hnd hnone
         refine WC.skip ?_
         refine DN.then_normal ?_
         refine WC.draw 10 kr_ rfl ?_
         refine WA.y (i := 0) (NoPanic.block (NoPanic.then (NoPanic.then (NoPanic.block (NoPanic.then (NoPanic.body)))))) rfl kr_ kr_ kr_ rfl (Yd.move rfl) ?_
         refine WA.y (i := 1) (NoPanic.block (NoPanic.then (NoPanic.then (NoPanic.block (NoPanic.then (NoPanic.body)))))) rfl kr_ kr_ kr_ rfl (Yd.notNil rfl) ?_
         refine WA.y (i := 2) (NoPanic.block (NoPanic.then (NoPanic.then (NoPanic.block (NoPanic.then (NoPanic.body)))))) rfl kr_ kr_ kr_ rfl (Yd.fieldAddr (k := 0) kr_ rfl) ?_
         refine WA.y (i := 4) (NoPanic.block (NoPanic.then (NoPanic.then (NoPanic.block (NoPanic.then (NoPanic.body)))))) rfl kr_ kr_ kr_ rfl (Yd.fieldAddr (k := 0) kr_ rfl) ?_
         refine WA.y (i := 6) (NoPanic.block (NoPanic.then (NoPanic.then (NoPanic.block (NoPanic.then (NoPanic.body)))))) rfl kr_ kr_ kr_ rfl (Yd.fieldAddr (k := 1) kr_ rfl) ?_
         refine WA.three (i := 3) (j := 5) (k := 7) kr_ ?_ ?_ ?_
         ·refine WO.h rfl Wt.none rfl (Hd.load1 kr_ rfl mem_ (by rfl) ⟨_, rfl, ?_⟩)
          refine WA.two (i := 5) (j := 7) kr_ ?_ ?_
          ·refine WO.h rfl Wt.none rfl (Hd.load1 kr_ rfl mem_ (by rfl) ⟨_, rfl, ?_⟩)
           refine WA.one (i := 7) kr_ ?_
           refine WO.h rfl Wt.none rfl (Hd.load1 kr_ rfl mem_ (by rfl) ⟨_, rfl, ?_⟩)
           refine WA.y (i := 8) (NoPanic.block (NoPanic.then (NoPanic.then (NoPanic.block (NoPanic.then (NoPanic.body)))))) rfl kr_ kr_ kr_ rfl (Yd.buildL (pl := [(0, 1), (1, 1)]) (zs := [.int .i64 0, .int .i64 0]) (parts := [(0, .tmp 61)]) (vs := [(0, _)]) (cells := [_, .int .i64 0]) kr_ kr_ rfl rfl) ?_
           refine WA.one (i := 9) kr_ ?_
           refine WO.s rfl Wt.none (Hd.mapSet (k0 := kStr) (KT := 9) (ET := 191) (TD := .string) (n := gs[i].name) kr_ Tryz.underlying9 rfl rfl rfl rfl hK (by rw [kvs_keys]; exact hnd) sp_ fun C3 h3 => ⟨rfl, ?_⟩)
           refine WA.done kr_ ?_
           refine DN.block_normal ?_
           refine DN.then_normal ?_
           refine WC.region ?_
           refine WL.y rfl (Yd.add rfl rfl (by omega) (by omega)) ?_
           refine m_ rfl rfl ?_
           refine WL.nil ?_
           exact DN.againS (⟨i + 1, C3⟩) (show (i + 1) ≤ gs.length ∧ (∀ (j : Nat) (h : j < gs.length), j < (i + 1) → goodB gs[j]) ∧ ((gs.take (i + 1)).map Gd.name).Nodup ∧ MpG kStr b1 (kvs Gd.name encG (gs.take (i + 1))) C3 from ⟨by omega, fun j h hj => by
             rcases Nat.lt_or_ge j i with h5 | h5
             · exact hgood j h h5
             · obtain rfl : j = i := by omega
               exact hgi, by rw [htk]; exact hndi, by rw [htk]; exact put_more hgn hnone h3⟩) (show gs.length - (i + 1) < gs.length - i by omega) (Sx.put rfl (sx_)) sp_
          ·refine WO.h rfl Wt.none rfl (Hd.load1 kr_ rfl mem_ (by rfl) ⟨_, rfl, ?_⟩)
           refine WA.y (i := 8) (NoPanic.block (NoPanic.then (NoPanic.then (NoPanic.block (NoPanic.then (NoPanic.body)))))) rfl kr_ kr_ kr_ rfl (Yd.buildL (pl := [(0, 1), (1, 1)]) (zs := [.int .i64 0, .int .i64 0]) (parts := [(0, .tmp 61)]) (vs := [(0, _)]) (cells := [_, .int .i64 0]) kr_ kr_ rfl rfl) ?_
           refine WA.one (i := 5) kr_ ?_
           refine WO.h rfl Wt.none rfl (Hd.load1 kr_ rfl mem_ (by rfl) ⟨_, rfl, ?_⟩)
           refine WA.one (i := 9) kr_ ?_
           refine WO.s rfl Wt.none (Hd.mapSet (k0 := kStr) (KT := 9) (ET := 191) (TD := .string) (n := gs[i].name) kr_ Tryz.underlying9 rfl rfl rfl rfl hK (by rw [kvs_keys]; exact hnd) sp_ fun C3 h3 => ⟨rfl, ?_⟩)
           refine WA.done kr_ ?_
           refine DN.block_normal ?_
           refine DN.then_normal ?_
           refine WC.region ?_
           refine WL.y rfl (Yd.add rfl rfl (by omega) (by omega)) ?_
           refine m_ rfl rfl ?_
           refine WL.nil ?_
           exact DN.againS (⟨i + 1, C3⟩) (show (i + 1) ≤ gs.length ∧ (∀ (j : Nat) (h : j < gs.length), j < (i + 1) → goodB gs[j]) ∧ ((gs.take (i + 1)).map Gd.name).Nodup ∧ MpG kStr b1 (kvs Gd.name encG (gs.take (i + 1))) C3 from ⟨by omega, fun j h hj => by
             rcases Nat.lt_or_ge j i with h5 | h5
             · exact hgood j h h5
             · obtain rfl : j = i := by omega
               exact hgi, by rw [htk]; exact hndi, by rw [htk]; exact put_more hgn hnone h3⟩) (show gs.length - (i + 1) < gs.length - i by omega) (Sx.put rfl (sx_)) sp_
         ·refine WO.h rfl Wt.none rfl (Hd.load1 kr_ rfl mem_ (by rfl) ⟨_, rfl, ?_⟩)
          refine WA.two (i := 3) (j := 7) kr_ ?_ ?_
          ·refine WO.h rfl Wt.none rfl (Hd.load1 kr_ rfl mem_ (by rfl) ⟨_, rfl, ?_⟩)
           refine WA.one (i := 7) kr_ ?_
           refine WO.h rfl Wt.none rfl (Hd.load1 kr_ rfl mem_ (by rfl) ⟨_, rfl, ?_⟩)
           refine WA.y (i := 8) (NoPanic.block (NoPanic.then (NoPanic.then (NoPanic.block (NoPanic.then (NoPanic.body)))))) rfl kr_ kr_ kr_ rfl (Yd.buildL (pl := [(0, 1), (1, 1)]) (zs := [.int .i64 0, .int .i64 0]) (parts := [(0, .tmp 61)]) (vs := [(0, _)]) (cells := [_, .int .i64 0]) kr_ kr_ rfl rfl) ?_
           refine WA.one (i := 9) kr_ ?_
           refine WO.s rfl Wt.none (Hd.mapSet (k0 := kStr) (KT := 9) (ET := 191) (TD := .string) (n := gs[i].name) kr_ Tryz.underlying9 rfl rfl rfl rfl hK (by rw [kvs_keys]; exact hnd) sp_ fun C3 h3 => ⟨rfl, ?_⟩)
           refine WA.done kr_ ?_
           refine DN.block_normal ?_
           refine DN.then_normal ?_
           refine WC.region ?_
           refine WL.y rfl (Yd.add rfl rfl (by omega) (by omega)) ?_
           refine m_ rfl rfl ?_
           refine WL.nil ?_
           exact DN.againS (⟨i + 1, C3⟩) (show (i + 1) ≤ gs.length ∧ (∀ (j : Nat) (h : j < gs.length), j < (i + 1) → goodB gs[j]) ∧ ((gs.take (i + 1)).map Gd.name).Nodup ∧ MpG kStr b1 (kvs Gd.name encG (gs.take (i + 1))) C3 from ⟨by omega, fun j h hj => by
             rcases Nat.lt_or_ge j i with h5 | h5
             · exact hgood j h h5
             · obtain rfl : j = i := by omega
               exact hgi, by rw [htk]; exact hndi, by rw [htk]; exact put_more hgn hnone h3⟩) (show gs.length - (i + 1) < gs.length - i by omega) (Sx.put rfl (sx_)) sp_
          ·refine WO.h rfl Wt.none rfl (Hd.load1 kr_ rfl mem_ (by rfl) ⟨_, rfl, ?_⟩)
           refine WA.y (i := 8) (NoPanic.block (NoPanic.then (NoPanic.then (NoPanic.block (NoPanic.then (NoPanic.body)))))) rfl kr_ kr_ kr_ rfl (Yd.buildL (pl := [(0, 1), (1, 1)]) (zs := [.int .i64 0, .int .i64 0]) (parts := [(0, .tmp 61)]) (vs := [(0, _)]) (cells := [_, .int .i64 0]) kr_ kr_ rfl rfl) ?_
           refine WA.one (i := 3) kr_ ?_
           refine WO.h rfl Wt.none rfl (Hd.load1 kr_ rfl mem_ (by rfl) ⟨_, rfl, ?_⟩)
           refine WA.one (i := 9) kr_ ?_
           refine WO.s rfl Wt.none (Hd.mapSet (k0 := kStr) (KT := 9) (ET := 191) (TD := .string) (n := gs[i].name) kr_ Tryz.underlying9 rfl rfl rfl rfl hK (by rw [kvs_keys]; exact hnd) sp_ fun C3 h3 => ⟨rfl, ?_⟩)
           refine WA.done kr_ ?_
           refine DN.block_normal ?_
           refine DN.then_normal ?_
           refine WC.region ?_
           refine WL.y rfl (Yd.add rfl rfl (by omega) (by omega)) ?_
           refine m_ rfl rfl ?_
           refine WL.nil ?_
           exact DN.againS (⟨i + 1, C3⟩) (show (i + 1) ≤ gs.length ∧ (∀ (j : Nat) (h : j < gs.length), j < (i + 1) → goodB gs[j]) ∧ ((gs.take (i + 1)).map Gd.name).Nodup ∧ MpG kStr b1 (kvs Gd.name encG (gs.take (i + 1))) C3 from ⟨by omega, fun j h hj => by
             rcases Nat.lt_or_ge j i with h5 | h5
             · exact hgood j h h5
             · obtain rfl : j = i := by omega
               exact hgi, by rw [htk]; exact hndi, by rw [htk]; exact put_more hgn hnone h3⟩) (show gs.length - (i + 1) < gs.length - i by omega) (Sx.put rfl (sx_)) sp_
         ·refine WO.h rfl Wt.none rfl (Hd.load1 kr_ rfl mem_ (by rfl) ⟨_, rfl, ?_⟩)
          refine WA.y (i := 8) (NoPanic.block (NoPanic.then (NoPanic.then (NoPanic.block (NoPanic.then (NoPanic.body)))))) rfl kr_ kr_ kr_ rfl (Yd.buildL (pl := [(0, 1), (1, 1)]) (zs := [.int .i64 0, .int .i64 0]) (parts := [(0, .tmp 61)]) (vs := [(0, _)]) (cells := [_, .int .i64 0]) kr_ kr_ rfl rfl) ?_
          refine WA.two (i := 3) (j := 5) kr_ ?_ ?_
          ·refine WO.h rfl Wt.none rfl (Hd.load1 kr_ rfl mem_ (by rfl) ⟨_, rfl, ?_⟩)
           refine WA.one (i := 5) kr_ ?_
           refine WO.h rfl Wt.none rfl (Hd.load1 kr_ rfl mem_ (by rfl) ⟨_, rfl, ?_⟩)
           refine WA.one (i := 9) kr_ ?_
           refine WO.s rfl Wt.none (Hd.mapSet (k0 := kStr) (KT := 9) (ET := 191) (TD := .string) (n := gs[i].name) kr_ Tryz.underlying9 rfl rfl rfl rfl hK (by rw [kvs_keys]; exact hnd) sp_ fun C3 h3 => ⟨rfl, ?_⟩)
           refine WA.done kr_ ?_
           refine DN.block_normal ?_
           refine DN.then_normal ?_
           refine WC.region ?_
           refine WL.y rfl (Yd.add rfl rfl (by omega) (by omega)) ?_
           refine m_ rfl rfl ?_
           refine WL.nil ?_
           exact DN.againS (⟨i + 1, C3⟩) (show (i + 1) ≤ gs.length ∧ (∀ (j : Nat) (h : j < gs.length), j < (i + 1) → goodB gs[j]) ∧ ((gs.take (i + 1)).map Gd.name).Nodup ∧ MpG kStr b1 (kvs Gd.name encG (gs.take (i + 1))) C3 from ⟨by omega, fun j h hj => by
             rcases Nat.lt_or_ge j i with h5 | h5
             · exact hgood j h h5
             · obtain rfl : j = i := by omega
               exact hgi, by rw [htk]; exact hndi, by rw [htk]; exact put_more hgn hnone h3⟩) (show gs.length - (i + 1) < gs.length - i by omega) (Sx.put rfl (sx_)) sp_
          ·refine WO.h rfl Wt.none rfl (Hd.load1 kr_ rfl mem_ (by rfl) ⟨_, rfl, ?_⟩)
           refine WA.one (i := 3) kr_ ?_
           refine WO.h rfl Wt.none rfl (Hd.load1 kr_ rfl mem_ (by rfl) ⟨_, rfl, ?_⟩)
           refine WA.one (i := 9) kr_ ?_
           refine WO.s rfl Wt.none (Hd.mapSet (k0 := kStr) (KT := 9) (ET := 191) (TD := .string) (n := gs[i].name) kr_ Tryz.underlying9 rfl rfl rfl rfl hK (by rw [kvs_keys]; exact hnd) sp_ fun C3 h3 => ⟨rfl, ?_⟩)
           refine WA.done kr_ ?_
           refine DN.block_normal ?_
           refine DN.then_normal ?_
           refine WC.region ?_
           refine WL.y rfl (Yd.add rfl rfl (by omega) (by omega)) ?_
           refine m_ rfl rfl ?_
           refine WL.nil ?_
           exact DN.againS (⟨i + 1, C3⟩) (show (i + 1) ≤ gs.length ∧ (∀ (j : Nat) (h : j < gs.length), j < (i + 1) → goodB gs[j]) ∧ ((gs.take (i + 1)).map Gd.name).Nodup ∧ MpG kStr b1 (kvs Gd.name encG (gs.take (i + 1))) C3 from ⟨by omega, fun j h hj => by
             rcases Nat.lt_or_ge j i with h5 | h5
             · exact hgood j h h5
             · obtain rfl : j = i := by omega
               exact hgi, by rw [htk]; exact hndi, by rw [htk]; exact put_more hgn hnone h3⟩) (show gs.length - (i + 1) < gs.length - i by omega) (Sx.put rfl (sx_)) sp_
  ·obtain rfl : i = gs.length := by omega
   rw [List.take_length] at hnd hK
   refine WC.exit ?_
   refine DN.then_exit ?_
   refine DN.then_exit ?_
   refine DN.block_exit ?_
   refine ts_ ?_
   refine WC.region ?_
   refine m_ rfl rfl ?_
   refine a_ rfl rfl ?_
   refine a_ rfl rfl ?_
   refine nt_ ?_
   refine WC.ret ?_
   first | (have hlt2 : i < gs.length := hlt; refine DN.fit (C := H) sp_ ?_) | refine DN.fit (C := row b15 [.map (some b1), .map (some b2)] 189 :: (C1 ++ (C2 ++ H))) sp_ ?_ | skip
   refine DN.ret2 Tryz.results63 rfl rfl ?_
   first
     | exact .inr ⟨fun hG => by have := hG.1; omega, rfl, rfl⟩
     | exact .inr ⟨fun hG => (hG.2.2 gs[i] (List.getElem_mem hlt)).1 hg35, rfl, rfl⟩
     | exact .inr ⟨fun hG => by have := (hG.2.2 gs[i] (List.getElem_mem hlt)).2; omega, rfl, rfl⟩
     | exact .inr ⟨fun hG => (twice_no hlt h53) hG.2.1, rfl, rfl⟩
     | exact .inl ⟨⟨by omega, hnd, fun g hm => by obtain ⟨j, hj, rfl⟩ := List.getElem_of_mem hm; exact hgood j hj hj⟩, b15, row b15 [.map (some b1), .map (some b2)] 189 :: (C1 ++ C2), rfl, ⟨b1, b2, C1, C2, rfl, hK, h2⟩, by simp⟩
end Go.Proofs.YtkamlondepceiaaGreat.St

set_option linter.unusedVariables false
set_option linter.unusedSimpArgs false
set_option maxHeartbeats 4000000
namespace Go.Proofs
def Tryz.sortU_ren : Go.Shelf.Ren := ⟨fun | 6 => 100 | 15 => 131 | 14 => 133 | 28 => 150 | 29 => 151 | 20 => 153 | 21 => 154 | 22 => 155 | 23 => 156 | 24 => 157 | 25 => 158 | 26 => 159 | 27 => 160 | 46 => 167 | 47 => 163 | 48 => 164 | 49 => 168 | 50 => 169 | 57 => 171 | n => n, fun | 22 => 44 | 24 => 71 | 25 => 200 | 3 => 3 | 39 => 218 | 0 => 0 | 53 => 49 | 55 => 50 | 4 => 4 | 46 => 240 | 45 => 239 | 50 => 179 | 5 => 5 | 9 => 9 | 66 => 252 | 70 => 255 | 76 => 259 | 77 => 176 | n => n, fun | n => n⟩
theorem Tryz.sortU : SlLaysF0.n6 Tryz.prog Tryz.sortU_ren := {
  mixed := by kernel_rfl,
  f6 := ⟨Tryz.f100.name, by decide, Tryz.func100.trans (congrArg some (by kernel_rfl))⟩,
  f14 := ⟨Tryz.f133.name, by decide, Tryz.func133.trans (congrArg some (by kernel_rfl))⟩,
  f15 := Tryz.func131.trans (congrArg some (by kernel_rfl)),
  f20 := ⟨Tryz.f153.name, by decide, Tryz.func153.trans (congrArg some (by kernel_rfl))⟩,
  f21 := ⟨Tryz.f154.name, by decide, Tryz.func154.trans (congrArg some (by kernel_rfl))⟩,
  f22 := ⟨Tryz.f155.name, by decide, Tryz.func155.trans (congrArg some (by kernel_rfl))⟩,
  f23 := ⟨Tryz.f156.name, by decide, Tryz.func156.trans (congrArg some (by kernel_rfl))⟩,
  f24 := ⟨Tryz.f157.name, by decide, Tryz.func157.trans (congrArg some (by kernel_rfl))⟩,
  f25 := ⟨Tryz.f158.name, by decide, Tryz.func158.trans (congrArg some (by kernel_rfl))⟩,
  f26 := ⟨Tryz.f159.name, by decide, Tryz.func159.trans (congrArg some (by kernel_rfl))⟩,
  f27 := ⟨Tryz.f160.name, by decide, Tryz.func160.trans (congrArg some (by kernel_rfl))⟩,
  f28 := Tryz.func150.trans (congrArg some (by kernel_rfl)),
  f29 := Tryz.func151.trans (congrArg some (by kernel_rfl)),
  f46 := ⟨Tryz.f167.name, by decide, Tryz.func167.trans (congrArg some (by kernel_rfl))⟩,
  f47 := Tryz.func163.trans (congrArg some (by kernel_rfl)),
  f48 := Tryz.func164.trans (congrArg some (by kernel_rfl)),
  f49 := ⟨Tryz.f168.name, by decide, Tryz.func168.trans (congrArg some (by kernel_rfl))⟩,
  f50 := ⟨Tryz.f169.name, by decide, Tryz.func169.trans (congrArg some (by kernel_rfl))⟩,
  f57 := ⟨Tryz.f171.name, by decide, Tryz.func171.trans (congrArg some (by kernel_rfl))⟩,
  t0 := Tryz.underlying0,
  a0 := Tryz.isAgg0,
  z0 := Tryz.sizeOf0,
  v0 := Tryz.zeroValue0,
  t3 := Tryz.underlying3,
  a3 := Tryz.isAgg3,
  z3 := Tryz.sizeOf3,
  v3 := Tryz.zeroValue3,
  t4 := Tryz.underlying4,
  a4 := Tryz.isAgg4,
  z4 := Tryz.sizeOf4,
  v4 := Tryz.zeroValue4,
  t5 := Tryz.underlying5,
  a5 := Tryz.isAgg5,
  z5 := Tryz.sizeOf5,
  v5 := Tryz.zeroValue5,
  t9 := Tryz.underlying9,
  a9 := Tryz.isAgg9,
  z9 := Tryz.sizeOf9,
  v9 := Tryz.zeroValue9,
  t22 := Tryz.underlying44,
  a22 := Tryz.isAgg44,
  z22 := Tryz.sizeOf44,
  v22 := Tryz.zeroValue44,
  t25 := Tryz.underlying200,
  a25 := Tryz.isAgg200,
  z25 := Tryz.sizeOf200,
  v25 := Tryz.zeroValue200,
  t39 := Tryz.underlying218,
  a39 := Tryz.isAgg218,
  z39 := Tryz.sizeOf218,
  v39 := Tryz.zeroValue218,
  t45 := Tryz.underlying239,
  a45 := Tryz.isAgg239,
  z45 := Tryz.sizeOf239,
  v45 := Tryz.zeroValue239,
  t46 := Tryz.underlying240,
  a46 := Tryz.isAgg240,
  z46 := Tryz.sizeOf240,
  v46 := Tryz.zeroValue240,
  t50 := Tryz.underlying179,
  a50 := Tryz.isAgg179,
  z50 := Tryz.sizeOf179,
  v50 := Tryz.zeroValue179,
  t53 := Tryz.underlying49,
  a53 := Tryz.isAgg49,
  z53 := Tryz.sizeOf49,
  v53 := Tryz.zeroValue49,
  t55 := Tryz.underlying50,
  a55 := Tryz.isAgg50,
  z55 := Tryz.sizeOf50,
  v55 := Tryz.zeroValue50,
  t66 := Tryz.underlying252,
  a66 := Tryz.isAgg252,
  z66 := Tryz.sizeOf252,
  v66 := Tryz.zeroValue252,
  t70 := Tryz.underlying255,
  a70 := Tryz.isAgg255,
  z70 := Tryz.sizeOf255,
  v70 := Tryz.zeroValue255,
  t76 := Tryz.underlying259,
  a76 := Tryz.isAgg259,
  z76 := Tryz.sizeOf259,
  v76 := Tryz.zeroValue259,
  t77 := Tryz.underlying176,
  a77 := Tryz.isAgg176,
  z77 := Tryz.sizeOf176,
  v77 := Tryz.zeroValue176
}
def Tryz.cmp_renPu : Go.Shelf.Ren := ⟨fun | 106 => 99 | 213 => 132 | 265 => 152 | n => n, fun | 3 => 3 | 9 => 9 | n => n, fun | n => n⟩
theorem Tryz.cmpStrPu : Lays.n106 Tryz.prog Tryz.cmp_renPu := {
  mixed := by kernel_rfl,
  f106 := Tryz.func99.trans (congrArg some (by kernel_rfl)),
  f213 := Tryz.func132.trans (congrArg some (by kernel_rfl)),
  f265 := Tryz.func152.trans (congrArg some (by kernel_rfl)),
  t3 := Tryz.underlying3, a3 := Tryz.isAgg3, z3 := Tryz.sizeOf3, v3 := Tryz.zeroValue3,
  t9 := Tryz.underlying9, a9 := Tryz.isAgg9, z9 := Tryz.sizeOf9, v9 := Tryz.zeroValue9 }
end Go.Proofs
namespace Go.Proofs.YtkamlondepceiaaGreat.Pu
open Go.SL
theorem compare_reads (a b : ByteArray) (H : List Ck) : Reads Tryz.prog 99 [.string a, .string b] H (.int .i64 (cmpS a b)) := fun w R s =>
  (Any.strings_Compare (ρ := Tryz.cmp_renPu) Tryz.cmpStrPu a b w).mono fun e w' ⟨he, hw⟩ => ⟨_, H, he, ⟨rfl, rfl⟩, by rw [hw]; exact s, by rw [hw]; exact Kept.refl w⟩
theorem cmpU_tells (x y : Au) : Tells Tryz.prog 101 [.agg (cellsU x).toArray, .agg (cellsU y).toArray] [] fun r H' => r = .int .i64 (cfU x y) := by
 refine Tells.enter Tryz.func101 rfl Tryz.ntmps101 rfl ?_
 intro w0 R
 refine sr_ ?_
 refine WL.h rfl (Hd.boxA rfl fun b2 => ⟨_, rfl, ?_⟩)
 refine WL.h rfl (Hd.boxA rfl fun b3 => ⟨_, rfl, ?_⟩)
 refine a_ rfl rfl ?_
 refine ntsr_ ?_
 refine f_ 0 kr_ rfl rfl ?_
 refine d_ kr_ rfl mem_ (by rfl) rfl ?_
 refine f_ 0 kr_ rfl rfl ?_
 refine d_ kr_ rfl mem_ (by rfl) rfl ?_
 refine WL.rf rfl (Ent.func Tryz.call99 rfl) (compare_reads x.name y.name []) sp_ ?_
 refine a_ rfl rfl ?_
 refine nt_ ?_
 refine WC.ret ?_
 refine DN.ret1 Tryz.results101 rfl ?_
 rfl
theorem accs_tells (p : Nat) (K : List Au) (L : List Py) (C : List Ck) (h : PsAt 198 p K L C) (hl : K.length ≤ 100000000) : Tells Tryz.prog 61 [.pointer (some ⟨p, 0, none⟩)] C fun r C' => ∃ S Cs, ToldK Au.name sLt K S ∧ Own r S.length (S.flatMap cellsU) 71 3 Cs ∧ C' = Cs ++ C := by
 refine Tells.enter Tryz.func61 rfl Tryz.ntmps61 rfl ?_
 intro w0 R
 obtain ⟨b1, b2, C1, C2, rfl, hK, hL⟩ := h
 obtain ⟨es, clock, rfl, hes, hborn, hbn⟩ := hK
 have hsz := hes.size
 simp only [kvs, List.length_map] at hsz
 refine sr_ ?_
 refine a_ rfl rfl ?_
 refine nt_ ?_
 refine WC.seq ?_
 refine sr_ ?_
 refine m_ rfl rfl ?_
 refine WL.y rfl (Yd.eqlNil Tryz.underlying114 rfl rfl) ?_
 refine nt_ ?_
 refine WC.no rfl ?_
 refine WC.skip ?_
 refine ts_ ?_
 refine WC.region ?_
 refine a_ rfl rfl ?_
 refine nt_ ?_
 refine WC.seq ?_
 refine sr_ ?_
 refine m_ rfl rfl ?_
 refine n_ rfl rfl ?_
 refine f_ 0 kr_ rfl rfl ?_
 refine d_ kr_ rfl mem_ (by rfl) rfl ?_
 refine WL.h rfl (Hd.rangeM (KT := 9) (ET := 71) kr_ rfl mem_ fun i => ⟨_, rfl, ?_⟩)
 refine nt_ ?_
 refine WC.block ?_
 refine WC.loopS (fun z : List MapEntry × List Au × (Array Nat) × Value × List Ck => Seen es z.1 z.2.2.1 ∧ z.1.map (fun e : MapEntry => (e.key, e.val)) = z.2.1.map (fun r : Au => (kStr.kv (Au.name r), encU r)) ∧ Own z.2.2.2.1 z.2.1.length (z.2.1.flatMap cellsU) 71 3 z.2.2.2.2) (fun z : List MapEntry × List Au × (Array Nat) × Value × List Ck => [(3, z.2.2.2.1)]) (fun z : List MapEntry × List Au × (Array Nat) × Value × List Ck => ⟨i, .mapIter (some b1) clock z.2.2.1 clock, true⟩ :: (z.2.2.2.2 ++ (row p [.map (some b1), .map (some b2)] 198 :: ([⟨b1, .map es clock, true⟩] ++ C2)))) (fun z : List MapEntry × List Au × (Array Nat) × Value × List Ck => es.size - z.1.length) (⟨[], [], #[], .slice none 0 0, []⟩) (show Seen es [] #[] ∧ [].map (fun e : MapEntry => (e.key, e.val)) = [].map (fun r : Au => (kStr.kv (Au.name r), encU r)) ∧ Own (.slice none 0 0) [].length ([].flatMap cellsU) 71 3 [] from ⟨Seen.start es, rfl, Own.nil _ _⟩) (Sx.put rfl (sx_)) sp_ ?_
 rintro ⟨col, B, seen, v, Cs⟩ hI
 replace hI : Seen es col seen ∧ col.map (fun e : MapEntry => (e.key, e.val)) = B.map (fun r : Au => (kStr.kv (Au.name r), encU r)) ∧ Own v B.length (B.flatMap cellsU) 71 3 Cs := hI
 obtain ⟨hs, hB, ho⟩ := hI
 change WC _ _ _ _ _ _ ([(3, v)] ++ _) (⟨i, .mapIter (some b1) clock seen clock, true⟩ :: (Cs ++ (row p [.map (some b1), .map (some b2)] 198 :: ([⟨b1, .map es clock, true⟩] ++ C2))))
 have hcl := hs.len hbn
 obtain ⟨vo, vc, rfl, _⟩ := ho.form
 have hBl : B.length = col.length := by simpa using (congrArg List.length hB).symm
 refine sr_ ?_
 refine WL.h rfl (Hd.nextM rfl fr_ mem_ hborn (fun e he => ⟨_, rfl, ?_⟩) (fun hu => ⟨_, rfl, ?_⟩))
 ·obtain ⟨hs2, hee⟩ := hs.next he
  obtain ⟨b, hbL, hek, hev⟩ := entsK_one hes hee
  refine x_ rfl rfl rfl ?_
  refine nt_ ?_
  refine WC.seq ?_
  refine WC.yes rfl ?_
  refine WC.skip ?_
  refine DN.then_normal ?_
  refine WC.block ?_
  refine sr_ ?_
  refine WL.h rfl (Hd.entryM rfl List.mem_cons_self mem_ hbn hee ⟨_, rfl, ?_⟩)
  refine x_ rfl rfl rfl ?_
  refine WL.renamed (t := 16) (v := .agg (cellsU b).toArray) rfl (by show e.val = _; rw [hev]; rfl) ?_
  refine WL.h rfl (Hd.alloc (zs := [.string ⟨#[]⟩, .int .i64 0, .int .i64 0]) kr_ fun b5 => ⟨_, rfl, ?_⟩)
  refine WL.s (Hd.storeAll (n := 3) kr_ rfl rfl (by rfl) one_ fr_ (by rfl) ⟨rfl, ?_⟩)
  refine ntr_ ?_
  refine m_ rfl rfl ?_
  refine WL.h rfl (Hd.loadAll (n := 3) kr_ rfl mem_ (by rfl) ⟨_, rfl, ?_⟩)
  refine WL.h rfl (Hd.buildA (e := 71) (sz := 3) (zs := [.string ⟨#[]⟩, .int .i64 0, .int .i64 0]) kr_ kr_ kr_ rfl rfl (by rfl) kr_ fun b19 => ⟨_, rfl, ?_⟩)
  refine WL.h rfl (Hd.appendRow (e := 71) (sz := 3) (bytes := 32) (zs := [.string ⟨#[]⟩, .int .i64 0, .int .i64 0]) kr_ kr_ rfl (by omega) rfl rfl (ho) sp_ mem_ (by rfl) one_ (by simp only [maxLen]; omega) (by omega) fun v2 Ca ho2 => ⟨_, rfl, ?_⟩)
  refine a_ rfl rfl ?_
  refine WL.nil ?_
  refine DN.block_normal ?_
  have hcl2 := hs2.len hbn
  have hcl3 : (col ++ [e]).length = col.length + 1 := by simp
  exact DN.againS (⟨col ++ [e], B ++ [b], seen.push e.born, v2, Ca⟩) (show Seen es (col ++ [e]) (seen.push e.born) ∧ (col ++ [e]).map (fun e : MapEntry => (e.key, e.val)) = (B ++ [b]).map (fun r : Au => (kStr.kv (Au.name r), encU r)) ∧ Own v2 (B ++ [b]).length ((B ++ [b]).flatMap cellsU) 71 3 Ca from ⟨hs2, by rw [List.map_append, List.map_append, hB]; simp [hek, hev], by rw [List.flatMap_append, List.length_append]; simpa [cellsU, cellsP] using ho2⟩) (show es.size - (col ++ [e]).length < es.size - col.length by omega) (Sx.put rfl (sx_)) sp_
 ·refine x_ rfl rfl rfl ?_
  refine nt_ ?_
  refine WC.seq ?_
  refine WC.no rfl ?_
  refine WC.exit ?_
  refine DN.then_exit ?_
  refine DN.then_exit ?_
  refine DN.block_exit ?_
  refine ts_ ?_
  refine WC.region ?_
  refine m_ rfl rfl ?_
  refine WL.c rfl (Ent.func Tryz.call100 rfl) (sort_tells Tryz.sortU 3 (by omega) Tryz.isAgg71 Tryz.sizeOf71 cellsU cellsU_len cellsU_one cfU swoU 101 Tryz.call101 cmpU_tells ho (by omega)) (Sp.p sp_) ?_
  rintro q Cz ⟨rfl, S, hS, hpw, ho2⟩
  refine ntsr_ ?_
  refine m_ rfl rfl ?_
  refine a_ rfl rfl ?_
  refine nt_ ?_
  refine WC.ret ?_
  refine DN.fit (C := Cz ++ (row p [.map (some b1), .map (some b2)] 198 :: ([⟨b1, .map es clock, true⟩] ++ C2))) sp_ ?_
  refine DN.ret1 Tryz.results61 rfl ?_
  exact ⟨S, Cz, ⟨hS.trans (entsK_all injU hes (hs.all hbn hu) hB), hpw.imp fun {x y} hxy => by rw [← hxy]; exact (ltU y x).symm⟩, by rw [hS.length_eq]; rwa [hS.length_eq] at ho2, rfl⟩
end Go.Proofs.YtkamlondepceiaaGreat.Pu

set_option linter.unusedVariables false
set_option linter.unusedSimpArgs false
set_option maxHeartbeats 4000000
namespace Go.Proofs.YtkamlondepceiaaGreat.Pu
open Go.SL
theorem new_tells (v : Value) (gs : List Au) (H : List Ck) (hv : Rs v gs.length (gs.flatMap cellsU) H) (hl : gs.length ≤ 9223372036854775807) : Tells Tryz.prog 64 [v] H fun r H' => (AccL gs ∧ ∃ p C, r = .tuple #[.pointer (some ⟨p, 0, none⟩), .int .i64 0] ∧ PsAt 198 p gs [] C ∧ H' = C ++ H) ∨ (¬ AccL gs ∧ r = .tuple #[.pointer none, .int .i64 2] ∧ H' = H) := by
 refine Tells.enter Tryz.func64 rfl Tryz.ntmps64 rfl ?_
 intro w0 R
 obtain ⟨vo, vc, rfl, hvc⟩ := hv.form
 refine sr_ ?_
 refine a_ rfl rfl ?_
 refine a_ rfl rfl ?_
 refine nt_ ?_
 refine WC.seq ?_
 refine sr_ ?_
 refine m_ rfl rfl ?_
 refine WL.y rfl (Yd.len (e := 71) kr_ rfl) ?_
 refine WL.y rfl (Yd.gtr rfl rfl) ?_
 refine nt_ ?_
 refine WC.ite rfl (fun h11 => ?_) (fun h11 => ?_)
 ·refine sr_ ?_
  refine a_ rfl rfl ?_
  refine a_ rfl rfl ?_
  refine nt_ ?_
  refine WC.ret ?_
  refine DN.then_ret ?_
  first | (have hlt2 : i < gs.length := hlt; refine DN.fit (C := H) sp_ ?_) | refine DN.fit (C := row b15 [.map (some b1), .map (some b2)] 198 :: (C1 ++ (C2 ++ H))) sp_ ?_ | skip
  refine DN.ret2 Tryz.results64 rfl rfl ?_
  first
    | exact .inr ⟨fun hG => by have := hG.1; omega, rfl, rfl⟩
    | exact .inr ⟨fun hG => (hG.2.2 gs[i] (List.getElem_mem hlt)).1 hg35, rfl, rfl⟩
    | exact .inr ⟨fun hG => by have := (hG.2.2 gs[i] (List.getElem_mem hlt)).2; omega, rfl, rfl⟩
    | exact .inr ⟨fun hG => (twice_noU hlt h58) hG.2.1, rfl, rfl⟩
    | exact .inl ⟨⟨by omega, hnd, fun g hm => by obtain ⟨j, hj, rfl⟩ := List.getElem_of_mem hm; exact hgood j hj hj⟩, b15, row b15 [.map (some b1), .map (some b2)] 198 :: (C1 ++ C2), rfl, ⟨b1, b2, C1, C2, rfl, hK, h2⟩, by simp⟩
 ·refine WC.skip ?_
  refine ts_ ?_
  refine WC.region ?_
  refine WL.h rfl (Hd.makeMapG kStr fun b1 C1 h1 => ⟨_, rfl, ?_⟩)
  refine WL.h rfl (Hd.makeMapG kU32 fun b2 C2 h2 => ⟨_, rfl, ?_⟩)
  refine WL.y rfl (Yd.buildL (pl := [(0, 1), (1, 1)]) (zs := [.map none, .map none]) (parts := [(0, .tmp 12), (1, .tmp 13)]) (vs := [(0, _), (1, _)]) (cells := [_, _]) kr_ kr_ rfl rfl) ?_
  refine WL.h rfl (Hd.boxA rfl fun b15 => ⟨_, rfl, ?_⟩)
  refine a_ rfl rfl ?_
  refine nt_ ?_
  refine WC.seq ?_
  refine sr_ ?_
  refine m_ rfl rfl ?_
  refine WL.y rfl (Yd.len (e := 71) kr_ rfl) ?_
  refine m_ rfl rfl ?_
  refine nt_ ?_
  refine WC.block ?_
  refine WC.loopS (fun z : Nat × List Ck => z.1 ≤ gs.length ∧ (∀ (j : Nat) (h : j < gs.length), j < z.1 → accB gs[j]) ∧ ((gs.take z.1).map Au.name).Nodup ∧ MpG kStr b1 (kvs Au.name encU (gs.take z.1)) z.2) (fun z : Nat × List Ck => [(18, .int .i64 (z.1 : Int))]) (fun z : Nat × List Ck => row b15 [.map (some b1), .map (some b2)] 198 :: (z.2 ++ (C2 ++ H))) (fun z : Nat × List Ck => gs.length - z.1) (⟨0, C1⟩) (show 0 ≤ gs.length ∧ (∀ (j : Nat) (h : j < gs.length), j < 0 → accB gs[j]) ∧ ((gs.take 0).map Au.name).Nodup ∧ MpG kStr b1 (kvs Au.name encU (gs.take 0)) C1 from ⟨Nat.zero_le _, fun j h hj => by omega, by simp, by simpa [kvs] using h1⟩) (Sx.put rfl (sx_)) sp_ ?_
  rintro ⟨i, C1⟩ hI
  replace hI : i ≤ gs.length ∧ (∀ (j : Nat) (h : j < gs.length), j < i → accB gs[j]) ∧ ((gs.take i).map Au.name).Nodup ∧ MpG kStr b1 (kvs Au.name encU (gs.take i)) C1 := hI
  obtain ⟨hi, hgood, hnd, hK⟩ := hI
  change WC _ _ _ _ _ _ ([(18, .int .i64 (i : Int))] ++ _) (row b15 [.map (some b1), .map (some b2)] 198 :: (C1 ++ (C2 ++ H)))
  refine sr_ ?_
  refine WL.y rfl (Yd.lss rfl rfl) ?_
  refine nt_ ?_
  refine WC.seq ?_
  refine WC.ite rfl (fun h19 => ?_) (fun h19 => ?_)
  ·have hlt : i < gs.length := by omega
   have htk : gs.take (i + 1) = gs.take i ++ [gs[i]] := List.take_succ_eq_append_getElem hlt
   refine WC.skip ?_
   refine ts_ ?_
   refine WC.block ?_
   refine sr_ ?_
   refine WL.elemA (e := 71) (s := 3) kr_ kr_ kr_ rfl rfl (rfl) (hv.mono gr_) (flat_row cellsU 3 cellsU_len gs i hlt) (by rfl) (by omega) (hlt) rfl rfl ?_
   intro p20
   refine WL.h rfl (Hd.alloc (zs := [.string ⟨#[]⟩, .int .i64 0, .int .i64 0]) kr_ fun b6 => ⟨_, rfl, ?_⟩)
   refine WL.s (Hd.storeAll (n := 3) kr_ rfl rfl (by rfl) one_ fr_ (by rfl) ⟨rfl, ?_⟩)
   refine nt_ ?_
   refine WC.cutK (fun z : Nat => True) (fun z : Nat => [(8, .bool (findK Au.name (gs.take i) gs[i].name).isSome)]) (fun z : Nat => row b6 (cellsU gs[i]) 71 :: (row b15 [.map (some b1), .map (some b2)] 198 :: (C1 ++ (C2 ++ H)))) ?_ ?_
   ·refine WC.draw 13 kr_ rfl ?_
    refine WA.y (i := 0) (NoPanic.then (NoPanic.block (NoPanic.then (NoPanic.then (NoPanic.block (NoPanic.then (NoPanic.body))))))) rfl kr_ kr_ kr_ rfl (Yd.move rfl) ?_
    refine WA.y (i := 1) (NoPanic.then (NoPanic.block (NoPanic.then (NoPanic.then (NoPanic.block (NoPanic.then (NoPanic.body))))))) rfl kr_ kr_ kr_ rfl (Yd.notNil rfl) ?_
    refine WA.y (i := 2) (NoPanic.then (NoPanic.block (NoPanic.then (NoPanic.then (NoPanic.block (NoPanic.then (NoPanic.body))))))) rfl kr_ kr_ kr_ rfl (Yd.fieldAddr (k := 0) kr_ rfl) ?_
    refine WA.y (i := 4) (NoPanic.then (NoPanic.block (NoPanic.then (NoPanic.then (NoPanic.block (NoPanic.then (NoPanic.body))))))) rfl kr_ kr_ kr_ rfl (Yd.fieldAddr (k := 0) kr_ rfl) ?_
    refine WA.reads [(3, 26, _), (5, 28, _)] [3, 5] [([], 10), ([3], 10), ([5], 10)] 7 rfl rfl (List.forall_mem_cons.2 ⟨ReadAt.mk rfl Wt.none rfl (Rd.load1 kr_ rfl mem_ (by rfl)), List.forall_mem_cons.2 ⟨ReadAt.mk rfl Wt.none rfl (Rd.load1 kr_ rfl mem_ (by rfl)), fun _ h => absurd h List.not_mem_nil⟩⟩) (by decide) (by simp) (List.forall_mem_cons.2 ⟨rfl, List.forall_mem_cons.2 ⟨rfl, fun _ h => absurd h List.not_mem_nil⟩⟩) kr_ (List.forall_mem_cons.2 ⟨?_, List.forall_mem_cons.2 ⟨?_, List.forall_mem_cons.2 ⟨?_, fun _ h => absurd h List.not_mem_nil⟩⟩⟩) ?_
    ·change WO _ _ _ _ _ _ 8 _ 10 ([] ++ _) _
     refine WO.h rfl Wt.none rfl (Hd.alloc (zs := [.string ⟨#[]⟩, .int .i64 0, .int .i64 0]) kr_ fun b7 => ⟨_, rfl, ?_⟩)
     refine WA.reads [(3, 26, _), (5, 28, _)] [3, 5] [] 6 rfl rfl (List.forall_mem_cons.2 ⟨ReadAt.mk rfl Wt.none rfl (Rd.load1 kr_ rfl mem_ (by rfl)), List.forall_mem_cons.2 ⟨ReadAt.mk rfl Wt.none rfl (Rd.load1 kr_ rfl mem_ (by rfl)), fun _ h => absurd h List.not_mem_nil⟩⟩) (by decide) (by simp) (List.forall_mem_cons.2 ⟨rfl, List.forall_mem_cons.2 ⟨rfl, fun _ h => absurd h List.not_mem_nil⟩⟩) kr_ (fun _ h => absurd h List.not_mem_nil) ?_
     ·change WA _ _ _ _ _ _ 6 _ ([(26, _), (28, _)] ++ _) _
      refine WA.one (i := 6) kr_ ?_
      refine WO.h rfl Wt.none rfl (Hd.lookupG (k0 := kStr) (KT := 9) (ET := 71) (TD := .string) (n := gs[i].name) (z := .agg #[.string ⟨#[]⟩, .int .i64 0, .int .i64 0]) kr_ Tryz.underlying9 rfl kr_ rfl rfl hK sp_ (lkU2 (gs.take i) gs[i].name) ⟨_, rfl, ?_⟩)
      refine WA.y (i := 7) (NoPanic.then (NoPanic.block (NoPanic.then (NoPanic.then (NoPanic.block (NoPanic.then (NoPanic.body))))))) rfl kr_ kr_ kr_ rfl (Yd.move rfl) ?_
      refine WA.y (i := 8) (NoPanic.then (NoPanic.block (NoPanic.then (NoPanic.then (NoPanic.block (NoPanic.then (NoPanic.body))))))) rfl kr_ kr_ kr_ rfl (Yd.extract rfl rfl) ?_
      refine WA.y (i := 9) (NoPanic.then (NoPanic.block (NoPanic.then (NoPanic.then (NoPanic.block (NoPanic.then (NoPanic.body))))))) rfl kr_ kr_ kr_ rfl (Yd.extract rfl rfl) ?_
      refine WA.one (i := 11) kr_ ?_
      refine WO.s rfl Wt.none (Hd.storeAll (n := 3) kr_ rfl rfl (by rfl) one_ fr_ (by rfl) ⟨rfl, ?_⟩)
      refine WA.y (i := 12) (NoPanic.then (NoPanic.block (NoPanic.then (NoPanic.then (NoPanic.block (NoPanic.then (NoPanic.body))))))) rfl kr_ kr_ kr_ rfl (Yd.assign rfl) ?_
      refine WA.done kr_ ?_
      refine DN.fit (C := row b6 (cellsU gs[i]) 71 :: (row b15 [.map (some b1), .map (some b2)] 198 :: (C1 ++ (C2 ++ H)))) sp_ ?_
      exact DN.reachK (0) (trivial) (Sx.put rfl (sx_)) (Sp.all sp_)
    ·change WO _ _ _ _ _ _ 7 _ 10 ([(26, _)] ++ _) _
     refine WO.h rfl Wt.none rfl (Hd.alloc (zs := [.string ⟨#[]⟩, .int .i64 0, .int .i64 0]) kr_ fun b7 => ⟨_, rfl, ?_⟩)
     refine WA.one (i := 5) kr_ ?_
     refine WO.h rfl Wt.none rfl (Hd.load1 kr_ rfl mem_ (by rfl) ⟨_, rfl, ?_⟩)
     refine WA.one (i := 6) kr_ ?_
     refine WO.h rfl Wt.none rfl (Hd.lookupG (k0 := kStr) (KT := 9) (ET := 71) (TD := .string) (n := gs[i].name) (z := .agg #[.string ⟨#[]⟩, .int .i64 0, .int .i64 0]) kr_ Tryz.underlying9 rfl kr_ rfl rfl hK sp_ (lkU2 (gs.take i) gs[i].name) ⟨_, rfl, ?_⟩)
     refine WA.y (i := 7) (NoPanic.then (NoPanic.block (NoPanic.then (NoPanic.then (NoPanic.block (NoPanic.then (NoPanic.body))))))) rfl kr_ kr_ kr_ rfl (Yd.move rfl) ?_
     refine WA.y (i := 8) (NoPanic.then (NoPanic.block (NoPanic.then (NoPanic.then (NoPanic.block (NoPanic.then (NoPanic.body))))))) rfl kr_ kr_ kr_ rfl (Yd.extract rfl rfl) ?_
     refine WA.y (i := 9) (NoPanic.then (NoPanic.block (NoPanic.then (NoPanic.then (NoPanic.block (NoPanic.then (NoPanic.body))))))) rfl kr_ kr_ kr_ rfl (Yd.extract rfl rfl) ?_
     refine WA.one (i := 11) kr_ ?_
     refine WO.s rfl Wt.none (Hd.storeAll (n := 3) kr_ rfl rfl (by rfl) one_ fr_ (by rfl) ⟨rfl, ?_⟩)
     refine WA.y (i := 12) (NoPanic.then (NoPanic.block (NoPanic.then (NoPanic.then (NoPanic.block (NoPanic.then (NoPanic.body))))))) rfl kr_ kr_ kr_ rfl (Yd.assign rfl) ?_
     refine WA.done kr_ ?_
     refine DN.fit (C := row b6 (cellsU gs[i]) 71 :: (row b15 [.map (some b1), .map (some b2)] 198 :: (C1 ++ (C2 ++ H)))) sp_ ?_
     exact DN.reachK (0) (trivial) (Sx.put rfl (sx_)) (Sp.all sp_)
    ·change WO _ _ _ _ _ _ 7 _ 10 ([(28, _)] ++ _) _
     refine WO.h rfl Wt.none rfl (Hd.alloc (zs := [.string ⟨#[]⟩, .int .i64 0, .int .i64 0]) kr_ fun b7 => ⟨_, rfl, ?_⟩)
     refine WA.one (i := 3) kr_ ?_
     refine WO.h rfl Wt.none rfl (Hd.load1 kr_ rfl mem_ (by rfl) ⟨_, rfl, ?_⟩)
     refine WA.one (i := 6) kr_ ?_
     refine WO.h rfl Wt.none rfl (Hd.lookupG (k0 := kStr) (KT := 9) (ET := 71) (TD := .string) (n := gs[i].name) (z := .agg #[.string ⟨#[]⟩, .int .i64 0, .int .i64 0]) kr_ Tryz.underlying9 rfl kr_ rfl rfl hK sp_ (lkU2 (gs.take i) gs[i].name) ⟨_, rfl, ?_⟩)
     refine WA.y (i := 7) (NoPanic.then (NoPanic.block (NoPanic.then (NoPanic.then (NoPanic.block (NoPanic.then (NoPanic.body))))))) rfl kr_ kr_ kr_ rfl (Yd.move rfl) ?_
     refine WA.y (i := 8) (NoPanic.then (NoPanic.block (NoPanic.then (NoPanic.then (NoPanic.block (NoPanic.then (NoPanic.body))))))) rfl kr_ kr_ kr_ rfl (Yd.extract rfl rfl) ?_
     refine WA.y (i := 9) (NoPanic.then (NoPanic.block (NoPanic.then (NoPanic.then (NoPanic.block (NoPanic.then (NoPanic.body))))))) rfl kr_ kr_ kr_ rfl (Yd.extract rfl rfl) ?_
     refine WA.one (i := 11) kr_ ?_
     refine WO.s rfl Wt.none (Hd.storeAll (n := 3) kr_ rfl rfl (by rfl) one_ fr_ (by rfl) ⟨rfl, ?_⟩)
     refine WA.y (i := 12) (NoPanic.then (NoPanic.block (NoPanic.then (NoPanic.then (NoPanic.block (NoPanic.then (NoPanic.body))))))) rfl kr_ kr_ kr_ rfl (Yd.assign rfl) ?_
     refine WA.done kr_ ?_
     refine DN.fit (C := row b6 (cellsU gs[i]) 71 :: (row b15 [.map (some b1), .map (some b2)] 198 :: (C1 ++ (C2 ++ H)))) sp_ ?_
     exact DN.reachK (0) (trivial) (Sx.put rfl (sx_)) (Sp.all sp_)
    ·change WA _ _ _ _ _ _ 7 _ ([(26, _), (28, _)] ++ _) _
     refine WA.two (i := 6) (j := 10) kr_ ?_ ?_
     ·refine WO.h rfl Wt.none rfl (Hd.lookupG (k0 := kStr) (KT := 9) (ET := 71) (TD := .string) (n := gs[i].name) (z := .agg #[.string ⟨#[]⟩, .int .i64 0, .int .i64 0]) kr_ Tryz.underlying9 rfl kr_ rfl rfl hK sp_ (lkU2 (gs.take i) gs[i].name) ⟨_, rfl, ?_⟩)
      refine WA.y (i := 7) (NoPanic.then (NoPanic.block (NoPanic.then (NoPanic.then (NoPanic.block (NoPanic.then (NoPanic.body))))))) rfl kr_ kr_ kr_ rfl (Yd.move rfl) ?_
      refine WA.y (i := 8) (NoPanic.then (NoPanic.block (NoPanic.then (NoPanic.then (NoPanic.block (NoPanic.then (NoPanic.body))))))) rfl kr_ kr_ kr_ rfl (Yd.extract rfl rfl) ?_
      refine WA.y (i := 9) (NoPanic.then (NoPanic.block (NoPanic.then (NoPanic.then (NoPanic.block (NoPanic.then (NoPanic.body))))))) rfl kr_ kr_ kr_ rfl (Yd.extract rfl rfl) ?_
      refine WA.one (i := 10) kr_ ?_
      refine WO.h rfl Wt.none rfl (Hd.alloc (zs := [.string ⟨#[]⟩, .int .i64 0, .int .i64 0]) kr_ fun b7 => ⟨_, rfl, ?_⟩)
      refine WA.one (i := 11) kr_ ?_
      refine WO.s rfl Wt.none (Hd.storeAll (n := 3) kr_ rfl rfl (by rfl) one_ fr_ (by rfl) ⟨rfl, ?_⟩)
      refine WA.y (i := 12) (NoPanic.then (NoPanic.block (NoPanic.then (NoPanic.then (NoPanic.block (NoPanic.then (NoPanic.body))))))) rfl kr_ kr_ kr_ rfl (Yd.assign rfl) ?_
      refine WA.done kr_ ?_
      refine DN.fit (C := row b6 (cellsU gs[i]) 71 :: (row b15 [.map (some b1), .map (some b2)] 198 :: (C1 ++ (C2 ++ H)))) sp_ ?_
      exact DN.reachK (0) (trivial) (Sx.put rfl (sx_)) (Sp.all sp_)
     ·refine WO.h rfl Wt.none rfl (Hd.alloc (zs := [.string ⟨#[]⟩, .int .i64 0, .int .i64 0]) kr_ fun b7 => ⟨_, rfl, ?_⟩)
      refine WA.one (i := 6) kr_ ?_
      refine WO.h rfl Wt.none rfl (Hd.lookupG (k0 := kStr) (KT := 9) (ET := 71) (TD := .string) (n := gs[i].name) (z := .agg #[.string ⟨#[]⟩, .int .i64 0, .int .i64 0]) kr_ Tryz.underlying9 rfl kr_ rfl rfl hK sp_ (lkU2 (gs.take i) gs[i].name) ⟨_, rfl, ?_⟩)
      refine WA.y (i := 7) (NoPanic.then (NoPanic.block (NoPanic.then (NoPanic.then (NoPanic.block (NoPanic.then (NoPanic.body))))))) rfl kr_ kr_ kr_ rfl (Yd.move rfl) ?_
      refine WA.y (i := 8) (NoPanic.then (NoPanic.block (NoPanic.then (NoPanic.then (NoPanic.block (NoPanic.then (NoPanic.body))))))) rfl kr_ kr_ kr_ rfl (Yd.extract rfl rfl) ?_
      refine WA.y (i := 9) (NoPanic.then (NoPanic.block (NoPanic.then (NoPanic.then (NoPanic.block (NoPanic.then (NoPanic.body))))))) rfl kr_ kr_ kr_ rfl (Yd.extract rfl rfl) ?_
      refine WA.one (i := 11) kr_ ?_
      refine WO.s rfl Wt.none (Hd.storeAll (n := 3) kr_ rfl rfl (by rfl) one_ fr_ (by rfl) ⟨rfl, ?_⟩)
      refine WA.y (i := 12) (NoPanic.then (NoPanic.block (NoPanic.then (NoPanic.then (NoPanic.block (NoPanic.then (NoPanic.body))))))) rfl kr_ kr_ kr_ rfl (Yd.assign rfl) ?_
      refine WA.done kr_ ?_
      refine DN.fit (C := row b6 (cellsU gs[i]) 71 :: (row b15 [.map (some b1), .map (some b2)] 198 :: (C1 ++ (C2 ++ H)))) sp_ ?_
      exact DN.reachK (0) (trivial) (Sx.put rfl (sx_)) (Sp.all sp_)
   ·intro _ _
    refine WC.seq ?_
    refine sr_ ?_
    refine f_ 0 kr_ rfl rfl ?_
    refine d_ kr_ rfl mem_ (by rfl) rfl ?_
    refine WL.y rfl (Yd.eqlS rfl rfl) ?_
    refine m_ rfl rfl ?_
    refine WL.partP (t := 35) rfl (fun hg35 => ?_) (fun hg35 => ?_)
    ·iterate 4 refine gn_ 35 rfl rfl rfl rfl ?_
     refine WL.y rfl (Yd.pickT rfl rfl) ?_
     refine m_ rfl rfl ?_
     iterate 3 refine gn_ 41 rfl rfl rfl rfl ?_
     refine WL.y rfl (Yd.pickT rfl rfl) ?_
     refine m_ rfl rfl ?_
     iterate 3 refine gn_ 46 rfl rfl rfl rfl ?_
     refine WL.y rfl (Yd.pickT rfl rfl) ?_
     refine m_ rfl rfl ?_
     iterate 3 refine gn_ 51 rfl rfl rfl rfl ?_
     refine WL.y rfl (Yd.pickT rfl rfl) ?_
     refine m_ rfl rfl ?_
     refine gn_ 56 rfl rfl rfl rfl ?_
     refine WL.y rfl (Yd.pickT rfl rfl) ?_
     refine nt_ ?_
     refine WC.yes rfl ?_
     refine sr_ ?_
     refine a_ rfl rfl ?_
     refine a_ rfl rfl ?_
     refine nt_ ?_
     refine WC.ret ?_
     refine DN.then_ret ?_
     refine DN.block_ret ?_
     refine DN.then_ret ?_
     refine DN.then_ret ?_
     refine DN.block_ret ?_
     refine DN.then_ret ?_
     first | (have hlt2 : i < gs.length := hlt; refine DN.fit (C := H) sp_ ?_) | refine DN.fit (C := row b15 [.map (some b1), .map (some b2)] 198 :: (C1 ++ (C2 ++ H))) sp_ ?_ | skip
     refine DN.ret2 Tryz.results64 rfl rfl ?_
     first
       | exact .inr ⟨fun hG => by have := hG.1; omega, rfl, rfl⟩
       | exact .inr ⟨fun hG => (hG.2.2 gs[i] (List.getElem_mem hlt)).1 hg35, rfl, rfl⟩
       | exact .inr ⟨fun hG => by have := (hG.2.2 gs[i] (List.getElem_mem hlt)).2; omega, rfl, rfl⟩
       | exact .inr ⟨fun hG => (twice_noU hlt h58) hG.2.1, rfl, rfl⟩
       | exact .inl ⟨⟨by omega, hnd, fun g hm => by obtain ⟨j, hj, rfl⟩ := List.getElem_of_mem hm; exact hgood j hj hj⟩, b15, row b15 [.map (some b1), .map (some b2)] 198 :: (C1 ++ C2), rfl, ⟨b1, b2, C1, C2, rfl, hK, h2⟩, by simp⟩
    ·refine gy_ 35 rfl rfl rfl (Yd.fieldAddr (k := 0) kr_ rfl) ?_
     refine WL.gh (dj := 35) rfl rfl rfl (Hd.load1 kr_ rfl mem_ (by rfl) ⟨_, rfl, ?_⟩)
     refine gy_ 35 rfl rfl rfl (Yd.lenS Tryz.underlying9 rfl) ?_
     refine gy_ 35 rfl rfl rfl (Yd.gtr rfl rfl) ?_
     refine WL.y rfl (Yd.pickF rfl rfl) ?_
     refine m_ rfl rfl ?_
     refine WL.partP (t := 41) rfl (fun hg41 => ?_) (fun hg41 => ?_)
     ·iterate 3 refine gn_ 41 rfl rfl rfl rfl ?_
      refine WL.y rfl (Yd.pickT rfl rfl) ?_
      refine m_ rfl rfl ?_
      iterate 3 refine gn_ 46 rfl rfl rfl rfl ?_
      refine WL.y rfl (Yd.pickT rfl rfl) ?_
      refine m_ rfl rfl ?_
      iterate 3 refine gn_ 51 rfl rfl rfl rfl ?_
      refine WL.y rfl (Yd.pickT rfl rfl) ?_
      refine m_ rfl rfl ?_
      refine gn_ 56 rfl rfl rfl rfl ?_
      refine WL.y rfl (Yd.pickT rfl rfl) ?_
      refine nt_ ?_
      refine WC.yes rfl ?_
      refine sr_ ?_
      refine a_ rfl rfl ?_
      refine a_ rfl rfl ?_
      refine nt_ ?_
      refine WC.ret ?_
      refine DN.then_ret ?_
      refine DN.block_ret ?_
      refine DN.then_ret ?_
      refine DN.then_ret ?_
      refine DN.block_ret ?_
      refine DN.then_ret ?_
      first | (have hlt2 : i < gs.length := hlt; refine DN.fit (C := H) sp_ ?_) | refine DN.fit (C := row b15 [.map (some b1), .map (some b2)] 198 :: (C1 ++ (C2 ++ H))) sp_ ?_ | skip
      refine DN.ret2 Tryz.results64 rfl rfl ?_
      first
        | exact .inr ⟨fun hG => by have := hG.1; omega, rfl, rfl⟩
        | exact .inr ⟨fun hG => (hG.2.2 gs[i] (List.getElem_mem hlt)).1 hg35, rfl, rfl⟩
        | exact .inr ⟨fun hG => by have := (hG.2.2 gs[i] (List.getElem_mem hlt)).2; omega, rfl, rfl⟩
        | exact .inr ⟨fun hG => (twice_noU hlt h58) hG.2.1, rfl, rfl⟩
        | exact .inl ⟨⟨by omega, hnd, fun g hm => by obtain ⟨j, hj, rfl⟩ := List.getElem_of_mem hm; exact hgood j hj hj⟩, b15, row b15 [.map (some b1), .map (some b2)] 198 :: (C1 ++ C2), rfl, ⟨b1, b2, C1, C2, rfl, hK, h2⟩, by simp⟩
     ·refine gy_ 41 rfl rfl rfl (Yd.fieldAddr (k := 1) kr_ rfl) ?_
      refine WL.gh (dj := 41) rfl rfl rfl (Hd.load1 kr_ rfl mem_ (by rfl) ⟨_, rfl, ?_⟩)
      refine gy_ 41 rfl rfl rfl (Yd.lss rfl rfl) ?_
      refine WL.y rfl (Yd.pickF rfl rfl) ?_
      refine m_ rfl rfl ?_
      refine WL.partP (t := 46) rfl (fun hg46 => ?_) (fun hg46 => ?_)
      ·iterate 3 refine gn_ 46 rfl rfl rfl rfl ?_
       refine WL.y rfl (Yd.pickT rfl rfl) ?_
       refine m_ rfl rfl ?_
       iterate 3 refine gn_ 51 rfl rfl rfl rfl ?_
       refine WL.y rfl (Yd.pickT rfl rfl) ?_
       refine m_ rfl rfl ?_
       refine gn_ 56 rfl rfl rfl rfl ?_
       refine WL.y rfl (Yd.pickT rfl rfl) ?_
       refine nt_ ?_
       refine WC.yes rfl ?_
       refine sr_ ?_
       refine a_ rfl rfl ?_
       refine a_ rfl rfl ?_
       refine nt_ ?_
       refine WC.ret ?_
       refine DN.then_ret ?_
       refine DN.block_ret ?_
       refine DN.then_ret ?_
       refine DN.then_ret ?_
       refine DN.block_ret ?_
       refine DN.then_ret ?_
       first | (have hlt2 : i < gs.length := hlt; refine DN.fit (C := H) sp_ ?_) | refine DN.fit (C := row b15 [.map (some b1), .map (some b2)] 198 :: (C1 ++ (C2 ++ H))) sp_ ?_ | skip
       refine DN.ret2 Tryz.results64 rfl rfl ?_
       first
         | exact .inr ⟨fun hG => by have := hG.1; omega, rfl, rfl⟩
         | exact .inr ⟨fun hG => (hG.2.2 gs[i] (List.getElem_mem hlt)).1 hg35, rfl, rfl⟩
         | exact .inr ⟨fun hG => by have := (hG.2.2 gs[i] (List.getElem_mem hlt)).2; omega, rfl, rfl⟩
         | exact .inr ⟨fun hG => (twice_noU hlt h58) hG.2.1, rfl, rfl⟩
         | exact .inl ⟨⟨by omega, hnd, fun g hm => by obtain ⟨j, hj, rfl⟩ := List.getElem_of_mem hm; exact hgood j hj hj⟩, b15, row b15 [.map (some b1), .map (some b2)] 198 :: (C1 ++ C2), rfl, ⟨b1, b2, C1, C2, rfl, hK, h2⟩, by simp⟩
      ·refine gy_ 46 rfl rfl rfl (Yd.fieldAddr (k := 1) kr_ rfl) ?_
       refine WL.gh (dj := 46) rfl rfl rfl (Hd.load1 kr_ rfl mem_ (by rfl) ⟨_, rfl, ?_⟩)
       refine gy_ 46 rfl rfl rfl (Yd.gtr rfl rfl) ?_
       refine WL.y rfl (Yd.pickF rfl rfl) ?_
       refine m_ rfl rfl ?_
       refine WL.partP (t := 51) rfl (fun hg51 => ?_) (fun hg51 => ?_)
       ·iterate 3 refine gn_ 51 rfl rfl rfl rfl ?_
        refine WL.y rfl (Yd.pickT rfl rfl) ?_
        refine m_ rfl rfl ?_
        refine gn_ 56 rfl rfl rfl rfl ?_
        refine WL.y rfl (Yd.pickT rfl rfl) ?_
        refine nt_ ?_
        refine WC.yes rfl ?_
        refine sr_ ?_
        refine a_ rfl rfl ?_
        refine a_ rfl rfl ?_
        refine nt_ ?_
        refine WC.ret ?_
        refine DN.then_ret ?_
        refine DN.block_ret ?_
        refine DN.then_ret ?_
        refine DN.then_ret ?_
        refine DN.block_ret ?_
        refine DN.then_ret ?_
        first | (have hlt2 : i < gs.length := hlt; refine DN.fit (C := H) sp_ ?_) | refine DN.fit (C := row b15 [.map (some b1), .map (some b2)] 198 :: (C1 ++ (C2 ++ H))) sp_ ?_ | skip
        refine DN.ret2 Tryz.results64 rfl rfl ?_
        first
          | exact .inr ⟨fun hG => by have := hG.1; omega, rfl, rfl⟩
          | exact .inr ⟨fun hG => (hG.2.2 gs[i] (List.getElem_mem hlt)).1 hg35, rfl, rfl⟩
          | exact .inr ⟨fun hG => by have := (hG.2.2 gs[i] (List.getElem_mem hlt)).2; omega, rfl, rfl⟩
          | exact .inr ⟨fun hG => (twice_noU hlt h58) hG.2.1, rfl, rfl⟩
          | exact .inl ⟨⟨by omega, hnd, fun g hm => by obtain ⟨j, hj, rfl⟩ := List.getElem_of_mem hm; exact hgood j hj hj⟩, b15, row b15 [.map (some b1), .map (some b2)] 198 :: (C1 ++ C2), rfl, ⟨b1, b2, C1, C2, rfl, hK, h2⟩, by simp⟩
       ·refine gy_ 51 rfl rfl rfl (Yd.fieldAddr (k := 2) kr_ rfl) ?_
        refine WL.gh (dj := 51) rfl rfl rfl (Hd.load1 kr_ rfl mem_ (by rfl) ⟨_, rfl, ?_⟩)
        refine gy_ 51 rfl rfl rfl (Yd.neq rfl rfl) ?_
        refine WL.y rfl (Yd.pickF rfl rfl) ?_
        refine m_ rfl rfl ?_
        refine WL.partP (t := 56) rfl (fun hg56 => ?_) (fun hg56 => ?_)
        ·refine gn_ 56 rfl rfl rfl rfl ?_
         refine WL.y rfl (Yd.pickT rfl rfl) ?_
         refine nt_ ?_
         refine WC.yes rfl ?_
         refine sr_ ?_
         refine a_ rfl rfl ?_
         refine a_ rfl rfl ?_
         refine nt_ ?_
         refine WC.ret ?_
         refine DN.then_ret ?_
         refine DN.block_ret ?_
         refine DN.then_ret ?_
         refine DN.then_ret ?_
         refine DN.block_ret ?_
         refine DN.then_ret ?_
         first | (have hlt2 : i < gs.length := hlt; refine DN.fit (C := H) sp_ ?_) | refine DN.fit (C := row b15 [.map (some b1), .map (some b2)] 198 :: (C1 ++ (C2 ++ H))) sp_ ?_ | skip
         refine DN.ret2 Tryz.results64 rfl rfl ?_
         first
           | exact .inr ⟨fun hG => by have := hG.1; omega, rfl, rfl⟩
           | exact .inr ⟨fun hG => (hG.2.2 gs[i] (List.getElem_mem hlt)).1 hg35, rfl, rfl⟩
           | exact .inr ⟨fun hG => by have := (hG.2.2 gs[i] (List.getElem_mem hlt)).2; omega, rfl, rfl⟩
           | exact .inr ⟨fun hG => (twice_noU hlt h58) hG.2.1, rfl, rfl⟩
           | exact .inl ⟨⟨by omega, hnd, fun g hm => by obtain ⟨j, hj, rfl⟩ := List.getElem_of_mem hm; exact hgood j hj hj⟩, b15, row b15 [.map (some b1), .map (some b2)] 198 :: (C1 ++ C2), rfl, ⟨b1, b2, C1, C2, rfl, hK, h2⟩, by simp⟩
        ·refine gy_ 56 rfl rfl rfl (Yd.move rfl) ?_
         refine WL.y rfl (Yd.pickF rfl rfl) ?_
         refine nt_ ?_
         refine WC.cond rfl (fun h58 => ?_) (fun h58 => ?_)
         ·refine sr_ ?_
          refine a_ rfl rfl ?_
          refine a_ rfl rfl ?_
          refine nt_ ?_
          refine WC.ret ?_
          refine DN.then_ret ?_
          refine DN.block_ret ?_
          refine DN.then_ret ?_
          refine DN.then_ret ?_
          refine DN.block_ret ?_
          refine DN.then_ret ?_
          first | (have hlt2 : i < gs.length := hlt; refine DN.fit (C := H) sp_ ?_) | refine DN.fit (C := row b15 [.map (some b1), .map (some b2)] 198 :: (C1 ++ (C2 ++ H))) sp_ ?_ | skip
          refine DN.ret2 Tryz.results64 rfl rfl ?_
          first
            | exact .inr ⟨fun hG => by have := hG.1; omega, rfl, rfl⟩
            | exact .inr ⟨fun hG => (hG.2.2 gs[i] (List.getElem_mem hlt)).1 hg35, rfl, rfl⟩
            | exact .inr ⟨fun hG => by have := (hG.2.2 gs[i] (List.getElem_mem hlt)).2; omega, rfl, rfl⟩
            | exact .inr ⟨fun hG => (twice_noU hlt h58) hG.2.1, rfl, rfl⟩
            | exact .inl ⟨⟨by omega, hnd, fun g hm => by obtain ⟨j, hj, rfl⟩ := List.getElem_of_mem hm; exact hgood j hj hj⟩, b15, row b15 [.map (some b1), .map (some b2)] 198 :: (C1 ++ C2), rfl, ⟨b1, b2, C1, C2, rfl, hK, h2⟩, by simp⟩
         ·have hgi : accB gs[i] := ⟨hg35, by omega, by omega, by omega, by omega⟩
          have hnone : findK Au.name (gs.take i) gs[i].name = none := by simpa using h58
          have hndi := once_moreU hnd hnone
          refine WC.skip ?_
          refine DN.then_normal ?_
          refine WC.draw 8 kr_ rfl ?_
          refine WA.y (i := 0) (NoPanic.block (NoPanic.then (NoPanic.then (NoPanic.block (NoPanic.then (NoPanic.body)))))) rfl kr_ kr_ kr_ rfl (Yd.move rfl) ?_
          refine WA.y (i := 1) (NoPanic.block (NoPanic.then (NoPanic.then (NoPanic.block (NoPanic.then (NoPanic.body)))))) rfl kr_ kr_ kr_ rfl (Yd.notNil rfl) ?_
          refine WA.y (i := 2) (NoPanic.block (NoPanic.then (NoPanic.then (NoPanic.block (NoPanic.then (NoPanic.body)))))) rfl kr_ kr_ kr_ rfl (Yd.fieldAddr (k := 0) kr_ rfl) ?_
          refine WA.y (i := 4) (NoPanic.block (NoPanic.then (NoPanic.then (NoPanic.block (NoPanic.then (NoPanic.body)))))) rfl kr_ kr_ kr_ rfl (Yd.fieldAddr (k := 0) kr_ rfl) ?_
          refine WA.reads [(3, 62, _), (5, 64, _), (6, 65, _)] [3, 5, 6] [] 1 rfl rfl (List.forall_mem_cons.2 ⟨ReadAt.mk rfl Wt.none rfl (Rd.load1 kr_ rfl mem_ (by rfl)), List.forall_mem_cons.2 ⟨ReadAt.mk rfl Wt.none rfl (Rd.load1 kr_ rfl mem_ (by rfl)), List.forall_mem_cons.2 ⟨ReadAt.mk rfl Wt.none rfl (Rd.loadAll (n := 3) kr_ rfl mem_ (by rfl)), fun _ h => absurd h List.not_mem_nil⟩⟩⟩) (by decide) (by simp) (List.forall_mem_cons.2 ⟨rfl, List.forall_mem_cons.2 ⟨rfl, List.forall_mem_cons.2 ⟨rfl, fun _ h => absurd h List.not_mem_nil⟩⟩⟩) kr_ (fun _ h => absurd h List.not_mem_nil) ?_
          ·change WA _ _ _ _ _ _ 1 _ ([(62, _), (64, _), (65, _)] ++ _) _
           refine WA.one (i := 7) kr_ ?_
           refine WO.s rfl Wt.none (Hd.mapSet (k0 := kStr) (KT := 9) (ET := 71) (TD := .string) (n := gs[i].name) kr_ Tryz.underlying9 rfl rfl rfl rfl hK (by rw [kvs_keys]; exact hnd) sp_ fun C3 h3 => ⟨rfl, ?_⟩)
           refine WA.done kr_ ?_
           refine DN.block_normal ?_
           refine DN.then_normal ?_
           refine WC.region ?_
           refine WL.y rfl (Yd.add rfl rfl (by omega) (by omega)) ?_
           refine m_ rfl rfl ?_
           refine WL.nil ?_
           exact DN.againS (⟨i + 1, C3⟩) (show (i + 1) ≤ gs.length ∧ (∀ (j : Nat) (h : j < gs.length), j < (i + 1) → accB gs[j]) ∧ ((gs.take (i + 1)).map Au.name).Nodup ∧ MpG kStr b1 (kvs Au.name encU (gs.take (i + 1))) C3 from ⟨by omega, fun j h hj => by
             rcases Nat.lt_or_ge j i with h5 | h5
             · exact hgood j h h5
             · obtain rfl : j = i := by omega
               exact hgi, by rw [htk]; exact hndi, by rw [htk, ← putU_new hnone, ← putU (gs.take i) gs[i] gs[i].name rfl]; exact h3⟩) (show gs.length - (i + 1) < gs.length - i by omega) (Sx.put rfl (sx_)) sp_
  ·obtain rfl : i = gs.length := by omega
   rw [List.take_length] at hnd hK
   refine WC.exit ?_
   refine DN.then_exit ?_
   refine DN.then_exit ?_
   refine DN.block_exit ?_
   refine ts_ ?_
   refine WC.region ?_
   refine m_ rfl rfl ?_
   refine a_ rfl rfl ?_
   refine a_ rfl rfl ?_
   refine nt_ ?_
   refine WC.ret ?_
   first | (have hlt2 : i < gs.length := hlt; refine DN.fit (C := H) sp_ ?_) | refine DN.fit (C := row b15 [.map (some b1), .map (some b2)] 198 :: (C1 ++ (C2 ++ H))) sp_ ?_ | skip
   refine DN.ret2 Tryz.results64 rfl rfl ?_
   first
     | exact .inr ⟨fun hG => by have := hG.1; omega, rfl, rfl⟩
     | exact .inr ⟨fun hG => (hG.2.2 gs[i] (List.getElem_mem hlt)).1 hg35, rfl, rfl⟩
     | exact .inr ⟨fun hG => by have := (hG.2.2 gs[i] (List.getElem_mem hlt)).2; omega, rfl, rfl⟩
     | exact .inr ⟨fun hG => (twice_noU hlt h58) hG.2.1, rfl, rfl⟩
     | exact .inl ⟨⟨by omega, hnd, fun g hm => by obtain ⟨j, hj, rfl⟩ := List.getElem_of_mem hm; exact hgood j hj hj⟩, b15, row b15 [.map (some b1), .map (some b2)] 198 :: (C1 ++ C2), rfl, ⟨b1, b2, C1, C2, rfl, hK, h2⟩, by simp⟩
end Go.Proofs.YtkamlondepceiaaGreat.Pu

set_option linter.unusedVariables false
set_option linter.unusedSimpArgs false
set_option maxHeartbeats 4000000
namespace Go.Proofs.YtkamlondepceiaaGreat
open Go.SL
theorem cnew_tells (v1 v2 v3 : Value) (gs : List Gd) (us : List Au) (rs : List Int) (hg : ∀ g ∈ gs, g.gone = 0) (H : List Ck) (h1 : Rs v1 gs.length (gs.flatMap cellsG) H) (h2 : Rs v2 us.length (us.flatMap cellsU) H) (h3 : Rs v3 rs.length (ic rs) H) (hl1 : gs.length ≤ 9223372036854775807) (hl2 : us.length ≤ 9223372036854775807) (hl3 : rs.length ≤ 9223372036854775807) : Tells Tryz.prog 31 [v1, v2, v3] H fun r H' => ((GoodL gs ∧ AccL us ∧ ((rs.findIdx? Do.badRoom).isSome = false ∧ rs.length ≤ 60)) ∧ ∃ p C, r = .tuple #[.pointer (some ⟨p, 0, none⟩), .int .i64 0] ∧ CwAt 189 198 203 3 5 118 111 22 116 p (Cw.new gs us rs) C ∧ H' = C ++ H) ∨ (¬ (GoodL gs ∧ AccL us ∧ ((rs.findIdx? Do.badRoom).isSome = false ∧ rs.length ≤ 60)) ∧ r = .tuple #[.pointer none, .int .i64 2] ∧ H' = H) := by
 refine Tells.enter Tryz.func31 rfl Tryz.ntmps31 rfl ?_
 intro w0 R
 obtain ⟨ao1, ac1, rfl, _⟩ := h1.form
 obtain ⟨ao2, ac2, rfl, _⟩ := h2.form
 obtain ⟨ao3, ac3, rfl, _⟩ := h3.form
 refine sr_ ?_
 refine a_ rfl rfl ?_
 refine a_ rfl rfl ?_
 refine ntsr_ ?_
 refine m_ rfl rfl ?_
 refine WL.c rfl (Ent.func Tryz.call63 rfl) (St.new_tells _ gs hg H h1 hl1) (Sp.p sp_) ?_
 intro x H9 h9
 have h91 : ∃ a e C, x = .tuple #[.pointer a, .int .i64 e] ∧ H9 = C ++ H ∧ ((e = 0 ∧ GoodL gs ∧ ∃ p, a = some ⟨p, 0, none⟩ ∧ StAt 189 p gs [] C) ∨ (e = 2 ∧ ¬ GoodL gs)) := by
   rcases h9 with ⟨hg, p, C, rfl, hC, rfl⟩ | ⟨hn, rfl, rfl⟩
   · exact ⟨_, _, C, rfl, rfl, .inl ⟨rfl, hg, p, rfl, hC⟩⟩
   · exact ⟨none, 2, [], rfl, rfl, .inr ⟨rfl, hn⟩⟩
 clear h9
 obtain ⟨a1, e1, C1, rfl, rfl, h91⟩ := h91
 refine m_ rfl rfl ?_
 refine x_ rfl rfl rfl ?_
 refine x_ rfl rfl rfl ?_
 refine a_ rfl rfl ?_
 refine a_ rfl rfl ?_
 refine nt_ ?_
 refine WC.seq ?_
 refine sr_ ?_
 refine m_ rfl rfl ?_
 refine WL.y rfl (Yd.neq rfl rfl) ?_
 refine nt_ ?_
 refine WC.ite rfl (fun h18 => ?_) (fun h18 => ?_)
 ·obtain ⟨rfl, hn1⟩ := h91.resolve_left (fun q => h18 q.1)
  refine sr_ ?_
  refine m_ rfl rfl ?_
  refine a_ rfl rfl ?_
  refine a_ rfl rfl ?_
  refine nt_ ?_
  refine WC.ret ?_
  refine DN.then_ret ?_
  refine DN.fit (C := H) sp_ ?_
  refine DN.ret2 Tryz.results31 rfl rfl ?_
  exact .inr ⟨fun q => hn1 q.1, rfl, rfl⟩
 ·obtain ⟨rfl, hg1, p1, rfl, hC1⟩ := h91.resolve_right (fun q => h18 (by rw [q.1]; decide))
  refine WC.skip ?_
  refine ts_ ?_
  refine WC.region ?_
  refine m_ rfl rfl ?_
  refine WL.c rfl (Ent.func Tryz.call64 rfl) (Pu.new_tells _ us H h2 hl2) (Sp.p sp_) ?_
  intro x H9 h9
  have h92 : ∃ a e C, x = .tuple #[.pointer a, .int .i64 e] ∧ H9 = C ++ H ∧ ((e = 0 ∧ AccL us ∧ ∃ p, a = some ⟨p, 0, none⟩ ∧ PsAt 198 p us [] C) ∨ (e = 2 ∧ ¬ AccL us)) := by
    rcases h9 with ⟨hg, p, C, rfl, hC, rfl⟩ | ⟨hn, rfl, rfl⟩
    · exact ⟨_, _, C, rfl, rfl, .inl ⟨rfl, hg, p, rfl, hC⟩⟩
    · exact ⟨none, 2, [], rfl, rfl, .inr ⟨rfl, hn⟩⟩
  clear h9
  obtain ⟨a2, e2, C2, rfl, rfl, h92⟩ := h92
  refine m_ rfl rfl ?_
  refine x_ rfl rfl rfl ?_
  refine x_ rfl rfl rfl ?_
  refine a_ rfl rfl ?_
  refine a_ rfl rfl ?_
  refine nt_ ?_
  refine WC.seq ?_
  refine sr_ ?_
  refine m_ rfl rfl ?_
  refine WL.y rfl (Yd.neq rfl rfl) ?_
  refine nt_ ?_
  refine WC.ite rfl (fun h26 => ?_) (fun h26 => ?_)
  ·obtain ⟨rfl, hn2⟩ := h92.resolve_left (fun q => h26 q.1)
   refine sr_ ?_
   refine m_ rfl rfl ?_
   refine a_ rfl rfl ?_
   refine a_ rfl rfl ?_
   refine nt_ ?_
   refine WC.ret ?_
   refine DN.then_ret ?_
   refine DN.fit (C := H) sp_ ?_
   refine DN.ret2 Tryz.results31 rfl rfl ?_
   exact .inr ⟨fun q => hn2 q.2.1, rfl, rfl⟩
  ·obtain ⟨rfl, hg2, p2, rfl, hC2⟩ := h92.resolve_right (fun q => h26 (by rw [q.1]; decide))
   refine WC.skip ?_
   refine ts_ ?_
   refine WC.region ?_
   refine m_ rfl rfl ?_
   refine WL.c rfl (Ent.func Tryz.call65 rfl) (Do.new_tells _ rs H h3 hl3) (Sp.p sp_) ?_
   intro x H9 h9
   obtain ⟨a3, e3, C3, rfl, rfl, h93⟩ : ∃ a e C, x = .tuple #[.pointer a, .int .i64 e] ∧ H9 = C ++ H ∧ ((e = 0 ∧ ((rs.findIdx? Do.badRoom).isSome = false ∧ rs.length ≤ 60) ∧ ∃ p, a = some ⟨p, 0, none⟩ ∧ DockAt 203 3 p rs [] C) ∨ (e = 2 ∧ ¬ ((rs.findIdx? Do.badRoom).isSome = false ∧ rs.length ≤ 60))) := by
     by_cases hg3 : ((rs.findIdx? Do.badRoom).isSome = false ∧ rs.length ≤ 60)
     · rw [if_pos hg3] at h9
       obtain ⟨p, C, rfl, hC, rfl⟩ := h9
       exact ⟨_, _, C, rfl, rfl, .inl ⟨rfl, hg3, p, rfl, hC⟩⟩
     · rw [if_neg hg3] at h9
       obtain ⟨rfl, rfl⟩ := h9
       exact ⟨none, 2, [], rfl, rfl, .inr ⟨rfl, hg3⟩⟩
   clear h9
   refine m_ rfl rfl ?_
   refine x_ rfl rfl rfl ?_
   refine x_ rfl rfl rfl ?_
   refine a_ rfl rfl ?_
   refine a_ rfl rfl ?_
   refine nt_ ?_
   refine WC.seq ?_
   refine sr_ ?_
   refine m_ rfl rfl ?_
   refine WL.y rfl (Yd.neq rfl rfl) ?_
   refine nt_ ?_
   refine WC.ite rfl (fun h34 => ?_) (fun h34 => ?_)
   ·obtain ⟨rfl, hn3⟩ := h93.resolve_left (fun q => h34 q.1)
    refine sr_ ?_
    refine m_ rfl rfl ?_
    refine a_ rfl rfl ?_
    refine a_ rfl rfl ?_
    refine nt_ ?_
    refine WC.ret ?_
    refine DN.then_ret ?_
    refine DN.fit (C := H) sp_ ?_
    refine DN.ret2 Tryz.results31 rfl rfl ?_
    exact .inr ⟨fun q => hn3 q.2.2, rfl, rfl⟩
   ·obtain ⟨rfl, hg3, p3, rfl, hC3⟩ := h93.resolve_right (fun q => h34 (by rw [q.1]; decide))
    refine WC.skip ?_
    refine ts_ ?_
    refine WC.region ?_
    iterate 3 refine m_ rfl rfl ?_
    refine WL.y rfl (Yd.build (pl := [(0, 1), (1, 1), (2, 1), (3, 2), (5, 1), (6, 1)]) (zs := [.pointer none, .pointer none, .pointer none, .int .u32 0, .slice none 0 0, .slice none 0 0, .slice none 0 0]) (parts := [(0, .tmp 36), (1, .tmp 37), (2, .tmp 38)]) (vs := [(0, .pointer (some ⟨p3, 0, none⟩)), (1, .pointer (some ⟨p1, 0, none⟩)), (2, .pointer (some ⟨p2, 0, none⟩))]) (cells := [.pointer (some ⟨p3, 0, none⟩), .pointer (some ⟨p1, 0, none⟩), .pointer (some ⟨p2, 0, none⟩), .int .u32 0, .slice none 0 0, .slice none 0 0, .slice none 0 0]) kr_ kr_ rfl rfl) ?_
    refine WL.h rfl (Hd.box rfl fun p => ⟨_, rfl, ?_⟩)
    refine a_ rfl rfl ?_
    refine a_ rfl rfl ?_
    refine nt_ ?_
    refine WC.ret ?_
    refine DN.fit (C := (row p [.pointer (some ⟨p3, 0, none⟩), .pointer (some ⟨p1, 0, none⟩), .pointer (some ⟨p2, 0, none⟩), .int .u32 0, .slice none 0 0, .slice none 0 0, .slice none 0 0] 116 :: (C1 ++ (C2 ++ (C3 ++ ([] ++ ([] ++ ([] ++ []))))))) ++ H) sp_ ?_
    refine DN.ret2 Tryz.results31 rfl rfl ?_
    exact .inl ⟨⟨hg1, hg2, hg3⟩, p, _, rfl, ⟨p3, p1, p2, _, _, _, C1, C2, C3, [], [], [], [], [], rfl, hC1, hC2, hC3, FAt.nil _ _, Own.nil _ _, Own.nil _ _, .nil⟩, rfl⟩
theorem cepoch_reads (p : Nat) (s : Cw) (C : List Ck) (h : CwAt 189 198 203 3 5 118 111 22 116 p s C) : Reads Tryz.prog 24 [.pointer (some ⟨p, 0, none⟩)] C (.int .u32 s.e.toNat) := by
 refine Tells.enter Tryz.func24 rfl Tryz.ntmps24 rfl ?_
 intro w0 R
 obtain ⟨pd, ps, pp, vL, vE, vN, CS, CP, CD, CF, CE, cn, CN, DO, rfl, hS, hP, hD, hF, hE, hN, hO⟩ := h
 obtain ⟨lo, lc, rfl⟩ := hF.form
 obtain ⟨eo, ec, rfl, hec⟩ := hE.form
 obtain ⟨no, nc, rfl, hnc⟩ := hN.form
 refine sr_ ?_
 refine WL.y rfl (Yd.assign (v := .int .u32 ((0#32).toNat : Int)) rfl) ?_
 refine nt_ ?_
 refine WC.seq ?_
 refine sr_ ?_
 refine m_ rfl rfl ?_
 refine WL.y rfl (Yd.eqlNil Tryz.underlying40 rfl rfl) ?_
 refine WL.renamed (t := 4) (v := .bool false) rfl (congrArg Value.bool (rfl)) ?_
 refine nt_ ?_
 refine WC.no rfl ?_
 refine WC.skip ?_
 refine ts_ ?_
 refine WC.region ?_
 refine m_ rfl rfl ?_
 refine n_ rfl rfl ?_
 refine f_ 3 kr_ rfl rfl ?_
 refine f_ 0 kr_ rfl rfl ?_
 refine d_ kr_ rfl mem_ (by rfl) rfl ?_
 refine a_ rfl rfl ?_
 refine nt_ ?_
 refine WC.ret ?_
 refine DN.ret1 Tryz.results24 rfl ?_
 exact ⟨rfl, rfl⟩
theorem cgoods_tells (p : Nat) (s : Cw) (C : List Ck) (h : CwAt 189 198 203 3 5 118 111 22 116 p s C) (hl : s.K.length ≤ 100000000) : Tells Tryz.prog 25 [.pointer (some ⟨p, 0, none⟩)] C fun r C' => ∃ S Cs, ToldK Gd.name sLt s.K S ∧ Own r S.length (S.flatMap cellsG) 73 2 Cs ∧ C' = Cs ++ C := by
 refine Tells.enter Tryz.func25 rfl Tryz.ntmps25 rfl ?_
 intro w0 R
 obtain ⟨pd, ps, pp, vL, vE, vN, CS, CP, CD, CF, CE, cn, CN, DO, rfl, hS, hP, hD, hF, hE, hN, hO⟩ := h
 obtain ⟨lo, lc, rfl⟩ := hF.form
 obtain ⟨eo, ec, rfl, hec⟩ := hE.form
 obtain ⟨no, nc, rfl, hnc⟩ := hN.form
 refine sr_ ?_
 refine a_ rfl rfl ?_
 refine nt_ ?_
 refine WC.seq ?_
 refine sr_ ?_
 refine m_ rfl rfl ?_
 refine WL.y rfl (Yd.eqlNil Tryz.underlying40 rfl rfl) ?_
 refine WL.renamed (t := 4) (v := .bool false) rfl (congrArg Value.bool (rfl)) ?_
 refine nt_ ?_
 refine WC.no rfl ?_
 refine WC.skip ?_
 refine ts_ ?_
 refine WC.region ?_
 refine m_ rfl rfl ?_
 refine n_ rfl rfl ?_
 refine f_ 1 kr_ rfl rfl ?_
 refine d_ kr_ rfl mem_ (by rfl) rfl ?_
 refine WL.c rfl (Ent.func Tryz.call60 rfl) (St.goods_tells ps s.K s.L CS hS hl) (Sp.p sp_) ?_
 rintro x H9 ⟨S, Cs, hT, ho, rfl⟩
 refine a_ rfl rfl ?_
 refine nt_ ?_
 refine WC.ret ?_
 refine DN.fit (C := Cs ++ (row p [.pointer (some ⟨pd, 0, none⟩), .pointer (some ⟨ps, 0, none⟩), .pointer (some ⟨pp, 0, none⟩), .int .u32 s.e.toNat, .slice lo s.ks.length lc, .slice eo s.ef.length ec, .slice no s.no.length nc] 116 :: (CS ++ (CP ++ (CD ++ (CF ++ (CE ++ (CN ++ DO)))))))) sp_ ?_
 refine DN.ret1 Tryz.results25 rfl ?_
 exact ⟨S, Cs, hT, ho, rfl⟩
theorem caccs_tells (p : Nat) (s : Cw) (C : List Ck) (h : CwAt 189 198 203 3 5 118 111 22 116 p s C) (hl : s.U.length ≤ 100000000) : Tells Tryz.prog 26 [.pointer (some ⟨p, 0, none⟩)] C fun r C' => ∃ S Cs, ToldK Au.name sLt s.U S ∧ Own r S.length (S.flatMap cellsU) 71 3 Cs ∧ C' = Cs ++ C := by
 refine Tells.enter Tryz.func26 rfl Tryz.ntmps26 rfl ?_
 intro w0 R
 obtain ⟨pd, ps, pp, vL, vE, vN, CS, CP, CD, CF, CE, cn, CN, DO, rfl, hS, hP, hD, hF, hE, hN, hO⟩ := h
 obtain ⟨lo, lc, rfl⟩ := hF.form
 obtain ⟨eo, ec, rfl, hec⟩ := hE.form
 obtain ⟨no, nc, rfl, hnc⟩ := hN.form
 refine sr_ ?_
 refine a_ rfl rfl ?_
 refine nt_ ?_
 refine WC.seq ?_
 refine sr_ ?_
 refine m_ rfl rfl ?_
 refine WL.y rfl (Yd.eqlNil Tryz.underlying40 rfl rfl) ?_
 refine WL.renamed (t := 4) (v := .bool false) rfl (congrArg Value.bool (rfl)) ?_
 refine nt_ ?_
 refine WC.no rfl ?_
 refine WC.skip ?_
 refine ts_ ?_
 refine WC.region ?_
 refine m_ rfl rfl ?_
 refine n_ rfl rfl ?_
 refine f_ 2 kr_ rfl rfl ?_
 refine d_ kr_ rfl mem_ (by rfl) rfl ?_
 refine WL.c rfl (Ent.func Tryz.call61 rfl) (Pu.accs_tells pp s.U s.Y CP hP hl) (Sp.p sp_) ?_
 rintro x H9 ⟨S, Cs, hT, ho, rfl⟩
 refine a_ rfl rfl ?_
 refine nt_ ?_
 refine WC.ret ?_
 refine DN.fit (C := Cs ++ (row p [.pointer (some ⟨pd, 0, none⟩), .pointer (some ⟨ps, 0, none⟩), .pointer (some ⟨pp, 0, none⟩), .int .u32 s.e.toNat, .slice lo s.ks.length lc, .slice eo s.ef.length ec, .slice no s.no.length nc] 116 :: (CS ++ (CP ++ (CD ++ (CF ++ (CE ++ (CN ++ DO)))))))) sp_ ?_
 refine DN.ret1 Tryz.results26 rfl ?_
 exact ⟨S, Cs, hT, ho, rfl⟩
end Go.Proofs.YtkamlondepceiaaGreat

set_option linter.unusedVariables false
set_option linter.unusedSimpArgs false
set_option maxHeartbeats 4000000
namespace Go.Proofs.YtkamlondepceiaaGreat
open Go.SL
theorem efs_len (l : List Ef) : (l.flatMap efc).length = 3 * l.length := by
  induction l with
  | nil => rfl
  | cons x l ih => rw [List.flatMap_cons, List.length_append, ih, efc_len, List.length_cons]; omega
theorem efs_one (l : List Ef) : ∀ v ∈ l.flatMap efc, v.oneCell' = true := by
  intro v hv
  obtain ⟨x, _, h⟩ := List.mem_flatMap.1 hv
  exact efc_one x v h
theorem clonee_tells (v : Value) (rs : List Ef) (H : List Ck) (hv : Rs v rs.length (rs.flatMap efc) H) (hl : rs.length ≤ 1000000) : Tells Tryz.prog 54 [v] H fun r H' => ∃ C, Own r rs.length (rs.flatMap efc) 111 3 C ∧ H' = C ++ H := by
 refine Tells.enter Tryz.func54 rfl Tryz.ntmps54 rfl ?_
 intro w0 R
 obtain ⟨vo, vc, rfl, hvc⟩ := hv.form
 have hnil : vo = none → rs = [] := by
   rintro rfl
   rcases hv with ⟨_, _, e, h0, _⟩ | ⟨b, o, cap, cs, T, fr, ex, e, _⟩
   · exact List.eq_nil_of_length_eq_zero h0
   · cases e
 refine sr_ ?_
 refine a_ rfl rfl ?_
 refine nt_ ?_
 refine WC.seq ?_
 refine sr_ ?_
 refine m_ rfl rfl ?_
 refine WL.y rfl (Yd.eqlNilS Tryz.underlying56 rfl rfl) ?_
 refine nt_ ?_
 refine WC.cond rfl (fun h4 => ?_) (fun h4 => ?_)
 ·refine sr_ ?_
  refine a_ rfl rfl ?_
  refine nt_ ?_
  refine WC.ret ?_
  refine DN.then_ret ?_
  refine DN.ret1 Tryz.results54 rfl ?_
  have e0 : rs = [] := hnil (by simpa using h4)
  subst e0
  exact ⟨[], Own.nil _ _, rfl⟩
 ·refine WC.skip ?_
  refine ts_ ?_
  refine WC.region ?_
  refine WL.h rfl (Hd.buildSlice (e := 111) (sz := 3) (zs := [.int .u32 0, .int .i64 0, .bool false]) (parts := []) (vs := []) (cells := []) kr_ kr_ kr_ rfl kr_ kr_ fun rb => ⟨_, rfl, ?_⟩)
  refine m_ rfl rfl ?_
  refine WL.h rfl (Hd.append (e := 111) (sz := 3) (bytes := 24) (zs := [.int .u32 0, .int .i64 0, .bool false]) (n := 0) (xs := []) (C := [row rb [] 111]) (D := H) (m := rs.length) (news := rs.flatMap efc) kr_ kr_ rfl (by omega) rfl rfl (.inr ⟨rb, 0, [], rfl, Nat.le_refl _, by simp only [maxLen]; omega, rfl, rfl, rfl⟩) (hv.mono fun y hy => by simp [hy]) (by rw [efs_len]; omega) (efs_one _) (by simp only [maxLen]; omega) (by omega) (List.Perm.refl _) fun v2 C2 h2 _ => ⟨_, rfl, ?_⟩)
  refine a_ rfl rfl ?_
  refine nt_ ?_
  refine WC.ret ?_
  refine DN.ret1 Tryz.results54 rfl ?_
  exact ⟨C2, by simpa using h2, rfl⟩
theorem ceffs_tells (p : Nat) (s : Cw) (C : List Ck) (h : CwAt 189 198 203 3 5 118 111 22 116 p s C) (hl : s.ef.length ≤ 1000000) : Tells Tryz.prog 21 [.pointer (some ⟨p, 0, none⟩)] C fun r C' => ∃ D, Own r s.ef.length (s.ef.flatMap efc) 111 3 D ∧ C' = D ++ C := by
 refine Tells.enter Tryz.func21 rfl Tryz.ntmps21 rfl ?_
 intro w0 R
 obtain ⟨pd, ps, pp, vL, vE, vN, CS, CP, CD, CF, CE, cn, CN, DO, rfl, hS, hP, hD, hF, hE, hN, hO⟩ := h
 obtain ⟨lo, lc, rfl⟩ := hF.form
 obtain ⟨eo, ec, rfl, hec⟩ := hE.form
 obtain ⟨no, nc, rfl, hnc⟩ := hN.form
 refine sr_ ?_
 refine a_ rfl rfl ?_
 refine nt_ ?_
 refine WC.seq ?_
 refine sr_ ?_
 refine m_ rfl rfl ?_
 refine WL.y rfl (Yd.eqlNil Tryz.underlying40 rfl rfl) ?_
 refine WL.renamed (t := 4) (v := .bool false) rfl (congrArg Value.bool (rfl)) ?_
 refine nt_ ?_
 refine WC.no rfl ?_
 refine WC.skip ?_
 refine ts_ ?_
 refine WC.region ?_
 refine m_ rfl rfl ?_
 refine n_ rfl rfl ?_
 refine f_ 5 kr_ rfl rfl ?_
 refine d_ kr_ rfl mem_ (by rfl) rfl ?_
 refine WL.c rfl (Ent.func Tryz.call54 rfl) (clonee_tells _ s.ef CE hE.rs hl) (Sp.p sp_) ?_
 rintro x H9 ⟨D, ho, rfl⟩
 refine a_ rfl rfl ?_
 refine nt_ ?_
 refine WC.ret ?_
 refine DN.fit (C := D ++ (row p [.pointer (some ⟨pd, 0, none⟩), .pointer (some ⟨ps, 0, none⟩), .pointer (some ⟨pp, 0, none⟩), .int .u32 s.e.toNat, .slice lo s.ks.length lc, .slice eo s.ef.length ec, .slice no s.no.length nc] 116 :: (CS ++ (CP ++ (CD ++ (CF ++ (CE ++ (CN ++ DO)))))))) sp_ ?_
 refine DN.ret1 Tryz.results21 rfl ?_
 exact ⟨D, ho, rfl⟩
end Go.Proofs.YtkamlondepceiaaGreat

set_option linter.unusedVariables false
set_option linter.unusedSimpArgs false
namespace Go.SL
theorem insAt_mem {ks : List Kp} {i : Nat} {k x : Kp} : x ∈ insAt ks i k ↔ x ∈ ks ∨ x = k := by
  unfold insAt
  rw [List.mem_append, List.mem_cons]
  constructor
  · rintro (h | h | h)
    · exact .inl (List.mem_of_mem_take h)
    · exact .inr h
    · exact .inl (List.mem_of_mem_drop h)
  · rintro (h | h)
    · rw [← List.take_append_drop i ks] at h
      rcases List.mem_append.1 h with h | h
      · exact .inl h
      · exact .inr (.inr h)
    · exact .inr (.inl h)
theorem insAt_chk {ks : List Kp} {k : Kp} (h : chk ks) (hl : ks.length < 200) (hr : rightP k) (hn : getK ks k.num = none) : chk (insAt ks (pos ks k.num) k) := by
  refine ⟨by rw [insAt_len _ (pos_le _ _)]; omega, fun x hx => ?_, ?_⟩
  · rcases insAt_mem.1 hx with hx | rfl
    · exact h.2.1 x hx
    · exact hr
  · unfold insAt
    have hA : (ks.take (pos ks k.num)).Pairwise fun a b => a.num < b.num := h.2.2.sublist (List.take_sublist _ _)
    have hB : (ks.drop (pos ks k.num)).Pairwise fun a b => a.num < b.num := h.2.2.sublist (List.drop_sublist _ _)
    have lo : ∀ x ∈ ks.take (pos ks k.num), x.num < k.num := fun x hx => by
      obtain ⟨t, ht, rfl⟩ := List.mem_take_iff_getElem.1 hx
      exact pos_below (by omega) (by omega)
    have hi : ∀ x ∈ ks.drop (pos ks k.num), k.num < x.num := fun x hx => by
      obtain ⟨t, ht, rfl⟩ := List.mem_drop_iff_getElem.1 hx
      have hp := pos_above (n := k.num) (ks := ks) (t := pos ks k.num) (by omega) rfl
      have hne : ks[pos ks k.num].num ≠ k.num := getK_none hn _ (List.getElem_mem _)
      rcases Nat.eq_zero_or_pos t with rfl | h0
      · simp only [Nat.add_zero]; omega
      · have := chk_lt h (i := pos ks k.num) (j := pos ks k.num + t) (by omega) (by omega)
        omega
    refine List.pairwise_append.2 ⟨hA, List.pairwise_cons.2 ⟨hi, hB⟩, fun x hx y hy => ?_⟩
    rcases List.mem_cons.1 hy with rfl | hy
    · exact lo x hx
    · have := lo x hx; have := hi y hy; omega
variable {g0 : List Gd} {u0 : List Au} {r0 : List Int} {s : Cw} {n : Nt}
structure CSub (g0 : List Gd) (u0 : List Au) (r0 : List Int) (s t : Cw) : Prop where
  st : SInv g0 t.K t.L
  pu : PInv u0 t.U t.Y
  dk : DInv r0 t.rs t.B
  no : t.no.length ≤ s.no.length + 1
  small : ∀ x ∈ t.no, x.length ≤ 33
theorem CInv.sub (h : CInv g0 u0 r0 s) : CSub g0 u0 r0 s s := ⟨h.st, h.pu, h.dk, Nat.le_succ _, h.small⟩
theorem undo_sub (h : CInv g0 u0 r0 s) (o : BitVec 32) (w : Wk) (hw : w.name.length ≤ 32) : CSub g0 u0 r0 s (undoS s o w) := by
  unfold undoS
  split
  · exact ⟨h.st.leave o false, h.pu, h.dk, Nat.le_succ _, h.small⟩
  · split
    · exact h.sub
    · split
      · exact ⟨h.st, h.pu.turn o 1 3 0 (-1) (.inr (.inl ⟨rfl, rfl, rfl, rfl⟩)), h.dk, Nat.le_succ _, h.small⟩
      · split
        · exact ⟨h.st, h.pu.turn o 2 3 1 0 (.inr (.inr ⟨rfl, rfl, rfl, rfl⟩)), h.dk, Nat.le_succ _, h.small⟩
        · split
          · exact ⟨h.st, h.pu, h.dk.cancel o, Nat.le_succ _, h.small⟩
          · refine ⟨h.st, h.pu, h.dk, by simp, fun x hx => ?_⟩
            rcases List.mem_append.1 hx with hx | hx
            · exact h.small x hx
            · rw [List.mem_singleton.1 hx, List.length_cons]; omega
theorem work_sub (h : CInv g0 u0 r0 s) (o : BitVec 32) (w : Wk) (hw : w.name.length ≤ 32) : CSub g0 u0 r0 s (workS s o w) := by
  unfold workS
  split
  · exact ⟨h.st.hold o _ _, h.pu, h.dk, Nat.le_succ _, h.small⟩
  · split
    · exact ⟨h.st.leave o true, h.pu, h.dk, Nat.le_succ _, h.small⟩
    · split
      · exact ⟨h.st, h.pu.auth o _ _, h.dk, Nat.le_succ _, h.small⟩
      · split
        · exact ⟨h.st, h.pu.turn o 1 2 (-1) (-1) (.inl ⟨rfl, rfl, rfl, rfl⟩), h.dk, Nat.le_succ _, h.small⟩
        · split
          · exact ⟨h.st, h.pu, h.dk.book o _ _, Nat.le_succ _, h.small⟩
          · refine ⟨h.st, h.pu, h.dk, by simp, fun x hx => ?_⟩
            rcases List.mem_append.1 hx with hx | hx
            · exact h.small x hx
            · rw [List.mem_singleton.1 hx]; omega
theorem do_sub (h : CInv g0 u0 r0 s) (n : Nt) : CSub g0 u0 r0 s (doS s n) := by
  unfold doS
  split
  · exact h.sub
  · split
    · exact undo_sub h _ _ (decW_name _)
    · exact work_sub h _ _ (decW_name _)
theorem did_sub (h : CInv g0 u0 r0 s) (n : Nt) (act : Int) : CSub g0 u0 r0 s (didS s n act) ∧ (didS s n act).ef.length ≤ s.ef.length + 1 := by
  have h9 : (doS s n).ef = s.ef := do_fence.2.2
  unfold didS
  split
  · exact ⟨h.sub, Nat.le_succ _⟩
  · split
    · have d := do_sub h n
      split
      · exact ⟨⟨d.st, d.pu, d.dk, d.no, d.small⟩, by show ((doS s n).ef ++ [_]).length ≤ _; rw [h9]; simp⟩
      · exact ⟨d, by rw [h9]; exact Nat.le_succ _⟩
    · exact ⟨h.sub, Nat.le_succ _⟩
theorem undo_code (o : BitVec 32) (w : Wk) : undoV s o w = 1 ∨ undoV s o w = 2 := by
  have hv : ∀ b, vd b = 1 ∨ vd b = 2 := fun b => by cases b <;> simp [vd]
  have hp : ∀ b, vdP b = 1 ∨ vdP b = 2 := fun b => by cases b <;> simp [vdP]
  have hc : ∀ b, resC b = 1 ∨ resC b = 2 := fun b => by cases b <;> simp [resC]
  unfold undoV
  split
  · exact hv _
  · split
    · exact .inr rfl
    · split
      · exact hp _
      · split
        · exact hp _
        · split
          · exact hc _
          · exact .inl rfl
theorem work_code (o : BitVec 32) (w : Wk) : workV s o w = 1 ∨ workV s o w = 2 := by
  have hv : ∀ b, vd b = 1 ∨ vd b = 2 := fun b => by cases b <;> simp [vd]
  have hp : ∀ b, vdP b = 1 ∨ vdP b = 2 := fun b => by cases b <;> simp [vdP]
  have hc : ∀ b, (resOf b).2 = 1 ∨ (resOf b).2 = 2 := fun b => by cases b <;> simp [resOf]
  unfold workV
  split
  · exact hv _
  · split
    · exact hv _
    · split
      · exact hp _
      · split
        · exact hp _
        · split
          · exact hc _
          · exact .inl rfl
theorem do_code (n : Nt) : doV s n = 1 ∨ doV s n = 2 := by
  unfold doV
  split
  · exact .inr rfl
  · split
    · exact undo_code _ _
    · exact work_code _ _
theorem code_of (n : Nt) (act : Int) : codeOf s n act = 1 ∨ codeOf s n act = 2 := by
  unfold codeOf
  split
  · exact .inl rfl
  · split
    · exact do_code n
    · exact .inr rfl
theorem ask_none {e : BitVec 32} {ks : List Kp} (h0 : (askK e ks n).2.2 = 0) (h2 : ¬ (askK e ks n).1 = 2) : getK ks (numb n.order n.step n.undo) = none := by
  have hg := askK_ok h0
  cases hk : getK ks (numb n.order n.step n.undo) with
  | none => rfl
  | some k =>
    exfalso
    unfold askK at h0 h2
    rw [if_neg hg.1, if_neg hg.2, hk] at h0 h2
    dsimp only at h0 h2
    by_cases ha : k.asked = n.data
    · rw [if_pos ha] at h2; exact h2 rfl
    · rw [if_neg ha] at h0; exact absurd h0 (by decide)
theorem ask_right {e : BitVec 32} {ks : List Kp} (h0 : (askK e ks n).2.2 = 0) {code : Int} {reply : List (BitVec 8)} (hc : code = 1 ∨ code = 2) (hr : reply.length ≤ 255) : rightP (stepK n code reply) := by
  have hg := askK_ok h0
  have h9 : noteBad n = false := by
    cases e9 : noteBad n
    · rfl
    · exact absurd (.inr (.inr (.inl e9))) hg.1
  have h8 := noteBad_step h9
  have h7 : n.order ≠ 0#32 := fun q => hg.1 (.inr (.inr (.inr (.inr q))))
  refine ⟨?_, h8.1, h8.2.1, h8.2.2, hr, hc⟩
  show 0 < n.order.toNat
  rcases Nat.eq_zero_or_pos n.order.toNat with q | q
  · exact absurd (BitVec.eq_of_toNat_eq q) h7
  · exact q
theorem serve_kept (h0 : (askK s.e s.ks n).2.2 = 0) (h2 : ¬ (askK s.e s.ks n).1 = 2) (hf : ¬ 200 ≤ s.ks.length) :
    keepK s.e s.ks n (codeOf s n (askK s.e s.ks n).1) (replyOf s n (askK s.e s.ks n).1) = (n.epoch, insAt s.ks (pos s.ks (numb n.order n.step n.undo)) (stepK n (codeOf s n (askK s.e s.ks n).1) (replyOf s n (askK s.e s.ks n).1)), 0) := by
  have hr := ask_right h0 (code_of (s := s) n (askK s.e s.ks n).1) (reply := replyOf s n (askK s.e s.ks n).1) (by have := reply_len (s := s) (n := n) (act := (askK s.e s.ks n).1); omega)
  refine keepK_ok (fun q => q h0) ?_ h2 hf
  rintro (q | ⟨q1, q2⟩ | ⟨q1, q2⟩)
  · exact q hr
  · exact q2 (by show codeOf s n (askK s.e s.ks n).1 = 2; rw [q1]; rfl)
  · exact q2 (by show codeOf s n (askK s.e s.ks n).1 = 1; rw [q1]; rfl)
theorem serve_inv (h : CInv g0 u0 r0 s) (n : Nt) : CInv g0 u0 r0 (serveS s n) := by
  by_cases h0 : (askK s.e s.ks n).2.2 ≠ 0
  · unfold serveS; rw [if_pos h0]; exact h
  · have h00 : (askK s.e s.ks n).2.2 = 0 := Classical.byContradiction h0
    by_cases h2 : (askK s.e s.ks n).1 = 2
    · rw [(serve_again h0 h2).1]
      have hg := (askK_ok h00).2
      have hs : seeK s.e s.ks n.epoch = (n.epoch, s.ks, 0) := by
        unfold seeK; rw [if_neg (not_not_intro h.ck), if_neg hg]
      rw [hs]
      exact ⟨h.st, h.pu, h.dk, h.ck, h.ef, h.no, h.small⟩
    · by_cases hf : 200 ≤ s.ks.length
      · rw [(serve_full h0 h2 hf).1]; exact h
      · rw [(serve_new h0 h2 hf).1]
        obtain ⟨d, hde⟩ := did_sub h n (askK s.e s.ks n).1
        have hdf := did_fence (s := s) (n := n) (act := (askK s.e s.ks n).1)
        have hk := serve_kept h00 h2 hf
        have hr := ask_right h00 (code_of (s := s) n (askK s.e s.ks n).1) (reply := replyOf s n (askK s.e s.ks n).1) (by have := reply_len (s := s) (n := n) (act := (askK s.e s.ks n).1); omega)
        have hc := insAt_chk (k := stepK n (codeOf s n (askK s.e s.ks n).1) (replyOf s n (askK s.e s.ks n).1)) h.ck (by omega) hr (ask_none h00 h2)
        have hl := insAt_len (stepK n (codeOf s n (askK s.e s.ks n).1) (replyOf s n (askK s.e s.ks n).1)) (pos_le s.ks (numb n.order n.step n.undo))
        have hef := h.ef
        have hno := h.no
        have hdn := d.no
        unfold keptC
        rw [hdf.1, hdf.2, hk]
        exact ⟨d.st, d.pu, d.dk, hc, by dsimp only; omega, by dsimp only; omega, d.small⟩
theorem new_inv {gs : List Gd} {us : List Au} {rs : List Int} (h1 : SInv gs gs []) (h2 : PInv us us []) (h3 : DInv rs rs []) : CInv gs us rs (Cw.new gs us rs) :=
  ⟨h1, h2, h3, chk_nil, Nat.zero_le _, Nat.zero_le _, fun _ h => absurd h List.not_mem_nil⟩
end Go.SL

set_option linter.unusedVariables false
set_option linter.unusedSimpArgs false
set_option maxHeartbeats 4000000
namespace Go.Proofs.YtkamlondepceiaaGreat
open Go.SL
def smG : List Gd := [⟨⟨#[97]⟩, 9, 0⟩, ⟨⟨#[98]⟩, 4, 0⟩]
def smU : List Au := [⟨⟨#[97, 110, 110]⟩, 20, 0⟩, ⟨⟨#[98, 111, 98]⟩, 6, 0⟩]
theorem sm_good : GoodL smG := ⟨by decide, by decide, fun g hg => by
  simp only [smG, List.mem_cons, List.not_mem_nil, or_false] at hg
  rcases hg with rfl | rfl <;> (unfold goodB; decide)⟩
theorem sm_acc : AccL smU := ⟨by decide, by decide, fun g hg => by
  simp only [smU, List.mem_cons, List.not_mem_nil, or_false] at hg
  rcases hg with rfl | rfl <;> (unfold accB; decide)⟩
theorem sm_room : ([3, 5] : List Int).findIdx? Do.badRoom = none := by decide
theorem sm_inv : CInv smG smU [3, 5] (Cw.new smG smU [3, 5]) :=
  new_inv (SInv.start (by decide) (by decide) fun g hg => ⟨sm_good.2.2 g hg, (by decide : ∀ g ∈ smG, g.gone = 0) g hg⟩) (PInv.start sm_acc) (DInv.start (roomsOk_of (by decide)) (by decide))
theorem small_tells (H : List Ck) : Tells Tryz.prog 18 [] H fun r H' => ∃ p C, r = .pointer (some ⟨p, 0, none⟩) ∧ CwAt 189 198 203 3 5 118 111 22 116 p (Cw.new smG smU [3, 5]) C ∧ H' = C ++ H := by
 refine Tells.enter Tryz.func18 rfl Tryz.ntmps18 rfl ?_
 intro w0 R
 refine sr_ ?_
 refine a_ rfl rfl ?_
 refine ntsr_ ?_
 refine WL.y rfl (Yd.buildL (pl := [(0, 1), (1, 1)]) (zs := [.string ⟨#[]⟩, .int .i64 0]) (parts := [(0, .const (.string ⟨#[97]⟩)), (1, .const (.int .i64 9))]) (vs := [(0, _), (1, _)]) (cells := [_, _]) kr_ kr_ rfl rfl) ?_
 refine WL.y rfl (Yd.buildL (pl := [(0, 1), (1, 1)]) (zs := [.string ⟨#[]⟩, .int .i64 0]) (parts := [(0, .const (.string ⟨#[98]⟩)), (1, .const (.int .i64 4))]) (vs := [(0, _), (1, _)]) (cells := [_, _]) kr_ kr_ rfl rfl) ?_
 refine WL.h rfl (Hd.buildSlice (e := 73) (sz := 2) (zs := [.string ⟨#[]⟩, .int .i64 0]) (parts := [(0, .tmp 4), (1, .tmp 5)]) (vs := [(0, .agg (cellsG ⟨⟨#[97]⟩, 9, 0⟩).toArray), (1, .agg (cellsG ⟨⟨#[98]⟩, 4, 0⟩).toArray)]) (cells := smG.flatMap cellsG) kr_ kr_ kr_ rfl kr_ kr_ fun b6 => ⟨_, rfl, ?_⟩)
 refine WL.y rfl (Yd.buildL (pl := [(0, 1), (1, 1), (2, 1)]) (zs := [.string ⟨#[]⟩, .int .i64 0, .int .i64 0]) (parts := [(0, .const (.string ⟨#[97, 110, 110]⟩)), (1, .const (.int .i64 20))]) (vs := [(0, _), (1, _)]) (cells := [_, _, .int .i64 0]) kr_ kr_ rfl rfl) ?_
 refine WL.y rfl (Yd.buildL (pl := [(0, 1), (1, 1), (2, 1)]) (zs := [.string ⟨#[]⟩, .int .i64 0, .int .i64 0]) (parts := [(0, .const (.string ⟨#[98, 111, 98]⟩)), (1, .const (.int .i64 6))]) (vs := [(0, _), (1, _)]) (cells := [_, _, .int .i64 0]) kr_ kr_ rfl rfl) ?_
 refine WL.h rfl (Hd.buildSlice (e := 71) (sz := 3) (zs := [.string ⟨#[]⟩, .int .i64 0, .int .i64 0]) (parts := [(0, .tmp 7), (1, .tmp 8)]) (vs := [(0, .agg (cellsU ⟨⟨#[97, 110, 110]⟩, 20, 0⟩).toArray), (1, .agg (cellsU ⟨⟨#[98, 111, 98]⟩, 6, 0⟩).toArray)]) (cells := smU.flatMap cellsU) kr_ kr_ kr_ rfl kr_ kr_ fun b9 => ⟨_, rfl, ?_⟩)
 refine WL.h rfl (Hd.buildSlice (e := 3) (sz := 1) (zs := [.int .i64 0]) (parts := [(0, .const (.int .i64 3)), (1, .const (.int .i64 5))]) (vs := [(0, .int .i64 3), (1, .int .i64 5)]) (cells := ic [3, 5]) kr_ kr_ kr_ rfl kr_ kr_ fun b10 => ⟨_, rfl, ?_⟩)
 refine WL.c rfl (Ent.func Tryz.call31 rfl) (cnew_tells _ _ _ smG smU [3, 5] (by decide) (row b10 (ic [3, 5]) 3 :: (row b9 (smU.flatMap cellsU) 71 :: (row b6 (smG.flatMap cellsG) 73 :: H))) (.inr ⟨b6, 0, 2, smG.flatMap cellsG, 73, (0, 0), true, rfl, Nat.le_refl _, List.mem_cons_of_mem _ (List.mem_cons_of_mem _ List.mem_cons_self), rfl⟩) (.inr ⟨b9, 0, 2, smU.flatMap cellsU, 71, (0, 0), true, rfl, Nat.le_refl _, List.mem_cons_of_mem _ List.mem_cons_self, rfl⟩) (.inr ⟨b10, 0, 2, ic [3, 5], 3, (0, 0), true, rfl, Nat.le_refl _, List.mem_cons_self, rfl⟩) (by decide) (by decide) (by decide)) (Sp.p sp_) ?_
 intro x H9 h9
 obtain ⟨p, C, rfl, hAt, rfl⟩ := (h9.resolve_right fun q => q.1 ⟨sm_good, sm_acc, by rw [sm_room]; rfl, by decide⟩).2
 refine m_ rfl rfl ?_
 refine x_ rfl rfl rfl ?_
 refine x_ rfl rfl rfl ?_
 refine a_ rfl rfl ?_
 refine a_ rfl rfl ?_
 refine nt_ ?_
 refine WC.seq ?_
 refine sr_ ?_
 refine m_ rfl rfl ?_
 refine WL.y rfl (Yd.neq rfl rfl) ?_
 refine WL.renamed (t := 15) (v := .bool false) rfl (congrArg Value.bool (by decide)) ?_
 refine nt_ ?_
 refine WC.no rfl ?_
 refine WC.skip ?_
 refine ts_ ?_
 refine WC.region ?_
 refine m_ rfl rfl ?_
 refine a_ rfl rfl ?_
 refine nt_ ?_
 refine WC.ret ?_
 refine DN.fit (C := C ++ H) sp_ ?_
 refine DN.ret1 Tryz.results18 rfl ?_
 exact ⟨p, C, rfl, hAt, rfl⟩
end Go.Proofs.YtkamlondepceiaaGreat

namespace Go.SL
def stepW (ep o : BitVec 32) (st : Int) (u : Bool) (d : List (BitVec 8)) : Nt := ⟨7, ep, 0#32, 0#64, 0#64, o, st, u, 0, [], d⟩
structure As where
  ep : BitVec 32
  o : BitVec 32
  st : Int
  u : Bool
  w : Wk
  data : List (BitVec 8)
def asc (a : As) (vn vd : Value) : List Value := [.int .u32 a.ep.toNat, .int .u32 a.o.toNat, .int .i64 a.st, .bool a.u, .int .i64 a.w.what, .int .i64 a.w.n, vn, vd]
def noteA (a : As) : Nt := stepW a.ep a.o a.st a.u (if 0 < a.data.length then a.data else encB a.w)
end Go.SL
