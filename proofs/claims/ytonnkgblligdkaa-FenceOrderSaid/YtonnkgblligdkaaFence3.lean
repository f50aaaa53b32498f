/-
  The walks of the fence: find, copies, See, Find.
-/
import Derived.Test.YtonnkgblligdkaaFence2
set_option linter.unusedVariables false
set_option linter.unusedSimpArgs false
set_option maxHeartbeats 2000000
namespace Go.Proofs.Ytonnkgblligdkaa
open Go.SL


/-- drayage/fence.find -/
theorem find_reads (e : BitVec 32) (v : Value) (ks : List Kp) (H : List Ck) (hv : KV v ks H) (hck : chk ks) (o : BitVec 32) (s : Int) (u : Bool) (h0 : 0 ≤ s) (h : s < 16) : Reads Try.prog 39 [.agg #[.int .u32 e.toNat, v], .agg (keyc o s u).toArray] H (.tuple #[.int .i64 (pos ks (numb o s u) : Nat), .bool (getK ks (numb o s u)).isSome]) := by
  refine Tells.enter Try.func39 rfl Try.ntmps39 rfl ?_
  intro w0 R
  refine WC.seq ?_
  refine WC.region ?_
  refine WL.h rfl (Hd.boxA rfl fun b2 => ⟨_, rfl, ?_⟩)
  refine WL.h rfl (Hd.boxA rfl fun b3 => ⟨_, rfl, ?_⟩)
  refine WL.y rfl (Yd.assign rfl) ?_
  refine WL.y rfl (Yd.assign rfl) ?_
  refine WL.nil ?_
  refine DN.then_normal ?_
  refine WC.seq ?_
  refine WC.draw 9 kr_ rfl ?_
  refine WA.quiet 9 0 rfl rfl kr_ kr_ kr_ rfl ?_
  refine WQ.y rfl (Yd.fieldAddr (k := 1) kr_ rfl) ?_
  refine WQ.rd rfl Wt.none (Rd.load1 kr_ rfl mem_ (by rfl)) ?_
  refine WQ.rd rfl Wt.none (Rd.loadAll (n := 3) kr_ rfl mem_ (by rfl)) ?_
  refine WQ.rf rfl Wt.none (Ent.func Try.call48 rfl) (number_reads o s u h0 h _) Sp.sn ?_
  refine WQ.rf rfl Wt.none (Ent.func Try.call62 rfl) (bsf_reads v ks _ (hv.mono gr_) hck (numb o s u)) Sp.sn ?_
  refine WQ.y rfl (Yd.extract rfl rfl) ?_
  refine WQ.y rfl (Yd.extract rfl rfl) ?_
  refine WQ.y rfl (Yd.assign rfl) ?_
  refine WQ.y rfl (Yd.assign rfl) ?_
  refine WQ.nil ?_
  refine WA.done kr_ ?_
  refine DN.then_normal ?_
  refine WC.ret ?_
  refine DN.fit (C := H) sp_ ?_
  refine DN.ret2 Try.results39 rfl rfl ?_
  exact ⟨rfl, rfl⟩

/-- drayage/fence.own -/
theorem own_tells (k : Kp) (va vr : Value) (H : List Ck) (hva : Bs va k.asked H) (hvr : Bs vr k.reply H) (hla : k.asked.length ≤ 1000000) (hlr : k.reply.length ≤ 1000000) : Tells Try.prog 43 [.agg (kc k va vr).toArray] H fun r H' => ∃ wa wr A B, r = .agg (kc k wa wr).toArray ∧ Ob 5 wa k.asked A ∧ Ob 5 wr k.reply B ∧ H' = A ++ (B ++ H) := by
  refine Tells.enter Try.func43 rfl Try.ntmps43 rfl ?_
  intro w0 R
  obtain ⟨ao, ac, rfl, hac⟩ := hva.form
  obtain ⟨ro, rc, rfl, hrc⟩ := hvr.form
  refine WC.seq ?_
  refine WC.region ?_
  refine WL.h rfl (Hd.boxA rfl fun b1 => ⟨_, rfl, ?_⟩)
  refine WL.h rfl (Hd.alloc (zs := [.int .u32 0, .int .i64 0, .bool false, .slice none 0 0, .int .i64 0, .slice none 0 0]) kr_ fun b2 => ⟨_, rfl, ?_⟩)
  refine WL.nil ?_
  refine DN.then_normal ?_
  refine WC.seq ?_
  refine WC.region ?_
  refine WL.h rfl (Hd.buildBytes (e := 5) [] kr_ kr_ kr_ rfl rfl kr_ fun b => ⟨_, rfl, ?_⟩)
  refine WL.y rfl (Yd.fieldAddr (k := 3) kr_ rfl) ?_
  refine WL.h rfl (Hd.load1 kr_ rfl mem_ (by rfl) ⟨_, rfl, ?_⟩)
  refine WL.h rfl (Hd.appendBs (e := 5) (zs := [.int .u8 0]) kr_ kr_ rfl rfl rfl (Ob.block b [] (by simp)) sp_ (hva.mono gr_) (by simp; omega) fun wa A hA => ⟨_, rfl, ?_⟩)
  rw [List.nil_append] at hA
  obtain ⟨o1, c1, rfl, hc1⟩ := hA.form
  refine WL.y rfl (Yd.fieldAddr (k := 3) kr_ rfl) ?_
  refine WL.s (Hd.store1s kr_ rfl rfl (by rfl) fr_ (by rfl) (by first | (simp only [List.set_cons_zero, List.set_cons_succ, Nat.zero_add, Nat.add_zero, Nat.reduceAdd]; rfl) | rfl) ⟨rfl, ?_⟩)
  refine WL.nil ?_
  refine DN.then_normal ?_
  refine WC.seq ?_
  refine WC.region ?_
  refine WL.h rfl (Hd.buildBytes (e := 5) [] kr_ kr_ kr_ rfl rfl kr_ fun b => ⟨_, rfl, ?_⟩)
  refine WL.y rfl (Yd.fieldAddr (k := 5) kr_ rfl) ?_
  refine WL.h rfl (Hd.load1 kr_ rfl mem_ (by rfl) ⟨_, rfl, ?_⟩)
  refine WL.h rfl (Hd.appendBs (e := 5) (zs := [.int .u8 0]) kr_ kr_ rfl rfl rfl (Ob.block b [] (by simp)) sp_ (hvr.mono gr_) (by simp; omega) fun wr B hB => ⟨_, rfl, ?_⟩)
  rw [List.nil_append] at hB
  obtain ⟨o2, c2, rfl, hc2⟩ := hB.form
  refine WL.y rfl (Yd.fieldAddr (k := 5) kr_ rfl) ?_
  refine WL.s (Hd.store1s kr_ rfl rfl (by rfl) fr_ (by rfl) (by first | (simp only [List.set_cons_zero, List.set_cons_succ, Nat.zero_add, Nat.add_zero, Nat.reduceAdd]; rfl) | rfl) ⟨rfl, ?_⟩)
  refine WL.nil ?_
  refine DN.then_normal ?_
  refine WC.seq ?_
  refine WC.region ?_
  refine WL.h rfl (Hd.loadAll (n := 6) kr_ rfl mem_ (by rfl) ⟨_, rfl, ?_⟩)
  refine WL.s (Hd.storeAll (n := 6) kr_ rfl rfl (by rfl) one_ fr_ (by rfl) ⟨rfl, ?_⟩)
  refine WL.nil ?_
  refine DN.then_normal ?_
  refine WC.ret ?_
  refine DN.retCS (s := 6) (A ++ (B ++ H)) Try.results43 kr_ rfl mem_ (by rfl) sp_ ?_
  exact ⟨_, _, A, B, rfl, hA, hB, rfl⟩

/-- drayage/fence.all -/
theorem all_tells (e : BitVec 32) (v : Value) (ks : List Kp) (H : List Ck) (hv : KV v ks H) (hck : chk ks) : Tells Try.prog 41 [.agg #[.int .u32 e.toNat, v]] H fun r H' => ∃ w D, r = .agg #[.int .u32 e.toNat, w] ∧ FAt 5 43 w ks D ∧ H' = D ++ H := by
  refine Tells.enter Try.func41 rfl Try.ntmps41 rfl ?_
  intro w0 R
  obtain ⟨cs, hr, hk⟩ := hv
  obtain ⟨ao, c, rfl, hc⟩ := hr.form
  have h200 := hck.1
  refine WC.seq ?_
  refine WC.region ?_
  refine WL.h rfl (Hd.boxA rfl fun b1 => ⟨_, rfl, ?_⟩)
  refine WL.h rfl (Hd.alloc (zs := [.int .u32 0, .slice none 0 0]) kr_ fun b2 => ⟨_, rfl, ?_⟩)
  refine WL.nil ?_
  refine DN.then_normal ?_
  refine WC.seq ?_
  refine WC.region ?_
  refine WL.y rfl (Yd.assign rfl) ?_
  refine WL.nil ?_
  refine DN.then_normal ?_
  refine WC.seq ?_
  refine WC.seq ?_
  refine WC.region ?_
  refine WL.y rfl (Yd.fieldAddr (k := 1) kr_ rfl) ?_
  refine WL.h rfl (Hd.load1 kr_ rfl mem_ (by rfl) ⟨_, rfl, ?_⟩)
  refine WL.y rfl (Yd.len (e := 43) kr_ rfl) ?_
  refine WL.y rfl (Yd.move rfl) ?_
  refine WL.nil ?_
  refine DN.then_normal ?_
  refine WC.block ?_
  refine WC.loopS (fun z : Nat × Value × List Value × List Ck × List Ck => z.1 ≤ ks.length ∧ Own z.2.1 z.1 z.2.2.1 43 6 z.2.2.2.1 ∧ Kts 5 z.2.2.1 (ks.take z.1) z.2.2.2.2) (fun z : Nat × Value × List Value × List Ck × List Ck => [(9, .int .i64 (z.1 : Int)), (3, z.2.1)]) (fun z : Nat × Value × List Value × List Ck × List Ck => z.2.2.2.1 ++ (z.2.2.2.2 ++ (row b2 [.int .u32 0, .slice none 0 0] 25 :: row b1 [.int .u32 e.toNat, .slice ao ks.length c] 25 :: H))) (fun z : Nat × Value × List Value × List Ck × List Ck => ks.length - z.1) (⟨0, .slice none 0 0, [], [], []⟩) (show 0 ≤ ks.length ∧ Own (.slice none 0 0) 0 [] 43 6 [] ∧ Kts 5 [] (ks.take 0) [] from ⟨Nat.zero_le _, Own.nil _ _, by rw [List.take_zero]; exact .nil⟩) (Sx.put rfl (Sx.put rfl (sx_))) sp_ ?_
  rintro ⟨i, vl, cl, Cl, Dl⟩ hI
  replace hI : i ≤ ks.length ∧ Own vl i cl 43 6 Cl ∧ Kts 5 cl (ks.take i) Dl := hI
  obtain ⟨hi, hOl, hKt⟩ := hI
  change WC _ _ _ _ _ _ ([(9, .int .i64 (i : Int)), (3, vl)] ++ _) (Cl ++ (Dl ++ (row b2 [.int .u32 0, .slice none 0 0] 25 :: row b1 [.int .u32 e.toNat, .slice ao ks.length c] 25 :: H)))
  obtain ⟨lo, lc, rfl, hlc⟩ := hOl.form
  refine WC.seq ?_
  refine WC.region ?_
  refine WL.y rfl (Yd.lss rfl rfl) ?_
  refine WL.nil ?_
  refine DN.then_normal ?_
  refine WC.seq ?_
  refine WC.ite rfl (fun h10 => ?_) (fun h10 => ?_)
  · have hlt : i < ks.length := by omega
    obtain ⟨va, vr, hg, hva, hvr⟩ := hk.at i hlt
    have hrt := chk_right hck hlt
    refine WC.skip ?_
    refine DN.then_normal ?_
    refine WC.seq ?_
    refine WC.block ?_
    refine WC.seq ?_
    refine WC.region ?_
    refine WL.elemA (e := 43) (s := 6) kr_ kr_ kr_ rfl rfl (rfl) (hr.mono gr_) (hg) (by rfl) (by omega) (hlt) rfl rfl ?_
    intro p11
    refine WL.h rfl (Hd.alloc (zs := [.int .u32 0, .int .i64 0, .bool false, .slice none 0 0, .int .i64 0, .slice none 0 0]) kr_ fun b5 => ⟨_, rfl, ?_⟩)
    refine WL.s (Hd.storeAll (n := 6) kr_ rfl rfl (by rfl) (kc_one (IsSl.of hva).one (IsSl.of hvr).one) fr_ (by rfl) ⟨rfl, ?_⟩)
    refine WL.nil ?_
    refine DN.then_normal ?_
    refine WC.region ?_
    refine WL.y rfl (Yd.move rfl) ?_
    refine WL.h rfl (Hd.loadAll (n := 6) kr_ rfl mem_ (by rfl) ⟨_, rfl, ?_⟩)
    refine WL.c rfl (Ent.func Try.call43 rfl) (own_tells ks[i] va vr H hva hvr (by have := hrt.2.2.2.1; omega) (by have := hrt.2.2.2.2.1; omega)) (Sp.p sp_) ?_
    rintro x H1 ⟨wa, wr, A, B, rfl, hA, hB, rfl⟩
    obtain ⟨o1, c1, rfl, hc1⟩ := hA.form
    obtain ⟨o2, c2, rfl, hc2⟩ := hB.form
    refine WL.h rfl (Hd.buildA (e := 43) (sz := 6) (zs := [.int .u32 0, .int .i64 0, .bool false, .slice none 0 0, .int .i64 0, .slice none 0 0]) kr_ kr_ kr_ rfl rfl (by rfl) kr_ fun b16 => ⟨_, rfl, ?_⟩)
    refine WL.h rfl (Hd.appendRow (e := 43) (sz := 6) (bytes := 80) (zs := [.int .u32 0, .int .i64 0, .bool false, .slice none 0 0, .int .i64 0, .slice none 0 0]) kr_ kr_ rfl (by omega) rfl rfl (hOl) sp_ mem_ (by rfl) (kc_one (by rfl) (by rfl)) (by simp only [maxLen]; omega) (by omega) fun v2 C2 h2 => ⟨_, rfl, ?_⟩)
    refine WL.y rfl (Yd.assign rfl) ?_
    refine WL.nil ?_
    refine DN.block_normal ?_
    refine DN.then_normal ?_
    refine WC.region ?_
    refine WL.y rfl (Yd.add rfl rfl (by omega) (by omega)) ?_
    refine WL.y rfl (Yd.move rfl) ?_
    refine WL.nil ?_
    exact DN.againS (⟨i + 1, v2, cl ++ kc ks[i] (.slice o1 ks[i].asked.length c1) (.slice o2 ks[i].reply.length c2), C2, Dl ++ (A ++ B)⟩) (show (i + 1) ≤ ks.length ∧ Own v2 (i + 1) (cl ++ kc ks[i] (.slice o1 ks[i].asked.length c1) (.slice o2 ks[i].reply.length c2)) 43 6 C2 ∧ Kts 5 (cl ++ kc ks[i] (.slice o1 ks[i].asked.length c1) (.slice o2 ks[i].reply.length c2)) (ks.take (i + 1)) (Dl ++ (A ++ B)) from ⟨by omega, h2, by rw [List.take_succ_eq_append_getElem hlt]; exact hKt.append (Kts.one' hA hB)⟩) (show ks.length - (i + 1) < ks.length - i by omega) (Sx.put rfl (Sx.put rfl (sx_))) sp_
  · obtain rfl : i = ks.length := by omega
    rw [List.take_length] at hKt
    refine WC.exit ?_
    refine DN.then_exit ?_
    refine DN.then_exit ?_
    refine DN.block_exit ?_
    refine DN.then_normal ?_
    refine WC.seq ?_
    refine WC.region ?_
    refine WL.y rfl (Yd.move rfl) ?_
    refine WL.y rfl (Yd.fieldAddr (k := 1) kr_ rfl) ?_
    refine WL.s (Hd.store1s kr_ rfl rfl (by rfl) fr_ (by rfl) (by first | (simp only [List.set_cons_zero, List.set_cons_succ, Nat.zero_add, Nat.add_zero, Nat.reduceAdd]; rfl) | rfl) ⟨rfl, ?_⟩)
    refine WL.nil ?_
    refine DN.then_normal ?_
    refine WC.seq ?_
    refine WC.region ?_
    refine WL.h rfl (Hd.loadAll (n := 2) kr_ rfl mem_ (by rfl) ⟨_, rfl, ?_⟩)
    refine WL.s (Hd.storeAll (n := 2) kr_ rfl rfl (by rfl) one_ fr_ (by rfl) ⟨rfl, ?_⟩)
    refine WL.nil ?_
    refine DN.then_normal ?_
    refine WC.ret ?_
    refine DN.retCS (s := 2) (Cl ++ (Dl ++ H)) Try.results41 kr_ rfl mem_ (by rfl) sp_ ?_
    exact ⟨_, Cl ++ Dl, rfl, ⟨cl, Cl, Dl, hOl, hKt, rfl⟩, by rw [List.append_assoc]⟩

/-- drayage/fence.See -/
theorem see_tells (e : BitVec 32) (v : Value) (ks : List Kp) (H : List Ck) (hv : KV v ks H) (hl : ks.length ≤ 9223372036854775807) (x : BitVec 32) : Tells Try.prog 28 [.agg #[.int .u32 e.toNat, v], .int .u32 x.toNat] H fun r H' => ∃ w D, r = .tuple #[.agg #[.int .u32 (seeK e ks x).1.toNat, w], .int .i64 (seeK e ks x).2.2] ∧ FAt 5 43 w (seeK e ks x).2.1 D ∧ H' = D ++ H := by
  refine Tells.enter Try.func28 rfl Try.ntmps28 rfl ?_
  intro w0 R
  obtain ⟨ao, c, rfl, hc⟩ := hv.form
  refine WC.seq ?_
  refine WC.region ?_
  refine WL.h rfl (Hd.boxA rfl fun b2 => ⟨_, rfl, ?_⟩)
  refine WL.h rfl (Hd.alloc (zs := [.int .u32 0, .slice none 0 0]) kr_ fun b4 => ⟨_, rfl, ?_⟩)
  refine WL.y rfl (Yd.assign rfl) ?_
  refine WL.nil ?_
  refine DN.then_normal ?_
  refine WC.seq ?_
  refine WC.block ?_
  refine WC.seq ?_
  refine WC.region ?_
  refine WL.h rfl (Hd.loadAll (n := 2) kr_ rfl mem_ (by rfl) ⟨_, rfl, ?_⟩)
  refine WL.r rfl (Ent.func Try.call30 rfl) (check2_reads e _ ks _ (hv.mono gr_) hl) ?_
  refine WL.y rfl (Yd.neq rfl rfl) ?_
  refine WL.y rfl (Yd.assign rfl) ?_
  refine WL.nil ?_
  refine DN.then_normal ?_
  refine WC.ite rfl (fun h9 => ?_) (fun h9 => ?_)
  · have hn : ¬ chk ks := fun h => by rw [if_pos h] at h9; exact h9 rfl
    refine WC.seq ?_
    refine WC.region ?_
    refine WL.y rfl (Yd.buildL (pl := [(0, 1), (1, 1)]) (zs := [.int .u32 0, .slice none 0 0]) (parts := []) (vs := []) (cells := [.int .u32 0, .slice none 0 0]) kr_ kr_ rfl rfl) ?_
    refine WL.s (Hd.storeAll (n := 2) kr_ rfl rfl (by rfl) one_ fr_ (by rfl) ⟨rfl, ?_⟩)
    refine WL.y rfl (Yd.assign rfl) ?_
    refine WL.nil ?_
    refine DN.then_normal ?_
    refine WC.ret ?_
    refine DN.block_ret ?_
    refine DN.then_ret ?_
    refine DN.retCT (s := 2) H Try.results28 kr_ rfl rfl mem_ (by rfl) sp_ ?_
    rw [show seeK e ks x = (0#32, [], 2) from if_pos hn]
    exact ⟨_, [], rfl, FAt.nil _ _, rfl⟩
  · have hy : chk ks := Classical.byContradiction fun h => by rw [if_neg h] at h9; exact h9 (by decide)
    refine WC.seq ?_
    refine WC.region ?_
    refine WL.y rfl (Yd.move rfl) ?_
    refine WL.y rfl (Yd.fieldAddr (k := 0) kr_ rfl) ?_
    refine WL.h rfl (Hd.load1 kr_ rfl mem_ (by rfl) ⟨_, rfl, ?_⟩)
    refine WL.y rfl (Yd.lss rfl rfl) ?_
    refine WL.y rfl (Yd.assign rfl) ?_
    refine WL.nil ?_
    refine DN.then_normal ?_
    refine WC.ite rfl (fun h11 => ?_) (fun h11 => ?_)
    · refine WC.seq ?_
      refine WC.region ?_
      refine WL.y rfl (Yd.buildL (pl := [(0, 1), (1, 1)]) (zs := [.int .u32 0, .slice none 0 0]) (parts := []) (vs := []) (cells := [.int .u32 0, .slice none 0 0]) kr_ kr_ rfl rfl) ?_
      refine WL.s (Hd.storeAll (n := 2) kr_ rfl rfl (by rfl) one_ fr_ (by rfl) ⟨rfl, ?_⟩)
      refine WL.y rfl (Yd.assign rfl) ?_
      refine WL.nil ?_
      refine DN.then_normal ?_
      refine WC.ret ?_
      refine DN.block_ret ?_
      refine DN.then_ret ?_
      refine DN.retCT (s := 2) H Try.results28 kr_ rfl rfl mem_ (by rfl) sp_ ?_
      rw [show seeK e ks x = (0#32, [], 72) by unfold seeK; rw [if_neg (not_not_intro hy), if_pos (by omega)]]
      exact ⟨_, [], rfl, FAt.nil _ _, rfl⟩
    · refine WC.skip ?_
      refine DN.block_normal ?_
      refine DN.then_normal ?_
      refine WC.seq ?_
      refine WC.region ?_
      refine WL.h rfl (Hd.loadAll (n := 2) kr_ rfl mem_ (by rfl) ⟨_, rfl, ?_⟩)
      refine WL.c rfl (Ent.func Try.call41 rfl) (all_tells e _ ks H hv (by first | assumption | exact Classical.byContradiction fun h => (by rw [if_neg h] at h9; exact h9 (by decide)))) (Sp.p sp_) ?_
      rintro r2 H1 ⟨w, D, rfl, hF, rfl⟩
      obtain ⟨wo, wc, rfl⟩ := hF.form
      refine WL.s (Hd.storeAll (n := 2) kr_ rfl rfl (by rfl) one_ fr_ (by rfl) ⟨rfl, ?_⟩)
      refine WL.nil ?_
      refine DN.then_normal ?_
      refine WC.seq ?_
      refine WC.region ?_
      refine WL.y rfl (Yd.move rfl) ?_
      refine WL.y rfl (Yd.fieldAddr (k := 0) kr_ rfl) ?_
      refine WL.s (Hd.store1s kr_ rfl rfl (by rfl) fr_ (by rfl) (by first | (simp only [List.set_cons_zero, List.set_cons_succ, Nat.zero_add, Nat.add_zero, Nat.reduceAdd]; rfl) | rfl) ⟨rfl, ?_⟩)
      refine WL.nil ?_
      refine DN.then_normal ?_
      refine WC.seq ?_
      refine WC.region ?_
      refine WL.h rfl (Hd.loadAll (n := 2) kr_ rfl mem_ (by rfl) ⟨_, rfl, ?_⟩)
      refine WL.s (Hd.storeAll (n := 2) kr_ rfl rfl (by rfl) one_ fr_ (by rfl) ⟨rfl, ?_⟩)
      refine WL.y rfl (Yd.assign rfl) ?_
      refine WL.nil ?_
      refine DN.then_normal ?_
      refine WC.ret ?_
      refine DN.retCT (s := 2) (D ++ H) Try.results28 kr_ rfl rfl mem_ (by rfl) sp_ ?_
      rw [show seeK e ks x = (x, ks, 0) by unfold seeK; rw [if_neg (not_not_intro hy), if_neg (by omega)]]
      exact ⟨_, D, rfl, hF, rfl⟩

/-- drayage/fence.Find -/
theorem find2_tells (e : BitVec 32) (v : Value) (ks : List Kp) (H : List Ck) (hv : KV v ks H) (hl : ks.length ≤ 9223372036854775807) (o : BitVec 32) (s : Int) (u : Bool) : Tells Try.prog 26 [.agg #[.int .u32 e.toNat, v], .int .u32 o.toNat, .int .i64 s, .bool u] H fun r H' => ∃ wa wr A B, r = .tuple #[.agg (kc ((findB ks o s u).getD Kp.z) wa wr).toArray, .bool (findB ks o s u).isSome] ∧ Ob 5 wa ((findB ks o s u).getD Kp.z).asked A ∧ Ob 5 wr ((findB ks o s u).getD Kp.z).reply B ∧ H' = A ++ (B ++ H) := by
  refine Tells.enter Try.func26 rfl Try.ntmps26 rfl ?_
  intro w0 R
  have hv9 := hv
  obtain ⟨cs, hr, hk⟩ := hv9
  obtain ⟨ao, c, rfl, hc⟩ := hr.form
  refine WC.seq ?_
  refine WC.region ?_
  refine WL.h rfl (Hd.boxA rfl fun b4 => ⟨_, rfl, ?_⟩)
  refine WL.h rfl (Hd.alloc (zs := [.int .u32 0, .int .i64 0, .bool false, .slice none 0 0, .int .i64 0, .slice none 0 0]) kr_ fun b8 => ⟨_, rfl, ?_⟩)
  refine WL.y rfl (Yd.assign rfl) ?_
  refine WL.nil ?_
  refine DN.then_normal ?_
  refine WC.seq ?_
  refine WC.seq ?_
  refine WC.region ?_
  refine WL.h rfl (Hd.loadAll (n := 2) kr_ rfl mem_ (by rfl) ⟨_, rfl, ?_⟩)
  refine WL.r rfl (Ent.func Try.call30 rfl) (check2_reads e _ ks _ (hv.mono gr_) hl) ?_
  refine WL.y rfl (Yd.neq rfl rfl) ?_
  refine WL.y rfl (Yd.move rfl) ?_
  refine WL.partP (t := 15) rfl (fun hg15 => ?_) (fun hg15 => ?_)
  · refine WL.gn (dj := 15) rfl rfl rfl rfl ?_
    refine WL.gn (dj := 15) rfl rfl rfl rfl ?_
    refine WL.y rfl (Yd.pickT rfl rfl) ?_
    refine WL.y rfl (Yd.move rfl) ?_
    refine WL.gn (dj := 19) rfl rfl rfl rfl ?_
    refine WL.gn (dj := 19) rfl rfl rfl rfl ?_
    refine WL.y rfl (Yd.pickT rfl rfl) ?_
    refine WL.nil ?_
    refine DN.then_normal ?_
    refine WC.yes rfl ?_
    refine WC.seq ?_
    refine WC.region ?_
    refine WL.y rfl (Yd.buildL (pl := [(0, 1), (1, 1), (2, 1), (3, 1), (4, 1), (5, 1)]) (zs := [.int .u32 0, .int .i64 0, .bool false, .slice none 0 0, .int .i64 0, .slice none 0 0]) (parts := []) (vs := []) (cells := [.int .u32 0, .int .i64 0, .bool false, .slice none 0 0, .int .i64 0, .slice none 0 0]) kr_ kr_ rfl rfl) ?_
    refine WL.s (Hd.storeAll (n := 6) kr_ rfl rfl (by rfl) one_ fr_ (by rfl) ⟨rfl, ?_⟩)
    refine WL.y rfl (Yd.assign rfl) ?_
    refine WL.nil ?_
    refine DN.then_normal ?_
    refine WC.ret ?_
    refine DN.then_ret ?_
    first | refine DN.retCT (s := 6) (A ++ (B ++ H)) Try.results26 kr_ rfl rfl mem_ (by rfl) sp_ ?_ | refine DN.retCT (s := 6) H Try.results26 kr_ rfl rfl mem_ (by rfl) sp_ ?_
    first
      | (have e9 : findB ks o s u = some ks[pos ks (numb o s u)] := by rw [hfb, hgk]
         rw [e9]
         exact ⟨_, _, A, B, rfl, hA, hB, rfl⟩)
      | (rw [hno]
         exact ⟨_, _, [], [], rfl, Ob.nil _, Ob.nil _, rfl⟩)
      | (have e9 : findB ks o s u = none := findB_no fun ⟨g1, g2, g3⟩ => by
           first
           | (simp only [if_pos g1] at hg15; revert hg15; decide)
           | (simp only [decide_eq_true_eq, decide_eq_false_iff_not] at *; omega)
         rw [e9]
         exact ⟨_, _, [], [], rfl, Ob.nil _, Ob.nil _, rfl⟩)
  · refine WL.gy (dj := 15) rfl rfl rfl (Yd.move rfl) ?_
    refine WL.gy (dj := 15) rfl rfl rfl (Yd.lss rfl rfl) ?_
    refine WL.y rfl (Yd.pickF rfl rfl) ?_
    refine WL.y rfl (Yd.move rfl) ?_
    refine WL.part (t := 19) rfl (fun hg19 => ?_) (fun hg19 => ?_)
    · refine WL.gn (dj := 19) rfl rfl rfl rfl ?_
      refine WL.gn (dj := 19) rfl rfl rfl rfl ?_
      refine WL.y rfl (Yd.pickT rfl rfl) ?_
      refine WL.nil ?_
      refine DN.then_normal ?_
      refine WC.yes rfl ?_
      refine WC.seq ?_
      refine WC.region ?_
      refine WL.y rfl (Yd.buildL (pl := [(0, 1), (1, 1), (2, 1), (3, 1), (4, 1), (5, 1)]) (zs := [.int .u32 0, .int .i64 0, .bool false, .slice none 0 0, .int .i64 0, .slice none 0 0]) (parts := []) (vs := []) (cells := [.int .u32 0, .int .i64 0, .bool false, .slice none 0 0, .int .i64 0, .slice none 0 0]) kr_ kr_ rfl rfl) ?_
      refine WL.s (Hd.storeAll (n := 6) kr_ rfl rfl (by rfl) one_ fr_ (by rfl) ⟨rfl, ?_⟩)
      refine WL.y rfl (Yd.assign rfl) ?_
      refine WL.nil ?_
      refine DN.then_normal ?_
      refine WC.ret ?_
      refine DN.then_ret ?_
      first | refine DN.retCT (s := 6) (A ++ (B ++ H)) Try.results26 kr_ rfl rfl mem_ (by rfl) sp_ ?_ | refine DN.retCT (s := 6) H Try.results26 kr_ rfl rfl mem_ (by rfl) sp_ ?_
      first
        | (have e9 : findB ks o s u = some ks[pos ks (numb o s u)] := by rw [hfb, hgk]
           rw [e9]
           exact ⟨_, _, A, B, rfl, hA, hB, rfl⟩)
        | (rw [hno]
           exact ⟨_, _, [], [], rfl, Ob.nil _, Ob.nil _, rfl⟩)
        | (have e9 : findB ks o s u = none := findB_no fun ⟨g1, g2, g3⟩ => by
             first
             | (simp only [if_pos g1] at hg15; revert hg15; decide)
             | (simp only [decide_eq_true_eq, decide_eq_false_iff_not] at *; omega)
           rw [e9]
           exact ⟨_, _, [], [], rfl, Ob.nil _, Ob.nil _, rfl⟩)
    · refine WL.gy (dj := 19) rfl rfl rfl (Yd.move rfl) ?_
      refine WL.gy (dj := 19) rfl rfl rfl (Yd.geq rfl rfl) ?_
      refine WL.y rfl (Yd.pickF rfl rfl) ?_
      refine WL.nil ?_
      refine DN.then_normal ?_
      refine WC.cond rfl (fun h22 => ?_) (fun h22 => ?_)
      · refine WC.seq ?_
        refine WC.region ?_
        refine WL.y rfl (Yd.buildL (pl := [(0, 1), (1, 1), (2, 1), (3, 1), (4, 1), (5, 1)]) (zs := [.int .u32 0, .int .i64 0, .bool false, .slice none 0 0, .int .i64 0, .slice none 0 0]) (parts := []) (vs := []) (cells := [.int .u32 0, .int .i64 0, .bool false, .slice none 0 0, .int .i64 0, .slice none 0 0]) kr_ kr_ rfl rfl) ?_
        refine WL.s (Hd.storeAll (n := 6) kr_ rfl rfl (by rfl) one_ fr_ (by rfl) ⟨rfl, ?_⟩)
        refine WL.y rfl (Yd.assign rfl) ?_
        refine WL.nil ?_
        refine DN.then_normal ?_
        refine WC.ret ?_
        refine DN.then_ret ?_
        first | refine DN.retCT (s := 6) (A ++ (B ++ H)) Try.results26 kr_ rfl rfl mem_ (by rfl) sp_ ?_ | refine DN.retCT (s := 6) H Try.results26 kr_ rfl rfl mem_ (by rfl) sp_ ?_
        first
          | (have e9 : findB ks o s u = some ks[pos ks (numb o s u)] := by rw [hfb, hgk]
             rw [e9]
             exact ⟨_, _, A, B, rfl, hA, hB, rfl⟩)
          | (rw [hno]
             exact ⟨_, _, [], [], rfl, Ob.nil _, Ob.nil _, rfl⟩)
          | (have e9 : findB ks o s u = none := findB_no fun ⟨g1, g2, g3⟩ => by
               first
               | (simp only [if_pos g1] at hg15; revert hg15; decide)
               | (simp only [decide_eq_true_eq, decide_eq_false_iff_not] at *; omega)
             rw [e9]
             exact ⟨_, _, [], [], rfl, Ob.nil _, Ob.nil _, rfl⟩)
      · refine WC.skip ?_
        refine DN.then_normal ?_
        refine WC.seq ?_
        refine WC.region ?_
        refine WL.h rfl (Hd.loadAll (n := 2) kr_ rfl mem_ (by rfl) ⟨_, rfl, ?_⟩)
        have hok : chk ks ∧ 0 ≤ s ∧ s < 16 := ⟨Classical.byContradiction fun h => (by simp only [if_neg h] at hg15; revert hg15; decide), by simp only [decide_eq_true_eq, decide_eq_false_iff_not] at *; omega, by simp only [decide_eq_true_eq, decide_eq_false_iff_not] at *; omega⟩
        have hfb := findB_ok (o := o) (u := u) hok.1 hok.2.1 hok.2.2
        refine WL.y rfl (Yd.move rfl) ?_
        refine WL.y rfl (Yd.move rfl) ?_
        refine WL.y rfl (Yd.move rfl) ?_
        refine WL.y rfl (Yd.buildL (pl := [(0, 1), (1, 1), (2, 1)]) (zs := [.int .u32 0, .int .i64 0, .bool false]) (parts := [(0, .tmp 26), (1, .tmp 27), (2, .tmp 28)]) (vs := [(0, _), (1, _), (2, _)]) (cells := [_, _, _]) kr_ kr_ rfl rfl) ?_
        refine WL.r rfl (Ent.func Try.call39 rfl) (find_reads e _ ks _ (hv.mono gr_) hok.1 o s u hok.2.1 hok.2.2) ?_
        refine WL.y rfl (Yd.move rfl) ?_
        refine WL.y rfl (Yd.extract rfl rfl) ?_
        refine WL.y rfl (Yd.extract rfl rfl) ?_
        refine WL.y rfl (Yd.assign rfl) ?_
        refine WL.y rfl (Yd.assign rfl) ?_
        refine WL.nil ?_
        refine DN.then_normal ?_
        refine WC.seq ?_
        refine WC.seq ?_
        refine WC.region ?_
        refine WL.y rfl (Yd.move rfl) ?_
        refine WL.y rfl (Yd.notB rfl) ?_
        refine WL.nil ?_
        refine DN.then_normal ?_
        refine WC.cond rfl (fun h34 => ?_) (fun h34 => ?_)
        · have hno : findB ks o s u = none := by
            rw [hfb]
            simpa using h34
          refine WC.seq ?_
          refine WC.region ?_
          refine WL.y rfl (Yd.buildL (pl := [(0, 1), (1, 1), (2, 1), (3, 1), (4, 1), (5, 1)]) (zs := [.int .u32 0, .int .i64 0, .bool false, .slice none 0 0, .int .i64 0, .slice none 0 0]) (parts := []) (vs := []) (cells := [.int .u32 0, .int .i64 0, .bool false, .slice none 0 0, .int .i64 0, .slice none 0 0]) kr_ kr_ rfl rfl) ?_
          refine WL.s (Hd.storeAll (n := 6) kr_ rfl rfl (by rfl) one_ fr_ (by rfl) ⟨rfl, ?_⟩)
          refine WL.y rfl (Yd.assign rfl) ?_
          refine WL.nil ?_
          refine DN.then_normal ?_
          refine WC.ret ?_
          refine DN.then_ret ?_
          first | refine DN.retCT (s := 6) (A ++ (B ++ H)) Try.results26 kr_ rfl rfl mem_ (by rfl) sp_ ?_ | refine DN.retCT (s := 6) H Try.results26 kr_ rfl rfl mem_ (by rfl) sp_ ?_
          first
            | (have e9 : findB ks o s u = some ks[pos ks (numb o s u)] := by rw [hfb, hgk]
               rw [e9]
               exact ⟨_, _, A, B, rfl, hA, hB, rfl⟩)
            | (rw [hno]
               exact ⟨_, _, [], [], rfl, Ob.nil _, Ob.nil _, rfl⟩)
            | (have e9 : findB ks o s u = none := findB_no fun ⟨g1, g2, g3⟩ => by
                 first
                 | (simp only [if_pos g1] at hg15; revert hg15; decide)
                 | (simp only [decide_eq_true_eq, decide_eq_false_iff_not] at *; omega)
               rw [e9]
               exact ⟨_, _, [], [], rfl, Ob.nil _, Ob.nil _, rfl⟩)
        · have hso : (getK ks (numb o s u)).isSome = true := by simpa using h34
          obtain ⟨hlt, hnum, hgk⟩ : ∃ hi : pos ks (numb o s u) < ks.length, ks[pos ks (numb o s u)].num = numb o s u ∧ getK ks (numb o s u) = some ks[pos ks (numb o s u)] := by
            rcases getK_pos hok.1 (n := numb o s u) with ⟨e1, e2⟩ | h9
            · rw [e1] at hso; cases hso
            · exact h9
          refine WC.skip ?_
          refine DN.then_normal ?_
          refine WC.seq ?_
          refine WC.region ?_
          refine WL.y rfl (Yd.fieldAddr (k := 1) kr_ rfl) ?_
          refine WL.h rfl (Hd.load1 kr_ rfl mem_ (by rfl) ⟨_, rfl, ?_⟩)
          refine WL.y rfl (Yd.move rfl) ?_
          obtain ⟨va, vr, hg, hva, hvr⟩ := hk.at (pos ks (numb o s u)) hlt
          have hrt := chk_right hok.1 hlt
          refine WL.elemA (e := 43) (s := 6) kr_ kr_ kr_ rfl rfl (rfl) (hr.mono gr_) (hg) (by rfl) (by omega) (hlt) rfl rfl ?_
          intro p39
          refine WL.c rfl (Ent.func Try.call43 rfl) (own_tells ks[pos ks (numb o s u)] va vr H hva hvr (by have := hrt.2.2.2.1; omega) (by have := hrt.2.2.2.2.1; omega)) (Sp.p sp_) ?_
          rintro x H1 ⟨wa, wr, A, B, rfl, hA, hB, rfl⟩
          obtain ⟨o1, c1, rfl, hc1⟩ := hA.form
          obtain ⟨o2, c2, rfl, hc2⟩ := hB.form
          refine WL.s (Hd.storeAll (n := 6) kr_ rfl rfl (by rfl) one_ fr_ (by rfl) ⟨rfl, ?_⟩)
          refine WL.y rfl (Yd.assign rfl) ?_
          refine WL.nil ?_
          refine DN.then_normal ?_
          refine WC.ret ?_
          first | refine DN.retCT (s := 6) (A ++ (B ++ H)) Try.results26 kr_ rfl rfl mem_ (by rfl) sp_ ?_ | refine DN.retCT (s := 6) H Try.results26 kr_ rfl rfl mem_ (by rfl) sp_ ?_
          first
            | (have e9 : findB ks o s u = some ks[pos ks (numb o s u)] := by rw [hfb, hgk]
               rw [e9]
               exact ⟨_, _, A, B, rfl, hA, hB, rfl⟩)
            | (rw [hno]
               exact ⟨_, _, [], [], rfl, Ob.nil _, Ob.nil _, rfl⟩)
            | (have e9 : findB ks o s u = none := findB_no fun ⟨g1, g2, g3⟩ => by
                 first
                 | (simp only [if_pos g1] at hg15; revert hg15; decide)
                 | (simp only [decide_eq_true_eq, decide_eq_false_iff_not] at *; omega)
               rw [e9]
               exact ⟨_, _, [], [], rfl, Ob.nil _, Ob.nil _, rfl⟩)

end Go.Proofs.Ytonnkgblligdkaa
