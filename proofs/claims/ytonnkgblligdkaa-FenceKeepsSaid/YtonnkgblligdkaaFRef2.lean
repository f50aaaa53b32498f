/-
  The walks of the document's fence (drayageref08): See, Find, Ask.
-/
import Derived.Test.YtonnkgblligdkaaFRef1
set_option linter.unusedVariables false
set_option linter.unusedSimpArgs false
set_option maxHeartbeats 4000000
namespace Go.Proofs.Ytonnkgblligdkaa
open Go.SL


/-- drayage/drayageref08.See -/
theorem rsee_tells (e : BitVec 32) (v : Value) (ks : List Kp) (H : List Ck) (hv : KV v ks H) (hl : ks.length ≤ 1000) (hb : ∀ k ∈ ks, k.asked.length ≤ 1000000 ∧ k.reply.length ≤ 1000000) (x : BitVec 32) : Tells Try.prog 29 [.agg #[.int .u32 e.toNat, v], .int .u32 x.toNat] H fun r H' => ∃ w D, r = .tuple #[.agg #[.int .u32 (seeK e ks x).1.toNat, w], .int .i64 (seeK e ks x).2.2] ∧ FAt 5 43 w (seeK e ks x).2.1 D ∧ H' = D ++ H := by
  refine Tells.enter Try.func29 rfl Try.ntmps29 rfl ?_
  intro w0 R
  obtain ⟨ao, c, rfl, hc⟩ := hv.form
  refine WC.seq ?_
  refine WC.region ?_
  refine WL.h rfl (Hd.boxA rfl fun b2 => ⟨_, rfl, ?_⟩)
  refine WL.h rfl (Hd.alloc (zs := [.int .u32 0, .slice none 0 0]) kr_ fun b4 => ⟨_, rfl, ?_⟩)
  refine WL.y rfl (Yd.assign rfl) ?_
  refine WL.nil ?_
  refine DN.then_normal ?_
  refine WC.seq ?_
  refine WC.region ?_
  refine WL.h rfl (Hd.loadAll (n := 2) kr_ rfl mem_ (by rfl) ⟨_, rfl, ?_⟩)
  refine WL.r rfl (Ent.func Try.call31 rfl) (rfcheck_reads e _ ks _ (hv.mono gr_) (by omega)) ?_
  refine WL.y rfl (Yd.assign rfl) ?_
  refine WL.nil ?_
  refine DN.then_normal ?_
  refine WC.seq ?_
  refine WC.block ?_
  refine WC.seq ?_
  refine WC.region ?_
  refine WL.y rfl (Yd.move rfl) ?_
  refine WL.y rfl (Yd.neq rfl rfl) ?_
  refine WL.y rfl (Yd.assign rfl) ?_
  refine WL.nil ?_
  refine DN.then_normal ?_
  refine WC.ite rfl (fun h9 => ?_) (fun h9 => ?_)
  · have hn : ¬ chk ks := fun h => by rw [if_pos h] at h9; exact h9 rfl
    refine WC.seq ?_
    refine WC.region ?_
    refine WL.y rfl (Yd.buildL (pl := [(0, 1), (1, 1)]) (zs := [.int .u32 0, .slice none 0 0]) (parts := []) (vs := []) (cells := [.int .u32 0, .slice none 0 0]) kr_ kr_ rfl rfl) ?_
    refine WL.s (Hd.storeAll (n := 2) kr_ rfl rfl (by rfl) one_ fr_ (by rfl) ⟨rfl, ?_⟩)
    refine WL.y rfl (Yd.assign rfl) ?_
    refine WL.nil ?_
    refine DN.then_normal ?_
    refine WC.ret ?_
    refine DN.block_ret ?_
    refine DN.then_ret ?_
    refine DN.retCT (s := 2) H Try.results29 kr_ rfl rfl mem_ (by rfl) sp_ ?_
    rw [show seeK e ks x = (0#32, [], 2) from if_pos hn]
    exact ⟨_, [], rfl, FAt.nil _ _, rfl⟩
  · have hy : chk ks := Classical.byContradiction fun h => by rw [if_neg h] at h9; exact h9 (by decide)
    refine WC.seq ?_
    refine WC.region ?_
    refine WL.y rfl (Yd.move rfl) ?_
    refine WL.y rfl (Yd.fieldAddr (k := 0) kr_ rfl) ?_
    refine WL.h rfl (Hd.load1 kr_ rfl mem_ (by rfl) ⟨_, rfl, ?_⟩)
    refine WL.y rfl (Yd.lss rfl rfl) ?_
    refine WL.y rfl (Yd.assign rfl) ?_
    refine WL.nil ?_
    refine DN.then_normal ?_
    refine WC.ite rfl (fun h14 => ?_) (fun h14 => ?_)
    · refine WC.seq ?_
      refine WC.region ?_
      refine WL.y rfl (Yd.buildL (pl := [(0, 1), (1, 1)]) (zs := [.int .u32 0, .slice none 0 0]) (parts := []) (vs := []) (cells := [.int .u32 0, .slice none 0 0]) kr_ kr_ rfl rfl) ?_
      refine WL.s (Hd.storeAll (n := 2) kr_ rfl rfl (by rfl) one_ fr_ (by rfl) ⟨rfl, ?_⟩)
      refine WL.y rfl (Yd.assign rfl) ?_
      refine WL.nil ?_
      refine DN.then_normal ?_
      refine WC.ret ?_
      refine DN.block_ret ?_
      refine DN.then_ret ?_
      refine DN.retCT (s := 2) H Try.results29 kr_ rfl rfl mem_ (by rfl) sp_ ?_
      rw [show seeK e ks x = (0#32, [], 72) by unfold seeK; rw [if_neg (not_not_intro hy), if_pos (by omega)]]
      exact ⟨_, [], rfl, FAt.nil _ _, rfl⟩
    · refine WC.skip ?_
      refine DN.block_normal ?_
      refine DN.then_normal ?_
      refine WC.seq ?_
      refine WC.region ?_
      refine WL.h rfl (Hd.loadAll (n := 2) kr_ rfl mem_ (by rfl) ⟨_, rfl, ?_⟩)
      refine WL.c rfl (Ent.func Try.call13 rfl) (rcopy_tells e _ ks H hv hl hb) (Sp.p sp_) ?_
      rintro r2 H1 ⟨w, D, rfl, hF, rfl⟩
      obtain ⟨wo, wc, rfl⟩ := hF.form
      refine WL.h rfl (Hd.alloc (zs := [.int .u32 0, .slice none 0 0]) kr_ fun b7 => ⟨_, rfl, ?_⟩)
      refine WL.s (Hd.storeAll (n := 2) kr_ rfl rfl (by rfl) one_ fr_ (by rfl) ⟨rfl, ?_⟩)
      refine WL.nil ?_
      refine DN.then_normal ?_
      refine WC.seq ?_
      refine WC.region ?_
      refine WL.y rfl (Yd.move rfl) ?_
      refine WL.y rfl (Yd.fieldAddr (k := 0) kr_ rfl) ?_
      refine WL.s (Hd.store1s kr_ rfl rfl (by rfl) fr_ (by rfl) (by first | (simp only [List.set_cons_zero, List.set_cons_succ, Nat.zero_add, Nat.add_zero, Nat.reduceAdd]; rfl) | rfl) ⟨rfl, ?_⟩)
      refine WL.nil ?_
      refine DN.then_normal ?_
      refine WC.seq ?_
      refine WC.region ?_
      refine WL.h rfl (Hd.loadAll (n := 2) kr_ rfl mem_ (by rfl) ⟨_, rfl, ?_⟩)
      refine WL.s (Hd.storeAll (n := 2) kr_ rfl rfl (by rfl) one_ fr_ (by rfl) ⟨rfl, ?_⟩)
      refine WL.y rfl (Yd.assign rfl) ?_
      refine WL.nil ?_
      refine DN.then_normal ?_
      refine WC.ret ?_
      refine DN.retCT (s := 2) (D ++ H) Try.results29 kr_ rfl rfl mem_ (by rfl) sp_ ?_
      rw [show seeK e ks x = (x, ks, 0) by unfold seeK; rw [if_neg (not_not_intro hy), if_neg (by omega)]]
      exact ⟨_, D, rfl, hF, rfl⟩

/-- drayage/drayageref08.Find -/
theorem rfind_tells (e : BitVec 32) (v : Value) (ks : List Kp) (H : List Ck) (hv : KV v ks H) (hl : ks.length ≤ 1000) (o : BitVec 32) (s : Int) (u : Bool) : Tells Try.prog 27 [.agg #[.int .u32 e.toNat, v], .int .u32 o.toNat, .int .i64 s, .bool u] H fun r H' => ∃ wa wr, r = .tuple #[.agg (kc ((findB ks o s u).getD Kp.z) wa wr).toArray, .bool (findB ks o s u).isSome] ∧ Bs wa ((findB ks o s u).getD Kp.z).asked H ∧ Bs wr ((findB ks o s u).getD Kp.z).reply H ∧ H' = H := by
  refine Tells.enter Try.func27 rfl Try.ntmps27 rfl ?_
  intro w0 R
  have hv9 := hv
  obtain ⟨cs, hr, hk⟩ := hv9
  obtain ⟨ao, c, rfl, hc⟩ := hr.form
  refine WC.seq ?_
  refine WC.region ?_
  refine WL.h rfl (Hd.boxA rfl fun b4 => ⟨_, rfl, ?_⟩)
  refine WL.h rfl (Hd.alloc (zs := [.int .u32 0, .int .i64 0, .bool false, .slice none 0 0, .int .i64 0, .slice none 0 0]) kr_ fun b8 => ⟨_, rfl, ?_⟩)
  refine WL.y rfl (Yd.assign rfl) ?_
  refine WL.nil ?_
  refine DN.then_normal ?_
  refine WC.seq ?_
  refine WC.region ?_
  refine WL.h rfl (Hd.loadAll (n := 2) kr_ rfl mem_ (by rfl) ⟨_, rfl, ?_⟩)
  refine WL.r rfl (Ent.func Try.call31 rfl) (rfcheck_reads e _ ks _ (hv.mono gr_) (by omega)) ?_
  refine WL.y rfl (Yd.assign rfl) ?_
  refine WL.nil ?_
  refine DN.then_normal ?_
  refine WC.seq ?_
  refine WC.seq ?_
  refine WC.region ?_
  refine WL.y rfl (Yd.assign rfl) ?_
  refine WL.nil ?_
  refine DN.then_normal ?_
  refine WC.block ?_
  refine WC.loopS (fun z : Nat => z ≤ ks.length ∧ ∀ k ∈ ks.take z, ¬ (k.order = o ∧ k.step = s ∧ k.undo = u)) (fun z : Nat => [(11, .int .i64 (z : Int))]) (fun z : Nat => row b8 (kc Kp.z (.slice none 0 0) (.slice none 0 0)) 43 :: row b4 [.int .u32 e.toNat, .slice ao ks.length c] 25 :: H) (fun z : Nat => ks.length - z) (0) (show 0 ≤ ks.length ∧ ∀ k ∈ ks.take 0, ¬ (k.order = o ∧ k.step = s ∧ k.undo = u) from ⟨Nat.zero_le _, by simp⟩) (Sx.put rfl (sx_)) sp_ ?_
  rintro i hI
  replace hI : i ≤ ks.length ∧ ∀ k ∈ ks.take i, ¬ (k.order = o ∧ k.step = s ∧ k.undo = u) := hI
  obtain ⟨hi, hno⟩ := hI
  change WC _ _ _ _ _ _ ([(11, .int .i64 (i : Int))] ++ _) (row b8 (kc Kp.z (.slice none 0 0) (.slice none 0 0)) 43 :: row b4 [.int .u32 e.toNat, .slice ao ks.length c] 25 :: H)
  refine WC.seq ?_
  refine WC.seq ?_
  refine WC.region ?_
  refine WL.y rfl (Yd.move rfl) ?_
  refine WL.y rfl (Yd.fieldAddr (k := 1) kr_ rfl) ?_
  refine WL.h rfl (Hd.load1 kr_ rfl mem_ (by rfl) ⟨_, rfl, ?_⟩)
  refine WL.y rfl (Yd.len (e := 43) kr_ rfl) ?_
  refine WL.y rfl (Yd.lss rfl rfl) ?_
  refine WL.y rfl (Yd.move rfl) ?_
  refine WL.partP (t := 20) rfl (fun hg20 => ?_) (fun hg20 => ?_)
  · refine WL.gy (dj := 20) rfl rfl rfl (Yd.move rfl) ?_
    refine WL.gy (dj := 20) rfl rfl rfl (Yd.eql rfl rfl) ?_
    refine WL.y rfl (Yd.pickT rfl rfl) ?_
    refine WL.nil ?_
    refine DN.then_normal ?_
    refine WC.ite rfl (fun h23 => ?_) (fun h23 => ?_)
    · have hck : chk ks := Classical.byContradiction fun h => by rw [if_neg h] at h23; exact absurd h23 (by decide)
      have hlt : i < ks.length := by omega
      obtain ⟨va, vr, hg, hva, hvr⟩ := hk.at i hlt
      obtain ⟨ao1, ac1, rfl, _⟩ := hva.form
      obtain ⟨ro1, rc1, rfl, _⟩ := hvr.form
      refine WC.skip ?_
      refine DN.then_normal ?_
      refine WC.seq ?_
      refine WC.block ?_
      refine WC.seq ?_
      refine WC.region ?_
      refine WL.y rfl (Yd.fieldAddr (k := 1) kr_ rfl) ?_
      refine WL.h rfl (Hd.load1 kr_ rfl mem_ (by rfl) ⟨_, rfl, ?_⟩)
      refine WL.y rfl (Yd.move rfl) ?_
      refine WL.elemA (e := 43) (s := 6) kr_ kr_ kr_ rfl rfl (rfl) (hr.mono gr_) (hg) (by rfl) (by omega) (hlt) rfl rfl ?_
      intro p29
      refine WL.h rfl (Hd.alloc (zs := [.int .u32 0, .int .i64 0, .bool false, .slice none 0 0, .int .i64 0, .slice none 0 0]) kr_ fun b12 => ⟨_, rfl, ?_⟩)
      refine WL.s (Hd.storeAll (n := 6) kr_ rfl rfl (by rfl) (kc_one rfl rfl) fr_ (by rfl) ⟨rfl, ?_⟩)
      refine WL.nil ?_
      refine DN.then_normal ?_
      refine WC.seq ?_
      refine WC.region ?_
      refine WL.y rfl (Yd.fieldAddr (k := 0) kr_ rfl) ?_
      refine WL.h rfl (Hd.load1 kr_ rfl mem_ (by rfl) ⟨_, rfl, ?_⟩)
      refine WL.y rfl (Yd.move rfl) ?_
      refine WL.y rfl (Yd.eql32 _ _ rfl rfl rfl rfl) ?_
      refine WL.y rfl (Yd.move rfl) ?_
      refine WL.partP (t := 35) rfl (fun hg35 => ?_) (fun hg35 => ?_)
      · refine WL.gy (dj := 35) rfl rfl rfl (Yd.fieldAddr (k := 1) kr_ rfl) ?_
        refine WL.gh (dj := 35) rfl rfl rfl (Hd.load1 kr_ rfl mem_ (by rfl) ⟨_, rfl, ?_⟩)
        refine WL.gy (dj := 35) rfl rfl rfl (Yd.move rfl) ?_
        refine WL.gy (dj := 35) rfl rfl rfl (Yd.eql rfl rfl) ?_
        refine WL.y rfl (Yd.pickT rfl rfl) ?_
        refine WL.y rfl (Yd.move rfl) ?_
        refine WL.partP (t := 41) rfl (fun hg41 => ?_) (fun hg41 => ?_)
        · refine WL.gy (dj := 41) rfl rfl rfl (Yd.fieldAddr (k := 2) kr_ rfl) ?_
          refine WL.gh (dj := 41) rfl rfl rfl (Hd.load1 kr_ rfl mem_ (by rfl) ⟨_, rfl, ?_⟩)
          refine WL.gy (dj := 41) rfl rfl rfl (Yd.move rfl) ?_
          refine WL.gy (dj := 41) rfl rfl rfl (Yd.eqlB Try.underlying4 rfl rfl) ?_
          refine WL.y rfl (Yd.pickT rfl rfl) ?_
          refine WL.nil ?_
          refine DN.then_normal ?_
          refine WC.cond rfl (fun h46 => ?_) (fun h46 => ?_)
          · refine WC.seq ?_
            refine WC.region ?_
            refine WL.h rfl (Hd.loadAll (n := 6) kr_ rfl mem_ (by rfl) ⟨_, rfl, ?_⟩)
            refine WL.s (Hd.storeAll (n := 6) kr_ rfl rfl (by rfl) (kc_one rfl rfl) fr_ (by rfl) ⟨rfl, ?_⟩)
            refine WL.y rfl (Yd.assign rfl) ?_
            refine WL.nil ?_
            refine DN.then_normal ?_
            refine WC.ret ?_
            refine DN.block_ret ?_
            refine DN.then_ret ?_
            refine DN.then_ret ?_
            refine DN.block_ret ?_
            refine DN.then_ret ?_
            refine DN.retCT (s := 6) H Try.results27 kr_ rfl rfl mem_ (by rfl) sp_ ?_
            first
            | (rw [findB_some hck hlt hg35 hg41 (by simpa using h46)]; exact ⟨_, _, rfl, hva, hvr, rfl⟩)
            | (rw [findB_nokey (fun h => absurd h hnc)]; exact ⟨_, _, rfl, Bs_nil _, Bs_nil _, rfl⟩)
            | (obtain rfl : i = ks.length := by omega
               rw [List.take_length] at hno
               rw [findB_nokey (fun _ => hno)]; exact ⟨_, _, rfl, Bs_nil _, Bs_nil _, rfl⟩)
          · refine WC.skip ?_
            refine DN.block_normal ?_
            refine DN.then_normal ?_
            refine WC.region ?_
            refine WL.y rfl (Yd.move rfl) ?_
            refine WL.y rfl (Yd.add rfl rfl (by omega) (by omega)) ?_
            refine WL.y rfl (Yd.assign rfl) ?_
            refine WL.nil ?_
            exact DN.againS (i + 1) (show (i + 1) ≤ ks.length ∧ ∀ k ∈ ks.take (i + 1), ¬ (k.order = o ∧ k.step = s ∧ k.undo = u) from ⟨by omega, find_next hlt hno (by first | exact fun h => hg35 h.1 | exact fun h => hg41 h.2.1 | exact fun h => absurd h.2.2 (by simpa using h46))⟩) (show ks.length - (i + 1) < ks.length - i by omega) (Sx.put rfl (sx_)) sp_
        · refine WL.gn (dj := 41) rfl rfl rfl rfl ?_
          refine WL.gn (dj := 41) rfl rfl rfl rfl ?_
          refine WL.gn (dj := 41) rfl rfl rfl rfl ?_
          refine WL.gn (dj := 41) rfl rfl rfl rfl ?_
          refine WL.y rfl (Yd.pickF rfl rfl) ?_
          refine WL.nil ?_
          refine DN.then_normal ?_
          refine WC.no rfl ?_
          refine WC.skip ?_
          refine DN.block_normal ?_
          refine DN.then_normal ?_
          refine WC.region ?_
          refine WL.y rfl (Yd.move rfl) ?_
          refine WL.y rfl (Yd.add rfl rfl (by omega) (by omega)) ?_
          refine WL.y rfl (Yd.assign rfl) ?_
          refine WL.nil ?_
          exact DN.againS (i + 1) (show (i + 1) ≤ ks.length ∧ ∀ k ∈ ks.take (i + 1), ¬ (k.order = o ∧ k.step = s ∧ k.undo = u) from ⟨by omega, find_next hlt hno (by first | exact fun h => hg35 h.1 | exact fun h => hg41 h.2.1 | exact fun h => absurd h.2.2 (by simpa using h46))⟩) (show ks.length - (i + 1) < ks.length - i by omega) (Sx.put rfl (sx_)) sp_
      · refine WL.gn (dj := 35) rfl rfl rfl rfl ?_
        refine WL.gn (dj := 35) rfl rfl rfl rfl ?_
        refine WL.gn (dj := 35) rfl rfl rfl rfl ?_
        refine WL.gn (dj := 35) rfl rfl rfl rfl ?_
        refine WL.y rfl (Yd.pickF rfl rfl) ?_
        refine WL.y rfl (Yd.move rfl) ?_
        refine WL.gn (dj := 41) rfl rfl rfl rfl ?_
        refine WL.gn (dj := 41) rfl rfl rfl rfl ?_
        refine WL.gn (dj := 41) rfl rfl rfl rfl ?_
        refine WL.gn (dj := 41) rfl rfl rfl rfl ?_
        refine WL.y rfl (Yd.pickF rfl rfl) ?_
        refine WL.nil ?_
        refine DN.then_normal ?_
        refine WC.no rfl ?_
        refine WC.skip ?_
        refine DN.block_normal ?_
        refine DN.then_normal ?_
        refine WC.region ?_
        refine WL.y rfl (Yd.move rfl) ?_
        refine WL.y rfl (Yd.add rfl rfl (by omega) (by omega)) ?_
        refine WL.y rfl (Yd.assign rfl) ?_
        refine WL.nil ?_
        exact DN.againS (i + 1) (show (i + 1) ≤ ks.length ∧ ∀ k ∈ ks.take (i + 1), ¬ (k.order = o ∧ k.step = s ∧ k.undo = u) from ⟨by omega, find_next hlt hno (by first | exact fun h => hg35 h.1 | exact fun h => hg41 h.2.1 | exact fun h => absurd h.2.2 (by simpa using h46))⟩) (show ks.length - (i + 1) < ks.length - i by omega) (Sx.put rfl (sx_)) sp_
    · have hnc : ¬ chk ks := fun h => by rw [if_pos h] at h23; exact h23 rfl
      refine WC.exit ?_
      refine DN.then_exit ?_
      refine DN.then_exit ?_
      refine DN.block_exit ?_
      refine DN.then_normal ?_
      refine WC.seq ?_
      refine WC.region ?_
      refine WL.y rfl (Yd.buildL (pl := [(0, 1), (1, 1), (2, 1), (3, 1), (4, 1), (5, 1)]) (zs := [.int .u32 0, .int .i64 0, .bool false, .slice none 0 0, .int .i64 0, .slice none 0 0]) (parts := []) (vs := []) (cells := [.int .u32 0, .int .i64 0, .bool false, .slice none 0 0, .int .i64 0, .slice none 0 0]) kr_ kr_ rfl rfl) ?_
      refine WL.s (Hd.storeAll (n := 6) kr_ rfl rfl (by rfl) one_ fr_ (by rfl) ⟨rfl, ?_⟩)
      refine WL.y rfl (Yd.assign rfl) ?_
      refine WL.nil ?_
      refine DN.then_normal ?_
      refine WC.ret ?_
      refine DN.retCT (s := 6) H Try.results27 kr_ rfl rfl mem_ (by rfl) sp_ ?_
      first
      | (rw [findB_some hck hlt hg35 hg41 (by simpa using h46)]; exact ⟨_, _, rfl, hva, hvr, rfl⟩)
      | (rw [findB_nokey (fun h => absurd h hnc)]; exact ⟨_, _, rfl, Bs_nil _, Bs_nil _, rfl⟩)
      | (obtain rfl : i = ks.length := by omega
         rw [List.take_length] at hno
         rw [findB_nokey (fun _ => hno)]; exact ⟨_, _, rfl, Bs_nil _, Bs_nil _, rfl⟩)
  · refine WL.gn (dj := 20) rfl rfl rfl rfl ?_
    refine WL.gn (dj := 20) rfl rfl rfl rfl ?_
    refine WL.y rfl (Yd.pickF rfl rfl) ?_
    refine WL.nil ?_
    refine DN.then_normal ?_
    refine WC.no rfl ?_
    refine WC.exit ?_
    refine DN.then_exit ?_
    refine DN.then_exit ?_
    refine DN.block_exit ?_
    refine DN.then_normal ?_
    refine WC.seq ?_
    refine WC.region ?_
    refine WL.y rfl (Yd.buildL (pl := [(0, 1), (1, 1), (2, 1), (3, 1), (4, 1), (5, 1)]) (zs := [.int .u32 0, .int .i64 0, .bool false, .slice none 0 0, .int .i64 0, .slice none 0 0]) (parts := []) (vs := []) (cells := [.int .u32 0, .int .i64 0, .bool false, .slice none 0 0, .int .i64 0, .slice none 0 0]) kr_ kr_ rfl rfl) ?_
    refine WL.s (Hd.storeAll (n := 6) kr_ rfl rfl (by rfl) one_ fr_ (by rfl) ⟨rfl, ?_⟩)
    refine WL.y rfl (Yd.assign rfl) ?_
    refine WL.nil ?_
    refine DN.then_normal ?_
    refine WC.ret ?_
    refine DN.retCT (s := 6) H Try.results27 kr_ rfl rfl mem_ (by rfl) sp_ ?_
    first
    | (rw [findB_some hck hlt hg35 hg41 (by simpa using h46)]; exact ⟨_, _, rfl, hva, hvr, rfl⟩)
    | (rw [findB_nokey (fun h => absurd h hnc)]; exact ⟨_, _, rfl, Bs_nil _, Bs_nil _, rfl⟩)
    | (obtain rfl : i = ks.length := by omega
       rw [List.take_length] at hno
       rw [findB_nokey (fun _ => hno)]; exact ⟨_, _, rfl, Bs_nil _, Bs_nil _, rfl⟩)

/-- drayage/drayageref08.Ask -/
theorem rask_tells (e : BitVec 32) (v : Value) (ks : List Kp) (H : List Ck) (hv : KV v ks H) (hl : ks.length ≤ 1000) (n : Nt) (vk vd : Value) (hvk : Bs vk n.key H) (hvd : Bs vd n.data H) : Tells Try.prog 25 [.agg #[.int .u32 e.toNat, v], .agg (ntc n vk vd).toArray] H fun r H' => ∃ wa wr, r = .tuple #[.int .i64 (askK e ks n).1, .agg (kc (askK e ks n).2.1 wa wr).toArray, .int .i64 (askK e ks n).2.2] ∧ Bs wa (askK e ks n).2.1.asked H ∧ Bs wr (askK e ks n).2.1.reply H ∧ H' = H := by
  refine Tells.enter Try.func25 rfl Try.ntmps25 rfl ?_
  intro w0 R
  obtain ⟨ao, c, rfl, hc⟩ := hv.form
  obtain ⟨ko, kcap, rfl, hkc⟩ := hvk.form
  obtain ⟨do_, dc, rfl, hdc⟩ := hvd.form
  refine WC.seq ?_
  refine WC.region ?_
  refine WL.h rfl (Hd.boxA rfl fun b2 => ⟨_, rfl, ?_⟩)
  refine WL.h rfl (Hd.boxA rfl fun b3 => ⟨_, rfl, ?_⟩)
  refine WL.y rfl (Yd.assign rfl) ?_
  refine WL.h rfl (Hd.alloc (zs := [.int .u32 0, .int .i64 0, .bool false, .slice none 0 0, .int .i64 0, .slice none 0 0]) kr_ fun b5 => ⟨_, rfl, ?_⟩)
  refine WL.y rfl (Yd.assign rfl) ?_
  refine WL.nil ?_
  refine DN.then_normal ?_
  refine WC.seq ?_
  refine WC.region ?_
  refine WL.h rfl (Hd.loadAll (n := 2) kr_ rfl mem_ (by rfl) ⟨_, rfl, ?_⟩)
  refine WL.r rfl (Ent.func Try.call31 rfl) (rfcheck_reads e _ ks _ (hv.mono gr_) (by omega)) ?_
  refine WL.y rfl (Yd.assign rfl) ?_
  refine WL.nil ?_
  refine DN.then_normal ?_
  refine WC.seq ?_
  refine WC.region ?_
  refine WL.h rfl (Hd.loadAll (n := 11) kr_ rfl mem_ (by rfl) ⟨_, rfl, ?_⟩)
  refine WL.r rfl (Ent.func Try.call47 rfl) (rcheck_reads n (.slice ko _ kcap) (.slice do_ _ dc) ⟨_, _, rfl⟩ ⟨_, _, rfl⟩ _) ?_
  refine WL.y rfl (Yd.assign rfl) ?_
  refine WL.nil ?_
  refine DN.then_normal ?_
  refine WC.seq ?_
  refine WC.block ?_
  refine WC.cutK (fun z : Bool => z = decide (askBad ks n)) (fun z : Bool => [(17, .bool z), (7, .int .i64 (if chk ks then 0 else 2))]) (fun z : Bool => row b5 (kc Kp.z (.slice none 0 0) (.slice none 0 0)) 43 :: row b3 (ntc n (.slice ko n.key.length kcap) (.slice do_ n.data.length dc)) 29 :: row b2 [.int .u32 e.toNat, .slice ao ks.length c] 25 :: H) ?_ ?_
  · refine WC.region ?_
    refine WL.y rfl (Yd.move rfl) ?_
    refine WL.y rfl (Yd.neq rfl rfl) ?_
    refine WL.renamed (t := 19) (v := .bool (!decide (chk ks))) rfl (congrArg Value.bool (by by_cases h : chk ks <;> simp [h])) ?_
    refine WL.y rfl (Yd.move rfl) ?_
    refine WL.part (t := 20) rfl (fun hg20 => ?_) (fun hg20 => ?_)
    · refine WL.gn (dj := 20) rfl rfl rfl rfl ?_
      refine WL.gn (dj := 20) rfl rfl rfl rfl ?_
      refine WL.y rfl (Yd.pickT rfl rfl) ?_
      refine WL.y rfl (Yd.move rfl) ?_
      refine WL.gn (dj := 24) rfl rfl rfl rfl ?_
      refine WL.gn (dj := 24) rfl rfl rfl rfl ?_
      refine WL.gn (dj := 24) rfl rfl rfl rfl ?_
      refine WL.y rfl (Yd.pickT rfl rfl) ?_
      refine WL.y rfl (Yd.move rfl) ?_
      refine WL.gn (dj := 29) rfl rfl rfl rfl ?_
      refine WL.gn (dj := 29) rfl rfl rfl rfl ?_
      refine WL.gn (dj := 29) rfl rfl rfl rfl ?_
      refine WL.y rfl (Yd.pickT rfl rfl) ?_
      refine WL.y rfl (Yd.move rfl) ?_
      refine WL.gn (dj := 34) rfl rfl rfl rfl ?_
      refine WL.gn (dj := 34) rfl rfl rfl rfl ?_
      refine WL.gn (dj := 34) rfl rfl rfl rfl ?_
      refine WL.y rfl (Yd.pickT rfl rfl) ?_
      refine WL.y rfl (Yd.assign rfl) ?_
      refine WL.nil ?_
      exact DN.reachK (_) (ask_z (by
          unfold askBad
          first
          | exact ⟨fun _ => .inl (by simpa using hg20), fun _ => rfl⟩
          | exact ⟨fun _ => .inr (.inr (.inl hg24)), fun _ => rfl⟩
          | exact ⟨fun _ => .inr (.inl hg29), fun _ => rfl⟩
          | exact ⟨fun _ => .inr (.inr (.inr (.inl hg34))), fun _ => rfl⟩
          | (rw [decide_eq_true_eq]
             refine ⟨fun h => .inr (.inr (.inr (.inr h))), fun h => ?_⟩
             rcases h with h | h | h | h | h
             · simp [h] at hg20
             · exact absurd h hg29
             · rw [h] at hg24; cases hg24
             · exact absurd h hg34
             · exact h))) (Sx.put rfl (Sx.put rfl (sx_))) (Sp.all sp_)
    · refine WL.gy (dj := 20) rfl rfl rfl (Yd.move rfl) ?_
      refine WL.gy (dj := 20) rfl rfl rfl (Yd.neq rfl rfl) ?_
      refine WL.renamed (t := 22) (v := .bool (noteBad n)) rfl (congrArg Value.bool (by cases noteBad n <;> rfl)) ?_
      refine WL.y rfl (Yd.pickF rfl rfl) ?_
      refine WL.y rfl (Yd.move rfl) ?_
      refine WL.part (t := 24) rfl (fun hg24 => ?_) (fun hg24 => ?_)
      · refine WL.gn (dj := 24) rfl rfl rfl rfl ?_
        refine WL.gn (dj := 24) rfl rfl rfl rfl ?_
        refine WL.gn (dj := 24) rfl rfl rfl rfl ?_
        refine WL.y rfl (Yd.pickT rfl rfl) ?_
        refine WL.y rfl (Yd.move rfl) ?_
        refine WL.gn (dj := 29) rfl rfl rfl rfl ?_
        refine WL.gn (dj := 29) rfl rfl rfl rfl ?_
        refine WL.gn (dj := 29) rfl rfl rfl rfl ?_
        refine WL.y rfl (Yd.pickT rfl rfl) ?_
        refine WL.y rfl (Yd.move rfl) ?_
        refine WL.gn (dj := 34) rfl rfl rfl rfl ?_
        refine WL.gn (dj := 34) rfl rfl rfl rfl ?_
        refine WL.gn (dj := 34) rfl rfl rfl rfl ?_
        refine WL.y rfl (Yd.pickT rfl rfl) ?_
        refine WL.y rfl (Yd.assign rfl) ?_
        refine WL.nil ?_
        exact DN.reachK (_) (ask_z (by
            unfold askBad
            first
            | exact ⟨fun _ => .inl (by simpa using hg20), fun _ => rfl⟩
            | exact ⟨fun _ => .inr (.inr (.inl hg24)), fun _ => rfl⟩
            | exact ⟨fun _ => .inr (.inl hg29), fun _ => rfl⟩
            | exact ⟨fun _ => .inr (.inr (.inr (.inl hg34))), fun _ => rfl⟩
            | (rw [decide_eq_true_eq]
               refine ⟨fun h => .inr (.inr (.inr (.inr h))), fun h => ?_⟩
               rcases h with h | h | h | h | h
               · simp [h] at hg20
               · exact absurd h hg29
               · rw [h] at hg24; cases hg24
               · exact absurd h hg34
               · exact h))) (Sx.put rfl (Sx.put rfl (sx_))) (Sp.all sp_)
      · refine WL.gy (dj := 24) rfl rfl rfl (Yd.fieldAddr (k := 0) kr_ rfl) ?_
        refine WL.gh (dj := 24) rfl rfl rfl (Hd.load1 kr_ rfl mem_ (by rfl) ⟨_, rfl, ?_⟩)
        refine WL.gy (dj := 24) rfl rfl rfl (Yd.neq rfl rfl) ?_
        refine WL.y rfl (Yd.pickF rfl rfl) ?_
        refine WL.y rfl (Yd.move rfl) ?_
        refine WL.partP (t := 29) rfl (fun hg29 => ?_) (fun hg29 => ?_)
        · refine WL.gn (dj := 29) rfl rfl rfl rfl ?_
          refine WL.gn (dj := 29) rfl rfl rfl rfl ?_
          refine WL.gn (dj := 29) rfl rfl rfl rfl ?_
          refine WL.y rfl (Yd.pickT rfl rfl) ?_
          refine WL.y rfl (Yd.move rfl) ?_
          refine WL.gn (dj := 34) rfl rfl rfl rfl ?_
          refine WL.gn (dj := 34) rfl rfl rfl rfl ?_
          refine WL.gn (dj := 34) rfl rfl rfl rfl ?_
          refine WL.y rfl (Yd.pickT rfl rfl) ?_
          refine WL.y rfl (Yd.assign rfl) ?_
          refine WL.nil ?_
          exact DN.reachK (_) (ask_z (by
              unfold askBad
              first
              | exact ⟨fun _ => .inl (by simpa using hg20), fun _ => rfl⟩
              | exact ⟨fun _ => .inr (.inr (.inl hg24)), fun _ => rfl⟩
              | exact ⟨fun _ => .inr (.inl hg29), fun _ => rfl⟩
              | exact ⟨fun _ => .inr (.inr (.inr (.inl hg34))), fun _ => rfl⟩
              | (rw [decide_eq_true_eq]
                 refine ⟨fun h => .inr (.inr (.inr (.inr h))), fun h => ?_⟩
                 rcases h with h | h | h | h | h
                 · simp [h] at hg20
                 · exact absurd h hg29
                 · rw [h] at hg24; cases hg24
                 · exact absurd h hg34
                 · exact h))) (Sx.put rfl (Sx.put rfl (sx_))) (Sp.all sp_)
        · refine WL.gy (dj := 29) rfl rfl rfl (Yd.fieldAddr (k := 1) kr_ rfl) ?_
          refine WL.gh (dj := 29) rfl rfl rfl (Hd.load1 kr_ rfl mem_ (by rfl) ⟨_, rfl, ?_⟩)
          refine WL.gy (dj := 29) rfl rfl rfl (Yd.eql32 _ (0#32) rfl rfl rfl rfl) ?_
          refine WL.y rfl (Yd.pickF rfl rfl) ?_
          refine WL.y rfl (Yd.move rfl) ?_
          refine WL.partP (t := 34) rfl (fun hg34 => ?_) (fun hg34 => ?_)
          · refine WL.gn (dj := 34) rfl rfl rfl rfl ?_
            refine WL.gn (dj := 34) rfl rfl rfl rfl ?_
            refine WL.gn (dj := 34) rfl rfl rfl rfl ?_
            refine WL.y rfl (Yd.pickT rfl rfl) ?_
            refine WL.y rfl (Yd.assign rfl) ?_
            refine WL.nil ?_
            exact DN.reachK (_) (ask_z (by
                unfold askBad
                first
                | exact ⟨fun _ => .inl (by simpa using hg20), fun _ => rfl⟩
                | exact ⟨fun _ => .inr (.inr (.inl hg24)), fun _ => rfl⟩
                | exact ⟨fun _ => .inr (.inl hg29), fun _ => rfl⟩
                | exact ⟨fun _ => .inr (.inr (.inr (.inl hg34))), fun _ => rfl⟩
                | (rw [decide_eq_true_eq]
                   refine ⟨fun h => .inr (.inr (.inr (.inr h))), fun h => ?_⟩
                   rcases h with h | h | h | h | h
                   · simp [h] at hg20
                   · exact absurd h hg29
                   · rw [h] at hg24; cases hg24
                   · exact absurd h hg34
                   · exact h))) (Sx.put rfl (Sx.put rfl (sx_))) (Sp.all sp_)
          · refine WL.gy (dj := 34) rfl rfl rfl (Yd.fieldAddr (k := 5) kr_ rfl) ?_
            refine WL.gh (dj := 34) rfl rfl rfl (Hd.load1 kr_ rfl mem_ (by rfl) ⟨_, rfl, ?_⟩)
            refine WL.gy (dj := 34) rfl rfl rfl (Yd.eql32 _ (0#32) rfl rfl rfl rfl) ?_
            refine WL.y rfl (Yd.pickF rfl rfl) ?_
            refine WL.y rfl (Yd.assign rfl) ?_
            refine WL.nil ?_
            exact DN.reachK (_) (ask_z (by
                unfold askBad
                first
                | exact ⟨fun _ => .inl (by simpa using hg20), fun _ => rfl⟩
                | exact ⟨fun _ => .inr (.inr (.inl hg24)), fun _ => rfl⟩
                | exact ⟨fun _ => .inr (.inl hg29), fun _ => rfl⟩
                | exact ⟨fun _ => .inr (.inr (.inr (.inl hg34))), fun _ => rfl⟩
                | (rw [decide_eq_true_eq]
                   refine ⟨fun h => .inr (.inr (.inr (.inr h))), fun h => ?_⟩
                   rcases h with h | h | h | h | h
                   · simp [h] at hg20
                   · exact absurd h hg29
                   · rw [h] at hg24; cases hg24
                   · exact absurd h hg34
                   · exact h))) (Sx.put rfl (Sx.put rfl (sx_))) (Sp.all sp_)
  · intro z hz
    refine WC.cond rfl (fun h17 => ?_) (fun h17 => ?_)
    · have hbad : askBad ks n := of_decide_eq_true (hz.symm.trans h17)
      refine WC.seq ?_
      refine WC.region ?_
      refine WL.y rfl (Yd.buildL (pl := [(0, 1), (1, 1), (2, 1), (3, 1), (4, 1), (5, 1)]) (zs := [.int .u32 0, .int .i64 0, .bool false, .slice none 0 0, .int .i64 0, .slice none 0 0]) (parts := []) (vs := []) (cells := [.int .u32 0, .int .i64 0, .bool false, .slice none 0 0, .int .i64 0, .slice none 0 0]) kr_ kr_ rfl rfl) ?_
      refine WL.y rfl (Yd.assign rfl) ?_
      refine WL.s (Hd.storeAll (n := 6) kr_ rfl rfl (by rfl) one_ fr_ (by rfl) ⟨rfl, ?_⟩)
      refine WL.y rfl (Yd.assign rfl) ?_
      refine WL.nil ?_
      refine DN.then_normal ?_
      refine WC.ret ?_
      refine DN.block_ret ?_
      refine DN.then_ret ?_
      refine DN.retTCT (s := 6) (H) Try.results25 kr_ rfl rfl rfl mem_ (by rfl) sp_ ?_
      first
      | (rw [askK_arg hbad]; exact ⟨_, _, rfl, Bs_nil _, Bs_nil _, rfl⟩)
      | (rw [askK_old hgood (by omega)]; exact ⟨_, _, rfl, Bs_nil _, Bs_nil _, rfl⟩)
      | exact absurd (hg72.symm.trans h82) (by decide)
      | exact absurd (hg96.symm.trans hg104) (by decide)
      | (obtain ⟨k1, rfl⟩ := Option.isSome_iff_exists.1 hg72
         first
         | (rw [askK_clash hgood (by omega) hfk.symm (fun h => h70 (congrArg str h))]; exact ⟨_, _, rfl, Bs_nil _, Bs_nil _, rfl⟩)
         | (rw [askK_again hgood (by omega) hfk.symm (Classical.byContradiction fun h => h70 fun h9 => h (str_inj.1 h9))]; exact ⟨_, _, rfl, hA, hB, rfl⟩))
      | (obtain rfl : fk = none := by simpa using hg72
         have e9 := askK_two (e := e) hgood (by omega) hfk.symm hgk
         first
         | (rw [if_pos ⟨by simpa using hg89, h85⟩] at e9; rw [e9]; exact ⟨_, _, rfl, Bs_nil _, Bs_nil _, rfl⟩)
         | (have h9 : ¬ (n.undo = false ∧ gk.isSome = true) := by
              rintro ⟨h1, h2⟩
              first
              | (rw [h2] at h85; cases h85; done)
              | (rw [h1] at hg89; cases hg89; done)
            rw [if_neg h9] at e9
            first
            | (rw [if_pos ⟨hg96, .inl (by simpa using h93)⟩] at e9; rw [e9]; exact ⟨_, _, rfl, Bs_nil _, Bs_nil _, rfl⟩)
            | (rw [if_pos ⟨hg104, .inr h101⟩] at e9; rw [e9]; exact ⟨_, _, rfl, Bs_nil _, Bs_nil _, rfl⟩)
            | (rw [if_neg (by
                rintro ⟨h1, h2⟩
                first
                | (rw [h1] at hg96; cases hg96; done)
                | (rw [h1] at hg104; cases hg104; done)
                | (rcases h2 with h2 | h2
                   · rw [h2] at h93; cases h93
                   · exact h101 h2))] at e9; rw [e9]; exact ⟨_, _, rfl, Bs_nil _, Bs_nil _, rfl⟩)))
    · have hgood : ¬ askBad ks n := of_decide_eq_false (hz.symm.trans h17)
      have hck : chk ks := good_chk hgood
      have hst := noteBad_step (n := n) (by
        cases e9 : noteBad n
        · rfl
        · exact absurd (.inr (.inr (.inl e9))) hgood)
      refine WC.seq ?_
      refine WC.region ?_
      refine WL.y rfl (Yd.fieldAddr (k := 1) kr_ rfl) ?_
      refine WL.h rfl (Hd.load1 kr_ rfl mem_ (by rfl) ⟨_, rfl, ?_⟩)
      refine WL.y rfl (Yd.fieldAddr (k := 0) kr_ rfl) ?_
      refine WL.h rfl (Hd.load1 kr_ rfl mem_ (by rfl) ⟨_, rfl, ?_⟩)
      refine WL.y rfl (Yd.lss rfl rfl) ?_
      refine WL.y rfl (Yd.assign rfl) ?_
      refine WL.nil ?_
      refine DN.then_normal ?_
      refine WC.ite rfl (fun h40 => ?_) (fun h40 => ?_)
      · refine WC.seq ?_
        refine WC.region ?_
        refine WL.y rfl (Yd.buildL (pl := [(0, 1), (1, 1), (2, 1), (3, 1), (4, 1), (5, 1)]) (zs := [.int .u32 0, .int .i64 0, .bool false, .slice none 0 0, .int .i64 0, .slice none 0 0]) (parts := []) (vs := []) (cells := [.int .u32 0, .int .i64 0, .bool false, .slice none 0 0, .int .i64 0, .slice none 0 0]) kr_ kr_ rfl rfl) ?_
        refine WL.y rfl (Yd.assign rfl) ?_
        refine WL.s (Hd.storeAll (n := 6) kr_ rfl rfl (by rfl) one_ fr_ (by rfl) ⟨rfl, ?_⟩)
        refine WL.y rfl (Yd.assign rfl) ?_
        refine WL.nil ?_
        refine DN.then_normal ?_
        refine WC.ret ?_
        refine DN.block_ret ?_
        refine DN.then_ret ?_
        refine DN.retTCT (s := 6) (H) Try.results25 kr_ rfl rfl rfl mem_ (by rfl) sp_ ?_
        first
        | (rw [askK_arg hbad]; exact ⟨_, _, rfl, Bs_nil _, Bs_nil _, rfl⟩)
        | (rw [askK_old hgood (by omega)]; exact ⟨_, _, rfl, Bs_nil _, Bs_nil _, rfl⟩)
        | exact absurd (hg72.symm.trans h82) (by decide)
        | exact absurd (hg96.symm.trans hg104) (by decide)
        | (obtain ⟨k1, rfl⟩ := Option.isSome_iff_exists.1 hg72
           first
           | (rw [askK_clash hgood (by omega) hfk.symm (fun h => h70 (congrArg str h))]; exact ⟨_, _, rfl, Bs_nil _, Bs_nil _, rfl⟩)
           | (rw [askK_again hgood (by omega) hfk.symm (Classical.byContradiction fun h => h70 fun h9 => h (str_inj.1 h9))]; exact ⟨_, _, rfl, hA, hB, rfl⟩))
        | (obtain rfl : fk = none := by simpa using hg72
           have e9 := askK_two (e := e) hgood (by omega) hfk.symm hgk
           first
           | (rw [if_pos ⟨by simpa using hg89, h85⟩] at e9; rw [e9]; exact ⟨_, _, rfl, Bs_nil _, Bs_nil _, rfl⟩)
           | (have h9 : ¬ (n.undo = false ∧ gk.isSome = true) := by
                rintro ⟨h1, h2⟩
                first
                | (rw [h2] at h85; cases h85; done)
                | (rw [h1] at hg89; cases hg89; done)
              rw [if_neg h9] at e9
              first
              | (rw [if_pos ⟨hg96, .inl (by simpa using h93)⟩] at e9; rw [e9]; exact ⟨_, _, rfl, Bs_nil _, Bs_nil _, rfl⟩)
              | (rw [if_pos ⟨hg104, .inr h101⟩] at e9; rw [e9]; exact ⟨_, _, rfl, Bs_nil _, Bs_nil _, rfl⟩)
              | (rw [if_neg (by
                  rintro ⟨h1, h2⟩
                  first
                  | (rw [h1] at hg96; cases hg96; done)
                  | (rw [h1] at hg104; cases hg104; done)
                  | (rcases h2 with h2 | h2
                     · rw [h2] at h93; cases h93
                     · exact h101 h2))] at e9; rw [e9]; exact ⟨_, _, rfl, Bs_nil _, Bs_nil _, rfl⟩)))
      · refine WC.skip ?_
        refine DN.block_normal ?_
        refine DN.then_normal ?_
        refine WC.seq ?_
        refine WC.region ?_
        refine WL.h rfl (Hd.loadAll (n := 2) kr_ rfl mem_ (by rfl) ⟨_, rfl, ?_⟩)
        refine WL.y rfl (Yd.fieldAddr (k := 5) kr_ rfl) ?_
        refine WL.h rfl (Hd.load1 kr_ rfl mem_ (by rfl) ⟨_, rfl, ?_⟩)
        refine WL.y rfl (Yd.fieldAddr (k := 6) kr_ rfl) ?_
        refine WL.h rfl (Hd.load1 kr_ rfl mem_ (by rfl) ⟨_, rfl, ?_⟩)
        refine WL.y rfl (Yd.fieldAddr (k := 7) kr_ rfl) ?_
        refine WL.h rfl (Hd.load1 kr_ rfl mem_ (by rfl) ⟨_, rfl, ?_⟩)
        refine WL.c rfl (Ent.func Try.call27 rfl) (rfind_tells e _ ks H hv hl n.order n.step n.undo) (Sp.p sp_) ?_
        rintro x H9 ⟨wa, wr, rfl, hA, hB, hH9⟩
        rw [hH9]
        clear hH9 H9
        obtain ⟨fk, hfk⟩ : ∃ q, q = findB ks n.order n.step n.undo := ⟨_, rfl⟩
        rw [← hfk] at hA hB ⊢
        rw [findB_ok hck hst.1 hst.2.1] at hfk
        obtain ⟨oa, ca, rfl, _⟩ := hA.form
        obtain ⟨or, cr, rfl, _⟩ := hB.form
        refine WL.y rfl (Yd.move rfl) ?_
        refine WL.y rfl (Yd.extract rfl rfl) ?_
        refine WL.y rfl (Yd.extract rfl rfl) ?_
        refine WL.h rfl (Hd.alloc (zs := [.int .u32 0, .int .i64 0, .bool false, .slice none 0 0, .int .i64 0, .slice none 0 0]) kr_ fun b9 => ⟨_, rfl, ?_⟩)
        refine WL.s (Hd.storeAll (n := 6) kr_ rfl rfl (by rfl) (kc_one rfl rfl) fr_ (by rfl) ⟨rfl, ?_⟩)
        refine WL.y rfl (Yd.assign rfl) ?_
        refine WL.nil ?_
        refine DN.then_normal ?_
        refine WC.seq ?_
        refine WC.region ?_
        refine WL.h rfl (Hd.loadAll (n := 2) kr_ rfl mem_ (by rfl) ⟨_, rfl, ?_⟩)
        refine WL.y rfl (Yd.fieldAddr (k := 5) kr_ rfl) ?_
        refine WL.h rfl (Hd.load1 kr_ rfl mem_ (by rfl) ⟨_, rfl, ?_⟩)
        refine WL.y rfl (Yd.fieldAddr (k := 6) kr_ rfl) ?_
        refine WL.h rfl (Hd.load1 kr_ rfl mem_ (by rfl) ⟨_, rfl, ?_⟩)
        refine WL.y rfl (Yd.fieldAddr (k := 7) kr_ rfl) ?_
        refine WL.h rfl (Hd.load1 kr_ rfl mem_ (by rfl) ⟨_, rfl, ?_⟩)
        refine WL.y rfl (Yd.notB rfl) ?_
        refine WL.c rfl (Ent.func Try.call27 rfl) (rfind_tells e _ ks H hv hl n.order n.step (!n.undo)) (Sp.p sp_) ?_
        rintro x H9 ⟨wa2, wr2, rfl, hA2, hB2, hH9⟩
        rw [hH9]
        clear hH9 H9
        obtain ⟨gk, hgk⟩ : ∃ q, q = findB ks n.order n.step (!n.undo) := ⟨_, rfl⟩
        rw [← hgk] at hA2 hB2 ⊢
        rw [findB_ok hck hst.1 hst.2.1] at hgk
        obtain ⟨oa2, ca2, rfl, _⟩ := hA2.form
        obtain ⟨or2, cr2, rfl, _⟩ := hB2.form
        refine WL.y rfl (Yd.move rfl) ?_
        refine WL.y rfl (Yd.extract rfl rfl) ?_
        refine WL.y rfl (Yd.extract rfl rfl) ?_
        refine WL.h rfl (Hd.alloc (zs := [.int .u32 0, .int .i64 0, .bool false, .slice none 0 0, .int .i64 0, .slice none 0 0]) kr_ fun b11 => ⟨_, rfl, ?_⟩)
        refine WL.s (Hd.storeAll (n := 6) kr_ rfl rfl (by rfl) one_ fr_ (by rfl) ⟨rfl, ?_⟩)
        refine WL.y rfl (Yd.assign rfl) ?_
        refine WL.nil ?_
        refine DN.then_normal ?_
        refine WC.seq ?_
        refine WC.block ?_
        refine WC.seq ?_
        refine WC.region ?_
        refine WL.y rfl (Yd.move rfl) ?_
        refine WL.y rfl (Yd.move rfl) ?_
        refine WL.part (t := 72) rfl (fun hg72 => ?_) (fun hg72 => ?_)
        · refine WL.gy (dj := 72) rfl rfl rfl (Yd.fieldAddr (k := 3) kr_ rfl) ?_
          refine WL.gh (dj := 72) rfl rfl rfl (Hd.load1 kr_ rfl mem_ (by rfl) ⟨_, rfl, ?_⟩)
          refine WL.gh (dj := 72) rfl rfl rfl (Hd.toStr (e := 5) (bs := (fk.getD Kp.z).asked) kr_ kr_ Try.underlying9 rfl (hA.mono gr_) ⟨_, rfl, ?_⟩)
          refine WL.gy (dj := 72) rfl rfl rfl (Yd.fieldAddr (k := 10) kr_ rfl) ?_
          refine WL.gh (dj := 72) rfl rfl rfl (Hd.load1 kr_ rfl mem_ (by rfl) ⟨_, rfl, ?_⟩)
          refine WL.gh (dj := 72) rfl rfl rfl (Hd.toStr (e := 5) (bs := n.data) kr_ kr_ Try.underlying9 rfl (hvd.mono gr_) ⟨_, rfl, ?_⟩)
          refine WL.gy (dj := 72) rfl rfl rfl (Yd.neqS rfl rfl) ?_
          refine WL.y rfl (Yd.pickT rfl rfl) ?_
          refine WL.y rfl (Yd.assign rfl) ?_
          refine WL.nil ?_
          refine DN.then_normal ?_
          refine WC.ite rfl (fun h70 => ?_) (fun h70 => ?_)
          · refine WC.seq ?_
            refine WC.region ?_
            refine WL.y rfl (Yd.buildL (pl := [(0, 1), (1, 1), (2, 1), (3, 1), (4, 1), (5, 1)]) (zs := [.int .u32 0, .int .i64 0, .bool false, .slice none 0 0, .int .i64 0, .slice none 0 0]) (parts := []) (vs := []) (cells := [.int .u32 0, .int .i64 0, .bool false, .slice none 0 0, .int .i64 0, .slice none 0 0]) kr_ kr_ rfl rfl) ?_
            refine WL.y rfl (Yd.assign rfl) ?_
            refine WL.s (Hd.storeAll (n := 6) kr_ rfl rfl (by rfl) one_ fr_ (by rfl) ⟨rfl, ?_⟩)
            refine WL.y rfl (Yd.assign rfl) ?_
            refine WL.nil ?_
            refine DN.then_normal ?_
            refine WC.ret ?_
            refine DN.block_ret ?_
            refine DN.then_ret ?_
            refine DN.retTCT (s := 6) (H) Try.results25 kr_ rfl rfl rfl mem_ (by rfl) sp_ ?_
            first
            | (rw [askK_arg hbad]; exact ⟨_, _, rfl, Bs_nil _, Bs_nil _, rfl⟩)
            | (rw [askK_old hgood (by omega)]; exact ⟨_, _, rfl, Bs_nil _, Bs_nil _, rfl⟩)
            | exact absurd (hg72.symm.trans h82) (by decide)
            | exact absurd (hg96.symm.trans hg104) (by decide)
            | (obtain ⟨k1, rfl⟩ := Option.isSome_iff_exists.1 hg72
               first
               | (rw [askK_clash hgood (by omega) hfk.symm (fun h => h70 (congrArg str h))]; exact ⟨_, _, rfl, Bs_nil _, Bs_nil _, rfl⟩)
               | (rw [askK_again hgood (by omega) hfk.symm (Classical.byContradiction fun h => h70 fun h9 => h (str_inj.1 h9))]; exact ⟨_, _, rfl, hA, hB, rfl⟩))
            | (obtain rfl : fk = none := by simpa using hg72
               have e9 := askK_two (e := e) hgood (by omega) hfk.symm hgk
               first
               | (rw [if_pos ⟨by simpa using hg89, h85⟩] at e9; rw [e9]; exact ⟨_, _, rfl, Bs_nil _, Bs_nil _, rfl⟩)
               | (have h9 : ¬ (n.undo = false ∧ gk.isSome = true) := by
                    rintro ⟨h1, h2⟩
                    first
                    | (rw [h2] at h85; cases h85; done)
                    | (rw [h1] at hg89; cases hg89; done)
                  rw [if_neg h9] at e9
                  first
                  | (rw [if_pos ⟨hg96, .inl (by simpa using h93)⟩] at e9; rw [e9]; exact ⟨_, _, rfl, Bs_nil _, Bs_nil _, rfl⟩)
                  | (rw [if_pos ⟨hg104, .inr h101⟩] at e9; rw [e9]; exact ⟨_, _, rfl, Bs_nil _, Bs_nil _, rfl⟩)
                  | (rw [if_neg (by
                      rintro ⟨h1, h2⟩
                      first
                      | (rw [h1] at hg96; cases hg96; done)
                      | (rw [h1] at hg104; cases hg104; done)
                      | (rcases h2 with h2 | h2
                         · rw [h2] at h93; cases h93
                         · exact h101 h2))] at e9; rw [e9]; exact ⟨_, _, rfl, Bs_nil _, Bs_nil _, rfl⟩)))
          · refine WC.seq ?_
            refine WC.region ?_
            refine WL.y rfl (Yd.move rfl) ?_
            refine WL.y rfl (Yd.assign rfl) ?_
            refine WL.nil ?_
            refine DN.then_normal ?_
            refine WC.cond rfl (fun h82 => ?_) (fun h82 => ?_)
            · refine WC.seq ?_
              refine WC.draw 4 kr_ rfl ?_
              refine WA.y (i := 1) (NoPanic.then (NoPanic.block (NoPanic.then (NoPanic.body)))) rfl kr_ kr_ kr_ rfl (Yd.assign rfl) ?_
              refine WA.one (i := 0) kr_ ?_
              refine WO.h rfl Wt.none rfl (Hd.loadAll (n := 6) kr_ rfl mem_ (by rfl) ⟨_, rfl, ?_⟩)
              refine WA.one (i := 2) kr_ ?_
              refine WO.s rfl Wt.none (Hd.storeAll (n := 6) kr_ rfl rfl (by rfl) (kc_one rfl rfl) fr_ (by rfl) ⟨rfl, ?_⟩)
              refine WA.y (i := 3) (NoPanic.then (NoPanic.block (NoPanic.then (NoPanic.body)))) rfl kr_ kr_ kr_ rfl (Yd.assign rfl) ?_
              refine WA.done kr_ ?_
              refine DN.then_normal ?_
              refine WC.ret ?_
              refine DN.block_ret ?_
              refine DN.then_ret ?_
              refine DN.retTCT (s := 6) (H) Try.results25 kr_ rfl rfl rfl mem_ (by rfl) sp_ ?_
              first
              | (rw [askK_arg hbad]; exact ⟨_, _, rfl, Bs_nil _, Bs_nil _, rfl⟩)
              | (rw [askK_old hgood (by omega)]; exact ⟨_, _, rfl, Bs_nil _, Bs_nil _, rfl⟩)
              | exact absurd (hg72.symm.trans h82) (by decide)
              | exact absurd (hg96.symm.trans hg104) (by decide)
              | (obtain ⟨k1, rfl⟩ := Option.isSome_iff_exists.1 hg72
                 first
                 | (rw [askK_clash hgood (by omega) hfk.symm (fun h => h70 (congrArg str h))]; exact ⟨_, _, rfl, Bs_nil _, Bs_nil _, rfl⟩)
                 | (rw [askK_again hgood (by omega) hfk.symm (Classical.byContradiction fun h => h70 fun h9 => h (str_inj.1 h9))]; exact ⟨_, _, rfl, hA, hB, rfl⟩))
              | (obtain rfl : fk = none := by simpa using hg72
                 have e9 := askK_two (e := e) hgood (by omega) hfk.symm hgk
                 first
                 | (rw [if_pos ⟨by simpa using hg89, h85⟩] at e9; rw [e9]; exact ⟨_, _, rfl, Bs_nil _, Bs_nil _, rfl⟩)
                 | (have h9 : ¬ (n.undo = false ∧ gk.isSome = true) := by
                      rintro ⟨h1, h2⟩
                      first
                      | (rw [h2] at h85; cases h85; done)
                      | (rw [h1] at hg89; cases hg89; done)
                    rw [if_neg h9] at e9
                    first
                    | (rw [if_pos ⟨hg96, .inl (by simpa using h93)⟩] at e9; rw [e9]; exact ⟨_, _, rfl, Bs_nil _, Bs_nil _, rfl⟩)
                    | (rw [if_pos ⟨hg104, .inr h101⟩] at e9; rw [e9]; exact ⟨_, _, rfl, Bs_nil _, Bs_nil _, rfl⟩)
                    | (rw [if_neg (by
                        rintro ⟨h1, h2⟩
                        first
                        | (rw [h1] at hg96; cases hg96; done)
                        | (rw [h1] at hg104; cases hg104; done)
                        | (rcases h2 with h2 | h2
                           · rw [h2] at h93; cases h93
                           · exact h101 h2))] at e9; rw [e9]; exact ⟨_, _, rfl, Bs_nil _, Bs_nil _, rfl⟩)))
            · refine WC.seq ?_
              refine WC.region ?_
              refine WL.y rfl (Yd.fieldAddr (k := 7) kr_ rfl) ?_
              refine WL.h rfl (Hd.load1 kr_ rfl mem_ (by rfl) ⟨_, rfl, ?_⟩)
              refine WL.y rfl (Yd.notB rfl) ?_
              refine WL.y rfl (Yd.move rfl) ?_
              refine WL.part (t := 89) rfl (fun hg89 => ?_) (fun hg89 => ?_)
              · refine WL.gy (dj := 89) rfl rfl rfl (Yd.move rfl) ?_
                refine WL.y rfl (Yd.pickT rfl rfl) ?_
                refine WL.y rfl (Yd.assign rfl) ?_
                refine WL.nil ?_
                refine DN.then_normal ?_
                refine WC.cond rfl (fun h85 => ?_) (fun h85 => ?_)
                · refine WC.seq ?_
                  refine WC.region ?_
                  refine WL.y rfl (Yd.buildL (pl := [(0, 1), (1, 1), (2, 1), (3, 1), (4, 1), (5, 1)]) (zs := [.int .u32 0, .int .i64 0, .bool false, .slice none 0 0, .int .i64 0, .slice none 0 0]) (parts := []) (vs := []) (cells := [.int .u32 0, .int .i64 0, .bool false, .slice none 0 0, .int .i64 0, .slice none 0 0]) kr_ kr_ rfl rfl) ?_
                  refine WL.y rfl (Yd.assign rfl) ?_
                  refine WL.s (Hd.storeAll (n := 6) kr_ rfl rfl (by rfl) one_ fr_ (by rfl) ⟨rfl, ?_⟩)
                  refine WL.y rfl (Yd.assign rfl) ?_
                  refine WL.nil ?_
                  refine DN.then_normal ?_
                  refine WC.ret ?_
                  refine DN.block_ret ?_
                  refine DN.then_ret ?_
                  refine DN.retTCT (s := 6) (H) Try.results25 kr_ rfl rfl rfl mem_ (by rfl) sp_ ?_
                  first
                  | (rw [askK_arg hbad]; exact ⟨_, _, rfl, Bs_nil _, Bs_nil _, rfl⟩)
                  | (rw [askK_old hgood (by omega)]; exact ⟨_, _, rfl, Bs_nil _, Bs_nil _, rfl⟩)
                  | exact absurd (hg72.symm.trans h82) (by decide)
                  | exact absurd (hg96.symm.trans hg104) (by decide)
                  | (obtain ⟨k1, rfl⟩ := Option.isSome_iff_exists.1 hg72
                     first
                     | (rw [askK_clash hgood (by omega) hfk.symm (fun h => h70 (congrArg str h))]; exact ⟨_, _, rfl, Bs_nil _, Bs_nil _, rfl⟩)
                     | (rw [askK_again hgood (by omega) hfk.symm (Classical.byContradiction fun h => h70 fun h9 => h (str_inj.1 h9))]; exact ⟨_, _, rfl, hA, hB, rfl⟩))
                  | (obtain rfl : fk = none := by simpa using hg72
                     have e9 := askK_two (e := e) hgood (by omega) hfk.symm hgk
                     first
                     | (rw [if_pos ⟨by simpa using hg89, h85⟩] at e9; rw [e9]; exact ⟨_, _, rfl, Bs_nil _, Bs_nil _, rfl⟩)
                     | (have h9 : ¬ (n.undo = false ∧ gk.isSome = true) := by
                          rintro ⟨h1, h2⟩
                          first
                          | (rw [h2] at h85; cases h85; done)
                          | (rw [h1] at hg89; cases hg89; done)
                        rw [if_neg h9] at e9
                        first
                        | (rw [if_pos ⟨hg96, .inl (by simpa using h93)⟩] at e9; rw [e9]; exact ⟨_, _, rfl, Bs_nil _, Bs_nil _, rfl⟩)
                        | (rw [if_pos ⟨hg104, .inr h101⟩] at e9; rw [e9]; exact ⟨_, _, rfl, Bs_nil _, Bs_nil _, rfl⟩)
                        | (rw [if_neg (by
                            rintro ⟨h1, h2⟩
                            first
                            | (rw [h1] at hg96; cases hg96; done)
                            | (rw [h1] at hg104; cases hg104; done)
                            | (rcases h2 with h2 | h2
                               · rw [h2] at h93; cases h93
                               · exact h101 h2))] at e9; rw [e9]; exact ⟨_, _, rfl, Bs_nil _, Bs_nil _, rfl⟩)))
                · refine WC.seq ?_
                  refine WC.region ?_
                  refine WL.y rfl (Yd.fieldAddr (k := 7) kr_ rfl) ?_
                  refine WL.h rfl (Hd.load1 kr_ rfl mem_ (by rfl) ⟨_, rfl, ?_⟩)
                  refine WL.y rfl (Yd.move rfl) ?_
                  refine WL.part (t := 96) rfl (fun hg96 => ?_) (fun hg96 => ?_)
                  · refine WL.gy (dj := 96) rfl rfl rfl (Yd.move rfl) ?_
                    refine WL.gy (dj := 96) rfl rfl rfl (Yd.notB rfl) ?_
                    refine WL.y rfl (Yd.pickT rfl rfl) ?_
                    refine WL.y rfl (Yd.assign rfl) ?_
                    refine WL.nil ?_
                    refine DN.then_normal ?_
                    refine WC.cond rfl (fun h93 => ?_) (fun h93 => ?_)
                    · refine WC.seq ?_
                      refine WC.region ?_
                      refine WL.y rfl (Yd.buildL (pl := [(0, 1), (1, 1), (2, 1), (3, 1), (4, 1), (5, 1)]) (zs := [.int .u32 0, .int .i64 0, .bool false, .slice none 0 0, .int .i64 0, .slice none 0 0]) (parts := []) (vs := []) (cells := [.int .u32 0, .int .i64 0, .bool false, .slice none 0 0, .int .i64 0, .slice none 0 0]) kr_ kr_ rfl rfl) ?_
                      refine WL.y rfl (Yd.assign rfl) ?_
                      refine WL.s (Hd.storeAll (n := 6) kr_ rfl rfl (by rfl) one_ fr_ (by rfl) ⟨rfl, ?_⟩)
                      refine WL.y rfl (Yd.assign rfl) ?_
                      refine WL.nil ?_
                      refine DN.then_normal ?_
                      refine WC.ret ?_
                      refine DN.block_ret ?_
                      refine DN.then_ret ?_
                      refine DN.retTCT (s := 6) (H) Try.results25 kr_ rfl rfl rfl mem_ (by rfl) sp_ ?_
                      first
                      | (rw [askK_arg hbad]; exact ⟨_, _, rfl, Bs_nil _, Bs_nil _, rfl⟩)
                      | (rw [askK_old hgood (by omega)]; exact ⟨_, _, rfl, Bs_nil _, Bs_nil _, rfl⟩)
                      | exact absurd (hg72.symm.trans h82) (by decide)
                      | exact absurd (hg96.symm.trans hg104) (by decide)
                      | (obtain ⟨k1, rfl⟩ := Option.isSome_iff_exists.1 hg72
                         first
                         | (rw [askK_clash hgood (by omega) hfk.symm (fun h => h70 (congrArg str h))]; exact ⟨_, _, rfl, Bs_nil _, Bs_nil _, rfl⟩)
                         | (rw [askK_again hgood (by omega) hfk.symm (Classical.byContradiction fun h => h70 fun h9 => h (str_inj.1 h9))]; exact ⟨_, _, rfl, hA, hB, rfl⟩))
                      | (obtain rfl : fk = none := by simpa using hg72
                         have e9 := askK_two (e := e) hgood (by omega) hfk.symm hgk
                         first
                         | (rw [if_pos ⟨by simpa using hg89, h85⟩] at e9; rw [e9]; exact ⟨_, _, rfl, Bs_nil _, Bs_nil _, rfl⟩)
                         | (have h9 : ¬ (n.undo = false ∧ gk.isSome = true) := by
                              rintro ⟨h1, h2⟩
                              first
                              | (rw [h2] at h85; cases h85; done)
                              | (rw [h1] at hg89; cases hg89; done)
                            rw [if_neg h9] at e9
                            first
                            | (rw [if_pos ⟨hg96, .inl (by simpa using h93)⟩] at e9; rw [e9]; exact ⟨_, _, rfl, Bs_nil _, Bs_nil _, rfl⟩)
                            | (rw [if_pos ⟨hg104, .inr h101⟩] at e9; rw [e9]; exact ⟨_, _, rfl, Bs_nil _, Bs_nil _, rfl⟩)
                            | (rw [if_neg (by
                                rintro ⟨h1, h2⟩
                                first
                                | (rw [h1] at hg96; cases hg96; done)
                                | (rw [h1] at hg104; cases hg104; done)
                                | (rcases h2 with h2 | h2
                                   · rw [h2] at h93; cases h93
                                   · exact h101 h2))] at e9; rw [e9]; exact ⟨_, _, rfl, Bs_nil _, Bs_nil _, rfl⟩)))
                    · refine WC.seq ?_
                      refine WC.region ?_
                      refine WL.y rfl (Yd.fieldAddr (k := 7) kr_ rfl) ?_
                      refine WL.h rfl (Hd.load1 kr_ rfl mem_ (by rfl) ⟨_, rfl, ?_⟩)
                      refine WL.y rfl (Yd.move rfl) ?_
                      refine WL.part (t := 104) rfl (fun hg104 => ?_) (fun hg104 => ?_)
                      · refine WL.gy (dj := 104) rfl rfl rfl (Yd.fieldAddr (k := 4) kr_ rfl) ?_
                        refine WL.gh (dj := 104) rfl rfl rfl (Hd.load1 kr_ rfl mem_ (by rfl) ⟨_, rfl, ?_⟩)
                        refine WL.gy (dj := 104) rfl rfl rfl (Yd.eql rfl rfl) ?_
                        refine WL.y rfl (Yd.pickT rfl rfl) ?_
                        refine WL.y rfl (Yd.assign rfl) ?_
                        refine WL.nil ?_
                        refine DN.then_normal ?_
                        refine WC.ite rfl (fun h101 => ?_) (fun h101 => ?_)
                        · refine WC.seq ?_
                          refine WC.region ?_
                          refine WL.y rfl (Yd.buildL (pl := [(0, 1), (1, 1), (2, 1), (3, 1), (4, 1), (5, 1)]) (zs := [.int .u32 0, .int .i64 0, .bool false, .slice none 0 0, .int .i64 0, .slice none 0 0]) (parts := []) (vs := []) (cells := [.int .u32 0, .int .i64 0, .bool false, .slice none 0 0, .int .i64 0, .slice none 0 0]) kr_ kr_ rfl rfl) ?_
                          refine WL.y rfl (Yd.assign rfl) ?_
                          refine WL.s (Hd.storeAll (n := 6) kr_ rfl rfl (by rfl) one_ fr_ (by rfl) ⟨rfl, ?_⟩)
                          refine WL.y rfl (Yd.assign rfl) ?_
                          refine WL.nil ?_
                          refine DN.then_normal ?_
                          refine WC.ret ?_
                          refine DN.block_ret ?_
                          refine DN.then_ret ?_
                          refine DN.retTCT (s := 6) (H) Try.results25 kr_ rfl rfl rfl mem_ (by rfl) sp_ ?_
                          first
                          | (rw [askK_arg hbad]; exact ⟨_, _, rfl, Bs_nil _, Bs_nil _, rfl⟩)
                          | (rw [askK_old hgood (by omega)]; exact ⟨_, _, rfl, Bs_nil _, Bs_nil _, rfl⟩)
                          | exact absurd (hg72.symm.trans h82) (by decide)
                          | exact absurd (hg96.symm.trans hg104) (by decide)
                          | (obtain ⟨k1, rfl⟩ := Option.isSome_iff_exists.1 hg72
                             first
                             | (rw [askK_clash hgood (by omega) hfk.symm (fun h => h70 (congrArg str h))]; exact ⟨_, _, rfl, Bs_nil _, Bs_nil _, rfl⟩)
                             | (rw [askK_again hgood (by omega) hfk.symm (Classical.byContradiction fun h => h70 fun h9 => h (str_inj.1 h9))]; exact ⟨_, _, rfl, hA, hB, rfl⟩))
                          | (obtain rfl : fk = none := by simpa using hg72
                             have e9 := askK_two (e := e) hgood (by omega) hfk.symm hgk
                             first
                             | (rw [if_pos ⟨by simpa using hg89, h85⟩] at e9; rw [e9]; exact ⟨_, _, rfl, Bs_nil _, Bs_nil _, rfl⟩)
                             | (have h9 : ¬ (n.undo = false ∧ gk.isSome = true) := by
                                  rintro ⟨h1, h2⟩
                                  first
                                  | (rw [h2] at h85; cases h85; done)
                                  | (rw [h1] at hg89; cases hg89; done)
                                rw [if_neg h9] at e9
                                first
                                | (rw [if_pos ⟨hg96, .inl (by simpa using h93)⟩] at e9; rw [e9]; exact ⟨_, _, rfl, Bs_nil _, Bs_nil _, rfl⟩)
                                | (rw [if_pos ⟨hg104, .inr h101⟩] at e9; rw [e9]; exact ⟨_, _, rfl, Bs_nil _, Bs_nil _, rfl⟩)
                                | (rw [if_neg (by
                                    rintro ⟨h1, h2⟩
                                    first
                                    | (rw [h1] at hg96; cases hg96; done)
                                    | (rw [h1] at hg104; cases hg104; done)
                                    | (rcases h2 with h2 | h2
                                       · rw [h2] at h93; cases h93
                                       · exact h101 h2))] at e9; rw [e9]; exact ⟨_, _, rfl, Bs_nil _, Bs_nil _, rfl⟩)))
                        · refine WC.skip ?_
                          refine DN.block_normal ?_
                          refine DN.then_normal ?_
                          refine WC.seq ?_
                          refine WC.region ?_
                          refine WL.y rfl (Yd.buildL (pl := [(0, 1), (1, 1), (2, 1), (3, 1), (4, 1), (5, 1)]) (zs := [.int .u32 0, .int .i64 0, .bool false, .slice none 0 0, .int .i64 0, .slice none 0 0]) (parts := []) (vs := []) (cells := [.int .u32 0, .int .i64 0, .bool false, .slice none 0 0, .int .i64 0, .slice none 0 0]) kr_ kr_ rfl rfl) ?_
                          refine WL.y rfl (Yd.assign rfl) ?_
                          refine WL.s (Hd.storeAll (n := 6) kr_ rfl rfl (by rfl) one_ fr_ (by rfl) ⟨rfl, ?_⟩)
                          refine WL.y rfl (Yd.assign rfl) ?_
                          refine WL.nil ?_
                          refine DN.then_normal ?_
                          refine WC.ret ?_
                          refine DN.retTCT (s := 6) (H) Try.results25 kr_ rfl rfl rfl mem_ (by rfl) sp_ ?_
                          first
                          | (rw [askK_arg hbad]; exact ⟨_, _, rfl, Bs_nil _, Bs_nil _, rfl⟩)
                          | (rw [askK_old hgood (by omega)]; exact ⟨_, _, rfl, Bs_nil _, Bs_nil _, rfl⟩)
                          | exact absurd (hg72.symm.trans h82) (by decide)
                          | exact absurd (hg96.symm.trans hg104) (by decide)
                          | (obtain ⟨k1, rfl⟩ := Option.isSome_iff_exists.1 hg72
                             first
                             | (rw [askK_clash hgood (by omega) hfk.symm (fun h => h70 (congrArg str h))]; exact ⟨_, _, rfl, Bs_nil _, Bs_nil _, rfl⟩)
                             | (rw [askK_again hgood (by omega) hfk.symm (Classical.byContradiction fun h => h70 fun h9 => h (str_inj.1 h9))]; exact ⟨_, _, rfl, hA, hB, rfl⟩))
                          | (obtain rfl : fk = none := by simpa using hg72
                             have e9 := askK_two (e := e) hgood (by omega) hfk.symm hgk
                             first
                             | (rw [if_pos ⟨by simpa using hg89, h85⟩] at e9; rw [e9]; exact ⟨_, _, rfl, Bs_nil _, Bs_nil _, rfl⟩)
                             | (have h9 : ¬ (n.undo = false ∧ gk.isSome = true) := by
                                  rintro ⟨h1, h2⟩
                                  first
                                  | (rw [h2] at h85; cases h85; done)
                                  | (rw [h1] at hg89; cases hg89; done)
                                rw [if_neg h9] at e9
                                first
                                | (rw [if_pos ⟨hg96, .inl (by simpa using h93)⟩] at e9; rw [e9]; exact ⟨_, _, rfl, Bs_nil _, Bs_nil _, rfl⟩)
                                | (rw [if_pos ⟨hg104, .inr h101⟩] at e9; rw [e9]; exact ⟨_, _, rfl, Bs_nil _, Bs_nil _, rfl⟩)
                                | (rw [if_neg (by
                                    rintro ⟨h1, h2⟩
                                    first
                                    | (rw [h1] at hg96; cases hg96; done)
                                    | (rw [h1] at hg104; cases hg104; done)
                                    | (rcases h2 with h2 | h2
                                       · rw [h2] at h93; cases h93
                                       · exact h101 h2))] at e9; rw [e9]; exact ⟨_, _, rfl, Bs_nil _, Bs_nil _, rfl⟩)))
                      · refine WL.gn (dj := 104) rfl rfl rfl rfl ?_
                        refine WL.gn (dj := 104) rfl rfl rfl rfl ?_
                        refine WL.gn (dj := 104) rfl rfl rfl rfl ?_
                        refine WL.y rfl (Yd.pickF rfl rfl) ?_
                        refine WL.y rfl (Yd.assign rfl) ?_
                        refine WL.nil ?_
                        refine DN.then_normal ?_
                        refine WC.no rfl ?_
                        refine WC.skip ?_
                        refine DN.block_normal ?_
                        refine DN.then_normal ?_
                        refine WC.seq ?_
                        refine WC.region ?_
                        refine WL.y rfl (Yd.buildL (pl := [(0, 1), (1, 1), (2, 1), (3, 1), (4, 1), (5, 1)]) (zs := [.int .u32 0, .int .i64 0, .bool false, .slice none 0 0, .int .i64 0, .slice none 0 0]) (parts := []) (vs := []) (cells := [.int .u32 0, .int .i64 0, .bool false, .slice none 0 0, .int .i64 0, .slice none 0 0]) kr_ kr_ rfl rfl) ?_
                        refine WL.y rfl (Yd.assign rfl) ?_
                        refine WL.s (Hd.storeAll (n := 6) kr_ rfl rfl (by rfl) one_ fr_ (by rfl) ⟨rfl, ?_⟩)
                        refine WL.y rfl (Yd.assign rfl) ?_
                        refine WL.nil ?_
                        refine DN.then_normal ?_
                        refine WC.ret ?_
                        refine DN.retTCT (s := 6) (H) Try.results25 kr_ rfl rfl rfl mem_ (by rfl) sp_ ?_
                        first
                        | (rw [askK_arg hbad]; exact ⟨_, _, rfl, Bs_nil _, Bs_nil _, rfl⟩)
                        | (rw [askK_old hgood (by omega)]; exact ⟨_, _, rfl, Bs_nil _, Bs_nil _, rfl⟩)
                        | exact absurd (hg72.symm.trans h82) (by decide)
                        | exact absurd (hg96.symm.trans hg104) (by decide)
                        | (obtain ⟨k1, rfl⟩ := Option.isSome_iff_exists.1 hg72
                           first
                           | (rw [askK_clash hgood (by omega) hfk.symm (fun h => h70 (congrArg str h))]; exact ⟨_, _, rfl, Bs_nil _, Bs_nil _, rfl⟩)
                           | (rw [askK_again hgood (by omega) hfk.symm (Classical.byContradiction fun h => h70 fun h9 => h (str_inj.1 h9))]; exact ⟨_, _, rfl, hA, hB, rfl⟩))
                        | (obtain rfl : fk = none := by simpa using hg72
                           have e9 := askK_two (e := e) hgood (by omega) hfk.symm hgk
                           first
                           | (rw [if_pos ⟨by simpa using hg89, h85⟩] at e9; rw [e9]; exact ⟨_, _, rfl, Bs_nil _, Bs_nil _, rfl⟩)
                           | (have h9 : ¬ (n.undo = false ∧ gk.isSome = true) := by
                                rintro ⟨h1, h2⟩
                                first
                                | (rw [h2] at h85; cases h85; done)
                                | (rw [h1] at hg89; cases hg89; done)
                              rw [if_neg h9] at e9
                              first
                              | (rw [if_pos ⟨hg96, .inl (by simpa using h93)⟩] at e9; rw [e9]; exact ⟨_, _, rfl, Bs_nil _, Bs_nil _, rfl⟩)
                              | (rw [if_pos ⟨hg104, .inr h101⟩] at e9; rw [e9]; exact ⟨_, _, rfl, Bs_nil _, Bs_nil _, rfl⟩)
                              | (rw [if_neg (by
                                  rintro ⟨h1, h2⟩
                                  first
                                  | (rw [h1] at hg96; cases hg96; done)
                                  | (rw [h1] at hg104; cases hg104; done)
                                  | (rcases h2 with h2 | h2
                                     · rw [h2] at h93; cases h93
                                     · exact h101 h2))] at e9; rw [e9]; exact ⟨_, _, rfl, Bs_nil _, Bs_nil _, rfl⟩)))
                  · refine WL.gn (dj := 96) rfl rfl rfl rfl ?_
                    refine WL.gn (dj := 96) rfl rfl rfl rfl ?_
                    refine WL.y rfl (Yd.pickF rfl rfl) ?_
                    refine WL.y rfl (Yd.assign rfl) ?_
                    refine WL.nil ?_
                    refine DN.then_normal ?_
                    refine WC.no rfl ?_
                    refine WC.seq ?_
                    refine WC.region ?_
                    refine WL.y rfl (Yd.fieldAddr (k := 7) kr_ rfl) ?_
                    refine WL.h rfl (Hd.load1 kr_ rfl mem_ (by rfl) ⟨_, rfl, ?_⟩)
                    refine WL.y rfl (Yd.move rfl) ?_
                    refine WL.part (t := 104) rfl (fun hg104 => ?_) (fun hg104 => ?_)
                    · refine WL.gy (dj := 104) rfl rfl rfl (Yd.fieldAddr (k := 4) kr_ rfl) ?_
                      refine WL.gh (dj := 104) rfl rfl rfl (Hd.load1 kr_ rfl mem_ (by rfl) ⟨_, rfl, ?_⟩)
                      refine WL.gy (dj := 104) rfl rfl rfl (Yd.eql rfl rfl) ?_
                      refine WL.y rfl (Yd.pickT rfl rfl) ?_
                      refine WL.y rfl (Yd.assign rfl) ?_
                      refine WL.nil ?_
                      refine DN.then_normal ?_
                      refine WC.ite rfl (fun h101 => ?_) (fun h101 => ?_)
                      · refine WC.seq ?_
                        refine WC.region ?_
                        refine WL.y rfl (Yd.buildL (pl := [(0, 1), (1, 1), (2, 1), (3, 1), (4, 1), (5, 1)]) (zs := [.int .u32 0, .int .i64 0, .bool false, .slice none 0 0, .int .i64 0, .slice none 0 0]) (parts := []) (vs := []) (cells := [.int .u32 0, .int .i64 0, .bool false, .slice none 0 0, .int .i64 0, .slice none 0 0]) kr_ kr_ rfl rfl) ?_
                        refine WL.y rfl (Yd.assign rfl) ?_
                        refine WL.s (Hd.storeAll (n := 6) kr_ rfl rfl (by rfl) one_ fr_ (by rfl) ⟨rfl, ?_⟩)
                        refine WL.y rfl (Yd.assign rfl) ?_
                        refine WL.nil ?_
                        refine DN.then_normal ?_
                        refine WC.ret ?_
                        refine DN.block_ret ?_
                        refine DN.then_ret ?_
                        refine DN.retTCT (s := 6) (H) Try.results25 kr_ rfl rfl rfl mem_ (by rfl) sp_ ?_
                        first
                        | (rw [askK_arg hbad]; exact ⟨_, _, rfl, Bs_nil _, Bs_nil _, rfl⟩)
                        | (rw [askK_old hgood (by omega)]; exact ⟨_, _, rfl, Bs_nil _, Bs_nil _, rfl⟩)
                        | exact absurd (hg72.symm.trans h82) (by decide)
                        | exact absurd (hg96.symm.trans hg104) (by decide)
                        | (obtain ⟨k1, rfl⟩ := Option.isSome_iff_exists.1 hg72
                           first
                           | (rw [askK_clash hgood (by omega) hfk.symm (fun h => h70 (congrArg str h))]; exact ⟨_, _, rfl, Bs_nil _, Bs_nil _, rfl⟩)
                           | (rw [askK_again hgood (by omega) hfk.symm (Classical.byContradiction fun h => h70 fun h9 => h (str_inj.1 h9))]; exact ⟨_, _, rfl, hA, hB, rfl⟩))
                        | (obtain rfl : fk = none := by simpa using hg72
                           have e9 := askK_two (e := e) hgood (by omega) hfk.symm hgk
                           first
                           | (rw [if_pos ⟨by simpa using hg89, h85⟩] at e9; rw [e9]; exact ⟨_, _, rfl, Bs_nil _, Bs_nil _, rfl⟩)
                           | (have h9 : ¬ (n.undo = false ∧ gk.isSome = true) := by
                                rintro ⟨h1, h2⟩
                                first
                                | (rw [h2] at h85; cases h85; done)
                                | (rw [h1] at hg89; cases hg89; done)
                              rw [if_neg h9] at e9
                              first
                              | (rw [if_pos ⟨hg96, .inl (by simpa using h93)⟩] at e9; rw [e9]; exact ⟨_, _, rfl, Bs_nil _, Bs_nil _, rfl⟩)
                              | (rw [if_pos ⟨hg104, .inr h101⟩] at e9; rw [e9]; exact ⟨_, _, rfl, Bs_nil _, Bs_nil _, rfl⟩)
                              | (rw [if_neg (by
                                  rintro ⟨h1, h2⟩
                                  first
                                  | (rw [h1] at hg96; cases hg96; done)
                                  | (rw [h1] at hg104; cases hg104; done)
                                  | (rcases h2 with h2 | h2
                                     · rw [h2] at h93; cases h93
                                     · exact h101 h2))] at e9; rw [e9]; exact ⟨_, _, rfl, Bs_nil _, Bs_nil _, rfl⟩)))
                      · refine WC.skip ?_
                        refine DN.block_normal ?_
                        refine DN.then_normal ?_
                        refine WC.seq ?_
                        refine WC.region ?_
                        refine WL.y rfl (Yd.buildL (pl := [(0, 1), (1, 1), (2, 1), (3, 1), (4, 1), (5, 1)]) (zs := [.int .u32 0, .int .i64 0, .bool false, .slice none 0 0, .int .i64 0, .slice none 0 0]) (parts := []) (vs := []) (cells := [.int .u32 0, .int .i64 0, .bool false, .slice none 0 0, .int .i64 0, .slice none 0 0]) kr_ kr_ rfl rfl) ?_
                        refine WL.y rfl (Yd.assign rfl) ?_
                        refine WL.s (Hd.storeAll (n := 6) kr_ rfl rfl (by rfl) one_ fr_ (by rfl) ⟨rfl, ?_⟩)
                        refine WL.y rfl (Yd.assign rfl) ?_
                        refine WL.nil ?_
                        refine DN.then_normal ?_
                        refine WC.ret ?_
                        refine DN.retTCT (s := 6) (H) Try.results25 kr_ rfl rfl rfl mem_ (by rfl) sp_ ?_
                        first
                        | (rw [askK_arg hbad]; exact ⟨_, _, rfl, Bs_nil _, Bs_nil _, rfl⟩)
                        | (rw [askK_old hgood (by omega)]; exact ⟨_, _, rfl, Bs_nil _, Bs_nil _, rfl⟩)
                        | exact absurd (hg72.symm.trans h82) (by decide)
                        | exact absurd (hg96.symm.trans hg104) (by decide)
                        | (obtain ⟨k1, rfl⟩ := Option.isSome_iff_exists.1 hg72
                           first
                           | (rw [askK_clash hgood (by omega) hfk.symm (fun h => h70 (congrArg str h))]; exact ⟨_, _, rfl, Bs_nil _, Bs_nil _, rfl⟩)
                           | (rw [askK_again hgood (by omega) hfk.symm (Classical.byContradiction fun h => h70 fun h9 => h (str_inj.1 h9))]; exact ⟨_, _, rfl, hA, hB, rfl⟩))
                        | (obtain rfl : fk = none := by simpa using hg72
                           have e9 := askK_two (e := e) hgood (by omega) hfk.symm hgk
                           first
                           | (rw [if_pos ⟨by simpa using hg89, h85⟩] at e9; rw [e9]; exact ⟨_, _, rfl, Bs_nil _, Bs_nil _, rfl⟩)
                           | (have h9 : ¬ (n.undo = false ∧ gk.isSome = true) := by
                                rintro ⟨h1, h2⟩
                                first
                                | (rw [h2] at h85; cases h85; done)
                                | (rw [h1] at hg89; cases hg89; done)
                              rw [if_neg h9] at e9
                              first
                              | (rw [if_pos ⟨hg96, .inl (by simpa using h93)⟩] at e9; rw [e9]; exact ⟨_, _, rfl, Bs_nil _, Bs_nil _, rfl⟩)
                              | (rw [if_pos ⟨hg104, .inr h101⟩] at e9; rw [e9]; exact ⟨_, _, rfl, Bs_nil _, Bs_nil _, rfl⟩)
                              | (rw [if_neg (by
                                  rintro ⟨h1, h2⟩
                                  first
                                  | (rw [h1] at hg96; cases hg96; done)
                                  | (rw [h1] at hg104; cases hg104; done)
                                  | (rcases h2 with h2 | h2
                                     · rw [h2] at h93; cases h93
                                     · exact h101 h2))] at e9; rw [e9]; exact ⟨_, _, rfl, Bs_nil _, Bs_nil _, rfl⟩)))
                    · refine WL.gn (dj := 104) rfl rfl rfl rfl ?_
                      refine WL.gn (dj := 104) rfl rfl rfl rfl ?_
                      refine WL.gn (dj := 104) rfl rfl rfl rfl ?_
                      refine WL.y rfl (Yd.pickF rfl rfl) ?_
                      refine WL.y rfl (Yd.assign rfl) ?_
                      refine WL.nil ?_
                      refine DN.then_normal ?_
                      refine WC.no rfl ?_
                      refine WC.skip ?_
                      refine DN.block_normal ?_
                      refine DN.then_normal ?_
                      refine WC.seq ?_
                      refine WC.region ?_
                      refine WL.y rfl (Yd.buildL (pl := [(0, 1), (1, 1), (2, 1), (3, 1), (4, 1), (5, 1)]) (zs := [.int .u32 0, .int .i64 0, .bool false, .slice none 0 0, .int .i64 0, .slice none 0 0]) (parts := []) (vs := []) (cells := [.int .u32 0, .int .i64 0, .bool false, .slice none 0 0, .int .i64 0, .slice none 0 0]) kr_ kr_ rfl rfl) ?_
                      refine WL.y rfl (Yd.assign rfl) ?_
                      refine WL.s (Hd.storeAll (n := 6) kr_ rfl rfl (by rfl) one_ fr_ (by rfl) ⟨rfl, ?_⟩)
                      refine WL.y rfl (Yd.assign rfl) ?_
                      refine WL.nil ?_
                      refine DN.then_normal ?_
                      refine WC.ret ?_
                      refine DN.retTCT (s := 6) (H) Try.results25 kr_ rfl rfl rfl mem_ (by rfl) sp_ ?_
                      first
                      | (rw [askK_arg hbad]; exact ⟨_, _, rfl, Bs_nil _, Bs_nil _, rfl⟩)
                      | (rw [askK_old hgood (by omega)]; exact ⟨_, _, rfl, Bs_nil _, Bs_nil _, rfl⟩)
                      | exact absurd (hg72.symm.trans h82) (by decide)
                      | exact absurd (hg96.symm.trans hg104) (by decide)
                      | (obtain ⟨k1, rfl⟩ := Option.isSome_iff_exists.1 hg72
                         first
                         | (rw [askK_clash hgood (by omega) hfk.symm (fun h => h70 (congrArg str h))]; exact ⟨_, _, rfl, Bs_nil _, Bs_nil _, rfl⟩)
                         | (rw [askK_again hgood (by omega) hfk.symm (Classical.byContradiction fun h => h70 fun h9 => h (str_inj.1 h9))]; exact ⟨_, _, rfl, hA, hB, rfl⟩))
                      | (obtain rfl : fk = none := by simpa using hg72
                         have e9 := askK_two (e := e) hgood (by omega) hfk.symm hgk
                         first
                         | (rw [if_pos ⟨by simpa using hg89, h85⟩] at e9; rw [e9]; exact ⟨_, _, rfl, Bs_nil _, Bs_nil _, rfl⟩)
                         | (have h9 : ¬ (n.undo = false ∧ gk.isSome = true) := by
                              rintro ⟨h1, h2⟩
                              first
                              | (rw [h2] at h85; cases h85; done)
                              | (rw [h1] at hg89; cases hg89; done)
                            rw [if_neg h9] at e9
                            first
                            | (rw [if_pos ⟨hg96, .inl (by simpa using h93)⟩] at e9; rw [e9]; exact ⟨_, _, rfl, Bs_nil _, Bs_nil _, rfl⟩)
                            | (rw [if_pos ⟨hg104, .inr h101⟩] at e9; rw [e9]; exact ⟨_, _, rfl, Bs_nil _, Bs_nil _, rfl⟩)
                            | (rw [if_neg (by
                                rintro ⟨h1, h2⟩
                                first
                                | (rw [h1] at hg96; cases hg96; done)
                                | (rw [h1] at hg104; cases hg104; done)
                                | (rcases h2 with h2 | h2
                                   · rw [h2] at h93; cases h93
                                   · exact h101 h2))] at e9; rw [e9]; exact ⟨_, _, rfl, Bs_nil _, Bs_nil _, rfl⟩)))
              · refine WL.gn (dj := 89) rfl rfl rfl rfl ?_
                refine WL.y rfl (Yd.pickF rfl rfl) ?_
                refine WL.y rfl (Yd.assign rfl) ?_
                refine WL.nil ?_
                refine DN.then_normal ?_
                refine WC.no rfl ?_
                refine WC.seq ?_
                refine WC.region ?_
                refine WL.y rfl (Yd.fieldAddr (k := 7) kr_ rfl) ?_
                refine WL.h rfl (Hd.load1 kr_ rfl mem_ (by rfl) ⟨_, rfl, ?_⟩)
                refine WL.y rfl (Yd.move rfl) ?_
                refine WL.part (t := 96) rfl (fun hg96 => ?_) (fun hg96 => ?_)
                · refine WL.gy (dj := 96) rfl rfl rfl (Yd.move rfl) ?_
                  refine WL.gy (dj := 96) rfl rfl rfl (Yd.notB rfl) ?_
                  refine WL.y rfl (Yd.pickT rfl rfl) ?_
                  refine WL.y rfl (Yd.assign rfl) ?_
                  refine WL.nil ?_
                  refine DN.then_normal ?_
                  refine WC.cond rfl (fun h93 => ?_) (fun h93 => ?_)
                  · refine WC.seq ?_
                    refine WC.region ?_
                    refine WL.y rfl (Yd.buildL (pl := [(0, 1), (1, 1), (2, 1), (3, 1), (4, 1), (5, 1)]) (zs := [.int .u32 0, .int .i64 0, .bool false, .slice none 0 0, .int .i64 0, .slice none 0 0]) (parts := []) (vs := []) (cells := [.int .u32 0, .int .i64 0, .bool false, .slice none 0 0, .int .i64 0, .slice none 0 0]) kr_ kr_ rfl rfl) ?_
                    refine WL.y rfl (Yd.assign rfl) ?_
                    refine WL.s (Hd.storeAll (n := 6) kr_ rfl rfl (by rfl) one_ fr_ (by rfl) ⟨rfl, ?_⟩)
                    refine WL.y rfl (Yd.assign rfl) ?_
                    refine WL.nil ?_
                    refine DN.then_normal ?_
                    refine WC.ret ?_
                    refine DN.block_ret ?_
                    refine DN.then_ret ?_
                    refine DN.retTCT (s := 6) (H) Try.results25 kr_ rfl rfl rfl mem_ (by rfl) sp_ ?_
                    first
                    | (rw [askK_arg hbad]; exact ⟨_, _, rfl, Bs_nil _, Bs_nil _, rfl⟩)
                    | (rw [askK_old hgood (by omega)]; exact ⟨_, _, rfl, Bs_nil _, Bs_nil _, rfl⟩)
                    | exact absurd (hg72.symm.trans h82) (by decide)
                    | exact absurd (hg96.symm.trans hg104) (by decide)
                    | (obtain ⟨k1, rfl⟩ := Option.isSome_iff_exists.1 hg72
                       first
                       | (rw [askK_clash hgood (by omega) hfk.symm (fun h => h70 (congrArg str h))]; exact ⟨_, _, rfl, Bs_nil _, Bs_nil _, rfl⟩)
                       | (rw [askK_again hgood (by omega) hfk.symm (Classical.byContradiction fun h => h70 fun h9 => h (str_inj.1 h9))]; exact ⟨_, _, rfl, hA, hB, rfl⟩))
                    | (obtain rfl : fk = none := by simpa using hg72
                       have e9 := askK_two (e := e) hgood (by omega) hfk.symm hgk
                       first
                       | (rw [if_pos ⟨by simpa using hg89, h85⟩] at e9; rw [e9]; exact ⟨_, _, rfl, Bs_nil _, Bs_nil _, rfl⟩)
                       | (have h9 : ¬ (n.undo = false ∧ gk.isSome = true) := by
                            rintro ⟨h1, h2⟩
                            first
                            | (rw [h2] at h85; cases h85; done)
                            | (rw [h1] at hg89; cases hg89; done)
                          rw [if_neg h9] at e9
                          first
                          | (rw [if_pos ⟨hg96, .inl (by simpa using h93)⟩] at e9; rw [e9]; exact ⟨_, _, rfl, Bs_nil _, Bs_nil _, rfl⟩)
                          | (rw [if_pos ⟨hg104, .inr h101⟩] at e9; rw [e9]; exact ⟨_, _, rfl, Bs_nil _, Bs_nil _, rfl⟩)
                          | (rw [if_neg (by
                              rintro ⟨h1, h2⟩
                              first
                              | (rw [h1] at hg96; cases hg96; done)
                              | (rw [h1] at hg104; cases hg104; done)
                              | (rcases h2 with h2 | h2
                                 · rw [h2] at h93; cases h93
                                 · exact h101 h2))] at e9; rw [e9]; exact ⟨_, _, rfl, Bs_nil _, Bs_nil _, rfl⟩)))
                  · refine WC.seq ?_
                    refine WC.region ?_
                    refine WL.y rfl (Yd.fieldAddr (k := 7) kr_ rfl) ?_
                    refine WL.h rfl (Hd.load1 kr_ rfl mem_ (by rfl) ⟨_, rfl, ?_⟩)
                    refine WL.y rfl (Yd.move rfl) ?_
                    refine WL.part (t := 104) rfl (fun hg104 => ?_) (fun hg104 => ?_)
                    · refine WL.gy (dj := 104) rfl rfl rfl (Yd.fieldAddr (k := 4) kr_ rfl) ?_
                      refine WL.gh (dj := 104) rfl rfl rfl (Hd.load1 kr_ rfl mem_ (by rfl) ⟨_, rfl, ?_⟩)
                      refine WL.gy (dj := 104) rfl rfl rfl (Yd.eql rfl rfl) ?_
                      refine WL.y rfl (Yd.pickT rfl rfl) ?_
                      refine WL.y rfl (Yd.assign rfl) ?_
                      refine WL.nil ?_
                      refine DN.then_normal ?_
                      refine WC.ite rfl (fun h101 => ?_) (fun h101 => ?_)
                      · refine WC.seq ?_
                        refine WC.region ?_
                        refine WL.y rfl (Yd.buildL (pl := [(0, 1), (1, 1), (2, 1), (3, 1), (4, 1), (5, 1)]) (zs := [.int .u32 0, .int .i64 0, .bool false, .slice none 0 0, .int .i64 0, .slice none 0 0]) (parts := []) (vs := []) (cells := [.int .u32 0, .int .i64 0, .bool false, .slice none 0 0, .int .i64 0, .slice none 0 0]) kr_ kr_ rfl rfl) ?_
                        refine WL.y rfl (Yd.assign rfl) ?_
                        refine WL.s (Hd.storeAll (n := 6) kr_ rfl rfl (by rfl) one_ fr_ (by rfl) ⟨rfl, ?_⟩)
                        refine WL.y rfl (Yd.assign rfl) ?_
                        refine WL.nil ?_
                        refine DN.then_normal ?_
                        refine WC.ret ?_
                        refine DN.block_ret ?_
                        refine DN.then_ret ?_
                        refine DN.retTCT (s := 6) (H) Try.results25 kr_ rfl rfl rfl mem_ (by rfl) sp_ ?_
                        first
                        | (rw [askK_arg hbad]; exact ⟨_, _, rfl, Bs_nil _, Bs_nil _, rfl⟩)
                        | (rw [askK_old hgood (by omega)]; exact ⟨_, _, rfl, Bs_nil _, Bs_nil _, rfl⟩)
                        | exact absurd (hg72.symm.trans h82) (by decide)
                        | exact absurd (hg96.symm.trans hg104) (by decide)
                        | (obtain ⟨k1, rfl⟩ := Option.isSome_iff_exists.1 hg72
                           first
                           | (rw [askK_clash hgood (by omega) hfk.symm (fun h => h70 (congrArg str h))]; exact ⟨_, _, rfl, Bs_nil _, Bs_nil _, rfl⟩)
                           | (rw [askK_again hgood (by omega) hfk.symm (Classical.byContradiction fun h => h70 fun h9 => h (str_inj.1 h9))]; exact ⟨_, _, rfl, hA, hB, rfl⟩))
                        | (obtain rfl : fk = none := by simpa using hg72
                           have e9 := askK_two (e := e) hgood (by omega) hfk.symm hgk
                           first
                           | (rw [if_pos ⟨by simpa using hg89, h85⟩] at e9; rw [e9]; exact ⟨_, _, rfl, Bs_nil _, Bs_nil _, rfl⟩)
                           | (have h9 : ¬ (n.undo = false ∧ gk.isSome = true) := by
                                rintro ⟨h1, h2⟩
                                first
                                | (rw [h2] at h85; cases h85; done)
                                | (rw [h1] at hg89; cases hg89; done)
                              rw [if_neg h9] at e9
                              first
                              | (rw [if_pos ⟨hg96, .inl (by simpa using h93)⟩] at e9; rw [e9]; exact ⟨_, _, rfl, Bs_nil _, Bs_nil _, rfl⟩)
                              | (rw [if_pos ⟨hg104, .inr h101⟩] at e9; rw [e9]; exact ⟨_, _, rfl, Bs_nil _, Bs_nil _, rfl⟩)
                              | (rw [if_neg (by
                                  rintro ⟨h1, h2⟩
                                  first
                                  | (rw [h1] at hg96; cases hg96; done)
                                  | (rw [h1] at hg104; cases hg104; done)
                                  | (rcases h2 with h2 | h2
                                     · rw [h2] at h93; cases h93
                                     · exact h101 h2))] at e9; rw [e9]; exact ⟨_, _, rfl, Bs_nil _, Bs_nil _, rfl⟩)))
                      · refine WC.skip ?_
                        refine DN.block_normal ?_
                        refine DN.then_normal ?_
                        refine WC.seq ?_
                        refine WC.region ?_
                        refine WL.y rfl (Yd.buildL (pl := [(0, 1), (1, 1), (2, 1), (3, 1), (4, 1), (5, 1)]) (zs := [.int .u32 0, .int .i64 0, .bool false, .slice none 0 0, .int .i64 0, .slice none 0 0]) (parts := []) (vs := []) (cells := [.int .u32 0, .int .i64 0, .bool false, .slice none 0 0, .int .i64 0, .slice none 0 0]) kr_ kr_ rfl rfl) ?_
                        refine WL.y rfl (Yd.assign rfl) ?_
                        refine WL.s (Hd.storeAll (n := 6) kr_ rfl rfl (by rfl) one_ fr_ (by rfl) ⟨rfl, ?_⟩)
                        refine WL.y rfl (Yd.assign rfl) ?_
                        refine WL.nil ?_
                        refine DN.then_normal ?_
                        refine WC.ret ?_
                        refine DN.retTCT (s := 6) (H) Try.results25 kr_ rfl rfl rfl mem_ (by rfl) sp_ ?_
                        first
                        | (rw [askK_arg hbad]; exact ⟨_, _, rfl, Bs_nil _, Bs_nil _, rfl⟩)
                        | (rw [askK_old hgood (by omega)]; exact ⟨_, _, rfl, Bs_nil _, Bs_nil _, rfl⟩)
                        | exact absurd (hg72.symm.trans h82) (by decide)
                        | exact absurd (hg96.symm.trans hg104) (by decide)
                        | (obtain ⟨k1, rfl⟩ := Option.isSome_iff_exists.1 hg72
                           first
                           | (rw [askK_clash hgood (by omega) hfk.symm (fun h => h70 (congrArg str h))]; exact ⟨_, _, rfl, Bs_nil _, Bs_nil _, rfl⟩)
                           | (rw [askK_again hgood (by omega) hfk.symm (Classical.byContradiction fun h => h70 fun h9 => h (str_inj.1 h9))]; exact ⟨_, _, rfl, hA, hB, rfl⟩))
                        | (obtain rfl : fk = none := by simpa using hg72
                           have e9 := askK_two (e := e) hgood (by omega) hfk.symm hgk
                           first
                           | (rw [if_pos ⟨by simpa using hg89, h85⟩] at e9; rw [e9]; exact ⟨_, _, rfl, Bs_nil _, Bs_nil _, rfl⟩)
                           | (have h9 : ¬ (n.undo = false ∧ gk.isSome = true) := by
                                rintro ⟨h1, h2⟩
                                first
                                | (rw [h2] at h85; cases h85; done)
                                | (rw [h1] at hg89; cases hg89; done)
                              rw [if_neg h9] at e9
                              first
                              | (rw [if_pos ⟨hg96, .inl (by simpa using h93)⟩] at e9; rw [e9]; exact ⟨_, _, rfl, Bs_nil _, Bs_nil _, rfl⟩)
                              | (rw [if_pos ⟨hg104, .inr h101⟩] at e9; rw [e9]; exact ⟨_, _, rfl, Bs_nil _, Bs_nil _, rfl⟩)
                              | (rw [if_neg (by
                                  rintro ⟨h1, h2⟩
                                  first
                                  | (rw [h1] at hg96; cases hg96; done)
                                  | (rw [h1] at hg104; cases hg104; done)
                                  | (rcases h2 with h2 | h2
                                     · rw [h2] at h93; cases h93
                                     · exact h101 h2))] at e9; rw [e9]; exact ⟨_, _, rfl, Bs_nil _, Bs_nil _, rfl⟩)))
                    · refine WL.gn (dj := 104) rfl rfl rfl rfl ?_
                      refine WL.gn (dj := 104) rfl rfl rfl rfl ?_
                      refine WL.gn (dj := 104) rfl rfl rfl rfl ?_
                      refine WL.y rfl (Yd.pickF rfl rfl) ?_
                      refine WL.y rfl (Yd.assign rfl) ?_
                      refine WL.nil ?_
                      refine DN.then_normal ?_
                      refine WC.no rfl ?_
                      refine WC.skip ?_
                      refine DN.block_normal ?_
                      refine DN.then_normal ?_
                      refine WC.seq ?_
                      refine WC.region ?_
                      refine WL.y rfl (Yd.buildL (pl := [(0, 1), (1, 1), (2, 1), (3, 1), (4, 1), (5, 1)]) (zs := [.int .u32 0, .int .i64 0, .bool false, .slice none 0 0, .int .i64 0, .slice none 0 0]) (parts := []) (vs := []) (cells := [.int .u32 0, .int .i64 0, .bool false, .slice none 0 0, .int .i64 0, .slice none 0 0]) kr_ kr_ rfl rfl) ?_
                      refine WL.y rfl (Yd.assign rfl) ?_
                      refine WL.s (Hd.storeAll (n := 6) kr_ rfl rfl (by rfl) one_ fr_ (by rfl) ⟨rfl, ?_⟩)
                      refine WL.y rfl (Yd.assign rfl) ?_
                      refine WL.nil ?_
                      refine DN.then_normal ?_
                      refine WC.ret ?_
                      refine DN.retTCT (s := 6) (H) Try.results25 kr_ rfl rfl rfl mem_ (by rfl) sp_ ?_
                      first
                      | (rw [askK_arg hbad]; exact ⟨_, _, rfl, Bs_nil _, Bs_nil _, rfl⟩)
                      | (rw [askK_old hgood (by omega)]; exact ⟨_, _, rfl, Bs_nil _, Bs_nil _, rfl⟩)
                      | exact absurd (hg72.symm.trans h82) (by decide)
                      | exact absurd (hg96.symm.trans hg104) (by decide)
                      | (obtain ⟨k1, rfl⟩ := Option.isSome_iff_exists.1 hg72
                         first
                         | (rw [askK_clash hgood (by omega) hfk.symm (fun h => h70 (congrArg str h))]; exact ⟨_, _, rfl, Bs_nil _, Bs_nil _, rfl⟩)
                         | (rw [askK_again hgood (by omega) hfk.symm (Classical.byContradiction fun h => h70 fun h9 => h (str_inj.1 h9))]; exact ⟨_, _, rfl, hA, hB, rfl⟩))
                      | (obtain rfl : fk = none := by simpa using hg72
                         have e9 := askK_two (e := e) hgood (by omega) hfk.symm hgk
                         first
                         | (rw [if_pos ⟨by simpa using hg89, h85⟩] at e9; rw [e9]; exact ⟨_, _, rfl, Bs_nil _, Bs_nil _, rfl⟩)
                         | (have h9 : ¬ (n.undo = false ∧ gk.isSome = true) := by
                              rintro ⟨h1, h2⟩
                              first
                              | (rw [h2] at h85; cases h85; done)
                              | (rw [h1] at hg89; cases hg89; done)
                            rw [if_neg h9] at e9
                            first
                            | (rw [if_pos ⟨hg96, .inl (by simpa using h93)⟩] at e9; rw [e9]; exact ⟨_, _, rfl, Bs_nil _, Bs_nil _, rfl⟩)
                            | (rw [if_pos ⟨hg104, .inr h101⟩] at e9; rw [e9]; exact ⟨_, _, rfl, Bs_nil _, Bs_nil _, rfl⟩)
                            | (rw [if_neg (by
                                rintro ⟨h1, h2⟩
                                first
                                | (rw [h1] at hg96; cases hg96; done)
                                | (rw [h1] at hg104; cases hg104; done)
                                | (rcases h2 with h2 | h2
                                   · rw [h2] at h93; cases h93
                                   · exact h101 h2))] at e9; rw [e9]; exact ⟨_, _, rfl, Bs_nil _, Bs_nil _, rfl⟩)))
                · refine WL.gn (dj := 96) rfl rfl rfl rfl ?_
                  refine WL.gn (dj := 96) rfl rfl rfl rfl ?_
                  refine WL.y rfl (Yd.pickF rfl rfl) ?_
                  refine WL.y rfl (Yd.assign rfl) ?_
                  refine WL.nil ?_
                  refine DN.then_normal ?_
                  refine WC.no rfl ?_
                  refine WC.seq ?_
                  refine WC.region ?_
                  refine WL.y rfl (Yd.fieldAddr (k := 7) kr_ rfl) ?_
                  refine WL.h rfl (Hd.load1 kr_ rfl mem_ (by rfl) ⟨_, rfl, ?_⟩)
                  refine WL.y rfl (Yd.move rfl) ?_
                  refine WL.part (t := 104) rfl (fun hg104 => ?_) (fun hg104 => ?_)
                  · refine WL.gy (dj := 104) rfl rfl rfl (Yd.fieldAddr (k := 4) kr_ rfl) ?_
                    refine WL.gh (dj := 104) rfl rfl rfl (Hd.load1 kr_ rfl mem_ (by rfl) ⟨_, rfl, ?_⟩)
                    refine WL.gy (dj := 104) rfl rfl rfl (Yd.eql rfl rfl) ?_
                    refine WL.y rfl (Yd.pickT rfl rfl) ?_
                    refine WL.y rfl (Yd.assign rfl) ?_
                    refine WL.nil ?_
                    refine DN.then_normal ?_
                    refine WC.ite rfl (fun h101 => ?_) (fun h101 => ?_)
                    · refine WC.seq ?_
                      refine WC.region ?_
                      refine WL.y rfl (Yd.buildL (pl := [(0, 1), (1, 1), (2, 1), (3, 1), (4, 1), (5, 1)]) (zs := [.int .u32 0, .int .i64 0, .bool false, .slice none 0 0, .int .i64 0, .slice none 0 0]) (parts := []) (vs := []) (cells := [.int .u32 0, .int .i64 0, .bool false, .slice none 0 0, .int .i64 0, .slice none 0 0]) kr_ kr_ rfl rfl) ?_
                      refine WL.y rfl (Yd.assign rfl) ?_
                      refine WL.s (Hd.storeAll (n := 6) kr_ rfl rfl (by rfl) one_ fr_ (by rfl) ⟨rfl, ?_⟩)
                      refine WL.y rfl (Yd.assign rfl) ?_
                      refine WL.nil ?_
                      refine DN.then_normal ?_
                      refine WC.ret ?_
                      refine DN.block_ret ?_
                      refine DN.then_ret ?_
                      refine DN.retTCT (s := 6) (H) Try.results25 kr_ rfl rfl rfl mem_ (by rfl) sp_ ?_
                      first
                      | (rw [askK_arg hbad]; exact ⟨_, _, rfl, Bs_nil _, Bs_nil _, rfl⟩)
                      | (rw [askK_old hgood (by omega)]; exact ⟨_, _, rfl, Bs_nil _, Bs_nil _, rfl⟩)
                      | exact absurd (hg72.symm.trans h82) (by decide)
                      | exact absurd (hg96.symm.trans hg104) (by decide)
                      | (obtain ⟨k1, rfl⟩ := Option.isSome_iff_exists.1 hg72
                         first
                         | (rw [askK_clash hgood (by omega) hfk.symm (fun h => h70 (congrArg str h))]; exact ⟨_, _, rfl, Bs_nil _, Bs_nil _, rfl⟩)
                         | (rw [askK_again hgood (by omega) hfk.symm (Classical.byContradiction fun h => h70 fun h9 => h (str_inj.1 h9))]; exact ⟨_, _, rfl, hA, hB, rfl⟩))
                      | (obtain rfl : fk = none := by simpa using hg72
                         have e9 := askK_two (e := e) hgood (by omega) hfk.symm hgk
                         first
                         | (rw [if_pos ⟨by simpa using hg89, h85⟩] at e9; rw [e9]; exact ⟨_, _, rfl, Bs_nil _, Bs_nil _, rfl⟩)
                         | (have h9 : ¬ (n.undo = false ∧ gk.isSome = true) := by
                              rintro ⟨h1, h2⟩
                              first
                              | (rw [h2] at h85; cases h85; done)
                              | (rw [h1] at hg89; cases hg89; done)
                            rw [if_neg h9] at e9
                            first
                            | (rw [if_pos ⟨hg96, .inl (by simpa using h93)⟩] at e9; rw [e9]; exact ⟨_, _, rfl, Bs_nil _, Bs_nil _, rfl⟩)
                            | (rw [if_pos ⟨hg104, .inr h101⟩] at e9; rw [e9]; exact ⟨_, _, rfl, Bs_nil _, Bs_nil _, rfl⟩)
                            | (rw [if_neg (by
                                rintro ⟨h1, h2⟩
                                first
                                | (rw [h1] at hg96; cases hg96; done)
                                | (rw [h1] at hg104; cases hg104; done)
                                | (rcases h2 with h2 | h2
                                   · rw [h2] at h93; cases h93
                                   · exact h101 h2))] at e9; rw [e9]; exact ⟨_, _, rfl, Bs_nil _, Bs_nil _, rfl⟩)))
                    · refine WC.skip ?_
                      refine DN.block_normal ?_
                      refine DN.then_normal ?_
                      refine WC.seq ?_
                      refine WC.region ?_
                      refine WL.y rfl (Yd.buildL (pl := [(0, 1), (1, 1), (2, 1), (3, 1), (4, 1), (5, 1)]) (zs := [.int .u32 0, .int .i64 0, .bool false, .slice none 0 0, .int .i64 0, .slice none 0 0]) (parts := []) (vs := []) (cells := [.int .u32 0, .int .i64 0, .bool false, .slice none 0 0, .int .i64 0, .slice none 0 0]) kr_ kr_ rfl rfl) ?_
                      refine WL.y rfl (Yd.assign rfl) ?_
                      refine WL.s (Hd.storeAll (n := 6) kr_ rfl rfl (by rfl) one_ fr_ (by rfl) ⟨rfl, ?_⟩)
                      refine WL.y rfl (Yd.assign rfl) ?_
                      refine WL.nil ?_
                      refine DN.then_normal ?_
                      refine WC.ret ?_
                      refine DN.retTCT (s := 6) (H) Try.results25 kr_ rfl rfl rfl mem_ (by rfl) sp_ ?_
                      first
                      | (rw [askK_arg hbad]; exact ⟨_, _, rfl, Bs_nil _, Bs_nil _, rfl⟩)
                      | (rw [askK_old hgood (by omega)]; exact ⟨_, _, rfl, Bs_nil _, Bs_nil _, rfl⟩)
                      | exact absurd (hg72.symm.trans h82) (by decide)
                      | exact absurd (hg96.symm.trans hg104) (by decide)
                      | (obtain ⟨k1, rfl⟩ := Option.isSome_iff_exists.1 hg72
                         first
                         | (rw [askK_clash hgood (by omega) hfk.symm (fun h => h70 (congrArg str h))]; exact ⟨_, _, rfl, Bs_nil _, Bs_nil _, rfl⟩)
                         | (rw [askK_again hgood (by omega) hfk.symm (Classical.byContradiction fun h => h70 fun h9 => h (str_inj.1 h9))]; exact ⟨_, _, rfl, hA, hB, rfl⟩))
                      | (obtain rfl : fk = none := by simpa using hg72
                         have e9 := askK_two (e := e) hgood (by omega) hfk.symm hgk
                         first
                         | (rw [if_pos ⟨by simpa using hg89, h85⟩] at e9; rw [e9]; exact ⟨_, _, rfl, Bs_nil _, Bs_nil _, rfl⟩)
                         | (have h9 : ¬ (n.undo = false ∧ gk.isSome = true) := by
                              rintro ⟨h1, h2⟩
                              first
                              | (rw [h2] at h85; cases h85; done)
                              | (rw [h1] at hg89; cases hg89; done)
                            rw [if_neg h9] at e9
                            first
                            | (rw [if_pos ⟨hg96, .inl (by simpa using h93)⟩] at e9; rw [e9]; exact ⟨_, _, rfl, Bs_nil _, Bs_nil _, rfl⟩)
                            | (rw [if_pos ⟨hg104, .inr h101⟩] at e9; rw [e9]; exact ⟨_, _, rfl, Bs_nil _, Bs_nil _, rfl⟩)
                            | (rw [if_neg (by
                                rintro ⟨h1, h2⟩
                                first
                                | (rw [h1] at hg96; cases hg96; done)
                                | (rw [h1] at hg104; cases hg104; done)
                                | (rcases h2 with h2 | h2
                                   · rw [h2] at h93; cases h93
                                   · exact h101 h2))] at e9; rw [e9]; exact ⟨_, _, rfl, Bs_nil _, Bs_nil _, rfl⟩)))
                  · refine WL.gn (dj := 104) rfl rfl rfl rfl ?_
                    refine WL.gn (dj := 104) rfl rfl rfl rfl ?_
                    refine WL.gn (dj := 104) rfl rfl rfl rfl ?_
                    refine WL.y rfl (Yd.pickF rfl rfl) ?_
                    refine WL.y rfl (Yd.assign rfl) ?_
                    refine WL.nil ?_
                    refine DN.then_normal ?_
                    refine WC.no rfl ?_
                    refine WC.skip ?_
                    refine DN.block_normal ?_
                    refine DN.then_normal ?_
                    refine WC.seq ?_
                    refine WC.region ?_
                    refine WL.y rfl (Yd.buildL (pl := [(0, 1), (1, 1), (2, 1), (3, 1), (4, 1), (5, 1)]) (zs := [.int .u32 0, .int .i64 0, .bool false, .slice none 0 0, .int .i64 0, .slice none 0 0]) (parts := []) (vs := []) (cells := [.int .u32 0, .int .i64 0, .bool false, .slice none 0 0, .int .i64 0, .slice none 0 0]) kr_ kr_ rfl rfl) ?_
                    refine WL.y rfl (Yd.assign rfl) ?_
                    refine WL.s (Hd.storeAll (n := 6) kr_ rfl rfl (by rfl) one_ fr_ (by rfl) ⟨rfl, ?_⟩)
                    refine WL.y rfl (Yd.assign rfl) ?_
                    refine WL.nil ?_
                    refine DN.then_normal ?_
                    refine WC.ret ?_
                    refine DN.retTCT (s := 6) (H) Try.results25 kr_ rfl rfl rfl mem_ (by rfl) sp_ ?_
                    first
                    | (rw [askK_arg hbad]; exact ⟨_, _, rfl, Bs_nil _, Bs_nil _, rfl⟩)
                    | (rw [askK_old hgood (by omega)]; exact ⟨_, _, rfl, Bs_nil _, Bs_nil _, rfl⟩)
                    | exact absurd (hg72.symm.trans h82) (by decide)
                    | exact absurd (hg96.symm.trans hg104) (by decide)
                    | (obtain ⟨k1, rfl⟩ := Option.isSome_iff_exists.1 hg72
                       first
                       | (rw [askK_clash hgood (by omega) hfk.symm (fun h => h70 (congrArg str h))]; exact ⟨_, _, rfl, Bs_nil _, Bs_nil _, rfl⟩)
                       | (rw [askK_again hgood (by omega) hfk.symm (Classical.byContradiction fun h => h70 fun h9 => h (str_inj.1 h9))]; exact ⟨_, _, rfl, hA, hB, rfl⟩))
                    | (obtain rfl : fk = none := by simpa using hg72
                       have e9 := askK_two (e := e) hgood (by omega) hfk.symm hgk
                       first
                       | (rw [if_pos ⟨by simpa using hg89, h85⟩] at e9; rw [e9]; exact ⟨_, _, rfl, Bs_nil _, Bs_nil _, rfl⟩)
                       | (have h9 : ¬ (n.undo = false ∧ gk.isSome = true) := by
                            rintro ⟨h1, h2⟩
                            first
                            | (rw [h2] at h85; cases h85; done)
                            | (rw [h1] at hg89; cases hg89; done)
                          rw [if_neg h9] at e9
                          first
                          | (rw [if_pos ⟨hg96, .inl (by simpa using h93)⟩] at e9; rw [e9]; exact ⟨_, _, rfl, Bs_nil _, Bs_nil _, rfl⟩)
                          | (rw [if_pos ⟨hg104, .inr h101⟩] at e9; rw [e9]; exact ⟨_, _, rfl, Bs_nil _, Bs_nil _, rfl⟩)
                          | (rw [if_neg (by
                              rintro ⟨h1, h2⟩
                              first
                              | (rw [h1] at hg96; cases hg96; done)
                              | (rw [h1] at hg104; cases hg104; done)
                              | (rcases h2 with h2 | h2
                                 · rw [h2] at h93; cases h93
                                 · exact h101 h2))] at e9; rw [e9]; exact ⟨_, _, rfl, Bs_nil _, Bs_nil _, rfl⟩)))
        · refine WL.gn (dj := 72) rfl rfl rfl rfl ?_
          refine WL.gn (dj := 72) rfl rfl rfl rfl ?_
          refine WL.gn (dj := 72) rfl rfl rfl rfl ?_
          refine WL.gn (dj := 72) rfl rfl rfl rfl ?_
          refine WL.gn (dj := 72) rfl rfl rfl rfl ?_
          refine WL.gn (dj := 72) rfl rfl rfl rfl ?_
          refine WL.gn (dj := 72) rfl rfl rfl rfl ?_
          refine WL.y rfl (Yd.pickF rfl rfl) ?_
          refine WL.y rfl (Yd.assign rfl) ?_
          refine WL.nil ?_
          refine DN.then_normal ?_
          refine WC.no rfl ?_
          refine WC.seq ?_
          refine WC.region ?_
          refine WL.y rfl (Yd.move rfl) ?_
          refine WL.y rfl (Yd.assign rfl) ?_
          refine WL.nil ?_
          refine DN.then_normal ?_
          refine WC.cond rfl (fun h82 => ?_) (fun h82 => ?_)
          · refine WC.seq ?_
            refine WC.draw 4 kr_ rfl ?_
            refine WA.y (i := 1) (NoPanic.then (NoPanic.block (NoPanic.then (NoPanic.body)))) rfl kr_ kr_ kr_ rfl (Yd.assign rfl) ?_
            refine WA.one (i := 0) kr_ ?_
            refine WO.h rfl Wt.none rfl (Hd.loadAll (n := 6) kr_ rfl mem_ (by rfl) ⟨_, rfl, ?_⟩)
            refine WA.one (i := 2) kr_ ?_
            refine WO.s rfl Wt.none (Hd.storeAll (n := 6) kr_ rfl rfl (by rfl) (kc_one rfl rfl) fr_ (by rfl) ⟨rfl, ?_⟩)
            refine WA.y (i := 3) (NoPanic.then (NoPanic.block (NoPanic.then (NoPanic.body)))) rfl kr_ kr_ kr_ rfl (Yd.assign rfl) ?_
            refine WA.done kr_ ?_
            refine DN.then_normal ?_
            refine WC.ret ?_
            refine DN.block_ret ?_
            refine DN.then_ret ?_
            refine DN.retTCT (s := 6) (H) Try.results25 kr_ rfl rfl rfl mem_ (by rfl) sp_ ?_
            first
            | (rw [askK_arg hbad]; exact ⟨_, _, rfl, Bs_nil _, Bs_nil _, rfl⟩)
            | (rw [askK_old hgood (by omega)]; exact ⟨_, _, rfl, Bs_nil _, Bs_nil _, rfl⟩)
            | exact absurd (hg72.symm.trans h82) (by decide)
            | exact absurd (hg96.symm.trans hg104) (by decide)
            | (obtain ⟨k1, rfl⟩ := Option.isSome_iff_exists.1 hg72
               first
               | (rw [askK_clash hgood (by omega) hfk.symm (fun h => h70 (congrArg str h))]; exact ⟨_, _, rfl, Bs_nil _, Bs_nil _, rfl⟩)
               | (rw [askK_again hgood (by omega) hfk.symm (Classical.byContradiction fun h => h70 fun h9 => h (str_inj.1 h9))]; exact ⟨_, _, rfl, hA, hB, rfl⟩))
            | (obtain rfl : fk = none := by simpa using hg72
               have e9 := askK_two (e := e) hgood (by omega) hfk.symm hgk
               first
               | (rw [if_pos ⟨by simpa using hg89, h85⟩] at e9; rw [e9]; exact ⟨_, _, rfl, Bs_nil _, Bs_nil _, rfl⟩)
               | (have h9 : ¬ (n.undo = false ∧ gk.isSome = true) := by
                    rintro ⟨h1, h2⟩
                    first
                    | (rw [h2] at h85; cases h85; done)
                    | (rw [h1] at hg89; cases hg89; done)
                  rw [if_neg h9] at e9
                  first
                  | (rw [if_pos ⟨hg96, .inl (by simpa using h93)⟩] at e9; rw [e9]; exact ⟨_, _, rfl, Bs_nil _, Bs_nil _, rfl⟩)
                  | (rw [if_pos ⟨hg104, .inr h101⟩] at e9; rw [e9]; exact ⟨_, _, rfl, Bs_nil _, Bs_nil _, rfl⟩)
                  | (rw [if_neg (by
                      rintro ⟨h1, h2⟩
                      first
                      | (rw [h1] at hg96; cases hg96; done)
                      | (rw [h1] at hg104; cases hg104; done)
                      | (rcases h2 with h2 | h2
                         · rw [h2] at h93; cases h93
                         · exact h101 h2))] at e9; rw [e9]; exact ⟨_, _, rfl, Bs_nil _, Bs_nil _, rfl⟩)))
          · refine WC.seq ?_
            refine WC.region ?_
            refine WL.y rfl (Yd.fieldAddr (k := 7) kr_ rfl) ?_
            refine WL.h rfl (Hd.load1 kr_ rfl mem_ (by rfl) ⟨_, rfl, ?_⟩)
            refine WL.y rfl (Yd.notB rfl) ?_
            refine WL.y rfl (Yd.move rfl) ?_
            refine WL.part (t := 89) rfl (fun hg89 => ?_) (fun hg89 => ?_)
            · refine WL.gy (dj := 89) rfl rfl rfl (Yd.move rfl) ?_
              refine WL.y rfl (Yd.pickT rfl rfl) ?_
              refine WL.y rfl (Yd.assign rfl) ?_
              refine WL.nil ?_
              refine DN.then_normal ?_
              refine WC.cond rfl (fun h85 => ?_) (fun h85 => ?_)
              · refine WC.seq ?_
                refine WC.region ?_
                refine WL.y rfl (Yd.buildL (pl := [(0, 1), (1, 1), (2, 1), (3, 1), (4, 1), (5, 1)]) (zs := [.int .u32 0, .int .i64 0, .bool false, .slice none 0 0, .int .i64 0, .slice none 0 0]) (parts := []) (vs := []) (cells := [.int .u32 0, .int .i64 0, .bool false, .slice none 0 0, .int .i64 0, .slice none 0 0]) kr_ kr_ rfl rfl) ?_
                refine WL.y rfl (Yd.assign rfl) ?_
                refine WL.s (Hd.storeAll (n := 6) kr_ rfl rfl (by rfl) one_ fr_ (by rfl) ⟨rfl, ?_⟩)
                refine WL.y rfl (Yd.assign rfl) ?_
                refine WL.nil ?_
                refine DN.then_normal ?_
                refine WC.ret ?_
                refine DN.block_ret ?_
                refine DN.then_ret ?_
                refine DN.retTCT (s := 6) (H) Try.results25 kr_ rfl rfl rfl mem_ (by rfl) sp_ ?_
                first
                | (rw [askK_arg hbad]; exact ⟨_, _, rfl, Bs_nil _, Bs_nil _, rfl⟩)
                | (rw [askK_old hgood (by omega)]; exact ⟨_, _, rfl, Bs_nil _, Bs_nil _, rfl⟩)
                | exact absurd (hg72.symm.trans h82) (by decide)
                | exact absurd (hg96.symm.trans hg104) (by decide)
                | (obtain ⟨k1, rfl⟩ := Option.isSome_iff_exists.1 hg72
                   first
                   | (rw [askK_clash hgood (by omega) hfk.symm (fun h => h70 (congrArg str h))]; exact ⟨_, _, rfl, Bs_nil _, Bs_nil _, rfl⟩)
                   | (rw [askK_again hgood (by omega) hfk.symm (Classical.byContradiction fun h => h70 fun h9 => h (str_inj.1 h9))]; exact ⟨_, _, rfl, hA, hB, rfl⟩))
                | (obtain rfl : fk = none := by simpa using hg72
                   have e9 := askK_two (e := e) hgood (by omega) hfk.symm hgk
                   first
                   | (rw [if_pos ⟨by simpa using hg89, h85⟩] at e9; rw [e9]; exact ⟨_, _, rfl, Bs_nil _, Bs_nil _, rfl⟩)
                   | (have h9 : ¬ (n.undo = false ∧ gk.isSome = true) := by
                        rintro ⟨h1, h2⟩
                        first
                        | (rw [h2] at h85; cases h85; done)
                        | (rw [h1] at hg89; cases hg89; done)
                      rw [if_neg h9] at e9
                      first
                      | (rw [if_pos ⟨hg96, .inl (by simpa using h93)⟩] at e9; rw [e9]; exact ⟨_, _, rfl, Bs_nil _, Bs_nil _, rfl⟩)
                      | (rw [if_pos ⟨hg104, .inr h101⟩] at e9; rw [e9]; exact ⟨_, _, rfl, Bs_nil _, Bs_nil _, rfl⟩)
                      | (rw [if_neg (by
                          rintro ⟨h1, h2⟩
                          first
                          | (rw [h1] at hg96; cases hg96; done)
                          | (rw [h1] at hg104; cases hg104; done)
                          | (rcases h2 with h2 | h2
                             · rw [h2] at h93; cases h93
                             · exact h101 h2))] at e9; rw [e9]; exact ⟨_, _, rfl, Bs_nil _, Bs_nil _, rfl⟩)))
              · refine WC.seq ?_
                refine WC.region ?_
                refine WL.y rfl (Yd.fieldAddr (k := 7) kr_ rfl) ?_
                refine WL.h rfl (Hd.load1 kr_ rfl mem_ (by rfl) ⟨_, rfl, ?_⟩)
                refine WL.y rfl (Yd.move rfl) ?_
                refine WL.part (t := 96) rfl (fun hg96 => ?_) (fun hg96 => ?_)
                · refine WL.gy (dj := 96) rfl rfl rfl (Yd.move rfl) ?_
                  refine WL.gy (dj := 96) rfl rfl rfl (Yd.notB rfl) ?_
                  refine WL.y rfl (Yd.pickT rfl rfl) ?_
                  refine WL.y rfl (Yd.assign rfl) ?_
                  refine WL.nil ?_
                  refine DN.then_normal ?_
                  refine WC.cond rfl (fun h93 => ?_) (fun h93 => ?_)
                  · refine WC.seq ?_
                    refine WC.region ?_
                    refine WL.y rfl (Yd.buildL (pl := [(0, 1), (1, 1), (2, 1), (3, 1), (4, 1), (5, 1)]) (zs := [.int .u32 0, .int .i64 0, .bool false, .slice none 0 0, .int .i64 0, .slice none 0 0]) (parts := []) (vs := []) (cells := [.int .u32 0, .int .i64 0, .bool false, .slice none 0 0, .int .i64 0, .slice none 0 0]) kr_ kr_ rfl rfl) ?_
                    refine WL.y rfl (Yd.assign rfl) ?_
                    refine WL.s (Hd.storeAll (n := 6) kr_ rfl rfl (by rfl) one_ fr_ (by rfl) ⟨rfl, ?_⟩)
                    refine WL.y rfl (Yd.assign rfl) ?_
                    refine WL.nil ?_
                    refine DN.then_normal ?_
                    refine WC.ret ?_
                    refine DN.block_ret ?_
                    refine DN.then_ret ?_
                    refine DN.retTCT (s := 6) (H) Try.results25 kr_ rfl rfl rfl mem_ (by rfl) sp_ ?_
                    first
                    | (rw [askK_arg hbad]; exact ⟨_, _, rfl, Bs_nil _, Bs_nil _, rfl⟩)
                    | (rw [askK_old hgood (by omega)]; exact ⟨_, _, rfl, Bs_nil _, Bs_nil _, rfl⟩)
                    | exact absurd (hg72.symm.trans h82) (by decide)
                    | exact absurd (hg96.symm.trans hg104) (by decide)
                    | (obtain ⟨k1, rfl⟩ := Option.isSome_iff_exists.1 hg72
                       first
                       | (rw [askK_clash hgood (by omega) hfk.symm (fun h => h70 (congrArg str h))]; exact ⟨_, _, rfl, Bs_nil _, Bs_nil _, rfl⟩)
                       | (rw [askK_again hgood (by omega) hfk.symm (Classical.byContradiction fun h => h70 fun h9 => h (str_inj.1 h9))]; exact ⟨_, _, rfl, hA, hB, rfl⟩))
                    | (obtain rfl : fk = none := by simpa using hg72
                       have e9 := askK_two (e := e) hgood (by omega) hfk.symm hgk
                       first
                       | (rw [if_pos ⟨by simpa using hg89, h85⟩] at e9; rw [e9]; exact ⟨_, _, rfl, Bs_nil _, Bs_nil _, rfl⟩)
                       | (have h9 : ¬ (n.undo = false ∧ gk.isSome = true) := by
                            rintro ⟨h1, h2⟩
                            first
                            | (rw [h2] at h85; cases h85; done)
                            | (rw [h1] at hg89; cases hg89; done)
                          rw [if_neg h9] at e9
                          first
                          | (rw [if_pos ⟨hg96, .inl (by simpa using h93)⟩] at e9; rw [e9]; exact ⟨_, _, rfl, Bs_nil _, Bs_nil _, rfl⟩)
                          | (rw [if_pos ⟨hg104, .inr h101⟩] at e9; rw [e9]; exact ⟨_, _, rfl, Bs_nil _, Bs_nil _, rfl⟩)
                          | (rw [if_neg (by
                              rintro ⟨h1, h2⟩
                              first
                              | (rw [h1] at hg96; cases hg96; done)
                              | (rw [h1] at hg104; cases hg104; done)
                              | (rcases h2 with h2 | h2
                                 · rw [h2] at h93; cases h93
                                 · exact h101 h2))] at e9; rw [e9]; exact ⟨_, _, rfl, Bs_nil _, Bs_nil _, rfl⟩)))
                  · refine WC.seq ?_
                    refine WC.region ?_
                    refine WL.y rfl (Yd.fieldAddr (k := 7) kr_ rfl) ?_
                    refine WL.h rfl (Hd.load1 kr_ rfl mem_ (by rfl) ⟨_, rfl, ?_⟩)
                    refine WL.y rfl (Yd.move rfl) ?_
                    refine WL.part (t := 104) rfl (fun hg104 => ?_) (fun hg104 => ?_)
                    · refine WL.gy (dj := 104) rfl rfl rfl (Yd.fieldAddr (k := 4) kr_ rfl) ?_
                      refine WL.gh (dj := 104) rfl rfl rfl (Hd.load1 kr_ rfl mem_ (by rfl) ⟨_, rfl, ?_⟩)
                      refine WL.gy (dj := 104) rfl rfl rfl (Yd.eql rfl rfl) ?_
                      refine WL.y rfl (Yd.pickT rfl rfl) ?_
                      refine WL.y rfl (Yd.assign rfl) ?_
                      refine WL.nil ?_
                      refine DN.then_normal ?_
                      refine WC.ite rfl (fun h101 => ?_) (fun h101 => ?_)
                      · refine WC.seq ?_
                        refine WC.region ?_
                        refine WL.y rfl (Yd.buildL (pl := [(0, 1), (1, 1), (2, 1), (3, 1), (4, 1), (5, 1)]) (zs := [.int .u32 0, .int .i64 0, .bool false, .slice none 0 0, .int .i64 0, .slice none 0 0]) (parts := []) (vs := []) (cells := [.int .u32 0, .int .i64 0, .bool false, .slice none 0 0, .int .i64 0, .slice none 0 0]) kr_ kr_ rfl rfl) ?_
                        refine WL.y rfl (Yd.assign rfl) ?_
                        refine WL.s (Hd.storeAll (n := 6) kr_ rfl rfl (by rfl) one_ fr_ (by rfl) ⟨rfl, ?_⟩)
                        refine WL.y rfl (Yd.assign rfl) ?_
                        refine WL.nil ?_
                        refine DN.then_normal ?_
                        refine WC.ret ?_
                        refine DN.block_ret ?_
                        refine DN.then_ret ?_
                        refine DN.retTCT (s := 6) (H) Try.results25 kr_ rfl rfl rfl mem_ (by rfl) sp_ ?_
                        first
                        | (rw [askK_arg hbad]; exact ⟨_, _, rfl, Bs_nil _, Bs_nil _, rfl⟩)
                        | (rw [askK_old hgood (by omega)]; exact ⟨_, _, rfl, Bs_nil _, Bs_nil _, rfl⟩)
                        | exact absurd (hg72.symm.trans h82) (by decide)
                        | exact absurd (hg96.symm.trans hg104) (by decide)
                        | (obtain ⟨k1, rfl⟩ := Option.isSome_iff_exists.1 hg72
                           first
                           | (rw [askK_clash hgood (by omega) hfk.symm (fun h => h70 (congrArg str h))]; exact ⟨_, _, rfl, Bs_nil _, Bs_nil _, rfl⟩)
                           | (rw [askK_again hgood (by omega) hfk.symm (Classical.byContradiction fun h => h70 fun h9 => h (str_inj.1 h9))]; exact ⟨_, _, rfl, hA, hB, rfl⟩))
                        | (obtain rfl : fk = none := by simpa using hg72
                           have e9 := askK_two (e := e) hgood (by omega) hfk.symm hgk
                           first
                           | (rw [if_pos ⟨by simpa using hg89, h85⟩] at e9; rw [e9]; exact ⟨_, _, rfl, Bs_nil _, Bs_nil _, rfl⟩)
                           | (have h9 : ¬ (n.undo = false ∧ gk.isSome = true) := by
                                rintro ⟨h1, h2⟩
                                first
                                | (rw [h2] at h85; cases h85; done)
                                | (rw [h1] at hg89; cases hg89; done)
                              rw [if_neg h9] at e9
                              first
                              | (rw [if_pos ⟨hg96, .inl (by simpa using h93)⟩] at e9; rw [e9]; exact ⟨_, _, rfl, Bs_nil _, Bs_nil _, rfl⟩)
                              | (rw [if_pos ⟨hg104, .inr h101⟩] at e9; rw [e9]; exact ⟨_, _, rfl, Bs_nil _, Bs_nil _, rfl⟩)
                              | (rw [if_neg (by
                                  rintro ⟨h1, h2⟩
                                  first
                                  | (rw [h1] at hg96; cases hg96; done)
                                  | (rw [h1] at hg104; cases hg104; done)
                                  | (rcases h2 with h2 | h2
                                     · rw [h2] at h93; cases h93
                                     · exact h101 h2))] at e9; rw [e9]; exact ⟨_, _, rfl, Bs_nil _, Bs_nil _, rfl⟩)))
                      · refine WC.skip ?_
                        refine DN.block_normal ?_
                        refine DN.then_normal ?_
                        refine WC.seq ?_
                        refine WC.region ?_
                        refine WL.y rfl (Yd.buildL (pl := [(0, 1), (1, 1), (2, 1), (3, 1), (4, 1), (5, 1)]) (zs := [.int .u32 0, .int .i64 0, .bool false, .slice none 0 0, .int .i64 0, .slice none 0 0]) (parts := []) (vs := []) (cells := [.int .u32 0, .int .i64 0, .bool false, .slice none 0 0, .int .i64 0, .slice none 0 0]) kr_ kr_ rfl rfl) ?_
                        refine WL.y rfl (Yd.assign rfl) ?_
                        refine WL.s (Hd.storeAll (n := 6) kr_ rfl rfl (by rfl) one_ fr_ (by rfl) ⟨rfl, ?_⟩)
                        refine WL.y rfl (Yd.assign rfl) ?_
                        refine WL.nil ?_
                        refine DN.then_normal ?_
                        refine WC.ret ?_
                        refine DN.retTCT (s := 6) (H) Try.results25 kr_ rfl rfl rfl mem_ (by rfl) sp_ ?_
                        first
                        | (rw [askK_arg hbad]; exact ⟨_, _, rfl, Bs_nil _, Bs_nil _, rfl⟩)
                        | (rw [askK_old hgood (by omega)]; exact ⟨_, _, rfl, Bs_nil _, Bs_nil _, rfl⟩)
                        | exact absurd (hg72.symm.trans h82) (by decide)
                        | exact absurd (hg96.symm.trans hg104) (by decide)
                        | (obtain ⟨k1, rfl⟩ := Option.isSome_iff_exists.1 hg72
                           first
                           | (rw [askK_clash hgood (by omega) hfk.symm (fun h => h70 (congrArg str h))]; exact ⟨_, _, rfl, Bs_nil _, Bs_nil _, rfl⟩)
                           | (rw [askK_again hgood (by omega) hfk.symm (Classical.byContradiction fun h => h70 fun h9 => h (str_inj.1 h9))]; exact ⟨_, _, rfl, hA, hB, rfl⟩))
                        | (obtain rfl : fk = none := by simpa using hg72
                           have e9 := askK_two (e := e) hgood (by omega) hfk.symm hgk
                           first
                           | (rw [if_pos ⟨by simpa using hg89, h85⟩] at e9; rw [e9]; exact ⟨_, _, rfl, Bs_nil _, Bs_nil _, rfl⟩)
                           | (have h9 : ¬ (n.undo = false ∧ gk.isSome = true) := by
                                rintro ⟨h1, h2⟩
                                first
                                | (rw [h2] at h85; cases h85; done)
                                | (rw [h1] at hg89; cases hg89; done)
                              rw [if_neg h9] at e9
                              first
                              | (rw [if_pos ⟨hg96, .inl (by simpa using h93)⟩] at e9; rw [e9]; exact ⟨_, _, rfl, Bs_nil _, Bs_nil _, rfl⟩)
                              | (rw [if_pos ⟨hg104, .inr h101⟩] at e9; rw [e9]; exact ⟨_, _, rfl, Bs_nil _, Bs_nil _, rfl⟩)
                              | (rw [if_neg (by
                                  rintro ⟨h1, h2⟩
                                  first
                                  | (rw [h1] at hg96; cases hg96; done)
                                  | (rw [h1] at hg104; cases hg104; done)
                                  | (rcases h2 with h2 | h2
                                     · rw [h2] at h93; cases h93
                                     · exact h101 h2))] at e9; rw [e9]; exact ⟨_, _, rfl, Bs_nil _, Bs_nil _, rfl⟩)))
                    · refine WL.gn (dj := 104) rfl rfl rfl rfl ?_
                      refine WL.gn (dj := 104) rfl rfl rfl rfl ?_
                      refine WL.gn (dj := 104) rfl rfl rfl rfl ?_
                      refine WL.y rfl (Yd.pickF rfl rfl) ?_
                      refine WL.y rfl (Yd.assign rfl) ?_
                      refine WL.nil ?_
                      refine DN.then_normal ?_
                      refine WC.no rfl ?_
                      refine WC.skip ?_
                      refine DN.block_normal ?_
                      refine DN.then_normal ?_
                      refine WC.seq ?_
                      refine WC.region ?_
                      refine WL.y rfl (Yd.buildL (pl := [(0, 1), (1, 1), (2, 1), (3, 1), (4, 1), (5, 1)]) (zs := [.int .u32 0, .int .i64 0, .bool false, .slice none 0 0, .int .i64 0, .slice none 0 0]) (parts := []) (vs := []) (cells := [.int .u32 0, .int .i64 0, .bool false, .slice none 0 0, .int .i64 0, .slice none 0 0]) kr_ kr_ rfl rfl) ?_
                      refine WL.y rfl (Yd.assign rfl) ?_
                      refine WL.s (Hd.storeAll (n := 6) kr_ rfl rfl (by rfl) one_ fr_ (by rfl) ⟨rfl, ?_⟩)
                      refine WL.y rfl (Yd.assign rfl) ?_
                      refine WL.nil ?_
                      refine DN.then_normal ?_
                      refine WC.ret ?_
                      refine DN.retTCT (s := 6) (H) Try.results25 kr_ rfl rfl rfl mem_ (by rfl) sp_ ?_
                      first
                      | (rw [askK_arg hbad]; exact ⟨_, _, rfl, Bs_nil _, Bs_nil _, rfl⟩)
                      | (rw [askK_old hgood (by omega)]; exact ⟨_, _, rfl, Bs_nil _, Bs_nil _, rfl⟩)
                      | exact absurd (hg72.symm.trans h82) (by decide)
                      | exact absurd (hg96.symm.trans hg104) (by decide)
                      | (obtain ⟨k1, rfl⟩ := Option.isSome_iff_exists.1 hg72
                         first
                         | (rw [askK_clash hgood (by omega) hfk.symm (fun h => h70 (congrArg str h))]; exact ⟨_, _, rfl, Bs_nil _, Bs_nil _, rfl⟩)
                         | (rw [askK_again hgood (by omega) hfk.symm (Classical.byContradiction fun h => h70 fun h9 => h (str_inj.1 h9))]; exact ⟨_, _, rfl, hA, hB, rfl⟩))
                      | (obtain rfl : fk = none := by simpa using hg72
                         have e9 := askK_two (e := e) hgood (by omega) hfk.symm hgk
                         first
                         | (rw [if_pos ⟨by simpa using hg89, h85⟩] at e9; rw [e9]; exact ⟨_, _, rfl, Bs_nil _, Bs_nil _, rfl⟩)
                         | (have h9 : ¬ (n.undo = false ∧ gk.isSome = true) := by
                              rintro ⟨h1, h2⟩
                              first
                              | (rw [h2] at h85; cases h85; done)
                              | (rw [h1] at hg89; cases hg89; done)
                            rw [if_neg h9] at e9
                            first
                            | (rw [if_pos ⟨hg96, .inl (by simpa using h93)⟩] at e9; rw [e9]; exact ⟨_, _, rfl, Bs_nil _, Bs_nil _, rfl⟩)
                            | (rw [if_pos ⟨hg104, .inr h101⟩] at e9; rw [e9]; exact ⟨_, _, rfl, Bs_nil _, Bs_nil _, rfl⟩)
                            | (rw [if_neg (by
                                rintro ⟨h1, h2⟩
                                first
                                | (rw [h1] at hg96; cases hg96; done)
                                | (rw [h1] at hg104; cases hg104; done)
                                | (rcases h2 with h2 | h2
                                   · rw [h2] at h93; cases h93
                                   · exact h101 h2))] at e9; rw [e9]; exact ⟨_, _, rfl, Bs_nil _, Bs_nil _, rfl⟩)))
                · refine WL.gn (dj := 96) rfl rfl rfl rfl ?_
                  refine WL.gn (dj := 96) rfl rfl rfl rfl ?_
                  refine WL.y rfl (Yd.pickF rfl rfl) ?_
                  refine WL.y rfl (Yd.assign rfl) ?_
                  refine WL.nil ?_
                  refine DN.then_normal ?_
                  refine WC.no rfl ?_
                  refine WC.seq ?_
                  refine WC.region ?_
                  refine WL.y rfl (Yd.fieldAddr (k := 7) kr_ rfl) ?_
                  refine WL.h rfl (Hd.load1 kr_ rfl mem_ (by rfl) ⟨_, rfl, ?_⟩)
                  refine WL.y rfl (Yd.move rfl) ?_
                  refine WL.part (t := 104) rfl (fun hg104 => ?_) (fun hg104 => ?_)
                  · refine WL.gy (dj := 104) rfl rfl rfl (Yd.fieldAddr (k := 4) kr_ rfl) ?_
                    refine WL.gh (dj := 104) rfl rfl rfl (Hd.load1 kr_ rfl mem_ (by rfl) ⟨_, rfl, ?_⟩)
                    refine WL.gy (dj := 104) rfl rfl rfl (Yd.eql rfl rfl) ?_
                    refine WL.y rfl (Yd.pickT rfl rfl) ?_
                    refine WL.y rfl (Yd.assign rfl) ?_
                    refine WL.nil ?_
                    refine DN.then_normal ?_
                    refine WC.ite rfl (fun h101 => ?_) (fun h101 => ?_)
                    · refine WC.seq ?_
                      refine WC.region ?_
                      refine WL.y rfl (Yd.buildL (pl := [(0, 1), (1, 1), (2, 1), (3, 1), (4, 1), (5, 1)]) (zs := [.int .u32 0, .int .i64 0, .bool false, .slice none 0 0, .int .i64 0, .slice none 0 0]) (parts := []) (vs := []) (cells := [.int .u32 0, .int .i64 0, .bool false, .slice none 0 0, .int .i64 0, .slice none 0 0]) kr_ kr_ rfl rfl) ?_
                      refine WL.y rfl (Yd.assign rfl) ?_
                      refine WL.s (Hd.storeAll (n := 6) kr_ rfl rfl (by rfl) one_ fr_ (by rfl) ⟨rfl, ?_⟩)
                      refine WL.y rfl (Yd.assign rfl) ?_
                      refine WL.nil ?_
                      refine DN.then_normal ?_
                      refine WC.ret ?_
                      refine DN.block_ret ?_
                      refine DN.then_ret ?_
                      refine DN.retTCT (s := 6) (H) Try.results25 kr_ rfl rfl rfl mem_ (by rfl) sp_ ?_
                      first
                      | (rw [askK_arg hbad]; exact ⟨_, _, rfl, Bs_nil _, Bs_nil _, rfl⟩)
                      | (rw [askK_old hgood (by omega)]; exact ⟨_, _, rfl, Bs_nil _, Bs_nil _, rfl⟩)
                      | exact absurd (hg72.symm.trans h82) (by decide)
                      | exact absurd (hg96.symm.trans hg104) (by decide)
                      | (obtain ⟨k1, rfl⟩ := Option.isSome_iff_exists.1 hg72
                         first
                         | (rw [askK_clash hgood (by omega) hfk.symm (fun h => h70 (congrArg str h))]; exact ⟨_, _, rfl, Bs_nil _, Bs_nil _, rfl⟩)
                         | (rw [askK_again hgood (by omega) hfk.symm (Classical.byContradiction fun h => h70 fun h9 => h (str_inj.1 h9))]; exact ⟨_, _, rfl, hA, hB, rfl⟩))
                      | (obtain rfl : fk = none := by simpa using hg72
                         have e9 := askK_two (e := e) hgood (by omega) hfk.symm hgk
                         first
                         | (rw [if_pos ⟨by simpa using hg89, h85⟩] at e9; rw [e9]; exact ⟨_, _, rfl, Bs_nil _, Bs_nil _, rfl⟩)
                         | (have h9 : ¬ (n.undo = false ∧ gk.isSome = true) := by
                              rintro ⟨h1, h2⟩
                              first
                              | (rw [h2] at h85; cases h85; done)
                              | (rw [h1] at hg89; cases hg89; done)
                            rw [if_neg h9] at e9
                            first
                            | (rw [if_pos ⟨hg96, .inl (by simpa using h93)⟩] at e9; rw [e9]; exact ⟨_, _, rfl, Bs_nil _, Bs_nil _, rfl⟩)
                            | (rw [if_pos ⟨hg104, .inr h101⟩] at e9; rw [e9]; exact ⟨_, _, rfl, Bs_nil _, Bs_nil _, rfl⟩)
                            | (rw [if_neg (by
                                rintro ⟨h1, h2⟩
                                first
                                | (rw [h1] at hg96; cases hg96; done)
                                | (rw [h1] at hg104; cases hg104; done)
                                | (rcases h2 with h2 | h2
                                   · rw [h2] at h93; cases h93
                                   · exact h101 h2))] at e9; rw [e9]; exact ⟨_, _, rfl, Bs_nil _, Bs_nil _, rfl⟩)))
                    · refine WC.skip ?_
                      refine DN.block_normal ?_
                      refine DN.then_normal ?_
                      refine WC.seq ?_
                      refine WC.region ?_
                      refine WL.y rfl (Yd.buildL (pl := [(0, 1), (1, 1), (2, 1), (3, 1), (4, 1), (5, 1)]) (zs := [.int .u32 0, .int .i64 0, .bool false, .slice none 0 0, .int .i64 0, .slice none 0 0]) (parts := []) (vs := []) (cells := [.int .u32 0, .int .i64 0, .bool false, .slice none 0 0, .int .i64 0, .slice none 0 0]) kr_ kr_ rfl rfl) ?_
                      refine WL.y rfl (Yd.assign rfl) ?_
                      refine WL.s (Hd.storeAll (n := 6) kr_ rfl rfl (by rfl) one_ fr_ (by rfl) ⟨rfl, ?_⟩)
                      refine WL.y rfl (Yd.assign rfl) ?_
                      refine WL.nil ?_
                      refine DN.then_normal ?_
                      refine WC.ret ?_
                      refine DN.retTCT (s := 6) (H) Try.results25 kr_ rfl rfl rfl mem_ (by rfl) sp_ ?_
                      first
                      | (rw [askK_arg hbad]; exact ⟨_, _, rfl, Bs_nil _, Bs_nil _, rfl⟩)
                      | (rw [askK_old hgood (by omega)]; exact ⟨_, _, rfl, Bs_nil _, Bs_nil _, rfl⟩)
                      | exact absurd (hg72.symm.trans h82) (by decide)
                      | exact absurd (hg96.symm.trans hg104) (by decide)
                      | (obtain ⟨k1, rfl⟩ := Option.isSome_iff_exists.1 hg72
                         first
                         | (rw [askK_clash hgood (by omega) hfk.symm (fun h => h70 (congrArg str h))]; exact ⟨_, _, rfl, Bs_nil _, Bs_nil _, rfl⟩)
                         | (rw [askK_again hgood (by omega) hfk.symm (Classical.byContradiction fun h => h70 fun h9 => h (str_inj.1 h9))]; exact ⟨_, _, rfl, hA, hB, rfl⟩))
                      | (obtain rfl : fk = none := by simpa using hg72
                         have e9 := askK_two (e := e) hgood (by omega) hfk.symm hgk
                         first
                         | (rw [if_pos ⟨by simpa using hg89, h85⟩] at e9; rw [e9]; exact ⟨_, _, rfl, Bs_nil _, Bs_nil _, rfl⟩)
                         | (have h9 : ¬ (n.undo = false ∧ gk.isSome = true) := by
                              rintro ⟨h1, h2⟩
                              first
                              | (rw [h2] at h85; cases h85; done)
                              | (rw [h1] at hg89; cases hg89; done)
                            rw [if_neg h9] at e9
                            first
                            | (rw [if_pos ⟨hg96, .inl (by simpa using h93)⟩] at e9; rw [e9]; exact ⟨_, _, rfl, Bs_nil _, Bs_nil _, rfl⟩)
                            | (rw [if_pos ⟨hg104, .inr h101⟩] at e9; rw [e9]; exact ⟨_, _, rfl, Bs_nil _, Bs_nil _, rfl⟩)
                            | (rw [if_neg (by
                                rintro ⟨h1, h2⟩
                                first
                                | (rw [h1] at hg96; cases hg96; done)
                                | (rw [h1] at hg104; cases hg104; done)
                                | (rcases h2 with h2 | h2
                                   · rw [h2] at h93; cases h93
                                   · exact h101 h2))] at e9; rw [e9]; exact ⟨_, _, rfl, Bs_nil _, Bs_nil _, rfl⟩)))
                  · refine WL.gn (dj := 104) rfl rfl rfl rfl ?_
                    refine WL.gn (dj := 104) rfl rfl rfl rfl ?_
                    refine WL.gn (dj := 104) rfl rfl rfl rfl ?_
                    refine WL.y rfl (Yd.pickF rfl rfl) ?_
                    refine WL.y rfl (Yd.assign rfl) ?_
                    refine WL.nil ?_
                    refine DN.then_normal ?_
                    refine WC.no rfl ?_
                    refine WC.skip ?_
                    refine DN.block_normal ?_
                    refine DN.then_normal ?_
                    refine WC.seq ?_
                    refine WC.region ?_
                    refine WL.y rfl (Yd.buildL (pl := [(0, 1), (1, 1), (2, 1), (3, 1), (4, 1), (5, 1)]) (zs := [.int .u32 0, .int .i64 0, .bool false, .slice none 0 0, .int .i64 0, .slice none 0 0]) (parts := []) (vs := []) (cells := [.int .u32 0, .int .i64 0, .bool false, .slice none 0 0, .int .i64 0, .slice none 0 0]) kr_ kr_ rfl rfl) ?_
                    refine WL.y rfl (Yd.assign rfl) ?_
                    refine WL.s (Hd.storeAll (n := 6) kr_ rfl rfl (by rfl) one_ fr_ (by rfl) ⟨rfl, ?_⟩)
                    refine WL.y rfl (Yd.assign rfl) ?_
                    refine WL.nil ?_
                    refine DN.then_normal ?_
                    refine WC.ret ?_
                    refine DN.retTCT (s := 6) (H) Try.results25 kr_ rfl rfl rfl mem_ (by rfl) sp_ ?_
                    first
                    | (rw [askK_arg hbad]; exact ⟨_, _, rfl, Bs_nil _, Bs_nil _, rfl⟩)
                    | (rw [askK_old hgood (by omega)]; exact ⟨_, _, rfl, Bs_nil _, Bs_nil _, rfl⟩)
                    | exact absurd (hg72.symm.trans h82) (by decide)
                    | exact absurd (hg96.symm.trans hg104) (by decide)
                    | (obtain ⟨k1, rfl⟩ := Option.isSome_iff_exists.1 hg72
                       first
                       | (rw [askK_clash hgood (by omega) hfk.symm (fun h => h70 (congrArg str h))]; exact ⟨_, _, rfl, Bs_nil _, Bs_nil _, rfl⟩)
                       | (rw [askK_again hgood (by omega) hfk.symm (Classical.byContradiction fun h => h70 fun h9 => h (str_inj.1 h9))]; exact ⟨_, _, rfl, hA, hB, rfl⟩))
                    | (obtain rfl : fk = none := by simpa using hg72
                       have e9 := askK_two (e := e) hgood (by omega) hfk.symm hgk
                       first
                       | (rw [if_pos ⟨by simpa using hg89, h85⟩] at e9; rw [e9]; exact ⟨_, _, rfl, Bs_nil _, Bs_nil _, rfl⟩)
                       | (have h9 : ¬ (n.undo = false ∧ gk.isSome = true) := by
                            rintro ⟨h1, h2⟩
                            first
                            | (rw [h2] at h85; cases h85; done)
                            | (rw [h1] at hg89; cases hg89; done)
                          rw [if_neg h9] at e9
                          first
                          | (rw [if_pos ⟨hg96, .inl (by simpa using h93)⟩] at e9; rw [e9]; exact ⟨_, _, rfl, Bs_nil _, Bs_nil _, rfl⟩)
                          | (rw [if_pos ⟨hg104, .inr h101⟩] at e9; rw [e9]; exact ⟨_, _, rfl, Bs_nil _, Bs_nil _, rfl⟩)
                          | (rw [if_neg (by
                              rintro ⟨h1, h2⟩
                              first
                              | (rw [h1] at hg96; cases hg96; done)
                              | (rw [h1] at hg104; cases hg104; done)
                              | (rcases h2 with h2 | h2
                                 · rw [h2] at h93; cases h93
                                 · exact h101 h2))] at e9; rw [e9]; exact ⟨_, _, rfl, Bs_nil _, Bs_nil _, rfl⟩)))
            · refine WL.gn (dj := 89) rfl rfl rfl rfl ?_
              refine WL.y rfl (Yd.pickF rfl rfl) ?_
              refine WL.y rfl (Yd.assign rfl) ?_
              refine WL.nil ?_
              refine DN.then_normal ?_
              refine WC.no rfl ?_
              refine WC.seq ?_
              refine WC.region ?_
              refine WL.y rfl (Yd.fieldAddr (k := 7) kr_ rfl) ?_
              refine WL.h rfl (Hd.load1 kr_ rfl mem_ (by rfl) ⟨_, rfl, ?_⟩)
              refine WL.y rfl (Yd.move rfl) ?_
              refine WL.part (t := 96) rfl (fun hg96 => ?_) (fun hg96 => ?_)
              · refine WL.gy (dj := 96) rfl rfl rfl (Yd.move rfl) ?_
                refine WL.gy (dj := 96) rfl rfl rfl (Yd.notB rfl) ?_
                refine WL.y rfl (Yd.pickT rfl rfl) ?_
                refine WL.y rfl (Yd.assign rfl) ?_
                refine WL.nil ?_
                refine DN.then_normal ?_
                refine WC.cond rfl (fun h93 => ?_) (fun h93 => ?_)
                · refine WC.seq ?_
                  refine WC.region ?_
                  refine WL.y rfl (Yd.buildL (pl := [(0, 1), (1, 1), (2, 1), (3, 1), (4, 1), (5, 1)]) (zs := [.int .u32 0, .int .i64 0, .bool false, .slice none 0 0, .int .i64 0, .slice none 0 0]) (parts := []) (vs := []) (cells := [.int .u32 0, .int .i64 0, .bool false, .slice none 0 0, .int .i64 0, .slice none 0 0]) kr_ kr_ rfl rfl) ?_
                  refine WL.y rfl (Yd.assign rfl) ?_
                  refine WL.s (Hd.storeAll (n := 6) kr_ rfl rfl (by rfl) one_ fr_ (by rfl) ⟨rfl, ?_⟩)
                  refine WL.y rfl (Yd.assign rfl) ?_
                  refine WL.nil ?_
                  refine DN.then_normal ?_
                  refine WC.ret ?_
                  refine DN.block_ret ?_
                  refine DN.then_ret ?_
                  refine DN.retTCT (s := 6) (H) Try.results25 kr_ rfl rfl rfl mem_ (by rfl) sp_ ?_
                  first
                  | (rw [askK_arg hbad]; exact ⟨_, _, rfl, Bs_nil _, Bs_nil _, rfl⟩)
                  | (rw [askK_old hgood (by omega)]; exact ⟨_, _, rfl, Bs_nil _, Bs_nil _, rfl⟩)
                  | exact absurd (hg72.symm.trans h82) (by decide)
                  | exact absurd (hg96.symm.trans hg104) (by decide)
                  | (obtain ⟨k1, rfl⟩ := Option.isSome_iff_exists.1 hg72
                     first
                     | (rw [askK_clash hgood (by omega) hfk.symm (fun h => h70 (congrArg str h))]; exact ⟨_, _, rfl, Bs_nil _, Bs_nil _, rfl⟩)
                     | (rw [askK_again hgood (by omega) hfk.symm (Classical.byContradiction fun h => h70 fun h9 => h (str_inj.1 h9))]; exact ⟨_, _, rfl, hA, hB, rfl⟩))
                  | (obtain rfl : fk = none := by simpa using hg72
                     have e9 := askK_two (e := e) hgood (by omega) hfk.symm hgk
                     first
                     | (rw [if_pos ⟨by simpa using hg89, h85⟩] at e9; rw [e9]; exact ⟨_, _, rfl, Bs_nil _, Bs_nil _, rfl⟩)
                     | (have h9 : ¬ (n.undo = false ∧ gk.isSome = true) := by
                          rintro ⟨h1, h2⟩
                          first
                          | (rw [h2] at h85; cases h85; done)
                          | (rw [h1] at hg89; cases hg89; done)
                        rw [if_neg h9] at e9
                        first
                        | (rw [if_pos ⟨hg96, .inl (by simpa using h93)⟩] at e9; rw [e9]; exact ⟨_, _, rfl, Bs_nil _, Bs_nil _, rfl⟩)
                        | (rw [if_pos ⟨hg104, .inr h101⟩] at e9; rw [e9]; exact ⟨_, _, rfl, Bs_nil _, Bs_nil _, rfl⟩)
                        | (rw [if_neg (by
                            rintro ⟨h1, h2⟩
                            first
                            | (rw [h1] at hg96; cases hg96; done)
                            | (rw [h1] at hg104; cases hg104; done)
                            | (rcases h2 with h2 | h2
                               · rw [h2] at h93; cases h93
                               · exact h101 h2))] at e9; rw [e9]; exact ⟨_, _, rfl, Bs_nil _, Bs_nil _, rfl⟩)))
                · refine WC.seq ?_
                  refine WC.region ?_
                  refine WL.y rfl (Yd.fieldAddr (k := 7) kr_ rfl) ?_
                  refine WL.h rfl (Hd.load1 kr_ rfl mem_ (by rfl) ⟨_, rfl, ?_⟩)
                  refine WL.y rfl (Yd.move rfl) ?_
                  refine WL.part (t := 104) rfl (fun hg104 => ?_) (fun hg104 => ?_)
                  · refine WL.gy (dj := 104) rfl rfl rfl (Yd.fieldAddr (k := 4) kr_ rfl) ?_
                    refine WL.gh (dj := 104) rfl rfl rfl (Hd.load1 kr_ rfl mem_ (by rfl) ⟨_, rfl, ?_⟩)
                    refine WL.gy (dj := 104) rfl rfl rfl (Yd.eql rfl rfl) ?_
                    refine WL.y rfl (Yd.pickT rfl rfl) ?_
                    refine WL.y rfl (Yd.assign rfl) ?_
                    refine WL.nil ?_
                    refine DN.then_normal ?_
                    refine WC.ite rfl (fun h101 => ?_) (fun h101 => ?_)
                    · refine WC.seq ?_
                      refine WC.region ?_
                      refine WL.y rfl (Yd.buildL (pl := [(0, 1), (1, 1), (2, 1), (3, 1), (4, 1), (5, 1)]) (zs := [.int .u32 0, .int .i64 0, .bool false, .slice none 0 0, .int .i64 0, .slice none 0 0]) (parts := []) (vs := []) (cells := [.int .u32 0, .int .i64 0, .bool false, .slice none 0 0, .int .i64 0, .slice none 0 0]) kr_ kr_ rfl rfl) ?_
                      refine WL.y rfl (Yd.assign rfl) ?_
                      refine WL.s (Hd.storeAll (n := 6) kr_ rfl rfl (by rfl) one_ fr_ (by rfl) ⟨rfl, ?_⟩)
                      refine WL.y rfl (Yd.assign rfl) ?_
                      refine WL.nil ?_
                      refine DN.then_normal ?_
                      refine WC.ret ?_
                      refine DN.block_ret ?_
                      refine DN.then_ret ?_
                      refine DN.retTCT (s := 6) (H) Try.results25 kr_ rfl rfl rfl mem_ (by rfl) sp_ ?_
                      first
                      | (rw [askK_arg hbad]; exact ⟨_, _, rfl, Bs_nil _, Bs_nil _, rfl⟩)
                      | (rw [askK_old hgood (by omega)]; exact ⟨_, _, rfl, Bs_nil _, Bs_nil _, rfl⟩)
                      | exact absurd (hg72.symm.trans h82) (by decide)
                      | exact absurd (hg96.symm.trans hg104) (by decide)
                      | (obtain ⟨k1, rfl⟩ := Option.isSome_iff_exists.1 hg72
                         first
                         | (rw [askK_clash hgood (by omega) hfk.symm (fun h => h70 (congrArg str h))]; exact ⟨_, _, rfl, Bs_nil _, Bs_nil _, rfl⟩)
                         | (rw [askK_again hgood (by omega) hfk.symm (Classical.byContradiction fun h => h70 fun h9 => h (str_inj.1 h9))]; exact ⟨_, _, rfl, hA, hB, rfl⟩))
                      | (obtain rfl : fk = none := by simpa using hg72
                         have e9 := askK_two (e := e) hgood (by omega) hfk.symm hgk
                         first
                         | (rw [if_pos ⟨by simpa using hg89, h85⟩] at e9; rw [e9]; exact ⟨_, _, rfl, Bs_nil _, Bs_nil _, rfl⟩)
                         | (have h9 : ¬ (n.undo = false ∧ gk.isSome = true) := by
                              rintro ⟨h1, h2⟩
                              first
                              | (rw [h2] at h85; cases h85; done)
                              | (rw [h1] at hg89; cases hg89; done)
                            rw [if_neg h9] at e9
                            first
                            | (rw [if_pos ⟨hg96, .inl (by simpa using h93)⟩] at e9; rw [e9]; exact ⟨_, _, rfl, Bs_nil _, Bs_nil _, rfl⟩)
                            | (rw [if_pos ⟨hg104, .inr h101⟩] at e9; rw [e9]; exact ⟨_, _, rfl, Bs_nil _, Bs_nil _, rfl⟩)
                            | (rw [if_neg (by
                                rintro ⟨h1, h2⟩
                                first
                                | (rw [h1] at hg96; cases hg96; done)
                                | (rw [h1] at hg104; cases hg104; done)
                                | (rcases h2 with h2 | h2
                                   · rw [h2] at h93; cases h93
                                   · exact h101 h2))] at e9; rw [e9]; exact ⟨_, _, rfl, Bs_nil _, Bs_nil _, rfl⟩)))
                    · refine WC.skip ?_
                      refine DN.block_normal ?_
                      refine DN.then_normal ?_
                      refine WC.seq ?_
                      refine WC.region ?_
                      refine WL.y rfl (Yd.buildL (pl := [(0, 1), (1, 1), (2, 1), (3, 1), (4, 1), (5, 1)]) (zs := [.int .u32 0, .int .i64 0, .bool false, .slice none 0 0, .int .i64 0, .slice none 0 0]) (parts := []) (vs := []) (cells := [.int .u32 0, .int .i64 0, .bool false, .slice none 0 0, .int .i64 0, .slice none 0 0]) kr_ kr_ rfl rfl) ?_
                      refine WL.y rfl (Yd.assign rfl) ?_
                      refine WL.s (Hd.storeAll (n := 6) kr_ rfl rfl (by rfl) one_ fr_ (by rfl) ⟨rfl, ?_⟩)
                      refine WL.y rfl (Yd.assign rfl) ?_
                      refine WL.nil ?_
                      refine DN.then_normal ?_
                      refine WC.ret ?_
                      refine DN.retTCT (s := 6) (H) Try.results25 kr_ rfl rfl rfl mem_ (by rfl) sp_ ?_
                      first
                      | (rw [askK_arg hbad]; exact ⟨_, _, rfl, Bs_nil _, Bs_nil _, rfl⟩)
                      | (rw [askK_old hgood (by omega)]; exact ⟨_, _, rfl, Bs_nil _, Bs_nil _, rfl⟩)
                      | exact absurd (hg72.symm.trans h82) (by decide)
                      | exact absurd (hg96.symm.trans hg104) (by decide)
                      | (obtain ⟨k1, rfl⟩ := Option.isSome_iff_exists.1 hg72
                         first
                         | (rw [askK_clash hgood (by omega) hfk.symm (fun h => h70 (congrArg str h))]; exact ⟨_, _, rfl, Bs_nil _, Bs_nil _, rfl⟩)
                         | (rw [askK_again hgood (by omega) hfk.symm (Classical.byContradiction fun h => h70 fun h9 => h (str_inj.1 h9))]; exact ⟨_, _, rfl, hA, hB, rfl⟩))
                      | (obtain rfl : fk = none := by simpa using hg72
                         have e9 := askK_two (e := e) hgood (by omega) hfk.symm hgk
                         first
                         | (rw [if_pos ⟨by simpa using hg89, h85⟩] at e9; rw [e9]; exact ⟨_, _, rfl, Bs_nil _, Bs_nil _, rfl⟩)
                         | (have h9 : ¬ (n.undo = false ∧ gk.isSome = true) := by
                              rintro ⟨h1, h2⟩
                              first
                              | (rw [h2] at h85; cases h85; done)
                              | (rw [h1] at hg89; cases hg89; done)
                            rw [if_neg h9] at e9
                            first
                            | (rw [if_pos ⟨hg96, .inl (by simpa using h93)⟩] at e9; rw [e9]; exact ⟨_, _, rfl, Bs_nil _, Bs_nil _, rfl⟩)
                            | (rw [if_pos ⟨hg104, .inr h101⟩] at e9; rw [e9]; exact ⟨_, _, rfl, Bs_nil _, Bs_nil _, rfl⟩)
                            | (rw [if_neg (by
                                rintro ⟨h1, h2⟩
                                first
                                | (rw [h1] at hg96; cases hg96; done)
                                | (rw [h1] at hg104; cases hg104; done)
                                | (rcases h2 with h2 | h2
                                   · rw [h2] at h93; cases h93
                                   · exact h101 h2))] at e9; rw [e9]; exact ⟨_, _, rfl, Bs_nil _, Bs_nil _, rfl⟩)))
                  · refine WL.gn (dj := 104) rfl rfl rfl rfl ?_
                    refine WL.gn (dj := 104) rfl rfl rfl rfl ?_
                    refine WL.gn (dj := 104) rfl rfl rfl rfl ?_
                    refine WL.y rfl (Yd.pickF rfl rfl) ?_
                    refine WL.y rfl (Yd.assign rfl) ?_
                    refine WL.nil ?_
                    refine DN.then_normal ?_
                    refine WC.no rfl ?_
                    refine WC.skip ?_
                    refine DN.block_normal ?_
                    refine DN.then_normal ?_
                    refine WC.seq ?_
                    refine WC.region ?_
                    refine WL.y rfl (Yd.buildL (pl := [(0, 1), (1, 1), (2, 1), (3, 1), (4, 1), (5, 1)]) (zs := [.int .u32 0, .int .i64 0, .bool false, .slice none 0 0, .int .i64 0, .slice none 0 0]) (parts := []) (vs := []) (cells := [.int .u32 0, .int .i64 0, .bool false, .slice none 0 0, .int .i64 0, .slice none 0 0]) kr_ kr_ rfl rfl) ?_
                    refine WL.y rfl (Yd.assign rfl) ?_
                    refine WL.s (Hd.storeAll (n := 6) kr_ rfl rfl (by rfl) one_ fr_ (by rfl) ⟨rfl, ?_⟩)
                    refine WL.y rfl (Yd.assign rfl) ?_
                    refine WL.nil ?_
                    refine DN.then_normal ?_
                    refine WC.ret ?_
                    refine DN.retTCT (s := 6) (H) Try.results25 kr_ rfl rfl rfl mem_ (by rfl) sp_ ?_
                    first
                    | (rw [askK_arg hbad]; exact ⟨_, _, rfl, Bs_nil _, Bs_nil _, rfl⟩)
                    | (rw [askK_old hgood (by omega)]; exact ⟨_, _, rfl, Bs_nil _, Bs_nil _, rfl⟩)
                    | exact absurd (hg72.symm.trans h82) (by decide)
                    | exact absurd (hg96.symm.trans hg104) (by decide)
                    | (obtain ⟨k1, rfl⟩ := Option.isSome_iff_exists.1 hg72
                       first
                       | (rw [askK_clash hgood (by omega) hfk.symm (fun h => h70 (congrArg str h))]; exact ⟨_, _, rfl, Bs_nil _, Bs_nil _, rfl⟩)
                       | (rw [askK_again hgood (by omega) hfk.symm (Classical.byContradiction fun h => h70 fun h9 => h (str_inj.1 h9))]; exact ⟨_, _, rfl, hA, hB, rfl⟩))
                    | (obtain rfl : fk = none := by simpa using hg72
                       have e9 := askK_two (e := e) hgood (by omega) hfk.symm hgk
                       first
                       | (rw [if_pos ⟨by simpa using hg89, h85⟩] at e9; rw [e9]; exact ⟨_, _, rfl, Bs_nil _, Bs_nil _, rfl⟩)
                       | (have h9 : ¬ (n.undo = false ∧ gk.isSome = true) := by
                            rintro ⟨h1, h2⟩
                            first
                            | (rw [h2] at h85; cases h85; done)
                            | (rw [h1] at hg89; cases hg89; done)
                          rw [if_neg h9] at e9
                          first
                          | (rw [if_pos ⟨hg96, .inl (by simpa using h93)⟩] at e9; rw [e9]; exact ⟨_, _, rfl, Bs_nil _, Bs_nil _, rfl⟩)
                          | (rw [if_pos ⟨hg104, .inr h101⟩] at e9; rw [e9]; exact ⟨_, _, rfl, Bs_nil _, Bs_nil _, rfl⟩)
                          | (rw [if_neg (by
                              rintro ⟨h1, h2⟩
                              first
                              | (rw [h1] at hg96; cases hg96; done)
                              | (rw [h1] at hg104; cases hg104; done)
                              | (rcases h2 with h2 | h2
                                 · rw [h2] at h93; cases h93
                                 · exact h101 h2))] at e9; rw [e9]; exact ⟨_, _, rfl, Bs_nil _, Bs_nil _, rfl⟩)))
              · refine WL.gn (dj := 96) rfl rfl rfl rfl ?_
                refine WL.gn (dj := 96) rfl rfl rfl rfl ?_
                refine WL.y rfl (Yd.pickF rfl rfl) ?_
                refine WL.y rfl (Yd.assign rfl) ?_
                refine WL.nil ?_
                refine DN.then_normal ?_
                refine WC.no rfl ?_
                refine WC.seq ?_
                refine WC.region ?_
                refine WL.y rfl (Yd.fieldAddr (k := 7) kr_ rfl) ?_
                refine WL.h rfl (Hd.load1 kr_ rfl mem_ (by rfl) ⟨_, rfl, ?_⟩)
                refine WL.y rfl (Yd.move rfl) ?_
                refine WL.part (t := 104) rfl (fun hg104 => ?_) (fun hg104 => ?_)
                · refine WL.gy (dj := 104) rfl rfl rfl (Yd.fieldAddr (k := 4) kr_ rfl) ?_
                  refine WL.gh (dj := 104) rfl rfl rfl (Hd.load1 kr_ rfl mem_ (by rfl) ⟨_, rfl, ?_⟩)
                  refine WL.gy (dj := 104) rfl rfl rfl (Yd.eql rfl rfl) ?_
                  refine WL.y rfl (Yd.pickT rfl rfl) ?_
                  refine WL.y rfl (Yd.assign rfl) ?_
                  refine WL.nil ?_
                  refine DN.then_normal ?_
                  refine WC.ite rfl (fun h101 => ?_) (fun h101 => ?_)
                  · refine WC.seq ?_
                    refine WC.region ?_
                    refine WL.y rfl (Yd.buildL (pl := [(0, 1), (1, 1), (2, 1), (3, 1), (4, 1), (5, 1)]) (zs := [.int .u32 0, .int .i64 0, .bool false, .slice none 0 0, .int .i64 0, .slice none 0 0]) (parts := []) (vs := []) (cells := [.int .u32 0, .int .i64 0, .bool false, .slice none 0 0, .int .i64 0, .slice none 0 0]) kr_ kr_ rfl rfl) ?_
                    refine WL.y rfl (Yd.assign rfl) ?_
                    refine WL.s (Hd.storeAll (n := 6) kr_ rfl rfl (by rfl) one_ fr_ (by rfl) ⟨rfl, ?_⟩)
                    refine WL.y rfl (Yd.assign rfl) ?_
                    refine WL.nil ?_
                    refine DN.then_normal ?_
                    refine WC.ret ?_
                    refine DN.block_ret ?_
                    refine DN.then_ret ?_
                    refine DN.retTCT (s := 6) (H) Try.results25 kr_ rfl rfl rfl mem_ (by rfl) sp_ ?_
                    first
                    | (rw [askK_arg hbad]; exact ⟨_, _, rfl, Bs_nil _, Bs_nil _, rfl⟩)
                    | (rw [askK_old hgood (by omega)]; exact ⟨_, _, rfl, Bs_nil _, Bs_nil _, rfl⟩)
                    | exact absurd (hg72.symm.trans h82) (by decide)
                    | exact absurd (hg96.symm.trans hg104) (by decide)
                    | (obtain ⟨k1, rfl⟩ := Option.isSome_iff_exists.1 hg72
                       first
                       | (rw [askK_clash hgood (by omega) hfk.symm (fun h => h70 (congrArg str h))]; exact ⟨_, _, rfl, Bs_nil _, Bs_nil _, rfl⟩)
                       | (rw [askK_again hgood (by omega) hfk.symm (Classical.byContradiction fun h => h70 fun h9 => h (str_inj.1 h9))]; exact ⟨_, _, rfl, hA, hB, rfl⟩))
                    | (obtain rfl : fk = none := by simpa using hg72
                       have e9 := askK_two (e := e) hgood (by omega) hfk.symm hgk
                       first
                       | (rw [if_pos ⟨by simpa using hg89, h85⟩] at e9; rw [e9]; exact ⟨_, _, rfl, Bs_nil _, Bs_nil _, rfl⟩)
                       | (have h9 : ¬ (n.undo = false ∧ gk.isSome = true) := by
                            rintro ⟨h1, h2⟩
                            first
                            | (rw [h2] at h85; cases h85; done)
                            | (rw [h1] at hg89; cases hg89; done)
                          rw [if_neg h9] at e9
                          first
                          | (rw [if_pos ⟨hg96, .inl (by simpa using h93)⟩] at e9; rw [e9]; exact ⟨_, _, rfl, Bs_nil _, Bs_nil _, rfl⟩)
                          | (rw [if_pos ⟨hg104, .inr h101⟩] at e9; rw [e9]; exact ⟨_, _, rfl, Bs_nil _, Bs_nil _, rfl⟩)
                          | (rw [if_neg (by
                              rintro ⟨h1, h2⟩
                              first
                              | (rw [h1] at hg96; cases hg96; done)
                              | (rw [h1] at hg104; cases hg104; done)
                              | (rcases h2 with h2 | h2
                                 · rw [h2] at h93; cases h93
                                 · exact h101 h2))] at e9; rw [e9]; exact ⟨_, _, rfl, Bs_nil _, Bs_nil _, rfl⟩)))
                  · refine WC.skip ?_
                    refine DN.block_normal ?_
                    refine DN.then_normal ?_
                    refine WC.seq ?_
                    refine WC.region ?_
                    refine WL.y rfl (Yd.buildL (pl := [(0, 1), (1, 1), (2, 1), (3, 1), (4, 1), (5, 1)]) (zs := [.int .u32 0, .int .i64 0, .bool false, .slice none 0 0, .int .i64 0, .slice none 0 0]) (parts := []) (vs := []) (cells := [.int .u32 0, .int .i64 0, .bool false, .slice none 0 0, .int .i64 0, .slice none 0 0]) kr_ kr_ rfl rfl) ?_
                    refine WL.y rfl (Yd.assign rfl) ?_
                    refine WL.s (Hd.storeAll (n := 6) kr_ rfl rfl (by rfl) one_ fr_ (by rfl) ⟨rfl, ?_⟩)
                    refine WL.y rfl (Yd.assign rfl) ?_
                    refine WL.nil ?_
                    refine DN.then_normal ?_
                    refine WC.ret ?_
                    refine DN.retTCT (s := 6) (H) Try.results25 kr_ rfl rfl rfl mem_ (by rfl) sp_ ?_
                    first
                    | (rw [askK_arg hbad]; exact ⟨_, _, rfl, Bs_nil _, Bs_nil _, rfl⟩)
                    | (rw [askK_old hgood (by omega)]; exact ⟨_, _, rfl, Bs_nil _, Bs_nil _, rfl⟩)
                    | exact absurd (hg72.symm.trans h82) (by decide)
                    | exact absurd (hg96.symm.trans hg104) (by decide)
                    | (obtain ⟨k1, rfl⟩ := Option.isSome_iff_exists.1 hg72
                       first
                       | (rw [askK_clash hgood (by omega) hfk.symm (fun h => h70 (congrArg str h))]; exact ⟨_, _, rfl, Bs_nil _, Bs_nil _, rfl⟩)
                       | (rw [askK_again hgood (by omega) hfk.symm (Classical.byContradiction fun h => h70 fun h9 => h (str_inj.1 h9))]; exact ⟨_, _, rfl, hA, hB, rfl⟩))
                    | (obtain rfl : fk = none := by simpa using hg72
                       have e9 := askK_two (e := e) hgood (by omega) hfk.symm hgk
                       first
                       | (rw [if_pos ⟨by simpa using hg89, h85⟩] at e9; rw [e9]; exact ⟨_, _, rfl, Bs_nil _, Bs_nil _, rfl⟩)
                       | (have h9 : ¬ (n.undo = false ∧ gk.isSome = true) := by
                            rintro ⟨h1, h2⟩
                            first
                            | (rw [h2] at h85; cases h85; done)
                            | (rw [h1] at hg89; cases hg89; done)
                          rw [if_neg h9] at e9
                          first
                          | (rw [if_pos ⟨hg96, .inl (by simpa using h93)⟩] at e9; rw [e9]; exact ⟨_, _, rfl, Bs_nil _, Bs_nil _, rfl⟩)
                          | (rw [if_pos ⟨hg104, .inr h101⟩] at e9; rw [e9]; exact ⟨_, _, rfl, Bs_nil _, Bs_nil _, rfl⟩)
                          | (rw [if_neg (by
                              rintro ⟨h1, h2⟩
                              first
                              | (rw [h1] at hg96; cases hg96; done)
                              | (rw [h1] at hg104; cases hg104; done)
                              | (rcases h2 with h2 | h2
                                 · rw [h2] at h93; cases h93
                                 · exact h101 h2))] at e9; rw [e9]; exact ⟨_, _, rfl, Bs_nil _, Bs_nil _, rfl⟩)))
                · refine WL.gn (dj := 104) rfl rfl rfl rfl ?_
                  refine WL.gn (dj := 104) rfl rfl rfl rfl ?_
                  refine WL.gn (dj := 104) rfl rfl rfl rfl ?_
                  refine WL.y rfl (Yd.pickF rfl rfl) ?_
                  refine WL.y rfl (Yd.assign rfl) ?_
                  refine WL.nil ?_
                  refine DN.then_normal ?_
                  refine WC.no rfl ?_
                  refine WC.skip ?_
                  refine DN.block_normal ?_
                  refine DN.then_normal ?_
                  refine WC.seq ?_
                  refine WC.region ?_
                  refine WL.y rfl (Yd.buildL (pl := [(0, 1), (1, 1), (2, 1), (3, 1), (4, 1), (5, 1)]) (zs := [.int .u32 0, .int .i64 0, .bool false, .slice none 0 0, .int .i64 0, .slice none 0 0]) (parts := []) (vs := []) (cells := [.int .u32 0, .int .i64 0, .bool false, .slice none 0 0, .int .i64 0, .slice none 0 0]) kr_ kr_ rfl rfl) ?_
                  refine WL.y rfl (Yd.assign rfl) ?_
                  refine WL.s (Hd.storeAll (n := 6) kr_ rfl rfl (by rfl) one_ fr_ (by rfl) ⟨rfl, ?_⟩)
                  refine WL.y rfl (Yd.assign rfl) ?_
                  refine WL.nil ?_
                  refine DN.then_normal ?_
                  refine WC.ret ?_
                  refine DN.retTCT (s := 6) (H) Try.results25 kr_ rfl rfl rfl mem_ (by rfl) sp_ ?_
                  first
                  | (rw [askK_arg hbad]; exact ⟨_, _, rfl, Bs_nil _, Bs_nil _, rfl⟩)
                  | (rw [askK_old hgood (by omega)]; exact ⟨_, _, rfl, Bs_nil _, Bs_nil _, rfl⟩)
                  | exact absurd (hg72.symm.trans h82) (by decide)
                  | exact absurd (hg96.symm.trans hg104) (by decide)
                  | (obtain ⟨k1, rfl⟩ := Option.isSome_iff_exists.1 hg72
                     first
                     | (rw [askK_clash hgood (by omega) hfk.symm (fun h => h70 (congrArg str h))]; exact ⟨_, _, rfl, Bs_nil _, Bs_nil _, rfl⟩)
                     | (rw [askK_again hgood (by omega) hfk.symm (Classical.byContradiction fun h => h70 fun h9 => h (str_inj.1 h9))]; exact ⟨_, _, rfl, hA, hB, rfl⟩))
                  | (obtain rfl : fk = none := by simpa using hg72
                     have e9 := askK_two (e := e) hgood (by omega) hfk.symm hgk
                     first
                     | (rw [if_pos ⟨by simpa using hg89, h85⟩] at e9; rw [e9]; exact ⟨_, _, rfl, Bs_nil _, Bs_nil _, rfl⟩)
                     | (have h9 : ¬ (n.undo = false ∧ gk.isSome = true) := by
                          rintro ⟨h1, h2⟩
                          first
                          | (rw [h2] at h85; cases h85; done)
                          | (rw [h1] at hg89; cases hg89; done)
                        rw [if_neg h9] at e9
                        first
                        | (rw [if_pos ⟨hg96, .inl (by simpa using h93)⟩] at e9; rw [e9]; exact ⟨_, _, rfl, Bs_nil _, Bs_nil _, rfl⟩)
                        | (rw [if_pos ⟨hg104, .inr h101⟩] at e9; rw [e9]; exact ⟨_, _, rfl, Bs_nil _, Bs_nil _, rfl⟩)
                        | (rw [if_neg (by
                            rintro ⟨h1, h2⟩
                            first
                            | (rw [h1] at hg96; cases hg96; done)
                            | (rw [h1] at hg104; cases hg104; done)
                            | (rcases h2 with h2 | h2
                               · rw [h2] at h93; cases h93
                               · exact h101 h2))] at e9; rw [e9]; exact ⟨_, _, rfl, Bs_nil _, Bs_nil _, rfl⟩)))

end Go.Proofs.Ytonnkgblligdkaa
