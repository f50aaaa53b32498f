/-
  The walks of the fence: the check, the search, copies.
-/
import Derived.Test.YtonnkgblligdkaaFence1
import Derived.Test.YtonnkgblligdkaaSLQuiet
set_option linter.unusedVariables false
set_option linter.unusedSimpArgs false
set_option maxHeartbeats 2000000
namespace Go.Proofs.Ytonnkgblligdkaa
open Go.SL


/-- drayage/fence.Check -/
theorem check2_reads (e : BitVec 32) (v : Value) (ks : List Kp) (H : List Ck) (hv : KV v ks H) (hl : ks.length ≤ 9223372036854775807) : Reads Try.prog 30 [.agg #[.int .u32 e.toNat, v]] H (.int .i64 (if chk ks then 0 else 2)) := by
  refine Tells.enter Try.func30 rfl Try.ntmps30 rfl ?_
  intro w0 R
  obtain ⟨cs, hr, hk⟩ := hv
  obtain ⟨ao, c, rfl, hc⟩ := hr.form
  refine WC.seq ?_
  refine WC.region ?_
  refine WL.h rfl (Hd.boxA rfl fun b1 => ⟨_, rfl, ?_⟩)
  refine WL.y rfl (Yd.assign rfl) ?_
  refine WL.nil ?_
  refine DN.then_normal ?_
  refine WC.seq ?_
  refine WC.seq ?_
  refine WC.region ?_
  refine WL.y rfl (Yd.fieldAddr (k := 1) kr_ rfl) ?_
  refine WL.h rfl (Hd.load1 kr_ rfl mem_ (by rfl) ⟨_, rfl, ?_⟩)
  refine WL.y rfl (Yd.len (e := 43) kr_ rfl) ?_
  refine WL.y rfl (Yd.gtr rfl rfl) ?_
  refine WL.nil ?_
  refine DN.then_normal ?_
  refine WC.ite rfl (fun h8 => ?_) (fun h8 => ?_)
  · refine WC.seq ?_
    refine WC.region ?_
    refine WL.y rfl (Yd.assign rfl) ?_
    refine WL.nil ?_
    refine DN.then_normal ?_
    refine WC.ret ?_
    refine DN.then_ret ?_
    refine DN.fit (C := H) sp_ ?_
    refine DN.ret1 Try.results30 rfl ?_
    first
      | exact ⟨by rw [if_pos hck], rfl⟩
      | exact ⟨by rw [if_neg hbad], rfl⟩
      | exact ⟨by rw [if_neg (fun h9 => by have := h9.1; omega)], rfl⟩
  · refine WC.skip ?_
    refine DN.then_normal ?_
    refine WC.seq ?_
    refine WC.seq ?_
    refine WC.region ?_
    refine WL.y rfl (Yd.fieldAddr (k := 1) kr_ rfl) ?_
    refine WL.h rfl (Hd.load1 kr_ rfl mem_ (by rfl) ⟨_, rfl, ?_⟩)
    refine WL.y rfl (Yd.len (e := 43) kr_ rfl) ?_
    refine WL.y rfl (Yd.move rfl) ?_
    refine WL.nil ?_
    refine DN.then_normal ?_
    refine WC.block ?_
    refine WC.loopS (fun z : Nat => z ≤ ks.length ∧ chk (ks.take z)) (fun z : Nat => [(12, .int .i64 (z : Int))]) (fun z : Nat => row b1 [.int .u32 e.toNat, .slice ao ks.length c] 25 :: H) (fun z : Nat => ks.length - z) (0) (show 0 ≤ ks.length ∧ chk (ks.take 0) from ⟨Nat.zero_le _, chk_take0 ks⟩) (Sx.put rfl (sx_)) sp_ ?_
    rintro i hI
    replace hI : i ≤ ks.length ∧ chk (ks.take i) := hI
    obtain ⟨hi, hck⟩ := hI
    change WC _ _ _ _ _ _ ([(12, .int .i64 (i : Int))] ++ _) (row b1 [.int .u32 e.toNat, .slice ao ks.length c] 25 :: H)
    refine WC.seq ?_
    refine WC.region ?_
    refine WL.y rfl (Yd.lss rfl rfl) ?_
    refine WL.nil ?_
    refine DN.then_normal ?_
    refine WC.seq ?_
    refine WC.ite rfl (fun h13 => ?_) (fun h13 => ?_)
    · have hlt : i < ks.length := by omega
      obtain ⟨va, vr, hg, hva, hvr⟩ := hk.at i hlt
      refine WC.skip ?_
      refine DN.then_normal ?_
      refine WC.seq ?_
      refine WC.block ?_
      refine WC.seq ?_
      refine WC.region ?_
      refine WL.y rfl (Yd.move rfl) ?_
      refine WL.elemA (e := 43) (s := 6) kr_ kr_ kr_ rfl rfl (rfl) (hr.mono gr_) (hg) (by rfl) (by omega) (hlt) rfl rfl ?_
      intro p15
      refine WL.h rfl (Hd.alloc (zs := [.int .u32 0, .int .i64 0, .bool false, .slice none 0 0, .int .i64 0, .slice none 0 0]) kr_ fun b4 => ⟨_, rfl, ?_⟩)
      refine WL.y rfl (Yd.assign rfl) ?_
      refine WL.s (Hd.storeAll (n := 6) kr_ rfl rfl (by rfl) (kc_one (IsSl.of hva).one (IsSl.of hvr).one) fr_ (by rfl) ⟨rfl, ?_⟩)
      refine WL.nil ?_
      refine DN.then_normal ?_
      refine WC.cutK (fun z : Bool => (z = true → ¬ chk ks) ∧ (z = true ∨ chk (ks.take (i + 1)))) (fun z : Bool => [(37, .bool z)]) (fun z : Bool => row b4 (kc ks[i] va vr) 43 :: (row b1 [.int .u32 e.toNat, .slice ao ks.length c] 25 :: H)) ?_ ?_
      · refine WC.draw 21 kr_ rfl ?_
        refine WA.quiet 21 0 rfl rfl kr_ kr_ kr_ rfl ?_
        refine WQ.rd rfl Wt.none (Rd.loadAll (n := 6) kr_ rfl mem_ (by rfl)) ?_
        refine WQ.rf rfl Wt.none (Ent.func Try.call38 rfl) (right_reads ks[i] va vr (IsSl.of hva) (IsSl.of hvr) _) Sp.sn ?_
        refine WQ.y rfl (Yd.notB rfl) ?_
        refine WQ.y rfl (Yd.move rfl) ?_
        refine WQ.part (t := 20) rfl (fun hg20 => ?_) (fun hg20 => ?_)
        · refine WQ.gn (dj := 20) rfl rfl rfl rfl ?_
          refine WQ.gn (dj := 20) rfl rfl rfl rfl ?_
          refine WQ.gn (dj := 20) rfl rfl rfl rfl ?_
          refine WQ.gu (dj := 23) rfl rfl rfl ?_
          refine WQ.gu (dj := 23) rfl rfl rfl ?_
          refine WQ.gu (dj := 23) rfl rfl rfl ?_
          refine WQ.gu (dj := 23) rfl rfl rfl ?_
          refine WQ.gu (dj := 23) rfl rfl rfl ?_
          refine WQ.gu (dj := 23) rfl rfl rfl ?_
          refine WQ.gu (dj := 23) rfl rfl rfl ?_
          refine WQ.gu (dj := 23) rfl rfl rfl ?_
          refine WQ.gu (dj := 23) rfl rfl rfl ?_
          refine WQ.gu (dj := 23) rfl rfl rfl ?_
          refine WQ.gu (dj := 23) rfl rfl rfl ?_
          refine WQ.gu (dj := 23) rfl rfl rfl ?_
          refine WQ.gn (dj := 20) rfl rfl rfl rfl ?_
          refine WQ.y rfl (Yd.pickT rfl rfl) ?_
          refine WQ.nil ?_
          refine WA.done kr_ ?_
          exact DN.reachK (_) (⟨fun h => by
              first
              | (intro hc9; have hr9 := chk_right hc9 hlt; simp [hr9] at hg20; done)
              | (intro hc9; have h8 := chk_adj hc9 (by omega) hlt; simp only [decide_eq_true_eq, Kp.num] at h h8; omega)
              | (cases h; done), by
              first
              | exact .inl rfl
              | exact .inr (chk_step hck (by omega) hlt (by simpa using hg20) (.inl (by omega)))
              | (by_cases h9 : (ks[i - 1]'(by omega)).num < ks[i].num
                 · exact .inr (chk_step hck (by omega) hlt (by simpa using hg20) (.inr h9))
                 · exact .inl (by simp only [decide_eq_true_eq, Kp.num] at h9 ⊢; omega))⟩) (Sx.put rfl (sx_)) (Sp.all sp_)
        · refine WQ.gy (dj := 20) rfl rfl rfl (Yd.move rfl) ?_
          refine WQ.gy (dj := 20) rfl rfl rfl (Yd.gtr rfl rfl) ?_
          refine WQ.gy (dj := 20) rfl rfl rfl (Yd.move rfl) ?_
          refine WQ.partP (t := 23) rfl (fun hg23 => ?_) (fun hg23 => ?_)
          · refine WQ.gy (dj := 23) rfl rfl rfl (Yd.fieldAddr (k := 1) kr_ rfl) ?_
            refine WQ.rd rfl (Wt.yes (dj := 23) rfl rfl) (Rd.load1 kr_ rfl mem_ (by rfl)) ?_
            refine WQ.gy (dj := 23) rfl rfl rfl (Yd.move rfl) ?_
            refine WQ.gy (dj := 23) rfl rfl rfl (Yd.sub rfl rfl (by omega) (by omega)) ?_
            obtain ⟨lb, lf, lcs, lT, lfr, lex, elo, _, hlm, hlcs⟩ := hr.lies (by omega)
            obtain ⟨va0, vr0, hg0, hva0, hvr0⟩ := hk.at (i - 1) (by omega)
            have hr0 : rightP (ks[i - 1]'(by omega)) := hck.2.1 _ (List.mem_take_iff_getElem.2 ⟨i - 1, by omega, rfl⟩)
            have hr1 : rightP ks[i] := by simpa using hg20
            refine WQ.gy (dj := 23) rfl rfl rfl (Yd.indexAddr (e := 43) (s := 6) (b := lb) (o := lf) (n := ks.length) (c := c) kr_ kr_ (congrArg (fun q => some (Value.slice q ks.length c)) elo) rfl (by omega) (by omega)) ?_
            refine WQ.rd rfl (Wt.yes (dj := 23) rfl rfl) (Rd.loadA (n := 6) (b := lb) (o := lf + ((i : Int) - 1).toNat * 6) (cs := lcs) (vs := kc (ks[i - 1]'(by omega)) va0 vr0) kr_ rfl (Gr.get gr_ hlm) rfl (by rw [show ((i : Int) - 1).toNat = ((i - 1 : Nat) : Int).toNat by omega]; exact rs_cell hlcs (by rw [hk.len]; omega) hg0)) ?_
            refine WQ.rf rfl (Wt.yes (dj := 23) rfl rfl) (Ent.func Try.call40 rfl) (of_reads ks[i - 1] va0 vr0 (IsSl.of hva0).one (IsSl.of hvr0).one _) Sp.sn ?_
            refine WQ.rf rfl (Wt.yes (dj := 23) rfl rfl) (Ent.func Try.call48 rfl) (number_reads _ _ _ hr0.2.1 hr0.2.2.1 _) Sp.sn ?_
            refine WQ.rd rfl (Wt.yes (dj := 23) rfl rfl) (Rd.loadAll (n := 6) kr_ rfl mem_ (by rfl)) ?_
            refine WQ.rf rfl (Wt.yes (dj := 23) rfl rfl) (Ent.func Try.call40 rfl) (of_reads ks[i] va vr (IsSl.of hva).one (IsSl.of hvr).one _) Sp.sn ?_
            refine WQ.rf rfl (Wt.yes (dj := 23) rfl rfl) (Ent.func Try.call48 rfl) (number_reads _ _ _ hr1.2.1 hr1.2.2.1 _) Sp.sn ?_
            refine WQ.gy (dj := 23) rfl rfl rfl (Yd.geq rfl rfl) ?_
            refine WQ.gy (dj := 20) rfl rfl rfl (Yd.pickT rfl rfl) ?_
            refine WQ.y rfl (Yd.pickF rfl rfl) ?_
            refine WQ.nil ?_
            refine WA.done kr_ ?_
            exact DN.reachK (_) (⟨fun h => by
                first
                | (intro hc9; have hr9 := chk_right hc9 hlt; simp [hr9] at hg20; done)
                | (intro hc9; have h8 := chk_adj hc9 (by omega) hlt; simp only [decide_eq_true_eq, Kp.num] at h h8; omega)
                | (cases h; done), by
                first
                | exact .inl rfl
                | exact .inr (chk_step hck (by omega) hlt (by simpa using hg20) (.inl (by omega)))
                | (by_cases h9 : (ks[i - 1]'(by omega)).num < ks[i].num
                   · exact .inr (chk_step hck (by omega) hlt (by simpa using hg20) (.inr h9))
                   · exact .inl (by simp only [decide_eq_true_eq, Kp.num] at h9 ⊢; omega))⟩) (Sx.put rfl (sx_)) (Sp.all sp_)
          · refine WQ.gn (dj := 23) rfl rfl rfl rfl ?_
            refine WQ.gn (dj := 23) rfl rfl rfl rfl ?_
            refine WQ.gn (dj := 23) rfl rfl rfl rfl ?_
            refine WQ.gn (dj := 23) rfl rfl rfl rfl ?_
            refine WQ.gn (dj := 23) rfl rfl rfl rfl ?_
            refine WQ.gn (dj := 23) rfl rfl rfl rfl ?_
            refine WQ.gn (dj := 23) rfl rfl rfl rfl ?_
            refine WQ.gn (dj := 23) rfl rfl rfl rfl ?_
            refine WQ.gn (dj := 23) rfl rfl rfl rfl ?_
            refine WQ.gn (dj := 23) rfl rfl rfl rfl ?_
            refine WQ.gn (dj := 23) rfl rfl rfl rfl ?_
            refine WQ.gn (dj := 23) rfl rfl rfl rfl ?_
            refine WQ.gy (dj := 20) rfl rfl rfl (Yd.pickF rfl rfl) ?_
            refine WQ.y rfl (Yd.pickF rfl rfl) ?_
            refine WQ.nil ?_
            refine WA.done kr_ ?_
            exact DN.reachK (_) (⟨fun h => by
                first
                | (intro hc9; have hr9 := chk_right hc9 hlt; simp [hr9] at hg20; done)
                | (intro hc9; have h8 := chk_adj hc9 (by omega) hlt; simp only [decide_eq_true_eq, Kp.num] at h h8; omega)
                | (cases h; done), by
                first
                | exact .inl rfl
                | exact .inr (chk_step hck (by omega) hlt (by simpa using hg20) (.inl (by omega)))
                | (by_cases h9 : (ks[i - 1]'(by omega)).num < ks[i].num
                   · exact .inr (chk_step hck (by omega) hlt (by simpa using hg20) (.inr h9))
                   · exact .inl (by simp only [decide_eq_true_eq, Kp.num] at h9 ⊢; omega))⟩) (Sx.put rfl (sx_)) (Sp.all sp_)
      · intro z37 hz37
        refine WC.cond rfl (fun h37 => ?_) (fun h37 => ?_)
        · have hbad : ¬ chk ks := hz37.1 h37
          refine WC.seq ?_
          refine WC.region ?_
          refine WL.y rfl (Yd.assign rfl) ?_
          refine WL.nil ?_
          refine DN.then_normal ?_
          refine WC.ret ?_
          refine DN.block_ret ?_
          refine DN.then_ret ?_
          refine DN.then_ret ?_
          refine DN.block_ret ?_
          refine DN.then_ret ?_
          refine DN.fit (C := H) sp_ ?_
          refine DN.ret1 Try.results30 rfl ?_
          first
            | exact ⟨by rw [if_pos hck], rfl⟩
            | exact ⟨by rw [if_neg hbad], rfl⟩
            | exact ⟨by rw [if_neg (fun h9 => by have := h9.1; omega)], rfl⟩
        · have hnext : chk (ks.take (i + 1)) := by
            rcases hz37.2 with h | h
            · rw [h] at h37; cases h37
            · exact h
          refine WC.skip ?_
          refine DN.block_normal ?_
          refine DN.then_normal ?_
          refine WC.region ?_
          refine WL.y rfl (Yd.add rfl rfl (by omega) (by omega)) ?_
          refine WL.y rfl (Yd.move rfl) ?_
          refine WL.nil ?_
          exact DN.againS (i + 1) (show (i + 1) ≤ ks.length ∧ chk (ks.take (i + 1)) from ⟨by omega, hnext⟩) (show ks.length - (i + 1) < ks.length - i by omega) (Sx.put rfl (sx_)) sp_
    · obtain rfl : i = ks.length := by omega
      rw [List.take_length] at hck
      refine WC.exit ?_
      refine DN.then_exit ?_
      refine DN.then_exit ?_
      refine DN.block_exit ?_
      refine DN.then_normal ?_
      refine WC.seq ?_
      refine WC.region ?_
      refine WL.y rfl (Yd.assign rfl) ?_
      refine WL.nil ?_
      refine DN.then_normal ?_
      refine WC.ret ?_
      refine DN.fit (C := H) sp_ ?_
      refine DN.ret1 Try.results30 rfl ?_
      first
        | exact ⟨by rw [if_pos hck], rfl⟩
        | exact ⟨by rw [if_neg hbad], rfl⟩
        | exact ⟨by rw [if_neg (fun h9 => by have := h9.1; omega)], rfl⟩

/-- drayage/fence.against -/
theorem against_reads (k : Kp) (va vr : Value) (h1 : va.oneCell' = true) (h2 : vr.oneCell' = true) (n : Nat) (h0 : 0 ≤ k.step) (h : k.step < 16) (H : List Ck) : Reads Try.prog 63 [.agg (kc k va vr).toArray, .int .u64 (n : Int)] H (.int .i64 (if k.num < n then -1 else if n < k.num then 1 else 0)) := by
  refine Tells.enter Try.func63 rfl Try.ntmps63 rfl ?_
  intro w0 R
  refine WC.seq ?_
  refine WC.region ?_
  refine WL.h rfl (Hd.boxA rfl fun b2 => ⟨_, rfl, ?_⟩)
  refine WL.y rfl (Yd.assign rfl) ?_
  refine WL.nil ?_
  refine DN.then_normal ?_
  refine WC.seq ?_
  refine WC.region ?_
  refine WL.h rfl (Hd.loadAll (n := 6) kr_ rfl mem_ (by rfl) ⟨_, rfl, ?_⟩)
  refine WL.r rfl (Ent.func Try.call40 rfl) (of_reads k va vr h1 h2 _) ?_
  refine WL.r rfl (Ent.func Try.call48 rfl) (number_reads _ _ _ h0 h _) ?_
  refine WL.y rfl (Yd.assign rfl) ?_
  refine WL.nil ?_
  refine DN.then_normal ?_
  refine WC.seq ?_
  refine WC.block ?_
  refine WC.seq ?_
  refine WC.region ?_
  refine WL.y rfl (Yd.move rfl) ?_
  refine WL.y rfl (Yd.move rfl) ?_
  refine WL.y rfl (Yd.lss rfl rfl) ?_
  refine WL.y rfl (Yd.assign rfl) ?_
  refine WL.nil ?_
  refine DN.then_normal ?_
  refine WC.ite rfl (fun h9 => ?_) (fun h9 => ?_)
  · refine WC.seq ?_
    refine WC.region ?_
    refine WL.y rfl (Yd.assign rfl) ?_
    refine WL.nil ?_
    refine DN.then_normal ?_
    refine WC.ret ?_
    refine DN.block_ret ?_
    refine DN.then_ret ?_
    refine DN.fit (C := H) sp_ ?_
    refine DN.ret1 Try.results63 rfl ?_
    refine ⟨?_, rfl⟩
    first
      | rw [if_pos (show k.num < n by unfold Kp.num; omega)]
      | rw [if_neg (show ¬ k.num < n by unfold Kp.num; omega), if_pos (show n < k.num by unfold Kp.num; omega)]
      | rw [if_neg (show ¬ k.num < n by unfold Kp.num; omega), if_neg (show ¬ n < k.num by unfold Kp.num; omega)]
  · refine WC.seq ?_
    refine WC.region ?_
    refine WL.y rfl (Yd.move rfl) ?_
    refine WL.y rfl (Yd.move rfl) ?_
    refine WL.y rfl (Yd.gtr rfl rfl) ?_
    refine WL.y rfl (Yd.assign rfl) ?_
    refine WL.nil ?_
    refine DN.then_normal ?_
    refine WC.ite rfl (fun h13 => ?_) (fun h13 => ?_)
    · refine WC.seq ?_
      refine WC.region ?_
      refine WL.y rfl (Yd.assign rfl) ?_
      refine WL.nil ?_
      refine DN.then_normal ?_
      refine WC.ret ?_
      refine DN.block_ret ?_
      refine DN.then_ret ?_
      refine DN.fit (C := H) sp_ ?_
      refine DN.ret1 Try.results63 rfl ?_
      refine ⟨?_, rfl⟩
      first
        | rw [if_pos (show k.num < n by unfold Kp.num; omega)]
        | rw [if_neg (show ¬ k.num < n by unfold Kp.num; omega), if_pos (show n < k.num by unfold Kp.num; omega)]
        | rw [if_neg (show ¬ k.num < n by unfold Kp.num; omega), if_neg (show ¬ n < k.num by unfold Kp.num; omega)]
    · refine WC.skip ?_
      refine DN.block_normal ?_
      refine DN.then_normal ?_
      refine WC.seq ?_
      refine WC.region ?_
      refine WL.y rfl (Yd.assign rfl) ?_
      refine WL.nil ?_
      refine DN.then_normal ?_
      refine WC.ret ?_
      refine DN.fit (C := H) sp_ ?_
      refine DN.ret1 Try.results63 rfl ?_
      refine ⟨?_, rfl⟩
      first
        | rw [if_pos (show k.num < n by unfold Kp.num; omega)]
        | rw [if_neg (show ¬ k.num < n by unfold Kp.num; omega), if_pos (show n < k.num by unfold Kp.num; omega)]
        | rw [if_neg (show ¬ k.num < n by unfold Kp.num; omega), if_neg (show ¬ n < k.num by unfold Kp.num; omega)]

/-- slices.BinarySearchFunc[[]drayage/api.Kept,drayage/api.Kept,uint64] -/
theorem bsf_reads (v : Value) (ks : List Kp) (H : List Ck) (hv : KV v ks H) (hck : chk ks) (n : Nat) : Reads Try.prog 62 [v, .int .u64 (n : Int), .func (.func 63) #[] #[]] H (.tuple #[.int .i64 (pos ks n : Nat), .bool (getK ks n).isSome]) := by
  refine Tells.enter Try.func62 rfl Try.ntmps62 rfl ?_
  intro w0 R
  obtain ⟨cs, hr, hk⟩ := hv
  obtain ⟨ao, c, rfl, hc⟩ := hr.form
  have h200 := hck.1
  refine WC.seq ?_
  refine WC.region ?_
  refine WL.y rfl (Yd.assign rfl) ?_
  refine WL.y rfl (Yd.assign rfl) ?_
  refine WL.nil ?_
  refine DN.then_normal ?_
  refine WC.seq ?_
  refine WC.region ?_
  refine WL.y rfl (Yd.move rfl) ?_
  refine WL.y rfl (Yd.len (e := 43) kr_ rfl) ?_
  refine WL.y rfl (Yd.assign rfl) ?_
  refine WL.nil ?_
  refine DN.then_normal ?_
  refine WC.seq ?_
  refine WC.region ?_
  refine WL.y rfl (Yd.move rfl) ?_
  refine WL.y rfl (Yd.assign rfl) ?_
  refine WL.y rfl (Yd.assign rfl) ?_
  refine WL.nil ?_
  refine DN.then_normal ?_
  refine WC.seq ?_
  refine WC.block ?_
  refine WC.loopS (fun z : Nat × Nat => z.1 ≤ z.2 ∧ z.2 ≤ ks.length ∧ (∀ t (ht : t < ks.length), t < z.1 → ks[t].num < n) ∧ (∀ t (ht : t < ks.length), z.2 ≤ t → n ≤ ks[t].num)) (fun z : Nat × Nat => [(9, .int .i64 (z.1 : Int)), (10, .int .i64 (z.2 : Int))]) (fun z : Nat × Nat => H) (fun z : Nat × Nat => z.2 - z.1) (⟨0, ks.length⟩) (show 0 ≤ ks.length ∧ ks.length ≤ ks.length ∧ (∀ t (ht : t < ks.length), t < 0 → ks[t].num < n) ∧ (∀ t (ht : t < ks.length), ks.length ≤ t → n ≤ ks[t].num) from ⟨Nat.zero_le _, Nat.le_refl _, fun t ht h => by omega, fun t ht h => by omega⟩) (Sx.put rfl (Sx.put rfl (sx_))) sp_ ?_
  rintro ⟨i, j⟩ hI
  replace hI : i ≤ j ∧ j ≤ ks.length ∧ (∀ t (ht : t < ks.length), t < i → ks[t].num < n) ∧ (∀ t (ht : t < ks.length), j ≤ t → n ≤ ks[t].num) := hI
  obtain ⟨hij, hj, hlo, hhi⟩ := hI
  change WC _ _ _ _ _ _ ([(9, .int .i64 (i : Int)), (10, .int .i64 (j : Int))] ++ _) (H)
  refine WC.seq ?_
  refine WC.seq ?_
  refine WC.region ?_
  refine WL.y rfl (Yd.move rfl) ?_
  refine WL.y rfl (Yd.move rfl) ?_
  refine WL.y rfl (Yd.lss rfl rfl) ?_
  refine WL.nil ?_
  refine DN.then_normal ?_
  refine WC.ite rfl (fun h17 => ?_) (fun h17 => ?_)
  · have hm : (i + j) / 2 < ks.length := by omega
    obtain ⟨va, vr, hg, hva, hvr⟩ := hk.at ((i + j) / 2) hm
    have hrt := chk_right hck hm
    refine WC.skip ?_
    refine DN.then_normal ?_
    refine WC.block ?_
    refine WC.seq ?_
    refine WC.region ?_
    refine WL.y rfl (Yd.move rfl) ?_
    refine WL.y rfl (Yd.move rfl) ?_
    refine WL.y rfl (Yd.add rfl rfl (by omega) (by omega)) ?_
    refine WL.y rfl (Yd.to64 _ kr_ kr_ rfl rfl) ?_
    refine WL.y rfl (Yd.shr64 _ 1 rfl rfl rfl rfl) ?_
    refine WL.renamed (t := 22) (v := .int .u64 (((i + j) / 2 : Nat) : Int)) rfl (congrArg (Value.int .u64) (by rw [BitVec.toNat_ushiftRight, BitVec.toNat_ofInt, Nat.shiftRight_eq_div_pow]; omega)) ?_
    refine WL.y rfl (Yd.toInt kr_ kr_ rfl (by omega) (by omega)) ?_
    refine WL.y rfl (Yd.assign rfl) ?_
    refine WL.nil ?_
    refine DN.then_normal ?_
    refine WC.seq ?_
    refine WC.region ?_
    refine WL.y rfl (Yd.move rfl) ?_
    refine WL.y rfl (Yd.move rfl) ?_
    refine WL.y rfl (Yd.move rfl) ?_
    refine WL.elemA (e := 43) (s := 6) kr_ kr_ kr_ rfl rfl (rfl) (hr.mono gr_) (hg) (by rfl) (by omega) (hm) rfl rfl ?_
    intro p27
    refine WL.y rfl (Yd.move rfl) ?_
    refine WL.r rfl (Ent.val Try.call63 rfl rfl) (against_reads _ va vr (IsSl.of hva).one (IsSl.of hvr).one n hrt.2.1 hrt.2.2.1 _) ?_
    refine WL.y rfl (Yd.lss rfl rfl) ?_
    refine WL.nil ?_
    refine DN.then_normal ?_
    refine WC.ite rfl (fun h31 => ?_) (fun h31 => ?_)
    · have hm2 : ks[(i + j) / 2].num < n := by
        revert h31
        split
        · intro _; assumption
        · split <;> omega
      refine WC.region ?_
      refine WL.y rfl (Yd.move rfl) ?_
      refine WL.y rfl (Yd.add rfl rfl (by omega) (by omega)) ?_
      refine WL.y rfl (Yd.assign rfl) ?_
      refine WL.nil ?_
      refine DN.block_normal ?_
      exact DN.againS (⟨(i + j) / 2 + 1, j⟩) (show ((i + j) / 2 + 1) ≤ j ∧ j ≤ ks.length ∧ (∀ t (ht : t < ks.length), t < ((i + j) / 2 + 1) → ks[t].num < n) ∧ (∀ t (ht : t < ks.length), j ≤ t → n ≤ ks[t].num) from ⟨by omega, by omega, fun t ht h => by
          rcases Nat.lt_or_ge t ((i + j) / 2) with h5 | h5
          · have := chk_lt hck h5 hm; omega
          · obtain rfl : t = (i + j) / 2 := by omega
            exact hm2, hhi⟩) (show j - ((i + j) / 2 + 1) < j - i by omega) (Sx.put rfl (Sx.put rfl (sx_))) sp_
    · have hm2 : ¬ ks[(i + j) / 2].num < n := by
        revert h31
        split
        · omega
        · intro _; assumption
      refine WC.region ?_
      refine WL.y rfl (Yd.move rfl) ?_
      refine WL.y rfl (Yd.assign rfl) ?_
      refine WL.nil ?_
      refine DN.block_normal ?_
      exact DN.againS (⟨i, (i + j) / 2⟩) (show i ≤ ((i + j) / 2) ∧ ((i + j) / 2) ≤ ks.length ∧ (∀ t (ht : t < ks.length), t < i → ks[t].num < n) ∧ (∀ t (ht : t < ks.length), ((i + j) / 2) ≤ t → n ≤ ks[t].num) from ⟨by omega, by omega, hlo, fun t ht h => by
          rcases Nat.lt_or_ge ((i + j) / 2) t with h5 | h5
          · have := chk_lt hck h5 ht; omega
          · obtain rfl : t = (i + j) / 2 := by omega
            omega⟩) (show ((i + j) / 2) - i < j - i by omega) (Sx.put rfl (Sx.put rfl (sx_))) sp_
  · obtain rfl : i = j := by omega
    have hpos : pos ks n = i := pos_eq hj hlo fun h => hhi i h (Nat.le_refl _)
    refine WC.exit ?_
    refine DN.then_exit ?_
    refine DN.then_exit ?_
    refine DN.block_exit ?_
    refine DN.then_normal ?_
    refine WC.seq ?_
    refine WC.region ?_
    refine WL.y rfl (Yd.move rfl) ?_
    refine WL.y rfl (Yd.move rfl) ?_
    refine WL.y rfl (Yd.move rfl) ?_
    refine WL.y rfl (Yd.lss rfl rfl) ?_
    refine WL.y rfl (Yd.move rfl) ?_
    refine WL.partP (t := 39) rfl (fun hg39 => ?_) (fun hg39 => ?_)
    · refine WL.gy (dj := 39) rfl rfl rfl (Yd.move rfl) ?_
      refine WL.gy (dj := 39) rfl rfl rfl (Yd.move rfl) ?_
      refine WL.gy (dj := 39) rfl rfl rfl (Yd.move rfl) ?_
      have hm : i < ks.length := by omega
      obtain ⟨va, vr, hg, hva, hvr⟩ := hk.at i hm
      have hrt := chk_right hck hm
      obtain ⟨lb, lf, lcs, lT, lfr, lex, elo, _, hlm, hlcs⟩ := hr.lies (by omega)
      refine WL.gy (dj := 39) rfl rfl rfl (Yd.indexAddr (e := 43) (s := 6) (b := lb) (o := lf) (n := ks.length) (c := c) kr_ kr_ (congrArg (fun q => some (Value.slice q ks.length c)) elo) rfl (by omega) (by omega)) ?_
      refine WL.gh (dj := 39) rfl rfl rfl (Hd.loadA (n := 6) (b := lb) (o := lf + (i : Int).toNat * 6) (cs := lcs) (vs := kc ks[i] va vr) kr_ rfl hlm rfl (rs_cell hlcs (by rw [hk.len]; omega) hg) ⟨_, rfl, ?_⟩)
      refine WL.gy (dj := 39) rfl rfl rfl (Yd.move rfl) ?_
      refine WL.gr (dj := 39) rfl rfl rfl (Ent.val Try.call63 rfl rfl) (against_reads _ va vr (IsSl.of hva).one (IsSl.of hvr).one n hrt.2.1 hrt.2.2.1 _) ?_
      refine WL.gy (dj := 39) rfl rfl rfl (Yd.eql rfl rfl) ?_
      refine WL.y rfl (Yd.pickT rfl rfl) ?_
      refine WL.y rfl (Yd.assign rfl) ?_
      refine WL.y rfl (Yd.assign rfl) ?_
      refine WL.nil ?_
      refine DN.then_normal ?_
      refine WC.ret ?_
      refine DN.ret2 Try.results62 rfl rfl ?_
      refine ⟨?_, rfl⟩
      subst hpos
      refine congrArg (fun q => Value.tuple #[Value.int IntKind.i64 (pos ks n : Nat), Value.bool q]) ?_
      rcases getK_pos hck (n := n) with ⟨e1, e2⟩ | ⟨hi9, e1, e2⟩
      · rw [e1, Option.isSome_none]
        all_goals first
        | rfl
        | (have e3 := e2 (by omega)
           refine decide_eq_false fun h9 => ?_
           by_cases h5 : ks[pos ks n].num < n
           · rw [if_pos h5] at h9; omega
           · rw [if_neg h5] at h9
             by_cases h6 : n < ks[pos ks n].num
             · rw [if_pos h6] at h9; omega
             · omega)
      · rw [e2, Option.isSome_some]
        first
        | (rw [decide_eq_true_eq, if_neg (by omega), if_neg (by omega)])
        | omega
    · refine WL.gn (dj := 39) rfl rfl rfl rfl ?_
      refine WL.gn (dj := 39) rfl rfl rfl rfl ?_
      refine WL.gn (dj := 39) rfl rfl rfl rfl ?_
      refine WL.gn (dj := 39) rfl rfl rfl rfl ?_
      refine WL.gn (dj := 39) rfl rfl rfl rfl ?_
      refine WL.gn (dj := 39) rfl rfl rfl rfl ?_
      refine WL.gn (dj := 39) rfl rfl rfl rfl ?_
      refine WL.gn (dj := 39) rfl rfl rfl rfl ?_
      refine WL.y rfl (Yd.pickF rfl rfl) ?_
      refine WL.y rfl (Yd.assign rfl) ?_
      refine WL.y rfl (Yd.assign rfl) ?_
      refine WL.nil ?_
      refine DN.then_normal ?_
      refine WC.ret ?_
      refine DN.ret2 Try.results62 rfl rfl ?_
      refine ⟨?_, rfl⟩
      subst hpos
      refine congrArg (fun q => Value.tuple #[Value.int IntKind.i64 (pos ks n : Nat), Value.bool q]) ?_
      rcases getK_pos hck (n := n) with ⟨e1, e2⟩ | ⟨hi9, e1, e2⟩
      · rw [e1, Option.isSome_none]
        all_goals first
        | rfl
        | (have e3 := e2 (by omega)
           refine decide_eq_false fun h9 => ?_
           by_cases h5 : ks[pos ks n].num < n
           · rw [if_pos h5] at h9; omega
           · rw [if_neg h5] at h9
             by_cases h6 : n < ks[pos ks n].num
             · rw [if_pos h6] at h9; omega
             · omega)
      · rw [e2, Option.isSome_some]
        first
        | (rw [decide_eq_true_eq, if_neg (by omega), if_neg (by omega)])
        | omega

end Go.Proofs.Ytonnkgblligdkaa
