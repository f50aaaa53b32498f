/-
  The walks of the fence: Ask, Keep.
-/
import Derived.Test.YtonnkgblligdkaaFence4
set_option linter.unusedVariables false
set_option linter.unusedSimpArgs false
set_option maxHeartbeats 2000000
namespace Go.Proofs.Ytonnkgblligdkaa
open Go.SL
theorem noteBad_of {n : Nt} (h : decide ((if noteBad n then (50 : Int) else 0) ≠ 0) = true) : noteBad n = true := by
  cases e : noteBad n with
  | true => rfl
  | false => rw [e] at h; exact absurd h (by decide)


/-- drayage/fence.Ask -/
theorem ask_tells (e : BitVec 32) (v : Value) (ks : List Kp) (H : List Ck) (hv : KV v ks H) (hl : ks.length ≤ 9223372036854775807) (n : Nt) (vk vd : Value) (hvk : Bs vk n.key H) (hvd : Bs vd n.data H) : Tells Try.prog 24 [.agg #[.int .u32 e.toNat, v], .agg (ntc n vk vd).toArray] H fun r H' => ∃ wa wr A B, r = .tuple #[.int .i64 (askK e ks n).1, .agg (kc (askK e ks n).2.1 wa wr).toArray, .int .i64 (askK e ks n).2.2] ∧ Ob 5 wa (askK e ks n).2.1.asked A ∧ Ob 5 wr (askK e ks n).2.1.reply B ∧ H' = A ++ (B ++ H) := by
  refine Tells.enter Try.func24 rfl Try.ntmps24 rfl ?_
  intro w0 R
  obtain ⟨ao, c, rfl, hc⟩ := hv.form
  obtain ⟨ko, kcap, rfl, hkc⟩ := hvk.form
  obtain ⟨do_, dc, rfl, hdc⟩ := hvd.form
  refine WC.seq ?_
  refine WC.region ?_
  refine WL.h rfl (Hd.boxA rfl fun b2 => ⟨_, rfl, ?_⟩)
  refine WL.h rfl (Hd.boxA rfl fun b3 => ⟨_, rfl, ?_⟩)
  refine WL.y rfl (Yd.assign rfl) ?_
  refine WL.h rfl (Hd.alloc (zs := [.int .u32 0, .int .i64 0, .bool false, .slice none 0 0, .int .i64 0, .slice none 0 0]) kr_ fun b5 => ⟨_, rfl, ?_⟩)
  refine WL.y rfl (Yd.assign rfl) ?_
  refine WL.nil ?_
  refine DN.then_normal ?_
  refine WC.seq ?_
  refine WC.block ?_
  refine WC.seq ?_
  refine WC.region ?_
  refine WL.h rfl (Hd.loadAll (n := 2) kr_ rfl mem_ (by rfl) ⟨_, rfl, ?_⟩)
  refine WL.r rfl (Ent.func Try.call30 rfl) (check2_reads e _ ks _ (hv.mono gr_) hl) ?_
  refine WL.y rfl (Yd.neq rfl rfl) ?_
  refine WL.y rfl (Yd.move rfl) ?_
  refine WL.partP (t := 15) rfl (fun hg15 => ?_) (fun hg15 => ?_)
  · refine WL.gn (dj := 15) rfl rfl rfl rfl ?_
    refine WL.gn (dj := 15) rfl rfl rfl rfl ?_
    refine WL.gn (dj := 15) rfl rfl rfl rfl ?_
    refine WL.y rfl (Yd.pickT rfl rfl) ?_
    refine WL.y rfl (Yd.move rfl) ?_
    refine WL.gn (dj := 20) rfl rfl rfl rfl ?_
    refine WL.gn (dj := 20) rfl rfl rfl rfl ?_
    refine WL.gn (dj := 20) rfl rfl rfl rfl ?_
    refine WL.y rfl (Yd.pickT rfl rfl) ?_
    refine WL.y rfl (Yd.move rfl) ?_
    refine WL.gn (dj := 25) rfl rfl rfl rfl ?_
    refine WL.gn (dj := 25) rfl rfl rfl rfl ?_
    refine WL.gn (dj := 25) rfl rfl rfl rfl ?_
    refine WL.y rfl (Yd.pickT rfl rfl) ?_
    refine WL.y rfl (Yd.move rfl) ?_
    refine WL.gn (dj := 30) rfl rfl rfl rfl ?_
    refine WL.gn (dj := 30) rfl rfl rfl rfl ?_
    refine WL.gn (dj := 30) rfl rfl rfl rfl ?_
    refine WL.y rfl (Yd.pickT rfl rfl) ?_
    refine WL.y rfl (Yd.assign rfl) ?_
    refine WL.nil ?_
    refine DN.then_normal ?_
    refine WC.yes rfl ?_
    refine WC.seq ?_
    refine WC.region ?_
    refine WL.y rfl (Yd.buildL (pl := [(0, 1), (1, 1), (2, 1), (3, 1), (4, 1), (5, 1)]) (zs := [.int .u32 0, .int .i64 0, .bool false, .slice none 0 0, .int .i64 0, .slice none 0 0]) (parts := []) (vs := []) (cells := [.int .u32 0, .int .i64 0, .bool false, .slice none 0 0, .int .i64 0, .slice none 0 0]) kr_ kr_ rfl rfl) ?_
    refine WL.y rfl (Yd.assign rfl) ?_
    refine WL.s (Hd.storeAll (n := 6) kr_ rfl rfl (by rfl) one_ fr_ (by rfl) ⟨rfl, ?_⟩)
    refine WL.y rfl (Yd.assign rfl) ?_
    refine WL.nil ?_
    refine DN.then_normal ?_
    refine WC.ret ?_
    refine DN.block_ret ?_
    refine DN.then_ret ?_
    refine DN.retTCT (s := 6) (H) Try.results24 kr_ rfl rfl rfl mem_ (by rfl) sp_ ?_
    have hb : askBad ks n := by
      unfold askBad
      first
      | exact .inl (fun h => by simp only [if_pos h] at hg15; exact hg15 rfl)
      | exact .inr (.inl (by simpa using hg20))
      | exact .inr (.inr (.inl (noteBad_of hg25)))
      | exact .inr (.inr (.inr (.inl (by simpa using hg30))))
      | exact .inr (.inr (.inr (.inr (by simpa using h11))))
    rw [askK_arg hb]
    exact ⟨_, _, [], [], rfl, Ob.nil _, Ob.nil _, rfl⟩
  · refine WL.gy (dj := 15) rfl rfl rfl (Yd.fieldAddr (k := 0) kr_ rfl) ?_
    refine WL.gh (dj := 15) rfl rfl rfl (Hd.load1 kr_ rfl mem_ (by rfl) ⟨_, rfl, ?_⟩)
    refine WL.gy (dj := 15) rfl rfl rfl (Yd.neq rfl rfl) ?_
    refine WL.y rfl (Yd.pickF rfl rfl) ?_
    refine WL.y rfl (Yd.move rfl) ?_
    refine WL.part (t := 20) rfl (fun hg20 => ?_) (fun hg20 => ?_)
    · refine WL.gn (dj := 20) rfl rfl rfl rfl ?_
      refine WL.gn (dj := 20) rfl rfl rfl rfl ?_
      refine WL.gn (dj := 20) rfl rfl rfl rfl ?_
      refine WL.y rfl (Yd.pickT rfl rfl) ?_
      refine WL.y rfl (Yd.move rfl) ?_
      refine WL.gn (dj := 25) rfl rfl rfl rfl ?_
      refine WL.gn (dj := 25) rfl rfl rfl rfl ?_
      refine WL.gn (dj := 25) rfl rfl rfl rfl ?_
      refine WL.y rfl (Yd.pickT rfl rfl) ?_
      refine WL.y rfl (Yd.move rfl) ?_
      refine WL.gn (dj := 30) rfl rfl rfl rfl ?_
      refine WL.gn (dj := 30) rfl rfl rfl rfl ?_
      refine WL.gn (dj := 30) rfl rfl rfl rfl ?_
      refine WL.y rfl (Yd.pickT rfl rfl) ?_
      refine WL.y rfl (Yd.assign rfl) ?_
      refine WL.nil ?_
      refine DN.then_normal ?_
      refine WC.yes rfl ?_
      refine WC.seq ?_
      refine WC.region ?_
      refine WL.y rfl (Yd.buildL (pl := [(0, 1), (1, 1), (2, 1), (3, 1), (4, 1), (5, 1)]) (zs := [.int .u32 0, .int .i64 0, .bool false, .slice none 0 0, .int .i64 0, .slice none 0 0]) (parts := []) (vs := []) (cells := [.int .u32 0, .int .i64 0, .bool false, .slice none 0 0, .int .i64 0, .slice none 0 0]) kr_ kr_ rfl rfl) ?_
      refine WL.y rfl (Yd.assign rfl) ?_
      refine WL.s (Hd.storeAll (n := 6) kr_ rfl rfl (by rfl) one_ fr_ (by rfl) ⟨rfl, ?_⟩)
      refine WL.y rfl (Yd.assign rfl) ?_
      refine WL.nil ?_
      refine DN.then_normal ?_
      refine WC.ret ?_
      refine DN.block_ret ?_
      refine DN.then_ret ?_
      refine DN.retTCT (s := 6) (H) Try.results24 kr_ rfl rfl rfl mem_ (by rfl) sp_ ?_
      have hb : askBad ks n := by
        unfold askBad
        first
        | exact .inl (fun h => by simp only [if_pos h] at hg15; exact hg15 rfl)
        | exact .inr (.inl (by simpa using hg20))
        | exact .inr (.inr (.inl (noteBad_of hg25)))
        | exact .inr (.inr (.inr (.inl (by simpa using hg30))))
        | exact .inr (.inr (.inr (.inr (by simpa using h11))))
      rw [askK_arg hb]
      exact ⟨_, _, [], [], rfl, Ob.nil _, Ob.nil _, rfl⟩
    · refine WL.gh (dj := 20) rfl rfl rfl (Hd.loadAll (n := 11) kr_ rfl mem_ (by rfl) ⟨_, rfl, ?_⟩)
      refine WL.gr (dj := 20) rfl rfl rfl (Ent.func Try.call46 rfl) (check_reads n (.slice ko _ kcap) (.slice do_ _ dc) ⟨_, _, rfl⟩ ⟨_, _, rfl⟩ _) ?_
      refine WL.gy (dj := 20) rfl rfl rfl (Yd.neq rfl rfl) ?_
      refine WL.y rfl (Yd.pickF rfl rfl) ?_
      refine WL.y rfl (Yd.move rfl) ?_
      refine WL.part (t := 25) rfl (fun hg25 => ?_) (fun hg25 => ?_)
      · refine WL.gn (dj := 25) rfl rfl rfl rfl ?_
        refine WL.gn (dj := 25) rfl rfl rfl rfl ?_
        refine WL.gn (dj := 25) rfl rfl rfl rfl ?_
        refine WL.y rfl (Yd.pickT rfl rfl) ?_
        refine WL.y rfl (Yd.move rfl) ?_
        refine WL.gn (dj := 30) rfl rfl rfl rfl ?_
        refine WL.gn (dj := 30) rfl rfl rfl rfl ?_
        refine WL.gn (dj := 30) rfl rfl rfl rfl ?_
        refine WL.y rfl (Yd.pickT rfl rfl) ?_
        refine WL.y rfl (Yd.assign rfl) ?_
        refine WL.nil ?_
        refine DN.then_normal ?_
        refine WC.yes rfl ?_
        refine WC.seq ?_
        refine WC.region ?_
        refine WL.y rfl (Yd.buildL (pl := [(0, 1), (1, 1), (2, 1), (3, 1), (4, 1), (5, 1)]) (zs := [.int .u32 0, .int .i64 0, .bool false, .slice none 0 0, .int .i64 0, .slice none 0 0]) (parts := []) (vs := []) (cells := [.int .u32 0, .int .i64 0, .bool false, .slice none 0 0, .int .i64 0, .slice none 0 0]) kr_ kr_ rfl rfl) ?_
        refine WL.y rfl (Yd.assign rfl) ?_
        refine WL.s (Hd.storeAll (n := 6) kr_ rfl rfl (by rfl) one_ fr_ (by rfl) ⟨rfl, ?_⟩)
        refine WL.y rfl (Yd.assign rfl) ?_
        refine WL.nil ?_
        refine DN.then_normal ?_
        refine WC.ret ?_
        refine DN.block_ret ?_
        refine DN.then_ret ?_
        refine DN.retTCT (s := 6) (H) Try.results24 kr_ rfl rfl rfl mem_ (by rfl) sp_ ?_
        have hb : askBad ks n := by
          unfold askBad
          first
          | exact .inl (fun h => by simp only [if_pos h] at hg15; exact hg15 rfl)
          | exact .inr (.inl (by simpa using hg20))
          | exact .inr (.inr (.inl (noteBad_of hg25)))
          | exact .inr (.inr (.inr (.inl (by simpa using hg30))))
          | exact .inr (.inr (.inr (.inr (by simpa using h11))))
        rw [askK_arg hb]
        exact ⟨_, _, [], [], rfl, Ob.nil _, Ob.nil _, rfl⟩
      · refine WL.gy (dj := 25) rfl rfl rfl (Yd.fieldAddr (k := 1) kr_ rfl) ?_
        refine WL.gh (dj := 25) rfl rfl rfl (Hd.load1 kr_ rfl mem_ (by rfl) ⟨_, rfl, ?_⟩)
        refine WL.gy (dj := 25) rfl rfl rfl (Yd.eql32 _ (0#32) rfl rfl rfl rfl) ?_
        refine WL.y rfl (Yd.pickF rfl rfl) ?_
        refine WL.y rfl (Yd.move rfl) ?_
        refine WL.part (t := 30) rfl (fun hg30 => ?_) (fun hg30 => ?_)
        · refine WL.gn (dj := 30) rfl rfl rfl rfl ?_
          refine WL.gn (dj := 30) rfl rfl rfl rfl ?_
          refine WL.gn (dj := 30) rfl rfl rfl rfl ?_
          refine WL.y rfl (Yd.pickT rfl rfl) ?_
          refine WL.y rfl (Yd.assign rfl) ?_
          refine WL.nil ?_
          refine DN.then_normal ?_
          refine WC.yes rfl ?_
          refine WC.seq ?_
          refine WC.region ?_
          refine WL.y rfl (Yd.buildL (pl := [(0, 1), (1, 1), (2, 1), (3, 1), (4, 1), (5, 1)]) (zs := [.int .u32 0, .int .i64 0, .bool false, .slice none 0 0, .int .i64 0, .slice none 0 0]) (parts := []) (vs := []) (cells := [.int .u32 0, .int .i64 0, .bool false, .slice none 0 0, .int .i64 0, .slice none 0 0]) kr_ kr_ rfl rfl) ?_
          refine WL.y rfl (Yd.assign rfl) ?_
          refine WL.s (Hd.storeAll (n := 6) kr_ rfl rfl (by rfl) one_ fr_ (by rfl) ⟨rfl, ?_⟩)
          refine WL.y rfl (Yd.assign rfl) ?_
          refine WL.nil ?_
          refine DN.then_normal ?_
          refine WC.ret ?_
          refine DN.block_ret ?_
          refine DN.then_ret ?_
          refine DN.retTCT (s := 6) (H) Try.results24 kr_ rfl rfl rfl mem_ (by rfl) sp_ ?_
          have hb : askBad ks n := by
            unfold askBad
            first
            | exact .inl (fun h => by simp only [if_pos h] at hg15; exact hg15 rfl)
            | exact .inr (.inl (by simpa using hg20))
            | exact .inr (.inr (.inl (noteBad_of hg25)))
            | exact .inr (.inr (.inr (.inl (by simpa using hg30))))
            | exact .inr (.inr (.inr (.inr (by simpa using h11))))
          rw [askK_arg hb]
          exact ⟨_, _, [], [], rfl, Ob.nil _, Ob.nil _, rfl⟩
        · refine WL.gy (dj := 30) rfl rfl rfl (Yd.fieldAddr (k := 5) kr_ rfl) ?_
          refine WL.gh (dj := 30) rfl rfl rfl (Hd.load1 kr_ rfl mem_ (by rfl) ⟨_, rfl, ?_⟩)
          refine WL.gy (dj := 30) rfl rfl rfl (Yd.eql32 _ (0#32) rfl rfl rfl rfl) ?_
          refine WL.y rfl (Yd.pickF rfl rfl) ?_
          refine WL.y rfl (Yd.assign rfl) ?_
          refine WL.nil ?_
          refine DN.then_normal ?_
          refine WC.cond rfl (fun h11 => ?_) (fun h11 => ?_)
          · refine WC.seq ?_
            refine WC.region ?_
            refine WL.y rfl (Yd.buildL (pl := [(0, 1), (1, 1), (2, 1), (3, 1), (4, 1), (5, 1)]) (zs := [.int .u32 0, .int .i64 0, .bool false, .slice none 0 0, .int .i64 0, .slice none 0 0]) (parts := []) (vs := []) (cells := [.int .u32 0, .int .i64 0, .bool false, .slice none 0 0, .int .i64 0, .slice none 0 0]) kr_ kr_ rfl rfl) ?_
            refine WL.y rfl (Yd.assign rfl) ?_
            refine WL.s (Hd.storeAll (n := 6) kr_ rfl rfl (by rfl) one_ fr_ (by rfl) ⟨rfl, ?_⟩)
            refine WL.y rfl (Yd.assign rfl) ?_
            refine WL.nil ?_
            refine DN.then_normal ?_
            refine WC.ret ?_
            refine DN.block_ret ?_
            refine DN.then_ret ?_
            refine DN.retTCT (s := 6) (H) Try.results24 kr_ rfl rfl rfl mem_ (by rfl) sp_ ?_
            have hb : askBad ks n := by
              unfold askBad
              first
              | exact .inl (fun h => by simp only [if_pos h] at hg15; exact hg15 rfl)
              | exact .inr (.inl (by simpa using hg20))
              | exact .inr (.inr (.inl (noteBad_of hg25)))
              | exact .inr (.inr (.inr (.inl (by simpa using hg30))))
              | exact .inr (.inr (.inr (.inr (by simpa using h11))))
            rw [askK_arg hb]
            exact ⟨_, _, [], [], rfl, Ob.nil _, Ob.nil _, rfl⟩
          · refine WC.seq ?_
            refine WC.region ?_
            have hgood : ¬ askBad ks n := by
              rintro (h | h | h | h | h)
              · simp only [if_neg h] at hg15; revert hg15; decide
              · simp [h] at hg20
              · simp [h] at hg25
              · simp [h] at hg30
              · simp [h] at h11
            have hck : chk ks := Classical.byContradiction fun h => hgood (.inl h)
            have hst := noteBad_step (n := n) (by
              cases e9 : noteBad n
              · rfl
              · exact absurd (.inr (.inr (.inl e9))) hgood)
            refine WL.y rfl (Yd.fieldAddr (k := 1) kr_ rfl) ?_
            refine WL.h rfl (Hd.load1 kr_ rfl mem_ (by rfl) ⟨_, rfl, ?_⟩)
            refine WL.y rfl (Yd.fieldAddr (k := 0) kr_ rfl) ?_
            refine WL.h rfl (Hd.load1 kr_ rfl mem_ (by rfl) ⟨_, rfl, ?_⟩)
            refine WL.y rfl (Yd.lss rfl rfl) ?_
            refine WL.y rfl (Yd.assign rfl) ?_
            refine WL.nil ?_
            refine DN.then_normal ?_
            refine WC.ite rfl (fun h36 => ?_) (fun h36 => ?_)
            · refine WC.seq ?_
              refine WC.region ?_
              refine WL.y rfl (Yd.buildL (pl := [(0, 1), (1, 1), (2, 1), (3, 1), (4, 1), (5, 1)]) (zs := [.int .u32 0, .int .i64 0, .bool false, .slice none 0 0, .int .i64 0, .slice none 0 0]) (parts := []) (vs := []) (cells := [.int .u32 0, .int .i64 0, .bool false, .slice none 0 0, .int .i64 0, .slice none 0 0]) kr_ kr_ rfl rfl) ?_
              refine WL.y rfl (Yd.assign rfl) ?_
              refine WL.s (Hd.storeAll (n := 6) kr_ rfl rfl (by rfl) one_ fr_ (by rfl) ⟨rfl, ?_⟩)
              refine WL.y rfl (Yd.assign rfl) ?_
              refine WL.nil ?_
              refine DN.then_normal ?_
              refine WC.ret ?_
              refine DN.block_ret ?_
              refine DN.then_ret ?_
              refine DN.retTCT (s := 6) (H) Try.results24 kr_ rfl rfl rfl mem_ (by rfl) sp_ ?_
              rw [askK_old hgood (by omega)]
              exact ⟨_, _, [], [], rfl, Ob.nil _, Ob.nil _, rfl⟩
            · refine WC.skip ?_
              refine DN.block_normal ?_
              refine DN.then_normal ?_
              refine WC.seq ?_
              refine WC.seq ?_
              refine WC.region ?_
              refine WL.h rfl (Hd.loadAll (n := 2) kr_ rfl mem_ (by rfl) ⟨_, rfl, ?_⟩)
              refine WL.y rfl (Yd.fieldAddr (k := 5) kr_ rfl) ?_
              refine WL.h rfl (Hd.load1 kr_ rfl mem_ (by rfl) ⟨_, rfl, ?_⟩)
              refine WL.y rfl (Yd.fieldAddr (k := 6) kr_ rfl) ?_
              refine WL.h rfl (Hd.load1 kr_ rfl mem_ (by rfl) ⟨_, rfl, ?_⟩)
              refine WL.y rfl (Yd.fieldAddr (k := 7) kr_ rfl) ?_
              refine WL.h rfl (Hd.load1 kr_ rfl mem_ (by rfl) ⟨_, rfl, ?_⟩)
              refine WL.c rfl (Ent.func Try.call26 rfl) (find2_tells e _ ks H hv hl n.order n.step n.undo) (Sp.p sp_) ?_
              rintro x H1 ⟨wa, wr, A, B, rfl, hA, hB, rfl⟩
              obtain ⟨fk, hfk⟩ : ∃ q, q = findB ks n.order n.step n.undo := ⟨_, rfl⟩
              rw [← hfk] at hA hB ⊢
              rw [findB_ok hck hst.1 hst.2.1] at hfk
              obtain ⟨oa, ca, rfl, _⟩ := hA.form
              obtain ⟨or, cr, rfl, _⟩ := hB.form
              refine WL.y rfl (Yd.move rfl) ?_
              refine WL.y rfl (Yd.extract rfl rfl) ?_
              refine WL.y rfl (Yd.extract rfl rfl) ?_
              refine WL.h rfl (Hd.alloc (zs := [.int .u32 0, .int .i64 0, .bool false, .slice none 0 0, .int .i64 0, .slice none 0 0]) kr_ fun b7 => ⟨_, rfl, ?_⟩)
              refine WL.s (Hd.storeAll (n := 6) kr_ rfl rfl (by rfl) (kc_one rfl rfl) fr_ (by rfl) ⟨rfl, ?_⟩)
              refine WL.y rfl (Yd.assign rfl) ?_
              refine WL.nil ?_
              refine DN.then_normal ?_
              refine WC.seq ?_
              refine WC.region ?_
              refine WL.y rfl (Yd.move rfl) ?_
              refine WL.nil ?_
              refine DN.then_normal ?_
              refine WC.cond rfl (fun h54 => ?_) (fun h54 => ?_)
              · obtain ⟨k1, rfl⟩ := Option.isSome_iff_exists.1 h54
                refine WC.seq ?_
                refine WC.seq ?_
                refine WC.region ?_
                refine WL.y rfl (Yd.fieldAddr (k := 3) kr_ rfl) ?_
                refine WL.h rfl (Hd.load1 kr_ rfl mem_ (by rfl) ⟨_, rfl, ?_⟩)
                refine WL.h rfl (Hd.toStr (e := 5) (bs := ((some k1).getD Kp.z).asked) kr_ kr_ Try.underlying9 rfl (hA.bs.mono gr_) ⟨_, rfl, ?_⟩)
                refine WL.y rfl (Yd.fieldAddr (k := 10) kr_ rfl) ?_
                refine WL.h rfl (Hd.load1 kr_ rfl mem_ (by rfl) ⟨_, rfl, ?_⟩)
                refine WL.h rfl (Hd.toStr (e := 5) (bs := n.data) kr_ kr_ Try.underlying9 rfl (hvd.mono gr_) ⟨_, rfl, ?_⟩)
                refine WL.y rfl (Yd.neqS rfl rfl) ?_
                refine WL.nil ?_
                refine DN.then_normal ?_
                refine WC.ite rfl (fun h61 => ?_) (fun h61 => ?_)
                · refine WC.seq ?_
                  refine WC.region ?_
                  refine WL.y rfl (Yd.buildL (pl := [(0, 1), (1, 1), (2, 1), (3, 1), (4, 1), (5, 1)]) (zs := [.int .u32 0, .int .i64 0, .bool false, .slice none 0 0, .int .i64 0, .slice none 0 0]) (parts := []) (vs := []) (cells := [.int .u32 0, .int .i64 0, .bool false, .slice none 0 0, .int .i64 0, .slice none 0 0]) kr_ kr_ rfl rfl) ?_
                  refine WL.y rfl (Yd.assign rfl) ?_
                  refine WL.s (Hd.storeAll (n := 6) kr_ rfl rfl (by rfl) one_ fr_ (by rfl) ⟨rfl, ?_⟩)
                  refine WL.y rfl (Yd.assign rfl) ?_
                  refine WL.nil ?_
                  refine DN.then_normal ?_
                  refine WC.ret ?_
                  refine DN.then_ret ?_
                  refine DN.then_ret ?_
                  refine DN.retTCT (s := 6) (H) Try.results24 kr_ rfl rfl rfl mem_ (by rfl) sp_ ?_
                  rw [askK_clash hgood (by omega) hfk.symm (fun h => h61 (congrArg str h))]
                  exact ⟨_, _, [], [], rfl, Ob.nil _, Ob.nil _, rfl⟩
                · refine WC.skip ?_
                  refine DN.then_normal ?_
                  refine WC.seq ?_
                  refine WC.draw 4 kr_ rfl ?_
                  refine WA.y (i := 1) (NoPanic.then (NoPanic.then (NoPanic.body))) rfl kr_ kr_ kr_ rfl (Yd.assign rfl) ?_
                  refine WA.one (i := 0) kr_ ?_
                  refine WO.h rfl Wt.none rfl (Hd.loadAll (n := 6) kr_ rfl mem_ (by rfl) ⟨_, rfl, ?_⟩)
                  refine WA.one (i := 2) kr_ ?_
                  refine WO.s rfl Wt.none (Hd.storeAll (n := 6) kr_ rfl rfl (by rfl) (kc_one rfl rfl) fr_ (by rfl) ⟨rfl, ?_⟩)
                  refine WA.y (i := 3) (NoPanic.then (NoPanic.then (NoPanic.body))) rfl kr_ kr_ kr_ rfl (Yd.assign rfl) ?_
                  refine WA.done kr_ ?_
                  refine DN.then_normal ?_
                  refine WC.ret ?_
                  refine DN.then_ret ?_
                  refine DN.retTCT (s := 6) (A ++ (B ++ H)) Try.results24 kr_ rfl rfl rfl mem_ (by rfl) sp_ ?_
                  rw [askK_again hgood (by omega) hfk.symm (Classical.byContradiction fun h => h61 fun h9 => h (str_inj.1 h9))]
                  exact ⟨_, _, A, B, rfl, hA, hB, rfl⟩
              · obtain rfl : fk = none := by simpa using h54
                refine WC.skip ?_
                refine DN.then_normal ?_
                refine WC.seq ?_
                refine WC.region ?_
                refine WL.h rfl (Hd.loadAll (n := 2) kr_ rfl mem_ (by rfl) ⟨_, rfl, ?_⟩)
                refine WL.y rfl (Yd.fieldAddr (k := 5) kr_ rfl) ?_
                refine WL.h rfl (Hd.load1 kr_ rfl mem_ (by rfl) ⟨_, rfl, ?_⟩)
                refine WL.y rfl (Yd.fieldAddr (k := 6) kr_ rfl) ?_
                refine WL.h rfl (Hd.load1 kr_ rfl mem_ (by rfl) ⟨_, rfl, ?_⟩)
                refine WL.y rfl (Yd.fieldAddr (k := 7) kr_ rfl) ?_
                refine WL.h rfl (Hd.load1 kr_ rfl mem_ (by rfl) ⟨_, rfl, ?_⟩)
                refine WL.y rfl (Yd.notB rfl) ?_
                refine WL.c rfl (Ent.func Try.call26 rfl) (find2_tells e _ ks H hv hl n.order n.step (!n.undo)) (Sp.p sp_) ?_
                rintro x H1 ⟨wa2, wr2, A2, B2, rfl, hA2, hB2, rfl⟩
                obtain ⟨gk, hgk⟩ : ∃ q, q = findB ks n.order n.step (!n.undo) := ⟨_, rfl⟩
                rw [← hgk] at hA2 hB2 ⊢
                rw [findB_ok hck hst.1 hst.2.1] at hgk
                obtain ⟨oa2, ca2, rfl, _⟩ := hA2.form
                obtain ⟨or2, cr2, rfl, _⟩ := hB2.form
                refine WL.y rfl (Yd.move rfl) ?_
                refine WL.y rfl (Yd.extract rfl rfl) ?_
                refine WL.y rfl (Yd.extract rfl rfl) ?_
                refine WL.h rfl (Hd.alloc (zs := [.int .u32 0, .int .i64 0, .bool false, .slice none 0 0, .int .i64 0, .slice none 0 0]) kr_ fun b9 => ⟨_, rfl, ?_⟩)
                refine WL.s (Hd.storeAll (n := 6) kr_ rfl rfl (by rfl) (kc_one rfl rfl) fr_ (by rfl) ⟨rfl, ?_⟩)
                refine WL.y rfl (Yd.assign rfl) ?_
                refine WL.nil ?_
                refine DN.then_normal ?_
                refine WC.seq ?_
                refine WC.block ?_
                refine WC.seq ?_
                refine WC.region ?_
                refine WL.y rfl (Yd.fieldAddr (k := 7) kr_ rfl) ?_
                refine WL.h rfl (Hd.load1 kr_ rfl mem_ (by rfl) ⟨_, rfl, ?_⟩)
                refine WL.y rfl (Yd.notB rfl) ?_
                refine WL.y rfl (Yd.move rfl) ?_
                refine WL.part (t := 80) rfl (fun hg80 => ?_) (fun hg80 => ?_)
                · refine WL.gy (dj := 80) rfl rfl rfl (Yd.move rfl) ?_
                  refine WL.y rfl (Yd.pickT rfl rfl) ?_
                  refine WL.y rfl (Yd.assign rfl) ?_
                  refine WL.nil ?_
                  refine DN.then_normal ?_
                  refine WC.cond rfl (fun h76 => ?_) (fun h76 => ?_)
                  · refine WC.seq ?_
                    refine WC.region ?_
                    refine WL.y rfl (Yd.buildL (pl := [(0, 1), (1, 1), (2, 1), (3, 1), (4, 1), (5, 1)]) (zs := [.int .u32 0, .int .i64 0, .bool false, .slice none 0 0, .int .i64 0, .slice none 0 0]) (parts := []) (vs := []) (cells := [.int .u32 0, .int .i64 0, .bool false, .slice none 0 0, .int .i64 0, .slice none 0 0]) kr_ kr_ rfl rfl) ?_
                    refine WL.y rfl (Yd.assign rfl) ?_
                    refine WL.s (Hd.storeAll (n := 6) kr_ rfl rfl (by rfl) one_ fr_ (by rfl) ⟨rfl, ?_⟩)
                    refine WL.y rfl (Yd.assign rfl) ?_
                    refine WL.nil ?_
                    refine DN.then_normal ?_
                    refine WC.ret ?_
                    refine DN.block_ret ?_
                    refine DN.then_ret ?_
                    refine DN.retTCT (s := 6) (H) Try.results24 kr_ rfl rfl rfl mem_ (by rfl) sp_ ?_
                    first
                    | (have e9 : askK e ks n = (3, Kp.z, 0) := by rw [askK_two hgood (by omega) hfk.symm hgk]; exact if_pos ⟨by simpa using hg80, h76⟩
                       rw [e9]
                       exact ⟨_, _, [], [], rfl, Ob.nil _, Ob.nil _, rfl⟩)
                    | (have e9 : askK e ks n = (4, Kp.z, 0) := by
                         rw [askK_two hgood (by omega) hfk.symm hgk, if_neg (by rintro ⟨h5, h6⟩; rw [hg87] at h5; cases h5)]
                         first
                         | exact if_pos ⟨hg87, .inl (by simpa using hg90)⟩
                         | exact if_pos ⟨hg87, .inr (by simpa using h84)⟩
                       rw [e9]
                       exact ⟨_, _, [], [], rfl, Ob.nil _, Ob.nil _, rfl⟩)
                    | (have e9 : askK e ks n = (1, Kp.z, 0) := by
                         rw [askK_two hgood (by omega) hfk.symm hgk]
                         first
                         | rw [if_neg (by rintro ⟨h5, h6⟩; rw [hg87] at h5; cases h5), if_neg (by
                             rintro ⟨h5, h6⟩
                             exact h6.elim (fun h6 => by rw [h6] at hg90; exact absurd hg90 (by decide)) (fun h6 => absurd h6 (by simpa using h84)))]
                         | rw [if_neg (by
                             rintro ⟨h5, h6⟩
                             first
                             | (rw [h6] at h76; exact absurd h76 (by decide))
                             | (rw [h5] at hg80; exact absurd hg80 (by decide))), if_neg (by rintro ⟨h5, h6⟩; rw [hg87] at h5; cases h5)]
                       rw [e9]
                       exact ⟨_, _, [], [], rfl, Ob.nil _, Ob.nil _, rfl⟩)
                  · refine WC.seq ?_
                    refine WC.region ?_
                    refine WL.y rfl (Yd.fieldAddr (k := 7) kr_ rfl) ?_
                    refine WL.h rfl (Hd.load1 kr_ rfl mem_ (by rfl) ⟨_, rfl, ?_⟩)
                    refine WL.y rfl (Yd.move rfl) ?_
                    refine WL.part (t := 87) rfl (fun hg87 => ?_) (fun hg87 => ?_)
                    · refine WL.gy (dj := 87) rfl rfl rfl (Yd.move rfl) ?_
                      refine WL.gy (dj := 87) rfl rfl rfl (Yd.notB rfl) ?_
                      refine WL.gy (dj := 87) rfl rfl rfl (Yd.move rfl) ?_
                      refine WL.part (t := 90) rfl (fun hg90 => ?_) (fun hg90 => ?_)
                      · refine WL.gn (dj := 90) rfl rfl rfl rfl ?_
                        refine WL.gn (dj := 90) rfl rfl rfl rfl ?_
                        refine WL.gn (dj := 90) rfl rfl rfl rfl ?_
                        refine WL.gy (dj := 87) rfl rfl rfl (Yd.pickT rfl rfl) ?_
                        refine WL.y rfl (Yd.pickT rfl rfl) ?_
                        refine WL.y rfl (Yd.assign rfl) ?_
                        refine WL.nil ?_
                        refine DN.then_normal ?_
                        refine WC.yes rfl ?_
                        refine WC.seq ?_
                        refine WC.region ?_
                        refine WL.y rfl (Yd.buildL (pl := [(0, 1), (1, 1), (2, 1), (3, 1), (4, 1), (5, 1)]) (zs := [.int .u32 0, .int .i64 0, .bool false, .slice none 0 0, .int .i64 0, .slice none 0 0]) (parts := []) (vs := []) (cells := [.int .u32 0, .int .i64 0, .bool false, .slice none 0 0, .int .i64 0, .slice none 0 0]) kr_ kr_ rfl rfl) ?_
                        refine WL.y rfl (Yd.assign rfl) ?_
                        refine WL.s (Hd.storeAll (n := 6) kr_ rfl rfl (by rfl) one_ fr_ (by rfl) ⟨rfl, ?_⟩)
                        refine WL.y rfl (Yd.assign rfl) ?_
                        refine WL.nil ?_
                        refine DN.then_normal ?_
                        refine WC.ret ?_
                        refine DN.block_ret ?_
                        refine DN.then_ret ?_
                        refine DN.retTCT (s := 6) (H) Try.results24 kr_ rfl rfl rfl mem_ (by rfl) sp_ ?_
                        first
                        | (have e9 : askK e ks n = (3, Kp.z, 0) := by rw [askK_two hgood (by omega) hfk.symm hgk]; exact if_pos ⟨by simpa using hg80, h76⟩
                           rw [e9]
                           exact ⟨_, _, [], [], rfl, Ob.nil _, Ob.nil _, rfl⟩)
                        | (have e9 : askK e ks n = (4, Kp.z, 0) := by
                             rw [askK_two hgood (by omega) hfk.symm hgk, if_neg (by rintro ⟨h5, h6⟩; rw [hg87] at h5; cases h5)]
                             first
                             | exact if_pos ⟨hg87, .inl (by simpa using hg90)⟩
                             | exact if_pos ⟨hg87, .inr (by simpa using h84)⟩
                           rw [e9]
                           exact ⟨_, _, [], [], rfl, Ob.nil _, Ob.nil _, rfl⟩)
                        | (have e9 : askK e ks n = (1, Kp.z, 0) := by
                             rw [askK_two hgood (by omega) hfk.symm hgk]
                             first
                             | rw [if_neg (by rintro ⟨h5, h6⟩; rw [hg87] at h5; cases h5), if_neg (by
                                 rintro ⟨h5, h6⟩
                                 exact h6.elim (fun h6 => by rw [h6] at hg90; exact absurd hg90 (by decide)) (fun h6 => absurd h6 (by simpa using h84)))]
                             | rw [if_neg (by
                                 rintro ⟨h5, h6⟩
                                 first
                                 | (rw [h6] at h76; exact absurd h76 (by decide))
                                 | (rw [h5] at hg80; exact absurd hg80 (by decide))), if_neg (by rintro ⟨h5, h6⟩; rw [hg87] at h5; cases h5)]
                           rw [e9]
                           exact ⟨_, _, [], [], rfl, Ob.nil _, Ob.nil _, rfl⟩)
                      · refine WL.gy (dj := 90) rfl rfl rfl (Yd.fieldAddr (k := 4) kr_ rfl) ?_
                        refine WL.gh (dj := 90) rfl rfl rfl (Hd.load1 kr_ rfl mem_ (by rfl) ⟨_, rfl, ?_⟩)
                        refine WL.gy (dj := 90) rfl rfl rfl (Yd.eql rfl rfl) ?_
                        refine WL.gy (dj := 87) rfl rfl rfl (Yd.pickF rfl rfl) ?_
                        refine WL.y rfl (Yd.pickT rfl rfl) ?_
                        refine WL.y rfl (Yd.assign rfl) ?_
                        refine WL.nil ?_
                        refine DN.then_normal ?_
                        refine WC.cond rfl (fun h84 => ?_) (fun h84 => ?_)
                        · refine WC.seq ?_
                          refine WC.region ?_
                          refine WL.y rfl (Yd.buildL (pl := [(0, 1), (1, 1), (2, 1), (3, 1), (4, 1), (5, 1)]) (zs := [.int .u32 0, .int .i64 0, .bool false, .slice none 0 0, .int .i64 0, .slice none 0 0]) (parts := []) (vs := []) (cells := [.int .u32 0, .int .i64 0, .bool false, .slice none 0 0, .int .i64 0, .slice none 0 0]) kr_ kr_ rfl rfl) ?_
                          refine WL.y rfl (Yd.assign rfl) ?_
                          refine WL.s (Hd.storeAll (n := 6) kr_ rfl rfl (by rfl) one_ fr_ (by rfl) ⟨rfl, ?_⟩)
                          refine WL.y rfl (Yd.assign rfl) ?_
                          refine WL.nil ?_
                          refine DN.then_normal ?_
                          refine WC.ret ?_
                          refine DN.block_ret ?_
                          refine DN.then_ret ?_
                          refine DN.retTCT (s := 6) (H) Try.results24 kr_ rfl rfl rfl mem_ (by rfl) sp_ ?_
                          first
                          | (have e9 : askK e ks n = (3, Kp.z, 0) := by rw [askK_two hgood (by omega) hfk.symm hgk]; exact if_pos ⟨by simpa using hg80, h76⟩
                             rw [e9]
                             exact ⟨_, _, [], [], rfl, Ob.nil _, Ob.nil _, rfl⟩)
                          | (have e9 : askK e ks n = (4, Kp.z, 0) := by
                               rw [askK_two hgood (by omega) hfk.symm hgk, if_neg (by rintro ⟨h5, h6⟩; rw [hg87] at h5; cases h5)]
                               first
                               | exact if_pos ⟨hg87, .inl (by simpa using hg90)⟩
                               | exact if_pos ⟨hg87, .inr (by simpa using h84)⟩
                             rw [e9]
                             exact ⟨_, _, [], [], rfl, Ob.nil _, Ob.nil _, rfl⟩)
                          | (have e9 : askK e ks n = (1, Kp.z, 0) := by
                               rw [askK_two hgood (by omega) hfk.symm hgk]
                               first
                               | rw [if_neg (by rintro ⟨h5, h6⟩; rw [hg87] at h5; cases h5), if_neg (by
                                   rintro ⟨h5, h6⟩
                                   exact h6.elim (fun h6 => by rw [h6] at hg90; exact absurd hg90 (by decide)) (fun h6 => absurd h6 (by simpa using h84)))]
                               | rw [if_neg (by
                                   rintro ⟨h5, h6⟩
                                   first
                                   | (rw [h6] at h76; exact absurd h76 (by decide))
                                   | (rw [h5] at hg80; exact absurd hg80 (by decide))), if_neg (by rintro ⟨h5, h6⟩; rw [hg87] at h5; cases h5)]
                             rw [e9]
                             exact ⟨_, _, [], [], rfl, Ob.nil _, Ob.nil _, rfl⟩)
                        · refine WC.skip ?_
                          refine DN.block_normal ?_
                          refine DN.then_normal ?_
                          refine WC.seq ?_
                          refine WC.region ?_
                          refine WL.y rfl (Yd.buildL (pl := [(0, 1), (1, 1), (2, 1), (3, 1), (4, 1), (5, 1)]) (zs := [.int .u32 0, .int .i64 0, .bool false, .slice none 0 0, .int .i64 0, .slice none 0 0]) (parts := []) (vs := []) (cells := [.int .u32 0, .int .i64 0, .bool false, .slice none 0 0, .int .i64 0, .slice none 0 0]) kr_ kr_ rfl rfl) ?_
                          refine WL.y rfl (Yd.assign rfl) ?_
                          refine WL.s (Hd.storeAll (n := 6) kr_ rfl rfl (by rfl) one_ fr_ (by rfl) ⟨rfl, ?_⟩)
                          refine WL.y rfl (Yd.assign rfl) ?_
                          refine WL.nil ?_
                          refine DN.then_normal ?_
                          refine WC.ret ?_
                          refine DN.retTCT (s := 6) (H) Try.results24 kr_ rfl rfl rfl mem_ (by rfl) sp_ ?_
                          first
                          | (have e9 : askK e ks n = (3, Kp.z, 0) := by rw [askK_two hgood (by omega) hfk.symm hgk]; exact if_pos ⟨by simpa using hg80, h76⟩
                             rw [e9]
                             exact ⟨_, _, [], [], rfl, Ob.nil _, Ob.nil _, rfl⟩)
                          | (have e9 : askK e ks n = (4, Kp.z, 0) := by
                               rw [askK_two hgood (by omega) hfk.symm hgk, if_neg (by rintro ⟨h5, h6⟩; rw [hg87] at h5; cases h5)]
                               first
                               | exact if_pos ⟨hg87, .inl (by simpa using hg90)⟩
                               | exact if_pos ⟨hg87, .inr (by simpa using h84)⟩
                             rw [e9]
                             exact ⟨_, _, [], [], rfl, Ob.nil _, Ob.nil _, rfl⟩)
                          | (have e9 : askK e ks n = (1, Kp.z, 0) := by
                               rw [askK_two hgood (by omega) hfk.symm hgk]
                               first
                               | rw [if_neg (by rintro ⟨h5, h6⟩; rw [hg87] at h5; cases h5), if_neg (by
                                   rintro ⟨h5, h6⟩
                                   exact h6.elim (fun h6 => by rw [h6] at hg90; exact absurd hg90 (by decide)) (fun h6 => absurd h6 (by simpa using h84)))]
                               | rw [if_neg (by
                                   rintro ⟨h5, h6⟩
                                   first
                                   | (rw [h6] at h76; exact absurd h76 (by decide))
                                   | (rw [h5] at hg80; exact absurd hg80 (by decide))), if_neg (by rintro ⟨h5, h6⟩; rw [hg87] at h5; cases h5)]
                             rw [e9]
                             exact ⟨_, _, [], [], rfl, Ob.nil _, Ob.nil _, rfl⟩)
                    · refine WL.gn (dj := 87) rfl rfl rfl rfl ?_
                      refine WL.gn (dj := 87) rfl rfl rfl rfl ?_
                      refine WL.gn (dj := 87) rfl rfl rfl rfl ?_
                      refine WL.gu (dj := 90) rfl rfl rfl ?_
                      refine WL.gu (dj := 90) rfl rfl rfl ?_
                      refine WL.gu (dj := 90) rfl rfl rfl ?_
                      refine WL.gn (dj := 87) rfl rfl rfl rfl ?_
                      refine WL.y rfl (Yd.pickF rfl rfl) ?_
                      refine WL.y rfl (Yd.assign rfl) ?_
                      refine WL.nil ?_
                      refine DN.then_normal ?_
                      refine WC.no rfl ?_
                      refine WC.skip ?_
                      refine DN.block_normal ?_
                      refine DN.then_normal ?_
                      refine WC.seq ?_
                      refine WC.region ?_
                      refine WL.y rfl (Yd.buildL (pl := [(0, 1), (1, 1), (2, 1), (3, 1), (4, 1), (5, 1)]) (zs := [.int .u32 0, .int .i64 0, .bool false, .slice none 0 0, .int .i64 0, .slice none 0 0]) (parts := []) (vs := []) (cells := [.int .u32 0, .int .i64 0, .bool false, .slice none 0 0, .int .i64 0, .slice none 0 0]) kr_ kr_ rfl rfl) ?_
                      refine WL.y rfl (Yd.assign rfl) ?_
                      refine WL.s (Hd.storeAll (n := 6) kr_ rfl rfl (by rfl) one_ fr_ (by rfl) ⟨rfl, ?_⟩)
                      refine WL.y rfl (Yd.assign rfl) ?_
                      refine WL.nil ?_
                      refine DN.then_normal ?_
                      refine WC.ret ?_
                      refine DN.retTCT (s := 6) (H) Try.results24 kr_ rfl rfl rfl mem_ (by rfl) sp_ ?_
                      first
                      | (have e9 : askK e ks n = (3, Kp.z, 0) := by rw [askK_two hgood (by omega) hfk.symm hgk]; exact if_pos ⟨by simpa using hg80, h76⟩
                         rw [e9]
                         exact ⟨_, _, [], [], rfl, Ob.nil _, Ob.nil _, rfl⟩)
                      | (have e9 : askK e ks n = (4, Kp.z, 0) := by
                           rw [askK_two hgood (by omega) hfk.symm hgk, if_neg (by rintro ⟨h5, h6⟩; rw [hg87] at h5; cases h5)]
                           first
                           | exact if_pos ⟨hg87, .inl (by simpa using hg90)⟩
                           | exact if_pos ⟨hg87, .inr (by simpa using h84)⟩
                         rw [e9]
                         exact ⟨_, _, [], [], rfl, Ob.nil _, Ob.nil _, rfl⟩)
                      | (have e9 : askK e ks n = (1, Kp.z, 0) := by
                           rw [askK_two hgood (by omega) hfk.symm hgk]
                           first
                           | rw [if_neg (by rintro ⟨h5, h6⟩; rw [hg87] at h5; cases h5), if_neg (by
                               rintro ⟨h5, h6⟩
                               exact h6.elim (fun h6 => by rw [h6] at hg90; exact absurd hg90 (by decide)) (fun h6 => absurd h6 (by simpa using h84)))]
                           | rw [if_neg (by
                               rintro ⟨h5, h6⟩
                               first
                               | (rw [h6] at h76; exact absurd h76 (by decide))
                               | (rw [h5] at hg80; exact absurd hg80 (by decide))), if_neg (by rintro ⟨h5, h6⟩; rw [hg87] at h5; cases h5)]
                         rw [e9]
                         exact ⟨_, _, [], [], rfl, Ob.nil _, Ob.nil _, rfl⟩)
                · refine WL.gn (dj := 80) rfl rfl rfl rfl ?_
                  refine WL.y rfl (Yd.pickF rfl rfl) ?_
                  refine WL.y rfl (Yd.assign rfl) ?_
                  refine WL.nil ?_
                  refine DN.then_normal ?_
                  refine WC.no rfl ?_
                  refine WC.seq ?_
                  refine WC.region ?_
                  refine WL.y rfl (Yd.fieldAddr (k := 7) kr_ rfl) ?_
                  refine WL.h rfl (Hd.load1 kr_ rfl mem_ (by rfl) ⟨_, rfl, ?_⟩)
                  refine WL.y rfl (Yd.move rfl) ?_
                  refine WL.part (t := 87) rfl (fun hg87 => ?_) (fun hg87 => ?_)
                  · refine WL.gy (dj := 87) rfl rfl rfl (Yd.move rfl) ?_
                    refine WL.gy (dj := 87) rfl rfl rfl (Yd.notB rfl) ?_
                    refine WL.gy (dj := 87) rfl rfl rfl (Yd.move rfl) ?_
                    refine WL.part (t := 90) rfl (fun hg90 => ?_) (fun hg90 => ?_)
                    · refine WL.gn (dj := 90) rfl rfl rfl rfl ?_
                      refine WL.gn (dj := 90) rfl rfl rfl rfl ?_
                      refine WL.gn (dj := 90) rfl rfl rfl rfl ?_
                      refine WL.gy (dj := 87) rfl rfl rfl (Yd.pickT rfl rfl) ?_
                      refine WL.y rfl (Yd.pickT rfl rfl) ?_
                      refine WL.y rfl (Yd.assign rfl) ?_
                      refine WL.nil ?_
                      refine DN.then_normal ?_
                      refine WC.yes rfl ?_
                      refine WC.seq ?_
                      refine WC.region ?_
                      refine WL.y rfl (Yd.buildL (pl := [(0, 1), (1, 1), (2, 1), (3, 1), (4, 1), (5, 1)]) (zs := [.int .u32 0, .int .i64 0, .bool false, .slice none 0 0, .int .i64 0, .slice none 0 0]) (parts := []) (vs := []) (cells := [.int .u32 0, .int .i64 0, .bool false, .slice none 0 0, .int .i64 0, .slice none 0 0]) kr_ kr_ rfl rfl) ?_
                      refine WL.y rfl (Yd.assign rfl) ?_
                      refine WL.s (Hd.storeAll (n := 6) kr_ rfl rfl (by rfl) one_ fr_ (by rfl) ⟨rfl, ?_⟩)
                      refine WL.y rfl (Yd.assign rfl) ?_
                      refine WL.nil ?_
                      refine DN.then_normal ?_
                      refine WC.ret ?_
                      refine DN.block_ret ?_
                      refine DN.then_ret ?_
                      refine DN.retTCT (s := 6) (H) Try.results24 kr_ rfl rfl rfl mem_ (by rfl) sp_ ?_
                      first
                      | (have e9 : askK e ks n = (3, Kp.z, 0) := by rw [askK_two hgood (by omega) hfk.symm hgk]; exact if_pos ⟨by simpa using hg80, h76⟩
                         rw [e9]
                         exact ⟨_, _, [], [], rfl, Ob.nil _, Ob.nil _, rfl⟩)
                      | (have e9 : askK e ks n = (4, Kp.z, 0) := by
                           rw [askK_two hgood (by omega) hfk.symm hgk, if_neg (by rintro ⟨h5, h6⟩; rw [hg87] at h5; cases h5)]
                           first
                           | exact if_pos ⟨hg87, .inl (by simpa using hg90)⟩
                           | exact if_pos ⟨hg87, .inr (by simpa using h84)⟩
                         rw [e9]
                         exact ⟨_, _, [], [], rfl, Ob.nil _, Ob.nil _, rfl⟩)
                      | (have e9 : askK e ks n = (1, Kp.z, 0) := by
                           rw [askK_two hgood (by omega) hfk.symm hgk]
                           first
                           | rw [if_neg (by rintro ⟨h5, h6⟩; rw [hg87] at h5; cases h5), if_neg (by
                               rintro ⟨h5, h6⟩
                               exact h6.elim (fun h6 => by rw [h6] at hg90; exact absurd hg90 (by decide)) (fun h6 => absurd h6 (by simpa using h84)))]
                           | rw [if_neg (by
                               rintro ⟨h5, h6⟩
                               first
                               | (rw [h6] at h76; exact absurd h76 (by decide))
                               | (rw [h5] at hg80; exact absurd hg80 (by decide))), if_neg (by rintro ⟨h5, h6⟩; rw [hg87] at h5; cases h5)]
                         rw [e9]
                         exact ⟨_, _, [], [], rfl, Ob.nil _, Ob.nil _, rfl⟩)
                    · refine WL.gy (dj := 90) rfl rfl rfl (Yd.fieldAddr (k := 4) kr_ rfl) ?_
                      refine WL.gh (dj := 90) rfl rfl rfl (Hd.load1 kr_ rfl mem_ (by rfl) ⟨_, rfl, ?_⟩)
                      refine WL.gy (dj := 90) rfl rfl rfl (Yd.eql rfl rfl) ?_
                      refine WL.gy (dj := 87) rfl rfl rfl (Yd.pickF rfl rfl) ?_
                      refine WL.y rfl (Yd.pickT rfl rfl) ?_
                      refine WL.y rfl (Yd.assign rfl) ?_
                      refine WL.nil ?_
                      refine DN.then_normal ?_
                      refine WC.cond rfl (fun h84 => ?_) (fun h84 => ?_)
                      · refine WC.seq ?_
                        refine WC.region ?_
                        refine WL.y rfl (Yd.buildL (pl := [(0, 1), (1, 1), (2, 1), (3, 1), (4, 1), (5, 1)]) (zs := [.int .u32 0, .int .i64 0, .bool false, .slice none 0 0, .int .i64 0, .slice none 0 0]) (parts := []) (vs := []) (cells := [.int .u32 0, .int .i64 0, .bool false, .slice none 0 0, .int .i64 0, .slice none 0 0]) kr_ kr_ rfl rfl) ?_
                        refine WL.y rfl (Yd.assign rfl) ?_
                        refine WL.s (Hd.storeAll (n := 6) kr_ rfl rfl (by rfl) one_ fr_ (by rfl) ⟨rfl, ?_⟩)
                        refine WL.y rfl (Yd.assign rfl) ?_
                        refine WL.nil ?_
                        refine DN.then_normal ?_
                        refine WC.ret ?_
                        refine DN.block_ret ?_
                        refine DN.then_ret ?_
                        refine DN.retTCT (s := 6) (H) Try.results24 kr_ rfl rfl rfl mem_ (by rfl) sp_ ?_
                        first
                        | (have e9 : askK e ks n = (3, Kp.z, 0) := by rw [askK_two hgood (by omega) hfk.symm hgk]; exact if_pos ⟨by simpa using hg80, h76⟩
                           rw [e9]
                           exact ⟨_, _, [], [], rfl, Ob.nil _, Ob.nil _, rfl⟩)
                        | (have e9 : askK e ks n = (4, Kp.z, 0) := by
                             rw [askK_two hgood (by omega) hfk.symm hgk, if_neg (by rintro ⟨h5, h6⟩; rw [hg87] at h5; cases h5)]
                             first
                             | exact if_pos ⟨hg87, .inl (by simpa using hg90)⟩
                             | exact if_pos ⟨hg87, .inr (by simpa using h84)⟩
                           rw [e9]
                           exact ⟨_, _, [], [], rfl, Ob.nil _, Ob.nil _, rfl⟩)
                        | (have e9 : askK e ks n = (1, Kp.z, 0) := by
                             rw [askK_two hgood (by omega) hfk.symm hgk]
                             first
                             | rw [if_neg (by rintro ⟨h5, h6⟩; rw [hg87] at h5; cases h5), if_neg (by
                                 rintro ⟨h5, h6⟩
                                 exact h6.elim (fun h6 => by rw [h6] at hg90; exact absurd hg90 (by decide)) (fun h6 => absurd h6 (by simpa using h84)))]
                             | rw [if_neg (by
                                 rintro ⟨h5, h6⟩
                                 first
                                 | (rw [h6] at h76; exact absurd h76 (by decide))
                                 | (rw [h5] at hg80; exact absurd hg80 (by decide))), if_neg (by rintro ⟨h5, h6⟩; rw [hg87] at h5; cases h5)]
                           rw [e9]
                           exact ⟨_, _, [], [], rfl, Ob.nil _, Ob.nil _, rfl⟩)
                      · refine WC.skip ?_
                        refine DN.block_normal ?_
                        refine DN.then_normal ?_
                        refine WC.seq ?_
                        refine WC.region ?_
                        refine WL.y rfl (Yd.buildL (pl := [(0, 1), (1, 1), (2, 1), (3, 1), (4, 1), (5, 1)]) (zs := [.int .u32 0, .int .i64 0, .bool false, .slice none 0 0, .int .i64 0, .slice none 0 0]) (parts := []) (vs := []) (cells := [.int .u32 0, .int .i64 0, .bool false, .slice none 0 0, .int .i64 0, .slice none 0 0]) kr_ kr_ rfl rfl) ?_
                        refine WL.y rfl (Yd.assign rfl) ?_
                        refine WL.s (Hd.storeAll (n := 6) kr_ rfl rfl (by rfl) one_ fr_ (by rfl) ⟨rfl, ?_⟩)
                        refine WL.y rfl (Yd.assign rfl) ?_
                        refine WL.nil ?_
                        refine DN.then_normal ?_
                        refine WC.ret ?_
                        refine DN.retTCT (s := 6) (H) Try.results24 kr_ rfl rfl rfl mem_ (by rfl) sp_ ?_
                        first
                        | (have e9 : askK e ks n = (3, Kp.z, 0) := by rw [askK_two hgood (by omega) hfk.symm hgk]; exact if_pos ⟨by simpa using hg80, h76⟩
                           rw [e9]
                           exact ⟨_, _, [], [], rfl, Ob.nil _, Ob.nil _, rfl⟩)
                        | (have e9 : askK e ks n = (4, Kp.z, 0) := by
                             rw [askK_two hgood (by omega) hfk.symm hgk, if_neg (by rintro ⟨h5, h6⟩; rw [hg87] at h5; cases h5)]
                             first
                             | exact if_pos ⟨hg87, .inl (by simpa using hg90)⟩
                             | exact if_pos ⟨hg87, .inr (by simpa using h84)⟩
                           rw [e9]
                           exact ⟨_, _, [], [], rfl, Ob.nil _, Ob.nil _, rfl⟩)
                        | (have e9 : askK e ks n = (1, Kp.z, 0) := by
                             rw [askK_two hgood (by omega) hfk.symm hgk]
                             first
                             | rw [if_neg (by rintro ⟨h5, h6⟩; rw [hg87] at h5; cases h5), if_neg (by
                                 rintro ⟨h5, h6⟩
                                 exact h6.elim (fun h6 => by rw [h6] at hg90; exact absurd hg90 (by decide)) (fun h6 => absurd h6 (by simpa using h84)))]
                             | rw [if_neg (by
                                 rintro ⟨h5, h6⟩
                                 first
                                 | (rw [h6] at h76; exact absurd h76 (by decide))
                                 | (rw [h5] at hg80; exact absurd hg80 (by decide))), if_neg (by rintro ⟨h5, h6⟩; rw [hg87] at h5; cases h5)]
                           rw [e9]
                           exact ⟨_, _, [], [], rfl, Ob.nil _, Ob.nil _, rfl⟩)
                  · refine WL.gn (dj := 87) rfl rfl rfl rfl ?_
                    refine WL.gn (dj := 87) rfl rfl rfl rfl ?_
                    refine WL.gn (dj := 87) rfl rfl rfl rfl ?_
                    refine WL.gu (dj := 90) rfl rfl rfl ?_
                    refine WL.gu (dj := 90) rfl rfl rfl ?_
                    refine WL.gu (dj := 90) rfl rfl rfl ?_
                    refine WL.gn (dj := 87) rfl rfl rfl rfl ?_
                    refine WL.y rfl (Yd.pickF rfl rfl) ?_
                    refine WL.y rfl (Yd.assign rfl) ?_
                    refine WL.nil ?_
                    refine DN.then_normal ?_
                    refine WC.no rfl ?_
                    refine WC.skip ?_
                    refine DN.block_normal ?_
                    refine DN.then_normal ?_
                    refine WC.seq ?_
                    refine WC.region ?_
                    refine WL.y rfl (Yd.buildL (pl := [(0, 1), (1, 1), (2, 1), (3, 1), (4, 1), (5, 1)]) (zs := [.int .u32 0, .int .i64 0, .bool false, .slice none 0 0, .int .i64 0, .slice none 0 0]) (parts := []) (vs := []) (cells := [.int .u32 0, .int .i64 0, .bool false, .slice none 0 0, .int .i64 0, .slice none 0 0]) kr_ kr_ rfl rfl) ?_
                    refine WL.y rfl (Yd.assign rfl) ?_
                    refine WL.s (Hd.storeAll (n := 6) kr_ rfl rfl (by rfl) one_ fr_ (by rfl) ⟨rfl, ?_⟩)
                    refine WL.y rfl (Yd.assign rfl) ?_
                    refine WL.nil ?_
                    refine DN.then_normal ?_
                    refine WC.ret ?_
                    refine DN.retTCT (s := 6) (H) Try.results24 kr_ rfl rfl rfl mem_ (by rfl) sp_ ?_
                    first
                    | (have e9 : askK e ks n = (3, Kp.z, 0) := by rw [askK_two hgood (by omega) hfk.symm hgk]; exact if_pos ⟨by simpa using hg80, h76⟩
                       rw [e9]
                       exact ⟨_, _, [], [], rfl, Ob.nil _, Ob.nil _, rfl⟩)
                    | (have e9 : askK e ks n = (4, Kp.z, 0) := by
                         rw [askK_two hgood (by omega) hfk.symm hgk, if_neg (by rintro ⟨h5, h6⟩; rw [hg87] at h5; cases h5)]
                         first
                         | exact if_pos ⟨hg87, .inl (by simpa using hg90)⟩
                         | exact if_pos ⟨hg87, .inr (by simpa using h84)⟩
                       rw [e9]
                       exact ⟨_, _, [], [], rfl, Ob.nil _, Ob.nil _, rfl⟩)
                    | (have e9 : askK e ks n = (1, Kp.z, 0) := by
                         rw [askK_two hgood (by omega) hfk.symm hgk]
                         first
                         | rw [if_neg (by rintro ⟨h5, h6⟩; rw [hg87] at h5; cases h5), if_neg (by
                             rintro ⟨h5, h6⟩
                             exact h6.elim (fun h6 => by rw [h6] at hg90; exact absurd hg90 (by decide)) (fun h6 => absurd h6 (by simpa using h84)))]
                         | rw [if_neg (by
                             rintro ⟨h5, h6⟩
                             first
                             | (rw [h6] at h76; exact absurd h76 (by decide))
                             | (rw [h5] at hg80; exact absurd hg80 (by decide))), if_neg (by rintro ⟨h5, h6⟩; rw [hg87] at h5; cases h5)]
                       rw [e9]
                       exact ⟨_, _, [], [], rfl, Ob.nil _, Ob.nil _, rfl⟩)

end Go.Proofs.Ytonnkgblligdkaa
