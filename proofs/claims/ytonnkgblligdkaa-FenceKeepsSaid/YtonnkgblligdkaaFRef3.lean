/-
  The walks of the document's fence (drayageref08): Keep.
-/
import Derived.Test.YtonnkgblligdkaaFRef2
set_option linter.unusedVariables false
set_option linter.unusedSimpArgs false
set_option maxHeartbeats 4000000
namespace Go.Proofs.Ytonnkgblligdkaa
open Go.SL


/-- drayage/drayageref08.Keep -/
theorem rkeep_tells (e : BitVec 32) (v : Value) (ks : List Kp) (H : List Ck) (hv : KV v ks H) (hl : ks.length ≤ 1000) (hb : ∀ k ∈ ks, k.asked.length ≤ 1000000 ∧ k.reply.length ≤ 1000000) (n : Nt) (vk vd : Value) (hvk : Bs vk n.key H) (hvd : Bs vd n.data H) (code : Int) (vr : Value) (reply : List (BitVec 8)) (hvr : Bs vr reply H) : Tells Try.prog 16 [.agg #[.int .u32 e.toNat, v], .agg (ntc n vk vd).toArray, .int .i64 code, vr] H fun r H' => ∃ w D, r = .tuple #[.agg #[.int .u32 (keepK e ks n code reply).1.toNat, w], .int .i64 (keepK e ks n code reply).2.2] ∧ FAt 5 43 w (keepK e ks n code reply).2.1 D ∧ H' = D ++ H := by
  refine Tells.enter Try.func16 rfl Try.ntmps16 rfl ?_
  intro w0 R
  obtain ⟨ao, c, rfl, hc⟩ := hv.form
  obtain ⟨ko, kcap, rfl, hkc⟩ := hvk.form
  obtain ⟨do_, dc, rfl, hdc⟩ := hvd.form
  obtain ⟨ro, rc, rfl, hrc⟩ := hvr.form
  refine WC.seq ?_
  refine WC.region ?_
  refine WL.h rfl (Hd.boxA rfl fun b4 => ⟨_, rfl, ?_⟩)
  refine WL.h rfl (Hd.boxA rfl fun b5 => ⟨_, rfl, ?_⟩)
  refine WL.h rfl (Hd.alloc (zs := [.int .u32 0, .slice none 0 0]) kr_ fun b8 => ⟨_, rfl, ?_⟩)
  refine WL.y rfl (Yd.assign rfl) ?_
  refine WL.nil ?_
  refine DN.then_normal ?_
  refine WC.seq ?_
  refine WC.region ?_
  refine WL.h rfl (Hd.loadAll (n := 2) kr_ rfl mem_ (by rfl) ⟨_, rfl, ?_⟩)
  refine WL.h rfl (Hd.loadAll (n := 11) kr_ rfl mem_ (by rfl) ⟨_, rfl, ?_⟩)
  refine WL.c rfl (Ent.func Try.call25 rfl) (rask_tells e _ ks H hv hl n _ _ hvk hvd) (Sp.p sp_) ?_
  rintro x H9 ⟨wa, wr, rfl, hA, hB, hH9⟩
  rw [hH9]
  clear hH9 H9
  obtain ⟨q, hq⟩ : ∃ q, q = askK e ks n := ⟨_, rfl⟩
  rw [← hq] at hA hB ⊢
  obtain ⟨act, kk, er⟩ := q
  dsimp only at hA hB ⊢
  obtain ⟨oa, ca, rfl, _⟩ := hA.form
  obtain ⟨or_, cr, rfl, _⟩ := hB.form
  refine WL.y rfl (Yd.move rfl) ?_
  refine WL.y rfl (Yd.extract rfl rfl) ?_
  refine WL.y rfl (Yd.extract rfl rfl) ?_
  refine WL.y rfl (Yd.extract rfl rfl) ?_
  refine WL.h rfl (Hd.alloc (zs := [.int .u32 0, .int .i64 0, .bool false, .slice none 0 0, .int .i64 0, .slice none 0 0]) kr_ fun b11 => ⟨_, rfl, ?_⟩)
  refine WL.y rfl (Yd.assign rfl) ?_
  refine WL.s (Hd.storeAll (n := 6) kr_ rfl rfl (by rfl) (kc_one rfl rfl) fr_ (by rfl) ⟨rfl, ?_⟩)
  refine WL.y rfl (Yd.assign rfl) ?_
  refine WL.nil ?_
  refine DN.then_normal ?_
  refine WC.seq ?_
  refine WC.seq ?_
  refine WC.region ?_
  refine WL.y rfl (Yd.move rfl) ?_
  refine WL.y rfl (Yd.neq rfl rfl) ?_
  refine WL.nil ?_
  refine DN.then_normal ?_
  refine WC.ite rfl (fun h26 => ?_) (fun h26 => ?_)
  · refine WC.seq ?_
    refine WC.region ?_
    refine WL.y rfl (Yd.buildL (pl := [(0, 1), (1, 1)]) (zs := [.int .u32 0, .slice none 0 0]) (parts := []) (vs := []) (cells := [.int .u32 0, .slice none 0 0]) kr_ kr_ rfl rfl) ?_
    refine WL.y rfl (Yd.move rfl) ?_
    refine WL.s (Hd.storeAll (n := 2) kr_ rfl rfl (by rfl) one_ fr_ (by rfl) ⟨rfl, ?_⟩)
    refine WL.y rfl (Yd.assign rfl) ?_
    refine WL.nil ?_
    refine DN.then_normal ?_
    refine WC.ret ?_
    refine DN.then_ret ?_
    refine DN.retCT (s := 2) (H) Try.results16 kr_ rfl rfl mem_ (by rfl) sp_ ?_
    rw [keepK_err (by rw [← hq]; exact h26), ← hq]
    exact ⟨_, [], rfl, FAt.nil _ _, rfl⟩
  · have h0 : (askK e ks n).2.2 = 0 := by rw [← hq]; exact Classical.byContradiction h26
    have hgo := askK_ok h0
    have hck := good_chk hgo.1
    have hrs := right_step (code := code) (reply := reply) hgo.1
    refine WC.skip ?_
    refine DN.then_normal ?_
    refine WC.seq ?_
    refine WC.cutK (fun z : Bool => z = true ↔ keepBad (act, kk, er) (stepK n code reply)) (fun z : Bool => [(55, .bool z)]) (fun z : Bool => row b11 (kc kk (.slice oa kk.asked.length ca) (.slice or_ kk.reply.length cr)) 43 :: (row b8 [.int .u32 0, .slice none 0 0] 25 :: row b5 (ntc n (.slice ko n.key.length kcap) (.slice do_ n.data.length dc)) 29 :: row b4 [.int .u32 e.toNat, .slice ao ks.length c] 25 :: H)) ?_ ?_
    · refine WC.region ?_
      refine WL.y rfl (Yd.move rfl) ?_
      refine WL.y rfl (Yd.lss rfl rfl) ?_
      refine WL.y rfl (Yd.move rfl) ?_
      refine WL.partP (t := 31) rfl (fun hg31 => ?_) (fun hg31 => ?_)
      · refine WL.gn (dj := 31) rfl rfl rfl rfl ?_
        refine WL.gn (dj := 31) rfl rfl rfl rfl ?_
        refine WL.y rfl (Yd.pickT rfl rfl) ?_
        refine WL.y rfl (Yd.move rfl) ?_
        refine WL.gn (dj := 35) rfl rfl rfl rfl ?_
        refine WL.gn (dj := 35) rfl rfl rfl rfl ?_
        refine WL.gn (dj := 35) rfl rfl rfl rfl ?_
        refine WL.y rfl (Yd.pickT rfl rfl) ?_
        refine WL.y rfl (Yd.move rfl) ?_
        refine WL.gn (dj := 40) rfl rfl rfl rfl ?_
        refine WL.gn (dj := 40) rfl rfl rfl rfl ?_
        refine WL.gn (dj := 40) rfl rfl rfl rfl ?_
        refine WL.gu (dj := 43) rfl rfl rfl ?_
        refine WL.gu (dj := 43) rfl rfl rfl ?_
        refine WL.gn (dj := 40) rfl rfl rfl rfl ?_
        refine WL.y rfl (Yd.pickT rfl rfl) ?_
        refine WL.y rfl (Yd.move rfl) ?_
        refine WL.gn (dj := 48) rfl rfl rfl rfl ?_
        refine WL.gn (dj := 48) rfl rfl rfl rfl ?_
        refine WL.gn (dj := 48) rfl rfl rfl rfl ?_
        refine WL.gu (dj := 51) rfl rfl rfl ?_
        refine WL.gu (dj := 51) rfl rfl rfl ?_
        refine WL.gn (dj := 48) rfl rfl rfl rfl ?_
        refine WL.y rfl (Yd.pickT rfl rfl) ?_
        refine WL.nil ?_
        exact DN.reachK (_) (by
            unfold keepBad
            rw [hrs]
            show _ ↔ _ ∨ (act = 3 ∧ code ≠ 2) ∨ (act = 4 ∧ code ≠ 1)
            simp only [decide_eq_true_eq, eq_self, true_iff, Bool.false_eq_true, false_iff]
            omega) (Sx.put rfl (sx_)) (Sp.all sp_)
      · refine WL.gy (dj := 31) rfl rfl rfl (Yd.move rfl) ?_
        refine WL.gy (dj := 31) rfl rfl rfl (Yd.gtr rfl rfl) ?_
        refine WL.y rfl (Yd.pickF rfl rfl) ?_
        refine WL.y rfl (Yd.move rfl) ?_
        refine WL.partP (t := 35) rfl (fun hg35 => ?_) (fun hg35 => ?_)
        · refine WL.gn (dj := 35) rfl rfl rfl rfl ?_
          refine WL.gn (dj := 35) rfl rfl rfl rfl ?_
          refine WL.gn (dj := 35) rfl rfl rfl rfl ?_
          refine WL.y rfl (Yd.pickT rfl rfl) ?_
          refine WL.y rfl (Yd.move rfl) ?_
          refine WL.gn (dj := 40) rfl rfl rfl rfl ?_
          refine WL.gn (dj := 40) rfl rfl rfl rfl ?_
          refine WL.gn (dj := 40) rfl rfl rfl rfl ?_
          refine WL.gu (dj := 43) rfl rfl rfl ?_
          refine WL.gu (dj := 43) rfl rfl rfl ?_
          refine WL.gn (dj := 40) rfl rfl rfl rfl ?_
          refine WL.y rfl (Yd.pickT rfl rfl) ?_
          refine WL.y rfl (Yd.move rfl) ?_
          refine WL.gn (dj := 48) rfl rfl rfl rfl ?_
          refine WL.gn (dj := 48) rfl rfl rfl rfl ?_
          refine WL.gn (dj := 48) rfl rfl rfl rfl ?_
          refine WL.gu (dj := 51) rfl rfl rfl ?_
          refine WL.gu (dj := 51) rfl rfl rfl ?_
          refine WL.gn (dj := 48) rfl rfl rfl rfl ?_
          refine WL.y rfl (Yd.pickT rfl rfl) ?_
          refine WL.nil ?_
          exact DN.reachK (_) (by
              unfold keepBad
              rw [hrs]
              show _ ↔ _ ∨ (act = 3 ∧ code ≠ 2) ∨ (act = 4 ∧ code ≠ 1)
              simp only [decide_eq_true_eq, eq_self, true_iff, Bool.false_eq_true, false_iff]
              omega) (Sx.put rfl (sx_)) (Sp.all sp_)
        · refine WL.gy (dj := 35) rfl rfl rfl (Yd.move rfl) ?_
          refine WL.gy (dj := 35) rfl rfl rfl (Yd.len (e := 5) kr_ rfl) ?_
          refine WL.gy (dj := 35) rfl rfl rfl (Yd.gtr rfl rfl) ?_
          refine WL.y rfl (Yd.pickF rfl rfl) ?_
          refine WL.y rfl (Yd.move rfl) ?_
          refine WL.partP (t := 40) rfl (fun hg40 => ?_) (fun hg40 => ?_)
          · refine WL.gn (dj := 40) rfl rfl rfl rfl ?_
            refine WL.gn (dj := 40) rfl rfl rfl rfl ?_
            refine WL.gn (dj := 40) rfl rfl rfl rfl ?_
            refine WL.gu (dj := 43) rfl rfl rfl ?_
            refine WL.gu (dj := 43) rfl rfl rfl ?_
            refine WL.gn (dj := 40) rfl rfl rfl rfl ?_
            refine WL.y rfl (Yd.pickT rfl rfl) ?_
            refine WL.y rfl (Yd.move rfl) ?_
            refine WL.gn (dj := 48) rfl rfl rfl rfl ?_
            refine WL.gn (dj := 48) rfl rfl rfl rfl ?_
            refine WL.gn (dj := 48) rfl rfl rfl rfl ?_
            refine WL.gu (dj := 51) rfl rfl rfl ?_
            refine WL.gu (dj := 51) rfl rfl rfl ?_
            refine WL.gn (dj := 48) rfl rfl rfl rfl ?_
            refine WL.y rfl (Yd.pickT rfl rfl) ?_
            refine WL.nil ?_
            exact DN.reachK (_) (by
                unfold keepBad
                rw [hrs]
                show _ ↔ _ ∨ (act = 3 ∧ code ≠ 2) ∨ (act = 4 ∧ code ≠ 1)
                simp only [decide_eq_true_eq, eq_self, true_iff, Bool.false_eq_true, false_iff]
                omega) (Sx.put rfl (sx_)) (Sp.all sp_)
          · refine WL.gy (dj := 40) rfl rfl rfl (Yd.move rfl) ?_
            refine WL.gy (dj := 40) rfl rfl rfl (Yd.eql rfl rfl) ?_
            refine WL.gy (dj := 40) rfl rfl rfl (Yd.move rfl) ?_
            refine WL.partP (t := 43) rfl (fun hg43 => ?_) (fun hg43 => ?_)
            · refine WL.gy (dj := 43) rfl rfl rfl (Yd.move rfl) ?_
              refine WL.gy (dj := 43) rfl rfl rfl (Yd.neq rfl rfl) ?_
              refine WL.gy (dj := 40) rfl rfl rfl (Yd.pickT rfl rfl) ?_
              refine WL.y rfl (Yd.pickF rfl rfl) ?_
              refine WL.y rfl (Yd.move rfl) ?_
              refine WL.partP (t := 48) rfl (fun hg48 => ?_) (fun hg48 => ?_)
              · refine WL.gn (dj := 48) rfl rfl rfl rfl ?_
                refine WL.gn (dj := 48) rfl rfl rfl rfl ?_
                refine WL.gn (dj := 48) rfl rfl rfl rfl ?_
                refine WL.gu (dj := 51) rfl rfl rfl ?_
                refine WL.gu (dj := 51) rfl rfl rfl ?_
                refine WL.gn (dj := 48) rfl rfl rfl rfl ?_
                refine WL.y rfl (Yd.pickT rfl rfl) ?_
                refine WL.nil ?_
                exact DN.reachK (_) (by
                    unfold keepBad
                    rw [hrs]
                    show _ ↔ _ ∨ (act = 3 ∧ code ≠ 2) ∨ (act = 4 ∧ code ≠ 1)
                    simp only [decide_eq_true_eq, eq_self, true_iff, Bool.false_eq_true, false_iff]
                    omega) (Sx.put rfl (sx_)) (Sp.all sp_)
              · refine WL.gy (dj := 48) rfl rfl rfl (Yd.move rfl) ?_
                refine WL.gy (dj := 48) rfl rfl rfl (Yd.eql rfl rfl) ?_
                refine WL.gy (dj := 48) rfl rfl rfl (Yd.move rfl) ?_
                refine WL.partP (t := 51) rfl (fun hg51 => ?_) (fun hg51 => ?_)
                · refine WL.gy (dj := 51) rfl rfl rfl (Yd.move rfl) ?_
                  refine WL.gy (dj := 51) rfl rfl rfl (Yd.neq rfl rfl) ?_
                  refine WL.gy (dj := 48) rfl rfl rfl (Yd.pickT rfl rfl) ?_
                  refine WL.y rfl (Yd.pickF rfl rfl) ?_
                  refine WL.nil ?_
                  exact DN.reachK (_) (by
                      unfold keepBad
                      rw [hrs]
                      show _ ↔ _ ∨ (act = 3 ∧ code ≠ 2) ∨ (act = 4 ∧ code ≠ 1)
                      simp only [decide_eq_true_eq, eq_self, true_iff, Bool.false_eq_true, false_iff]
                      omega) (Sx.put rfl (sx_)) (Sp.all sp_)
                · refine WL.gn (dj := 51) rfl rfl rfl rfl ?_
                  refine WL.gn (dj := 51) rfl rfl rfl rfl ?_
                  refine WL.gy (dj := 48) rfl rfl rfl (Yd.pickF rfl rfl) ?_
                  refine WL.y rfl (Yd.pickF rfl rfl) ?_
                  refine WL.nil ?_
                  exact DN.reachK (_) (by
                      unfold keepBad
                      rw [hrs]
                      show _ ↔ _ ∨ (act = 3 ∧ code ≠ 2) ∨ (act = 4 ∧ code ≠ 1)
                      simp only [decide_eq_true_eq, eq_self, true_iff, Bool.false_eq_true, false_iff]
                      omega) (Sx.put rfl (sx_)) (Sp.all sp_)
            · refine WL.gn (dj := 43) rfl rfl rfl rfl ?_
              refine WL.gn (dj := 43) rfl rfl rfl rfl ?_
              refine WL.gy (dj := 40) rfl rfl rfl (Yd.pickF rfl rfl) ?_
              refine WL.y rfl (Yd.pickF rfl rfl) ?_
              refine WL.y rfl (Yd.move rfl) ?_
              refine WL.gy (dj := 48) rfl rfl rfl (Yd.move rfl) ?_
              refine WL.gy (dj := 48) rfl rfl rfl (Yd.eql rfl rfl) ?_
              refine WL.gy (dj := 48) rfl rfl rfl (Yd.move rfl) ?_
              refine WL.partP (t := 51) rfl (fun hg51 => ?_) (fun hg51 => ?_)
              · refine WL.gy (dj := 51) rfl rfl rfl (Yd.move rfl) ?_
                refine WL.gy (dj := 51) rfl rfl rfl (Yd.neq rfl rfl) ?_
                refine WL.gy (dj := 48) rfl rfl rfl (Yd.pickT rfl rfl) ?_
                refine WL.y rfl (Yd.pickF rfl rfl) ?_
                refine WL.nil ?_
                exact DN.reachK (_) (by
                    unfold keepBad
                    rw [hrs]
                    show _ ↔ _ ∨ (act = 3 ∧ code ≠ 2) ∨ (act = 4 ∧ code ≠ 1)
                    simp only [decide_eq_true_eq, eq_self, true_iff, Bool.false_eq_true, false_iff]
                    omega) (Sx.put rfl (sx_)) (Sp.all sp_)
              · refine WL.gn (dj := 51) rfl rfl rfl rfl ?_
                refine WL.gn (dj := 51) rfl rfl rfl rfl ?_
                refine WL.gy (dj := 48) rfl rfl rfl (Yd.pickF rfl rfl) ?_
                refine WL.y rfl (Yd.pickF rfl rfl) ?_
                refine WL.nil ?_
                exact DN.reachK (_) (by
                    unfold keepBad
                    rw [hrs]
                    show _ ↔ _ ∨ (act = 3 ∧ code ≠ 2) ∨ (act = 4 ∧ code ≠ 1)
                    simp only [decide_eq_true_eq, eq_self, true_iff, Bool.false_eq_true, false_iff]
                    omega) (Sx.put rfl (sx_)) (Sp.all sp_)
    · intro z55 hz55
      refine WC.cond rfl (fun h55 => ?_) (fun h55 => ?_)
      · refine WC.seq ?_
        refine WC.region ?_
        refine WL.y rfl (Yd.buildL (pl := [(0, 1), (1, 1)]) (zs := [.int .u32 0, .slice none 0 0]) (parts := []) (vs := []) (cells := [.int .u32 0, .slice none 0 0]) kr_ kr_ rfl rfl) ?_
        refine WL.s (Hd.storeAll (n := 2) kr_ rfl rfl (by rfl) one_ fr_ (by rfl) ⟨rfl, ?_⟩)
        refine WL.y rfl (Yd.assign rfl) ?_
        refine WL.nil ?_
        refine DN.then_normal ?_
        refine WC.ret ?_
        refine DN.then_ret ?_
        refine DN.retCT (s := 2) (H) Try.results16 kr_ rfl rfl mem_ (by rfl) sp_ ?_
        rw [keepK_bad (by rw [← hq]; exact h26) (by rw [← hq]; exact hz55.1 h55)]
        exact ⟨_, [], rfl, FAt.nil _ _, rfl⟩
      · have hnb : ¬ keepBad (act, kk, er) (stepK n code reply) := fun h => by rw [hz55.2 h] at h55; cases h55
        have hrt : rightP (stepK n code reply) := Classical.byContradiction fun h => hnb (.inl h)
        have h200 := hck.1
        refine WC.skip ?_
        refine DN.then_normal ?_
        refine WC.seq ?_
        refine WC.block ?_
        refine WC.seq ?_
        refine WC.region ?_
        refine WL.y rfl (Yd.move rfl) ?_
        refine WL.y rfl (Yd.eql rfl rfl) ?_
        refine WL.y rfl (Yd.assign rfl) ?_
        refine WL.nil ?_
        refine DN.then_normal ?_
        refine WC.ite rfl (fun h57 => ?_) (fun h57 => ?_)
        · refine WC.seq ?_
          refine WC.region ?_
          refine WL.y rfl (Yd.buildL (pl := [(0, 1), (1, 1)]) (zs := [.int .u32 0, .slice none 0 0]) (parts := []) (vs := []) (cells := [.int .u32 0, .slice none 0 0]) kr_ kr_ rfl rfl) ?_
          refine WL.s (Hd.storeAll (n := 2) kr_ rfl rfl (by rfl) one_ fr_ (by rfl) ⟨rfl, ?_⟩)
          refine WL.y rfl (Yd.assign rfl) ?_
          refine WL.nil ?_
          refine DN.then_normal ?_
          refine WC.ret ?_
          refine DN.block_ret ?_
          refine DN.then_ret ?_
          refine DN.retCT (s := 2) (H) Try.results16 kr_ rfl rfl mem_ (by rfl) sp_ ?_
          rw [keepK_twice (by rw [← hq]; exact h26) (by rw [← hq]; exact fun h => by rw [hz55.2 h] at h55; cases h55) (by rw [← hq]; exact h57)]
          exact ⟨_, [], rfl, FAt.nil _ _, rfl⟩
        · have hxn := new_key (code := code) (reply := reply) h0 (by rw [← hq]; exact h57)
          refine WC.seq ?_
          refine WC.region ?_
          refine WL.y rfl (Yd.fieldAddr (k := 1) kr_ rfl) ?_
          refine WL.h rfl (Hd.load1 kr_ rfl mem_ (by rfl) ⟨_, rfl, ?_⟩)
          refine WL.y rfl (Yd.len (e := 43) kr_ rfl) ?_
          refine WL.y rfl (Yd.eql rfl rfl) ?_
          refine WL.y rfl (Yd.assign rfl) ?_
          refine WL.nil ?_
          refine DN.then_normal ?_
          refine WC.ite rfl (fun h61 => ?_) (fun h61 => ?_)
          · refine WC.seq ?_
            refine WC.region ?_
            refine WL.y rfl (Yd.buildL (pl := [(0, 1), (1, 1)]) (zs := [.int .u32 0, .slice none 0 0]) (parts := []) (vs := []) (cells := [.int .u32 0, .slice none 0 0]) kr_ kr_ rfl rfl) ?_
            refine WL.s (Hd.storeAll (n := 2) kr_ rfl rfl (by rfl) one_ fr_ (by rfl) ⟨rfl, ?_⟩)
            refine WL.y rfl (Yd.assign rfl) ?_
            refine WL.nil ?_
            refine DN.then_normal ?_
            refine WC.ret ?_
            refine DN.block_ret ?_
            refine DN.then_ret ?_
            refine DN.retCT (s := 2) (H) Try.results16 kr_ rfl rfl mem_ (by rfl) sp_ ?_
            rw [keepK_full (by rw [← hq]; exact h26) (by rw [← hq]; exact fun h => by rw [hz55.2 h] at h55; cases h55) (by rw [← hq]; exact h57) (by omega)]
            exact ⟨_, [], rfl, FAt.nil _ _, rfl⟩
          · refine WC.skip ?_
            refine DN.block_normal ?_
            refine DN.then_normal ?_
            refine WC.cutK (fun z : Nat × (Option Addr × Nat) × (Option Addr × Nat) × List Ck × List Ck => Ob 5 (.slice z.2.1.1 n.data.length z.2.1.2) n.data z.2.2.2.1 ∧ Ob 5 (.slice z.2.2.1.1 reply.length z.2.2.1.2) reply z.2.2.2.2) (fun z : Nat × (Option Addr × Nat) × (Option Addr × Nat) × List Ck × List Ck => [(13, .pointer (some ⟨z.1, 0, none⟩))]) (fun z : Nat × (Option Addr × Nat) × (Option Addr × Nat) × List Ck × List Ck => row z.1 (kc (stepK n code reply) (.slice z.2.1.1 n.data.length z.2.1.2) (.slice z.2.2.1.1 reply.length z.2.2.1.2)) 43 :: (z.2.2.2.1 ++ (z.2.2.2.2 ++ (row b11 (kc kk (.slice oa kk.asked.length ca) (.slice or_ kk.reply.length cr)) 43 :: (row b8 [.int .u32 0, .slice none 0 0] 25 :: row b5 (ntc n (.slice ko n.key.length kcap) (.slice do_ n.data.length dc)) 29 :: row b4 [.int .u32 e.toNat, .slice ao ks.length c] 25 :: H))))) ?_ ?_
            · refine WC.draw 15 kr_ rfl ?_
              refine WA.float (N := 15) rfl ?_
              refine WAF.add (i := 0) (d := 67) rfl (QF.mk [] [] rfl rfl kr_ rfl (QAt.y Wt.none (Yd.fieldAddr (k := 5) kr_ rfl))) ?_
              refine WAF.add (i := 1) (d := 68) rfl (QF.mk [0] [(67, _)] rfl rfl kr_ rfl (QAt.rd Wt.none (Rd.load1 kr_ rfl mem_ (by rfl)))) ?_
              refine WAF.add (i := 2) (d := 69) rfl (QF.mk [] [] rfl rfl kr_ rfl (QAt.y Wt.none (Yd.fieldAddr (k := 6) kr_ rfl))) ?_
              refine WAF.add (i := 3) (d := 70) rfl (QF.mk [2] [(69, _)] rfl rfl kr_ rfl (QAt.rd Wt.none (Rd.load1 kr_ rfl mem_ (by rfl)))) ?_
              refine WAF.add (i := 4) (d := 71) rfl (QF.mk [] [] rfl rfl kr_ rfl (QAt.y Wt.none (Yd.fieldAddr (k := 7) kr_ rfl))) ?_
              refine WAF.add (i := 5) (d := 72) rfl (QF.mk [4] [(71, _)] rfl rfl kr_ rfl (QAt.rd Wt.none (Rd.load1 kr_ rfl mem_ (by rfl)))) ?_
              refine WAF.add (i := 6) (d := 73) rfl (QF.mk [] [] rfl rfl kr_ rfl (QAt.y Wt.none (Yd.fieldAddr (k := 10) kr_ rfl))) ?_
              refine WAF.add (i := 7) (d := 74) rfl (QF.mk [6] [(73, _)] rfl rfl kr_ rfl (QAt.rd Wt.none (Rd.load1 kr_ rfl mem_ (by rfl)))) ?_
              refine WAF.add (i := 9) (d := 76) rfl (QF.mk [] [] rfl rfl kr_ rfl (QAt.y Wt.none (Yd.move rfl))) ?_
              refine WAF.add (i := 10) (d := 77) rfl (QF.mk [] [] rfl rfl kr_ rfl (QAt.y Wt.none (Yd.move rfl))) ?_
              refine WAF.step (pd := [(10, 77), (9, 76), (7, 74), (6, 73), (5, 72), (4, 71), (3, 70), (2, 69), (1, 68), (0, 67)]) [(8, [7]), (13, [])] rfl kr_ kr_ (all_c rfl (all_c rfl (all_c rfl (all_c rfl (all_c rfl (all_c rfl (all_c rfl (all_c rfl (all_c rfl (all_c rfl (all_n))))))))))) (all_c (QF.mk [] [] rfl rfl kr_ rfl (QAt.y Wt.none (Yd.move rfl))) (all_c (QF.mk [] [] rfl rfl kr_ rfl (QAt.y Wt.none (Yd.move rfl))) (all_c (QF.mk [6] [(73, _)] rfl rfl kr_ rfl (QAt.rd Wt.none (Rd.load1 kr_ rfl mem_ (by rfl)))) (all_c (QF.mk [] [] rfl rfl kr_ rfl (QAt.y Wt.none (Yd.fieldAddr (k := 10) kr_ rfl))) (all_c (QF.mk [4] [(71, _)] rfl rfl kr_ rfl (QAt.rd Wt.none (Rd.load1 kr_ rfl mem_ (by rfl)))) (all_c (QF.mk [] [] rfl rfl kr_ rfl (QAt.y Wt.none (Yd.fieldAddr (k := 7) kr_ rfl))) (all_c (QF.mk [2] [(69, _)] rfl rfl kr_ rfl (QAt.rd Wt.none (Rd.load1 kr_ rfl mem_ (by rfl)))) (all_c (QF.mk [] [] rfl rfl kr_ rfl (QAt.y Wt.none (Yd.fieldAddr (k := 6) kr_ rfl))) (all_c (QF.mk [0] [(67, _)] rfl rfl kr_ rfl (QAt.rd Wt.none (Rd.load1 kr_ rfl mem_ (by rfl)))) (all_c (QF.mk [] [] rfl rfl kr_ rfl (QAt.y Wt.none (Yd.fieldAddr (k := 5) kr_ rfl))) (all_n))))))))))) (all_c ?_ (all_c ?_ (all_n)))
              · change SO _ _ _ _ _ _ 8 ([(74, _)] ++ _) _ _
                refine SO.c rfl Wt.none rfl (Ent.func Try.call37 rfl) (copy_spec _ n.data H hvd (by have := hrt.2.2.2.1; simp only [stepK] at this; omega)) (Sp.p sp_) ?_
                rintro x1 H1 ⟨C1, hC1, rfl⟩
                obtain ⟨o1, c1, rfl, hc1⟩ := hC1.form
                change WAF _ _ _ _ _ _ [(10, 77, _), (9, 76, _), (6, 73, _), (5, 72, _), (4, 71, _), (3, 70, _), (2, 69, _), (1, 68, _), (0, 67, _)] _ [8, 7] ((75, _) :: ([(74, _)] ++ _)) _
                refine WAF.step (pd := [(10, 77), (9, 76), (6, 73), (5, 72), (4, 71), (3, 70), (2, 69), (1, 68), (0, 67)]) [(11, [10]), (13, [])] rfl kr_ kr_ (all_c rfl (all_c rfl (all_c rfl (all_c rfl (all_c rfl (all_c rfl (all_c rfl (all_c rfl (all_c rfl (all_n)))))))))) (all_c (QF.mk [] [] rfl rfl kr_ rfl (QAt.y Wt.none (Yd.move rfl))) (all_c (QF.mk [] [] rfl rfl kr_ rfl (QAt.y Wt.none (Yd.move rfl))) (all_c (QF.mk [] [] rfl rfl kr_ rfl (QAt.y Wt.none (Yd.fieldAddr (k := 10) kr_ rfl))) (all_c (QF.mk [4] [(71, _)] rfl rfl kr_ rfl (QAt.rd Wt.none (Rd.load1 kr_ rfl mem_ (by rfl)))) (all_c (QF.mk [] [] rfl rfl kr_ rfl (QAt.y Wt.none (Yd.fieldAddr (k := 7) kr_ rfl))) (all_c (QF.mk [2] [(69, _)] rfl rfl kr_ rfl (QAt.rd Wt.none (Rd.load1 kr_ rfl mem_ (by rfl)))) (all_c (QF.mk [] [] rfl rfl kr_ rfl (QAt.y Wt.none (Yd.fieldAddr (k := 6) kr_ rfl))) (all_c (QF.mk [0] [(67, _)] rfl rfl kr_ rfl (QAt.rd Wt.none (Rd.load1 kr_ rfl mem_ (by rfl)))) (all_c (QF.mk [] [] rfl rfl kr_ rfl (QAt.y Wt.none (Yd.fieldAddr (k := 5) kr_ rfl))) (all_n)))))))))) (all_c ?_ (all_c ?_ (all_n)))
                · change SO _ _ _ _ _ _ 11 ([(77, _)] ++ _) _ _
                  refine SO.c rfl Wt.none rfl (Ent.func Try.call37 rfl) (copy_spec _ reply H hvr (by have := hrt.2.2.2.2.1; simp only [stepK] at this; omega)) (Sp.p sp_) ?_
                  rintro x2 H2 ⟨C2, hC2, rfl⟩
                  obtain ⟨o2, c2, rfl, hc2⟩ := hC2.form
                  change WAF _ _ _ _ _ _ [(9, 76, _), (6, 73, _), (5, 72, _), (4, 71, _), (3, 70, _), (2, 69, _), (1, 68, _), (0, 67, _)] _ [11, 10, 8, 7] ((78, _) :: ([(77, _)] ++ _)) _
                  refine WAF.add (i := 12) (d := 79) rfl (QF.mk [9, 5, 3, 1] [(76, _), (72, _), (70, _), (68, _)] rfl rfl kr_ rfl (QAt.y Wt.none (Yd.buildL (pl := [(0, 1), (1, 1), (2, 1), (3, 1), (4, 1), (5, 1)]) (zs := [.int .u32 0, .int .i64 0, .bool false, .slice none 0 0, .int .i64 0, .slice none 0 0]) (parts := [(0, .tmp 68), (1, .tmp 70), (2, .tmp 72), (3, .tmp 75), (4, .tmp 76), (5, .tmp 78)]) (vs := [(0, _), (1, _), (2, _), (3, _), (4, _), (5, _)]) (cells := [_, _, _, _, _, _]) kr_ kr_ rfl rfl))) ?_
                  refine WAF.step (pd := [(12, 79), (9, 76), (6, 73), (5, 72), (4, 71), (3, 70), (2, 69), (1, 68), (0, 67)]) [(13, [])] rfl kr_ kr_ (all_c rfl (all_c rfl (all_c rfl (all_c rfl (all_c rfl (all_c rfl (all_c rfl (all_c rfl (all_c rfl (all_n)))))))))) (all_c (QF.mk [9, 5, 3, 1] [(76, _), (72, _), (70, _), (68, _)] rfl rfl kr_ rfl (QAt.y Wt.none (Yd.buildL (pl := [(0, 1), (1, 1), (2, 1), (3, 1), (4, 1), (5, 1)]) (zs := [.int .u32 0, .int .i64 0, .bool false, .slice none 0 0, .int .i64 0, .slice none 0 0]) (parts := [(0, .tmp 68), (1, .tmp 70), (2, .tmp 72), (3, .tmp 75), (4, .tmp 76), (5, .tmp 78)]) (vs := [(0, _), (1, _), (2, _), (3, _), (4, _), (5, _)]) (cells := [_, _, _, _, _, _]) kr_ kr_ rfl rfl))) (all_c (QF.mk [] [] rfl rfl kr_ rfl (QAt.y Wt.none (Yd.move rfl))) (all_c (QF.mk [] [] rfl rfl kr_ rfl (QAt.y Wt.none (Yd.fieldAddr (k := 10) kr_ rfl))) (all_c (QF.mk [4] [(71, _)] rfl rfl kr_ rfl (QAt.rd Wt.none (Rd.load1 kr_ rfl mem_ (by rfl)))) (all_c (QF.mk [] [] rfl rfl kr_ rfl (QAt.y Wt.none (Yd.fieldAddr (k := 7) kr_ rfl))) (all_c (QF.mk [2] [(69, _)] rfl rfl kr_ rfl (QAt.rd Wt.none (Rd.load1 kr_ rfl mem_ (by rfl)))) (all_c (QF.mk [] [] rfl rfl kr_ rfl (QAt.y Wt.none (Yd.fieldAddr (k := 6) kr_ rfl))) (all_c (QF.mk [0] [(67, _)] rfl rfl kr_ rfl (QAt.rd Wt.none (Rd.load1 kr_ rfl mem_ (by rfl)))) (all_c (QF.mk [] [] rfl rfl kr_ rfl (QAt.y Wt.none (Yd.fieldAddr (k := 5) kr_ rfl))) (all_n)))))))))) (all_c ?_ (all_n))
                  · change SO _ _ _ _ _ _ 13 ([] ++ _) _ _
                    refine SO.h rfl Wt.none rfl (Hd.alloc (zs := [.int .u32 0, .int .i64 0, .bool false, .slice none 0 0, .int .i64 0, .slice none 0 0]) kr_ fun b13 => ⟨_, rfl, ?_⟩)
                    change WAF _ _ _ _ _ _ [(12, 79, _), (9, 76, _), (6, 73, _), (5, 72, _), (4, 71, _), (3, 70, _), (2, 69, _), (1, 68, _), (0, 67, _)] _ [13, 11, 10, 8, 7] ((13, _) :: ([] ++ _)) _
                    refine WAF.step (pd := [(12, 79), (9, 76), (6, 73), (5, 72), (4, 71), (3, 70), (2, 69), (1, 68), (0, 67)]) [(14, [12, 9, 6, 5, 4, 3, 2, 1, 0])] rfl kr_ kr_ (all_c rfl (all_c rfl (all_c rfl (all_c rfl (all_c rfl (all_c rfl (all_c rfl (all_c rfl (all_c rfl (all_n)))))))))) (all_c (QF.mk [9, 5, 3, 1] [(76, _), (72, _), (70, _), (68, _)] rfl rfl kr_ rfl (QAt.y Wt.none (Yd.buildL (pl := [(0, 1), (1, 1), (2, 1), (3, 1), (4, 1), (5, 1)]) (zs := [.int .u32 0, .int .i64 0, .bool false, .slice none 0 0, .int .i64 0, .slice none 0 0]) (parts := [(0, .tmp 68), (1, .tmp 70), (2, .tmp 72), (3, .tmp 75), (4, .tmp 76), (5, .tmp 78)]) (vs := [(0, _), (1, _), (2, _), (3, _), (4, _), (5, _)]) (cells := [_, _, _, _, _, _]) kr_ kr_ rfl rfl))) (all_c (QF.mk [] [] rfl rfl kr_ rfl (QAt.y Wt.none (Yd.move rfl))) (all_c (QF.mk [] [] rfl rfl kr_ rfl (QAt.y Wt.none (Yd.fieldAddr (k := 10) kr_ rfl))) (all_c (QF.mk [4] [(71, _)] rfl rfl kr_ rfl (QAt.rd Wt.none (Rd.load1 kr_ rfl mem_ (by rfl)))) (all_c (QF.mk [] [] rfl rfl kr_ rfl (QAt.y Wt.none (Yd.fieldAddr (k := 7) kr_ rfl))) (all_c (QF.mk [2] [(69, _)] rfl rfl kr_ rfl (QAt.rd Wt.none (Rd.load1 kr_ rfl mem_ (by rfl)))) (all_c (QF.mk [] [] rfl rfl kr_ rfl (QAt.y Wt.none (Yd.fieldAddr (k := 6) kr_ rfl))) (all_c (QF.mk [0] [(67, _)] rfl rfl kr_ rfl (QAt.rd Wt.none (Rd.load1 kr_ rfl mem_ (by rfl)))) (all_c (QF.mk [] [] rfl rfl kr_ rfl (QAt.y Wt.none (Yd.fieldAddr (k := 5) kr_ rfl))) (all_n)))))))))) (all_c ?_ (all_n))
                    · change SO _ _ _ _ _ _ 14 ([(79, _), (76, _), (73, _), (72, _), (71, _), (70, _), (69, _), (68, _), (67, _)] ++ _) _ _
                      refine SO.s rfl Wt.none (Hd.storeAll (n := 6) kr_ rfl rfl (by rfl) one_ fr_ (by rfl) ⟨rfl, ?_⟩)
                      change WAF _ _ _ _ _ _ [] _ [14, 12, 9, 6, 5, 4, 3, 2, 1, 0, 13, 11, 10, 8, 7] (([(79, _), (76, _), (73, _), (72, _), (71, _), (70, _), (69, _), (68, _), (67, _)] ++ _)) _
                      refine WAF.done (pd := []) rfl kr_ kr_ (all_n) (all_n) ?_
                      change DN _ _ _ _ _ _ ([] ++ _) _
                      exact DN.reachK ((b13, (o1, c1), (o2, c2), C1, C2)) (⟨hC1, hC2⟩) (Sx.put rfl (sx_)) (Sp.all sp_)
                · change SO _ _ _ _ _ _ 13 ([] ++ _) _ _
                  refine SO.h rfl Wt.none rfl (Hd.alloc (zs := [.int .u32 0, .int .i64 0, .bool false, .slice none 0 0, .int .i64 0, .slice none 0 0]) kr_ fun b13 => ⟨_, rfl, ?_⟩)
                  change WAF _ _ _ _ _ _ [(10, 77, _), (9, 76, _), (6, 73, _), (5, 72, _), (4, 71, _), (3, 70, _), (2, 69, _), (1, 68, _), (0, 67, _)] _ [13, 8, 7] ((13, _) :: ([] ++ _)) _
                  refine WAF.step (pd := [(10, 77), (9, 76), (6, 73), (5, 72), (4, 71), (3, 70), (2, 69), (1, 68), (0, 67)]) [(11, [10])] rfl kr_ kr_ (all_c rfl (all_c rfl (all_c rfl (all_c rfl (all_c rfl (all_c rfl (all_c rfl (all_c rfl (all_c rfl (all_n)))))))))) (all_c (QF.mk [] [] rfl rfl kr_ rfl (QAt.y Wt.none (Yd.move rfl))) (all_c (QF.mk [] [] rfl rfl kr_ rfl (QAt.y Wt.none (Yd.move rfl))) (all_c (QF.mk [] [] rfl rfl kr_ rfl (QAt.y Wt.none (Yd.fieldAddr (k := 10) kr_ rfl))) (all_c (QF.mk [4] [(71, _)] rfl rfl kr_ rfl (QAt.rd Wt.none (Rd.load1 kr_ rfl mem_ (by rfl)))) (all_c (QF.mk [] [] rfl rfl kr_ rfl (QAt.y Wt.none (Yd.fieldAddr (k := 7) kr_ rfl))) (all_c (QF.mk [2] [(69, _)] rfl rfl kr_ rfl (QAt.rd Wt.none (Rd.load1 kr_ rfl mem_ (by rfl)))) (all_c (QF.mk [] [] rfl rfl kr_ rfl (QAt.y Wt.none (Yd.fieldAddr (k := 6) kr_ rfl))) (all_c (QF.mk [0] [(67, _)] rfl rfl kr_ rfl (QAt.rd Wt.none (Rd.load1 kr_ rfl mem_ (by rfl)))) (all_c (QF.mk [] [] rfl rfl kr_ rfl (QAt.y Wt.none (Yd.fieldAddr (k := 5) kr_ rfl))) (all_n)))))))))) (all_c ?_ (all_n))
                  · change SO _ _ _ _ _ _ 11 ([(77, _)] ++ _) _ _
                    refine SO.c rfl Wt.none rfl (Ent.func Try.call37 rfl) (copy_spec _ reply H hvr (by have := hrt.2.2.2.2.1; simp only [stepK] at this; omega)) (Sp.p sp_) ?_
                    rintro x2 H2 ⟨C2, hC2, rfl⟩
                    obtain ⟨o2, c2, rfl, hc2⟩ := hC2.form
                    change WAF _ _ _ _ _ _ [(9, 76, _), (6, 73, _), (5, 72, _), (4, 71, _), (3, 70, _), (2, 69, _), (1, 68, _), (0, 67, _)] _ [11, 10, 13, 8, 7] ((78, _) :: ([(77, _)] ++ _)) _
                    refine WAF.add (i := 12) (d := 79) rfl (QF.mk [9, 5, 3, 1] [(76, _), (72, _), (70, _), (68, _)] rfl rfl kr_ rfl (QAt.y Wt.none (Yd.buildL (pl := [(0, 1), (1, 1), (2, 1), (3, 1), (4, 1), (5, 1)]) (zs := [.int .u32 0, .int .i64 0, .bool false, .slice none 0 0, .int .i64 0, .slice none 0 0]) (parts := [(0, .tmp 68), (1, .tmp 70), (2, .tmp 72), (3, .tmp 75), (4, .tmp 76), (5, .tmp 78)]) (vs := [(0, _), (1, _), (2, _), (3, _), (4, _), (5, _)]) (cells := [_, _, _, _, _, _]) kr_ kr_ rfl rfl))) ?_
                    refine WAF.step (pd := [(12, 79), (9, 76), (6, 73), (5, 72), (4, 71), (3, 70), (2, 69), (1, 68), (0, 67)]) [(14, [12, 9, 6, 5, 4, 3, 2, 1, 0])] rfl kr_ kr_ (all_c rfl (all_c rfl (all_c rfl (all_c rfl (all_c rfl (all_c rfl (all_c rfl (all_c rfl (all_c rfl (all_n)))))))))) (all_c (QF.mk [9, 5, 3, 1] [(76, _), (72, _), (70, _), (68, _)] rfl rfl kr_ rfl (QAt.y Wt.none (Yd.buildL (pl := [(0, 1), (1, 1), (2, 1), (3, 1), (4, 1), (5, 1)]) (zs := [.int .u32 0, .int .i64 0, .bool false, .slice none 0 0, .int .i64 0, .slice none 0 0]) (parts := [(0, .tmp 68), (1, .tmp 70), (2, .tmp 72), (3, .tmp 75), (4, .tmp 76), (5, .tmp 78)]) (vs := [(0, _), (1, _), (2, _), (3, _), (4, _), (5, _)]) (cells := [_, _, _, _, _, _]) kr_ kr_ rfl rfl))) (all_c (QF.mk [] [] rfl rfl kr_ rfl (QAt.y Wt.none (Yd.move rfl))) (all_c (QF.mk [] [] rfl rfl kr_ rfl (QAt.y Wt.none (Yd.fieldAddr (k := 10) kr_ rfl))) (all_c (QF.mk [4] [(71, _)] rfl rfl kr_ rfl (QAt.rd Wt.none (Rd.load1 kr_ rfl mem_ (by rfl)))) (all_c (QF.mk [] [] rfl rfl kr_ rfl (QAt.y Wt.none (Yd.fieldAddr (k := 7) kr_ rfl))) (all_c (QF.mk [2] [(69, _)] rfl rfl kr_ rfl (QAt.rd Wt.none (Rd.load1 kr_ rfl mem_ (by rfl)))) (all_c (QF.mk [] [] rfl rfl kr_ rfl (QAt.y Wt.none (Yd.fieldAddr (k := 6) kr_ rfl))) (all_c (QF.mk [0] [(67, _)] rfl rfl kr_ rfl (QAt.rd Wt.none (Rd.load1 kr_ rfl mem_ (by rfl)))) (all_c (QF.mk [] [] rfl rfl kr_ rfl (QAt.y Wt.none (Yd.fieldAddr (k := 5) kr_ rfl))) (all_n)))))))))) (all_c ?_ (all_n))
                    · change SO _ _ _ _ _ _ 14 ([(79, _), (76, _), (73, _), (72, _), (71, _), (70, _), (69, _), (68, _), (67, _)] ++ _) _ _
                      refine SO.s rfl Wt.none (Hd.storeAll (n := 6) kr_ rfl rfl (by rfl) one_ fr_ (by rfl) ⟨rfl, ?_⟩)
                      change WAF _ _ _ _ _ _ [] _ [14, 12, 9, 6, 5, 4, 3, 2, 1, 0, 11, 10, 13, 8, 7] (([(79, _), (76, _), (73, _), (72, _), (71, _), (70, _), (69, _), (68, _), (67, _)] ++ _)) _
                      refine WAF.done (pd := []) rfl kr_ kr_ (all_n) (all_n) ?_
                      change DN _ _ _ _ _ _ ([] ++ _) _
                      exact DN.reachK ((b13, (o1, c1), (o2, c2), C1, C2)) (⟨hC1, hC2⟩) (Sx.put rfl (sx_)) (Sp.all sp_)
              · change SO _ _ _ _ _ _ 13 ([] ++ _) _ _
                refine SO.h rfl Wt.none rfl (Hd.alloc (zs := [.int .u32 0, .int .i64 0, .bool false, .slice none 0 0, .int .i64 0, .slice none 0 0]) kr_ fun b13 => ⟨_, rfl, ?_⟩)
                change WAF _ _ _ _ _ _ [(10, 77, _), (9, 76, _), (7, 74, _), (6, 73, _), (5, 72, _), (4, 71, _), (3, 70, _), (2, 69, _), (1, 68, _), (0, 67, _)] _ [13] ((13, _) :: ([] ++ _)) _
                refine WAF.step (pd := [(10, 77), (9, 76), (7, 74), (6, 73), (5, 72), (4, 71), (3, 70), (2, 69), (1, 68), (0, 67)]) [(8, [7])] rfl kr_ kr_ (all_c rfl (all_c rfl (all_c rfl (all_c rfl (all_c rfl (all_c rfl (all_c rfl (all_c rfl (all_c rfl (all_c rfl (all_n))))))))))) (all_c (QF.mk [] [] rfl rfl kr_ rfl (QAt.y Wt.none (Yd.move rfl))) (all_c (QF.mk [] [] rfl rfl kr_ rfl (QAt.y Wt.none (Yd.move rfl))) (all_c (QF.mk [6] [(73, _)] rfl rfl kr_ rfl (QAt.rd Wt.none (Rd.load1 kr_ rfl mem_ (by rfl)))) (all_c (QF.mk [] [] rfl rfl kr_ rfl (QAt.y Wt.none (Yd.fieldAddr (k := 10) kr_ rfl))) (all_c (QF.mk [4] [(71, _)] rfl rfl kr_ rfl (QAt.rd Wt.none (Rd.load1 kr_ rfl mem_ (by rfl)))) (all_c (QF.mk [] [] rfl rfl kr_ rfl (QAt.y Wt.none (Yd.fieldAddr (k := 7) kr_ rfl))) (all_c (QF.mk [2] [(69, _)] rfl rfl kr_ rfl (QAt.rd Wt.none (Rd.load1 kr_ rfl mem_ (by rfl)))) (all_c (QF.mk [] [] rfl rfl kr_ rfl (QAt.y Wt.none (Yd.fieldAddr (k := 6) kr_ rfl))) (all_c (QF.mk [0] [(67, _)] rfl rfl kr_ rfl (QAt.rd Wt.none (Rd.load1 kr_ rfl mem_ (by rfl)))) (all_c (QF.mk [] [] rfl rfl kr_ rfl (QAt.y Wt.none (Yd.fieldAddr (k := 5) kr_ rfl))) (all_n))))))))))) (all_c ?_ (all_n))
                · change SO _ _ _ _ _ _ 8 ([(74, _)] ++ _) _ _
                  refine SO.c rfl Wt.none rfl (Ent.func Try.call37 rfl) (copy_spec _ n.data H hvd (by have := hrt.2.2.2.1; simp only [stepK] at this; omega)) (Sp.p sp_) ?_
                  rintro x1 H1 ⟨C1, hC1, rfl⟩
                  obtain ⟨o1, c1, rfl, hc1⟩ := hC1.form
                  change WAF _ _ _ _ _ _ [(10, 77, _), (9, 76, _), (6, 73, _), (5, 72, _), (4, 71, _), (3, 70, _), (2, 69, _), (1, 68, _), (0, 67, _)] _ [8, 7, 13] ((75, _) :: ([(74, _)] ++ _)) _
                  refine WAF.step (pd := [(10, 77), (9, 76), (6, 73), (5, 72), (4, 71), (3, 70), (2, 69), (1, 68), (0, 67)]) [(11, [10])] rfl kr_ kr_ (all_c rfl (all_c rfl (all_c rfl (all_c rfl (all_c rfl (all_c rfl (all_c rfl (all_c rfl (all_c rfl (all_n)))))))))) (all_c (QF.mk [] [] rfl rfl kr_ rfl (QAt.y Wt.none (Yd.move rfl))) (all_c (QF.mk [] [] rfl rfl kr_ rfl (QAt.y Wt.none (Yd.move rfl))) (all_c (QF.mk [] [] rfl rfl kr_ rfl (QAt.y Wt.none (Yd.fieldAddr (k := 10) kr_ rfl))) (all_c (QF.mk [4] [(71, _)] rfl rfl kr_ rfl (QAt.rd Wt.none (Rd.load1 kr_ rfl mem_ (by rfl)))) (all_c (QF.mk [] [] rfl rfl kr_ rfl (QAt.y Wt.none (Yd.fieldAddr (k := 7) kr_ rfl))) (all_c (QF.mk [2] [(69, _)] rfl rfl kr_ rfl (QAt.rd Wt.none (Rd.load1 kr_ rfl mem_ (by rfl)))) (all_c (QF.mk [] [] rfl rfl kr_ rfl (QAt.y Wt.none (Yd.fieldAddr (k := 6) kr_ rfl))) (all_c (QF.mk [0] [(67, _)] rfl rfl kr_ rfl (QAt.rd Wt.none (Rd.load1 kr_ rfl mem_ (by rfl)))) (all_c (QF.mk [] [] rfl rfl kr_ rfl (QAt.y Wt.none (Yd.fieldAddr (k := 5) kr_ rfl))) (all_n)))))))))) (all_c ?_ (all_n))
                  · change SO _ _ _ _ _ _ 11 ([(77, _)] ++ _) _ _
                    refine SO.c rfl Wt.none rfl (Ent.func Try.call37 rfl) (copy_spec _ reply H hvr (by have := hrt.2.2.2.2.1; simp only [stepK] at this; omega)) (Sp.p sp_) ?_
                    rintro x2 H2 ⟨C2, hC2, rfl⟩
                    obtain ⟨o2, c2, rfl, hc2⟩ := hC2.form
                    change WAF _ _ _ _ _ _ [(9, 76, _), (6, 73, _), (5, 72, _), (4, 71, _), (3, 70, _), (2, 69, _), (1, 68, _), (0, 67, _)] _ [11, 10, 8, 7, 13] ((78, _) :: ([(77, _)] ++ _)) _
                    refine WAF.add (i := 12) (d := 79) rfl (QF.mk [9, 5, 3, 1] [(76, _), (72, _), (70, _), (68, _)] rfl rfl kr_ rfl (QAt.y Wt.none (Yd.buildL (pl := [(0, 1), (1, 1), (2, 1), (3, 1), (4, 1), (5, 1)]) (zs := [.int .u32 0, .int .i64 0, .bool false, .slice none 0 0, .int .i64 0, .slice none 0 0]) (parts := [(0, .tmp 68), (1, .tmp 70), (2, .tmp 72), (3, .tmp 75), (4, .tmp 76), (5, .tmp 78)]) (vs := [(0, _), (1, _), (2, _), (3, _), (4, _), (5, _)]) (cells := [_, _, _, _, _, _]) kr_ kr_ rfl rfl))) ?_
                    refine WAF.step (pd := [(12, 79), (9, 76), (6, 73), (5, 72), (4, 71), (3, 70), (2, 69), (1, 68), (0, 67)]) [(14, [12, 9, 6, 5, 4, 3, 2, 1, 0])] rfl kr_ kr_ (all_c rfl (all_c rfl (all_c rfl (all_c rfl (all_c rfl (all_c rfl (all_c rfl (all_c rfl (all_c rfl (all_n)))))))))) (all_c (QF.mk [9, 5, 3, 1] [(76, _), (72, _), (70, _), (68, _)] rfl rfl kr_ rfl (QAt.y Wt.none (Yd.buildL (pl := [(0, 1), (1, 1), (2, 1), (3, 1), (4, 1), (5, 1)]) (zs := [.int .u32 0, .int .i64 0, .bool false, .slice none 0 0, .int .i64 0, .slice none 0 0]) (parts := [(0, .tmp 68), (1, .tmp 70), (2, .tmp 72), (3, .tmp 75), (4, .tmp 76), (5, .tmp 78)]) (vs := [(0, _), (1, _), (2, _), (3, _), (4, _), (5, _)]) (cells := [_, _, _, _, _, _]) kr_ kr_ rfl rfl))) (all_c (QF.mk [] [] rfl rfl kr_ rfl (QAt.y Wt.none (Yd.move rfl))) (all_c (QF.mk [] [] rfl rfl kr_ rfl (QAt.y Wt.none (Yd.fieldAddr (k := 10) kr_ rfl))) (all_c (QF.mk [4] [(71, _)] rfl rfl kr_ rfl (QAt.rd Wt.none (Rd.load1 kr_ rfl mem_ (by rfl)))) (all_c (QF.mk [] [] rfl rfl kr_ rfl (QAt.y Wt.none (Yd.fieldAddr (k := 7) kr_ rfl))) (all_c (QF.mk [2] [(69, _)] rfl rfl kr_ rfl (QAt.rd Wt.none (Rd.load1 kr_ rfl mem_ (by rfl)))) (all_c (QF.mk [] [] rfl rfl kr_ rfl (QAt.y Wt.none (Yd.fieldAddr (k := 6) kr_ rfl))) (all_c (QF.mk [0] [(67, _)] rfl rfl kr_ rfl (QAt.rd Wt.none (Rd.load1 kr_ rfl mem_ (by rfl)))) (all_c (QF.mk [] [] rfl rfl kr_ rfl (QAt.y Wt.none (Yd.fieldAddr (k := 5) kr_ rfl))) (all_n)))))))))) (all_c ?_ (all_n))
                    · change SO _ _ _ _ _ _ 14 ([(79, _), (76, _), (73, _), (72, _), (71, _), (70, _), (69, _), (68, _), (67, _)] ++ _) _ _
                      refine SO.s rfl Wt.none (Hd.storeAll (n := 6) kr_ rfl rfl (by rfl) one_ fr_ (by rfl) ⟨rfl, ?_⟩)
                      change WAF _ _ _ _ _ _ [] _ [14, 12, 9, 6, 5, 4, 3, 2, 1, 0, 11, 10, 8, 7, 13] (([(79, _), (76, _), (73, _), (72, _), (71, _), (70, _), (69, _), (68, _), (67, _)] ++ _)) _
                      refine WAF.done (pd := []) rfl kr_ kr_ (all_n) (all_n) ?_
                      change DN _ _ _ _ _ _ ([] ++ _) _
                      exact DN.reachK ((b13, (o1, c1), (o2, c2), C1, C2)) (⟨hC1, hC2⟩) (Sx.put rfl (sx_)) (Sp.all sp_)
            · rintro ⟨b13, ⟨o1, c1⟩, ⟨o2, c2⟩, C1, C2⟩ ⟨hC1, hC2⟩
              dsimp only at hC1 hC2 ⊢
              refine WC.seq ?_
              refine WC.region ?_
              refine WL.h rfl (Hd.loadAll (n := 2) kr_ rfl mem_ (by rfl) ⟨_, rfl, ?_⟩)
              refine WL.c rfl (Ent.func Try.call13 rfl) (rcopy_tells e _ ks H hv hl hb) (Sp.p sp_) ?_
              rintro r2 H1 ⟨w, D, rfl, hF, rfl⟩
              obtain ⟨cs, CO, DO, hO2, hK2, rfl⟩ := hF
              obtain ⟨wo, wc, rfl, hwc⟩ := hO2.form
              have hcl := hK2.len
              refine WL.h rfl (Hd.alloc (zs := [.int .u32 0, .slice none 0 0]) kr_ fun b14 => ⟨_, rfl, ?_⟩)
              refine WL.s (Hd.storeAll (n := 2) kr_ rfl rfl (by rfl) one_ fr_ (by rfl) ⟨rfl, ?_⟩)
              refine WL.nil ?_
              refine DN.then_normal ?_
              refine WC.seq ?_
              refine WC.region ?_
              refine WL.y rfl (Yd.fieldAddr (k := 1) kr_ rfl) ?_
              refine WL.h rfl (Hd.load1 kr_ rfl mem_ (by rfl) ⟨_, rfl, ?_⟩)
              refine WL.y rfl (Yd.buildL (pl := [(0, 1), (1, 1)]) (zs := [.int .u32 0, .slice none 0 0]) (parts := [(0, .tmp 83)]) (vs := [(0, _)]) (cells := [_, .slice none 0 0]) kr_ kr_ rfl rfl) ?_
              refine WL.h rfl (Hd.alloc (zs := [.int .u32 0, .slice none 0 0]) kr_ fun b15 => ⟨_, rfl, ?_⟩)
              refine WL.s (Hd.storeAll (n := 2) kr_ rfl rfl (by rfl) one_ fr_ (by rfl) ⟨rfl, ?_⟩)
              refine WL.nil ?_
              refine DN.then_normal ?_
              refine WC.seq ?_
              refine WC.region ?_
              refine WL.y rfl (Yd.assign rfl) ?_
              refine WL.nil ?_
              refine DN.then_normal ?_
              refine WC.seq ?_
              refine WC.seq ?_
              refine WC.region ?_
              refine WL.y rfl (Yd.assign rfl) ?_
              refine WL.nil ?_
              refine DN.then_normal ?_
              refine WC.block ?_
              refine WC.loopS (fun z : Nat × Nat × Bool × Value × List Ck => z.1 ≤ ks.length ∧ z.2.2.1 = decide ((pos ks (stepK n code reply).num) < z.1) ∧ z.2.1 = (if (pos ks (stepK n code reply).num) < z.1 then z.1 + 1 else z.1) ∧ Own z.2.2.2.1 z.2.1 (layC cs (kc (stepK n code reply) (.slice o1 n.data.length c1) (.slice o2 reply.length c2)) (pos ks (stepK n code reply).num) z.1) 43 6 z.2.2.2.2) (fun z : Nat × Nat × Bool × Value × List Ck => [(17, .int .i64 (z.1 : Int)), (16, .bool z.2.2.1)]) (fun z : Nat × Nat × Bool × Value × List Ck => row b15 [.int .u32 n.epoch.toNat, z.2.2.2.1] 25 :: (z.2.2.2.2 ++ (row b14 [.int .u32 e.toNat, .slice wo ks.length wc] 25 :: (CO ++ (DO ++ (row b13 (kc (stepK n code reply) (.slice o1 n.data.length c1) (.slice o2 reply.length c2)) 43 :: (C1 ++ (C2 ++ (row b11 (kc kk (.slice oa kk.asked.length ca) (.slice or_ kk.reply.length cr)) 43 :: (row b8 [.int .u32 0, .slice none 0 0] 25 :: row b5 (ntc n (.slice ko n.key.length kcap) (.slice do_ n.data.length dc)) 29 :: row b4 [.int .u32 e.toNat, .slice ao ks.length c] 25 :: H)))))))))) (fun z : Nat × Nat × Bool × Value × List Ck => ks.length - z.1) (⟨0, 0, false, .slice none 0 0, []⟩) (show 0 ≤ ks.length ∧ false = decide ((pos ks (stepK n code reply).num) < 0) ∧ 0 = (if (pos ks (stepK n code reply).num) < 0 then 0 + 1 else 0) ∧ Own (.slice none 0 0) 0 (layC cs (kc (stepK n code reply) (.slice o1 n.data.length c1) (.slice o2 reply.length c2)) (pos ks (stepK n code reply).num) 0) 43 6 [] from ⟨Nat.zero_le _, (decide_eq_false (by omega)).symm, by rw [if_neg (by omega)], by rw [layC_zero]; exact Own.nil _ _⟩) (Sx.put rfl (Sx.put rfl (sx_))) sp_ ?_
              rintro ⟨i, m, ld, vl, Cl⟩ hI
              replace hI : i ≤ ks.length ∧ ld = decide ((pos ks (stepK n code reply).num) < i) ∧ m = (if (pos ks (stepK n code reply).num) < i then i + 1 else i) ∧ Own vl m (layC cs (kc (stepK n code reply) (.slice o1 n.data.length c1) (.slice o2 reply.length c2)) (pos ks (stepK n code reply).num) i) 43 6 Cl := hI
              obtain ⟨hi, hld, hm, hOl⟩ := hI
              change WC _ _ _ _ _ _ ([(17, .int .i64 (i : Int)), (16, .bool ld)] ++ _) (row b15 [.int .u32 n.epoch.toNat, vl] 25 :: (Cl ++ (row b14 [.int .u32 e.toNat, .slice wo ks.length wc] 25 :: (CO ++ (DO ++ (row b13 (kc (stepK n code reply) (.slice o1 n.data.length c1) (.slice o2 reply.length c2)) 43 :: (C1 ++ (C2 ++ (row b11 (kc kk (.slice oa kk.asked.length ca) (.slice or_ kk.reply.length cr)) 43 :: (row b8 [.int .u32 0, .slice none 0 0] 25 :: row b5 (ntc n (.slice ko n.key.length kcap) (.slice do_ n.data.length dc)) 29 :: row b4 [.int .u32 e.toNat, .slice ao ks.length c] 25 :: H))))))))))
              obtain ⟨lo, lc, rfl, hlc⟩ := hOl.form
              have hmi : m ≤ i + 1 := by rw [hm]; split <;> omega
              refine WC.seq ?_
              refine WC.seq ?_
              refine WC.region ?_
              refine WL.y rfl (Yd.move rfl) ?_
              refine WL.y rfl (Yd.fieldAddr (k := 1) kr_ rfl) ?_
              refine WL.h rfl (Hd.load1 kr_ rfl mem_ (by rfl) ⟨_, rfl, ?_⟩)
              refine WL.y rfl (Yd.len (e := 43) kr_ rfl) ?_
              refine WL.y rfl (Yd.lss rfl rfl) ?_
              refine WL.nil ?_
              refine DN.then_normal ?_
              refine WC.ite rfl (fun h89 => ?_) (fun h89 => ?_)
              · have hlt : i < ks.length := by omega
                obtain ⟨va, vr, hg, hva, hvr2⟩ := hK2.views.at i hlt
                obtain ⟨ao1, ac1, rfl, _⟩ := hva.form
                obtain ⟨ro1, rc1, rfl, _⟩ := hvr2.form
                have hri := chk_right hck hlt
                have hpl := pos_len (i := i) hck hxn hlt
                obtain ⟨lb, lf, lcs, lT, lfr, lex, elo, _, hlm, hlcs⟩ := hO2.rs.lies (by omega)
                refine WC.skip ?_
                refine DN.then_normal ?_
                refine WC.seq ?_
                refine WC.block ?_
                refine WC.seq ?_
                refine WC.seq ?_
                refine WC.draw 11 kr_ rfl ?_
                refine WA.float (N := 11) rfl ?_
                refine WAF.add (i := 0) (d := 92) rfl (QF.mk [] [] rfl rfl kr_ rfl (QAt.y Wt.none (Yd.move rfl))) ?_
                refine WAF.add (i := 1) (d := 93) rfl (QF.mk [0] [(92, _)] rfl rfl kr_ rfl (QAt.y Wt.none (Yd.notB rfl))) ?_
                refine WAF.add (i := 2) (d := 94) rfl (QF.mk [1] [(93, _)] rfl rfl kr_ rfl (QAt.y Wt.none (Yd.move rfl))) ?_
                refine WAF.part (fun hg94 => ?_) (fun hg94 => ?_)
                · refine WAF.add (i := 3) (d := 95) rfl (QF.mk [2] [(94, _)] rfl rfl kr_ rfl (QAt.rd (Wt.yes (dj := 94) rfl rfl) (Rd.loadAll (n := 6) kr_ rfl mem_ (by rfl)))) ?_
                  refine WAF.add (i := 4) (d := 96) rfl (QF.mk [2] [(94, _)] rfl rfl kr_ rfl (QAt.y (Wt.yes (dj := 94) rfl rfl) (Yd.fieldAddr (k := 1) kr_ rfl))) ?_
                  refine WAF.add (i := 5) (d := 97) rfl (QF.mk [4, 2] [(96, _), (94, _)] rfl rfl kr_ rfl (QAt.rd (Wt.yes (dj := 94) rfl rfl) (Rd.load1 kr_ rfl mem_ (by rfl)))) ?_
                  refine WAF.add (i := 6) (d := 98) rfl (QF.mk [2] [(94, _)] rfl rfl kr_ rfl (QAt.y (Wt.yes (dj := 94) rfl rfl) (Yd.move rfl))) ?_
                  refine WAF.add (i := 7) (d := 99) rfl (QF.mk [6, 5, 2] [(98, _), (97, _), (94, _)] rfl rfl kr_ rfl (QAt.y (Wt.yes (dj := 94) rfl rfl) (Yd.indexAddr (e := 43) (s := 6) (b := lb) (o := lf) (n := ks.length) (c := wc) kr_ kr_ (congrArg (fun q => some (Value.slice q ks.length wc)) elo) rfl (by omega) (by omega)))) ?_
                  refine WAF.add (i := 8) (d := 100) rfl (QF.mk [7, 2] [(99, _), (94, _)] rfl rfl kr_ rfl (QAt.rd (Wt.yes (dj := 94) rfl rfl) (Rd.loadA (n := 6) (b := lb) (o := lf + (i : Int).toNat * 6) (cs := lcs) (vs := kc ks[i] (.slice ao1 ks[i].asked.length ac1) (.slice ro1 ks[i].reply.length rc1)) kr_ rfl (Gr.get gr_ hlm) rfl (rs_cell hlcs (by omega) hg)))) ?_
                  refine WAF.add (i := 9) (d := 101) rfl (QF.mk [8, 3, 2] [(100, _), (95, _), (94, _)] rfl rfl kr_ rfl (QAt.rf (Wt.yes (dj := 94) rfl rfl) (Ent.func Try.call44 rfl) (rless_reads (stepK n code reply) ks[i] _ _ _ _ rfl rfl rfl rfl _) Sp.sn)) ?_
                  refine WAF.add (i := 10) (d := 102) rfl (QF.mk [9, 2] [(101, _), (94, _)] rfl rfl kr_ rfl (QAt.y Wt.none (Yd.pickT rfl rfl))) ?_
                  refine WAF.done (pd := [(10, 102), (9, 101), (8, 100), (7, 99), (6, 98), (5, 97), (4, 96), (3, 95), (2, 94), (1, 93), (0, 92)]) rfl kr_ kr_ (all_c rfl (all_c rfl (all_c rfl (all_c rfl (all_c rfl (all_c rfl (all_c rfl (all_c rfl (all_c rfl (all_c rfl (all_c rfl (all_n)))))))))))) (all_c (QF.mk [9, 2] [(101, _), (94, _)] rfl rfl kr_ rfl (QAt.y Wt.none (Yd.pickT rfl rfl))) (all_c (QF.mk [8, 3, 2] [(100, _), (95, _), (94, _)] rfl rfl kr_ rfl (QAt.rf (Wt.yes (dj := 94) rfl rfl) (Ent.func Try.call44 rfl) (rless_reads (stepK n code reply) ks[i] _ _ _ _ rfl rfl rfl rfl _) Sp.sn)) (all_c (QF.mk [7, 2] [(99, _), (94, _)] rfl rfl kr_ rfl (QAt.rd (Wt.yes (dj := 94) rfl rfl) (Rd.loadA (n := 6) (b := lb) (o := lf + (i : Int).toNat * 6) (cs := lcs) (vs := kc ks[i] (.slice ao1 ks[i].asked.length ac1) (.slice ro1 ks[i].reply.length rc1)) kr_ rfl (Gr.get gr_ hlm) rfl (rs_cell hlcs (by omega) hg)))) (all_c (QF.mk [6, 5, 2] [(98, _), (97, _), (94, _)] rfl rfl kr_ rfl (QAt.y (Wt.yes (dj := 94) rfl rfl) (Yd.indexAddr (e := 43) (s := 6) (b := lb) (o := lf) (n := ks.length) (c := wc) kr_ kr_ (congrArg (fun q => some (Value.slice q ks.length wc)) elo) rfl (by omega) (by omega)))) (all_c (QF.mk [2] [(94, _)] rfl rfl kr_ rfl (QAt.y (Wt.yes (dj := 94) rfl rfl) (Yd.move rfl))) (all_c (QF.mk [4, 2] [(96, _), (94, _)] rfl rfl kr_ rfl (QAt.rd (Wt.yes (dj := 94) rfl rfl) (Rd.load1 kr_ rfl mem_ (by rfl)))) (all_c (QF.mk [2] [(94, _)] rfl rfl kr_ rfl (QAt.y (Wt.yes (dj := 94) rfl rfl) (Yd.fieldAddr (k := 1) kr_ rfl))) (all_c (QF.mk [2] [(94, _)] rfl rfl kr_ rfl (QAt.rd (Wt.yes (dj := 94) rfl rfl) (Rd.loadAll (n := 6) kr_ rfl mem_ (by rfl)))) (all_c (QF.ren (congrArg Value.bool hg94) (QF.mk [1] [(93, _)] rfl rfl kr_ rfl (QAt.y Wt.none (Yd.move rfl)))) (all_c (QF.mk [0] [(92, _)] rfl rfl kr_ rfl (QAt.y Wt.none (Yd.notB rfl))) (all_c (QF.mk [] [] rfl rfl kr_ rfl (QAt.y Wt.none (Yd.move rfl))) (all_n)))))))))))) ?_
                  change DN _ _ _ _ _ _ ([(102, _), (101, _), (100, _), (99, _), (98, _), (97, _), (96, _), (95, _), (94, _), (93, _), (92, _)] ++ _) _
                  refine DN.then_normal ?_
                  refine WC.cond rfl (fun h102 => ?_) (fun h102 => ?_)
                  · have hpi : (pos ks (stepK n code reply).num) = i := by
                      rw [lessK_num hrt hri] at h102
                      exact lay_at (hpl.2 (of_decide_eq_true h102)) (by rw [hld] at hg94; simpa using hg94)
                    refine WC.seq ?_
                    refine WC.region ?_
                    refine WL.y rfl (Yd.fieldAddr (k := 1) kr_ rfl) ?_
                    refine WL.h rfl (Hd.load1 kr_ rfl mem_ (by rfl) ⟨_, rfl, ?_⟩)
                    refine WL.h rfl (Hd.loadAll (n := 6) kr_ rfl mem_ (by rfl) ⟨_, rfl, ?_⟩)
                    refine WL.h rfl (Hd.buildA (e := 43) (sz := 6) (zs := [.int .u32 0, .int .i64 0, .bool false, .slice none 0 0, .int .i64 0, .slice none 0 0]) kr_ kr_ kr_ rfl rfl (by rfl) kr_ fun b106 => ⟨_, rfl, ?_⟩)
                    refine WL.h rfl (Hd.appendRow (e := 43) (sz := 6) (bytes := 80) (zs := [.int .u32 0, .int .i64 0, .bool false, .slice none 0 0, .int .i64 0, .slice none 0 0]) kr_ kr_ rfl (by omega) rfl rfl (hOl) sp_ mem_ (by rfl) (kc_one (by rfl) (by rfl)) (by simp only [maxLen]; omega) (by omega) fun v2 C2 h2 => ⟨_, rfl, ?_⟩)
                    obtain ⟨lo2, lc2, rfl, hlc2⟩ := h2.form
                    refine WL.y rfl (Yd.fieldAddr (k := 1) kr_ rfl) ?_
                    refine WL.s (Hd.store1s kr_ rfl rfl (by rfl) fr_ (by rfl) (by first | (simp only [List.set_cons_zero, List.set_cons_succ, Nat.zero_add, Nat.add_zero, Nat.reduceAdd]; rfl) | rfl) ⟨rfl, ?_⟩)
                    refine WL.nil ?_
                    refine DN.then_normal ?_
                    refine WC.region ?_
                    refine WL.y rfl (Yd.assign rfl) ?_
                    refine WL.nil ?_
                    refine DN.then_normal ?_
                    refine WC.draw 11 kr_ rfl ?_
                    refine WA.float (N := 11) rfl ?_
                    refine WAF.add (i := 0) (d := 109) rfl (QF.mk [] [] rfl rfl kr_ rfl (QAt.y Wt.none (Yd.fieldAddr (k := 1) kr_ rfl))) ?_
                    refine WAF.add (i := 1) (d := 110) rfl (QF.mk [0] [(109, _)] rfl rfl kr_ rfl (QAt.rd Wt.none (Rd.load1 kr_ rfl mem_ (by rfl)))) ?_
                    refine WAF.add (i := 2) (d := 111) rfl (QF.mk [] [] rfl rfl kr_ rfl (QAt.y Wt.none (Yd.fieldAddr (k := 1) kr_ rfl))) ?_
                    refine WAF.add (i := 3) (d := 112) rfl (QF.mk [2] [(111, _)] rfl rfl kr_ rfl (QAt.rd Wt.none (Rd.load1 kr_ rfl mem_ (by rfl)))) ?_
                    refine WAF.add (i := 4) (d := 113) rfl (QF.mk [] [] rfl rfl kr_ rfl (QAt.y Wt.none (Yd.move rfl))) ?_
                    refine WAF.add (i := 5) (d := 114) rfl (QF.mk [4, 3] [(113, _), (112, _)] rfl rfl kr_ rfl (QAt.y Wt.none (Yd.indexAddr (e := 43) (s := 6) (b := lb) (o := lf) (n := ks.length) (c := wc) kr_ kr_ (congrArg (fun q => some (Value.slice q ks.length wc)) elo) rfl (by omega) (by omega)))) ?_
                    refine WAF.add (i := 6) (d := 115) rfl (QF.mk [5] [(114, _)] rfl rfl kr_ rfl (QAt.rd Wt.none (Rd.loadA (n := 6) (b := lb) (o := lf + (i : Int).toNat * 6) (cs := lcs) (vs := kc ks[i] (.slice ao1 ks[i].asked.length ac1) (.slice ro1 ks[i].reply.length rc1)) kr_ rfl (Gr.get gr_ hlm) rfl (rs_cell hlcs (by omega) hg)))) ?_
                    refine WAF.step (pd := [(6, 115), (5, 114), (4, 113), (3, 112), (2, 111), (1, 110), (0, 109)]) [(7, [6])] rfl kr_ kr_ (all_c rfl (all_c rfl (all_c rfl (all_c rfl (all_c rfl (all_c rfl (all_c rfl (all_n)))))))) (all_c (QF.mk [5] [(114, _)] rfl rfl kr_ rfl (QAt.rd Wt.none (Rd.loadA (n := 6) (b := lb) (o := lf + (i : Int).toNat * 6) (cs := lcs) (vs := kc ks[i] (.slice ao1 ks[i].asked.length ac1) (.slice ro1 ks[i].reply.length rc1)) kr_ rfl (Gr.get gr_ hlm) rfl (rs_cell hlcs (by omega) hg)))) (all_c (QF.mk [4, 3] [(113, _), (112, _)] rfl rfl kr_ rfl (QAt.y Wt.none (Yd.indexAddr (e := 43) (s := 6) (b := lb) (o := lf) (n := ks.length) (c := wc) kr_ kr_ (congrArg (fun q => some (Value.slice q ks.length wc)) elo) rfl (by omega) (by omega)))) (all_c (QF.mk [] [] rfl rfl kr_ rfl (QAt.y Wt.none (Yd.move rfl))) (all_c (QF.mk [2] [(111, _)] rfl rfl kr_ rfl (QAt.rd Wt.none (Rd.load1 kr_ rfl mem_ (by rfl)))) (all_c (QF.mk [] [] rfl rfl kr_ rfl (QAt.y Wt.none (Yd.fieldAddr (k := 1) kr_ rfl))) (all_c (QF.mk [0] [(109, _)] rfl rfl kr_ rfl (QAt.rd Wt.none (Rd.load1 kr_ rfl mem_ (by rfl)))) (all_c (QF.mk [] [] rfl rfl kr_ rfl (QAt.y Wt.none (Yd.fieldAddr (k := 1) kr_ rfl))) (all_n)))))))) (all_c ?_ (all_n))
                    · change SO _ _ _ _ _ _ 7 ([(115, _)] ++ _) _ _
                      refine SO.h rfl Wt.none rfl (Hd.buildA (e := 43) (sz := 6) (zs := [.int .u32 0, .int .i64 0, .bool false, .slice none 0 0, .int .i64 0, .slice none 0 0]) kr_ kr_ kr_ rfl rfl (by rfl) kr_ fun b116 => ⟨_, rfl, ?_⟩)
                      change WAF _ _ _ _ _ _ [(5, 114, _), (4, 113, _), (3, 112, _), (2, 111, _), (1, 110, _), (0, 109, _)] _ [7, 6] ((116, _) :: ([(115, _)] ++ _)) _
                      refine WAF.step (pd := [(5, 114), (4, 113), (3, 112), (2, 111), (1, 110), (0, 109)]) [(8, [1])] rfl kr_ kr_ (all_c rfl (all_c rfl (all_c rfl (all_c rfl (all_c rfl (all_c rfl (all_n))))))) (all_c (QF.mk [4, 3] [(113, _), (112, _)] rfl rfl kr_ rfl (QAt.y Wt.none (Yd.indexAddr (e := 43) (s := 6) (b := lb) (o := lf) (n := ks.length) (c := wc) kr_ kr_ (congrArg (fun q => some (Value.slice q ks.length wc)) elo) rfl (by omega) (by omega)))) (all_c (QF.mk [] [] rfl rfl kr_ rfl (QAt.y Wt.none (Yd.move rfl))) (all_c (QF.mk [2] [(111, _)] rfl rfl kr_ rfl (QAt.rd Wt.none (Rd.load1 kr_ rfl mem_ (by rfl)))) (all_c (QF.mk [] [] rfl rfl kr_ rfl (QAt.y Wt.none (Yd.fieldAddr (k := 1) kr_ rfl))) (all_c (QF.mk [0] [(109, _)] rfl rfl kr_ rfl (QAt.rd Wt.none (Rd.load1 kr_ rfl mem_ (by rfl)))) (all_c (QF.mk [] [] rfl rfl kr_ rfl (QAt.y Wt.none (Yd.fieldAddr (k := 1) kr_ rfl))) (all_n))))))) (all_c ?_ (all_n))
                      · change SO _ _ _ _ _ _ 8 ([(110, _)] ++ _) _ _
                        refine SO.h rfl Wt.none rfl (Hd.appendRow (e := 43) (sz := 6) (bytes := 80) (zs := [.int .u32 0, .int .i64 0, .bool false, .slice none 0 0, .int .i64 0, .slice none 0 0]) kr_ kr_ rfl (by omega) rfl rfl (by first | exact h2 | exact hOl) sp_ mem_ (by rfl) (kc_one (by rfl) (by rfl)) (by simp only [maxLen]; omega) (by omega) fun v3 C3 h3 => ⟨_, rfl, ?_⟩)
                        obtain ⟨lo3, lc3, rfl, hlc3⟩ := h3.form
                        change WAF _ _ _ _ _ _ [(5, 114, _), (4, 113, _), (3, 112, _), (2, 111, _), (0, 109, _)] _ [8, 1, 7, 6] ((117, _) :: ([(110, _)] ++ _)) _
                        refine WAF.add (i := 9) (d := 118) rfl (QF.mk [5, 4, 3, 2, 0] [(114, _), (113, _), (112, _), (111, _), (109, _)] rfl rfl kr_ rfl (QAt.y Wt.none (Yd.fieldAddr (k := 1) kr_ rfl))) ?_
                        refine WAF.step (pd := [(9, 118), (5, 114), (4, 113), (3, 112), (2, 111), (0, 109)]) [(10, [9, 5, 4, 3, 2, 0])] rfl kr_ kr_ (all_c rfl (all_c rfl (all_c rfl (all_c rfl (all_c rfl (all_c rfl (all_n))))))) (all_c (QF.mk [5, 4, 3, 2, 0] [(114, _), (113, _), (112, _), (111, _), (109, _)] rfl rfl kr_ rfl (QAt.y Wt.none (Yd.fieldAddr (k := 1) kr_ rfl))) (all_c (QF.mk [4, 3] [(113, _), (112, _)] rfl rfl kr_ rfl (QAt.y Wt.none (Yd.indexAddr (e := 43) (s := 6) (b := lb) (o := lf) (n := ks.length) (c := wc) kr_ kr_ (congrArg (fun q => some (Value.slice q ks.length wc)) elo) rfl (by omega) (by omega)))) (all_c (QF.mk [] [] rfl rfl kr_ rfl (QAt.y Wt.none (Yd.move rfl))) (all_c (QF.mk [2] [(111, _)] rfl rfl kr_ rfl (QAt.rd Wt.none (Rd.load1 kr_ rfl mem_ (by rfl)))) (all_c (QF.mk [] [] rfl rfl kr_ rfl (QAt.y Wt.none (Yd.fieldAddr (k := 1) kr_ rfl))) (all_c (QF.mk [] [] rfl rfl kr_ rfl (QAt.y Wt.none (Yd.fieldAddr (k := 1) kr_ rfl))) (all_n))))))) (all_c ?_ (all_n))
                        · change SO _ _ _ _ _ _ 10 ([(118, _), (114, _), (113, _), (112, _), (111, _), (109, _)] ++ _) _ _
                          refine SO.s rfl Wt.none (Hd.store1s kr_ rfl rfl (by rfl) fr_ (by rfl) (by first | (simp only [List.set_cons_zero, List.set_cons_succ, Nat.zero_add, Nat.add_zero, Nat.reduceAdd]; rfl) | rfl) ⟨rfl, ?_⟩)
                          change WAF _ _ _ _ _ _ [] _ [10, 9, 5, 4, 3, 2, 0, 8, 1, 7, 6] (([(118, _), (114, _), (113, _), (112, _), (111, _), (109, _)] ++ _)) _
                          refine WAF.done (pd := []) rfl kr_ kr_ (all_n) (all_n) ?_
                          change DN _ _ _ _ _ _ ([] ++ _) _
                          refine DN.block_normal ?_
                          refine DN.then_normal ?_
                          refine WC.region ?_
                          refine WL.y rfl (Yd.move rfl) ?_
                          refine WL.y rfl (Yd.add rfl rfl (by omega) (by omega)) ?_
                          refine WL.y rfl (Yd.assign rfl) ?_
                          refine WL.nil ?_
                          first
                          | (have h9 : (pos ks (stepK n code reply).num) = i := hpi
                             exact DN.againS (i + 1, m + 1 + 1, true, .slice lo3 (m + 1 + 1) lc3, C3) ⟨by show i + 1 ≤ ks.length; omega, (decide_eq_true (show (pos ks (stepK n code reply).num) < i + 1 by omega)).symm, by show m + 1 + 1 = (if (pos ks (stepK n code reply).num) < i + 1 then i + 1 + 1 else i + 1); rw [hm, if_neg (by omega), if_pos (by omega)], by
                              show Own (.slice lo3 (m + 1 + 1) lc3) (m + 1 + 1) (layC cs (kc (stepK n code reply) (.slice o1 n.data.length c1) (.slice o2 reply.length c2)) (pos ks (stepK n code reply).num) (i + 1)) _ 6 C3
                              rw [layC_now hcl hlt hpi, hg]; exact h3⟩ (by show ks.length - (i + 1) < ks.length - i; omega) ((Sx.put rfl (Sx.put rfl (sx_)))) sp_)
                          | (first
                             | have h9 : (pos ks (stepK n code reply).num) < i ∨ i < (pos ks (stepK n code reply).num) := hpi
                             | have h9 : (pos ks (stepK n code reply).num) < i ∨ i < (pos ks (stepK n code reply).num) := .inl (of_decide_eq_true (hld.symm.trans (by simpa using hg94)))
                             exact DN.againS (i + 1, m + 1, ld, .slice lo3 (m + 1) lc3, C3) ⟨by show i + 1 ≤ ks.length; omega, by show ld = decide ((pos ks (stepK n code reply).num) < i + 1); rw [hld, Bool.eq_iff_iff, decide_eq_true_eq, decide_eq_true_eq]; omega, by show m + 1 = (if (pos ks (stepK n code reply).num) < i + 1 then i + 1 + 1 else i + 1); rw [hm]; split <;> split <;> omega, by
                              show Own (.slice lo3 (m + 1) lc3) (m + 1) (layC cs (kc (stepK n code reply) (.slice o1 n.data.length c1) (.slice o2 reply.length c2)) (pos ks (stepK n code reply).num) (i + 1)) _ 6 C3
                              rcases h9 with h | h
                              · rw [layC_past hcl hlt h, hg]; exact h3
                              · rw [layC_not hcl hlt h, hg]; exact h3⟩ (by show ks.length - (i + 1) < ks.length - i; omega) ((Sx.put rfl (Sx.put rfl (sx_)))) sp_)
                  · have hpi : (pos ks (stepK n code reply).num) < i ∨ i < (pos ks (stepK n code reply).num) := by
                      first
                      | (left; rw [hld] at hg94; simpa using hg94; done)
                      | (rw [lessK_num hrt hri] at h102
                         have h9 := of_decide_eq_false h102
                         right
                         omega)
                    refine WC.skip ?_
                    refine DN.then_normal ?_
                    refine WC.draw 11 kr_ rfl ?_
                    refine WA.float (N := 11) rfl ?_
                    refine WAF.add (i := 0) (d := 109) rfl (QF.mk [] [] rfl rfl kr_ rfl (QAt.y Wt.none (Yd.fieldAddr (k := 1) kr_ rfl))) ?_
                    refine WAF.add (i := 1) (d := 110) rfl (QF.mk [0] [(109, _)] rfl rfl kr_ rfl (QAt.rd Wt.none (Rd.load1 kr_ rfl mem_ (by rfl)))) ?_
                    refine WAF.add (i := 2) (d := 111) rfl (QF.mk [] [] rfl rfl kr_ rfl (QAt.y Wt.none (Yd.fieldAddr (k := 1) kr_ rfl))) ?_
                    refine WAF.add (i := 3) (d := 112) rfl (QF.mk [2] [(111, _)] rfl rfl kr_ rfl (QAt.rd Wt.none (Rd.load1 kr_ rfl mem_ (by rfl)))) ?_
                    refine WAF.add (i := 4) (d := 113) rfl (QF.mk [] [] rfl rfl kr_ rfl (QAt.y Wt.none (Yd.move rfl))) ?_
                    refine WAF.add (i := 5) (d := 114) rfl (QF.mk [4, 3] [(113, _), (112, _)] rfl rfl kr_ rfl (QAt.y Wt.none (Yd.indexAddr (e := 43) (s := 6) (b := lb) (o := lf) (n := ks.length) (c := wc) kr_ kr_ (congrArg (fun q => some (Value.slice q ks.length wc)) elo) rfl (by omega) (by omega)))) ?_
                    refine WAF.add (i := 6) (d := 115) rfl (QF.mk [5] [(114, _)] rfl rfl kr_ rfl (QAt.rd Wt.none (Rd.loadA (n := 6) (b := lb) (o := lf + (i : Int).toNat * 6) (cs := lcs) (vs := kc ks[i] (.slice ao1 ks[i].asked.length ac1) (.slice ro1 ks[i].reply.length rc1)) kr_ rfl (Gr.get gr_ hlm) rfl (rs_cell hlcs (by omega) hg)))) ?_
                    refine WAF.step (pd := [(6, 115), (5, 114), (4, 113), (3, 112), (2, 111), (1, 110), (0, 109)]) [(7, [6])] rfl kr_ kr_ (all_c rfl (all_c rfl (all_c rfl (all_c rfl (all_c rfl (all_c rfl (all_c rfl (all_n)))))))) (all_c (QF.mk [5] [(114, _)] rfl rfl kr_ rfl (QAt.rd Wt.none (Rd.loadA (n := 6) (b := lb) (o := lf + (i : Int).toNat * 6) (cs := lcs) (vs := kc ks[i] (.slice ao1 ks[i].asked.length ac1) (.slice ro1 ks[i].reply.length rc1)) kr_ rfl (Gr.get gr_ hlm) rfl (rs_cell hlcs (by omega) hg)))) (all_c (QF.mk [4, 3] [(113, _), (112, _)] rfl rfl kr_ rfl (QAt.y Wt.none (Yd.indexAddr (e := 43) (s := 6) (b := lb) (o := lf) (n := ks.length) (c := wc) kr_ kr_ (congrArg (fun q => some (Value.slice q ks.length wc)) elo) rfl (by omega) (by omega)))) (all_c (QF.mk [] [] rfl rfl kr_ rfl (QAt.y Wt.none (Yd.move rfl))) (all_c (QF.mk [2] [(111, _)] rfl rfl kr_ rfl (QAt.rd Wt.none (Rd.load1 kr_ rfl mem_ (by rfl)))) (all_c (QF.mk [] [] rfl rfl kr_ rfl (QAt.y Wt.none (Yd.fieldAddr (k := 1) kr_ rfl))) (all_c (QF.mk [0] [(109, _)] rfl rfl kr_ rfl (QAt.rd Wt.none (Rd.load1 kr_ rfl mem_ (by rfl)))) (all_c (QF.mk [] [] rfl rfl kr_ rfl (QAt.y Wt.none (Yd.fieldAddr (k := 1) kr_ rfl))) (all_n)))))))) (all_c ?_ (all_n))
                    · change SO _ _ _ _ _ _ 7 ([(115, _)] ++ _) _ _
                      refine SO.h rfl Wt.none rfl (Hd.buildA (e := 43) (sz := 6) (zs := [.int .u32 0, .int .i64 0, .bool false, .slice none 0 0, .int .i64 0, .slice none 0 0]) kr_ kr_ kr_ rfl rfl (by rfl) kr_ fun b116 => ⟨_, rfl, ?_⟩)
                      change WAF _ _ _ _ _ _ [(5, 114, _), (4, 113, _), (3, 112, _), (2, 111, _), (1, 110, _), (0, 109, _)] _ [7, 6] ((116, _) :: ([(115, _)] ++ _)) _
                      refine WAF.step (pd := [(5, 114), (4, 113), (3, 112), (2, 111), (1, 110), (0, 109)]) [(8, [1])] rfl kr_ kr_ (all_c rfl (all_c rfl (all_c rfl (all_c rfl (all_c rfl (all_c rfl (all_n))))))) (all_c (QF.mk [4, 3] [(113, _), (112, _)] rfl rfl kr_ rfl (QAt.y Wt.none (Yd.indexAddr (e := 43) (s := 6) (b := lb) (o := lf) (n := ks.length) (c := wc) kr_ kr_ (congrArg (fun q => some (Value.slice q ks.length wc)) elo) rfl (by omega) (by omega)))) (all_c (QF.mk [] [] rfl rfl kr_ rfl (QAt.y Wt.none (Yd.move rfl))) (all_c (QF.mk [2] [(111, _)] rfl rfl kr_ rfl (QAt.rd Wt.none (Rd.load1 kr_ rfl mem_ (by rfl)))) (all_c (QF.mk [] [] rfl rfl kr_ rfl (QAt.y Wt.none (Yd.fieldAddr (k := 1) kr_ rfl))) (all_c (QF.mk [0] [(109, _)] rfl rfl kr_ rfl (QAt.rd Wt.none (Rd.load1 kr_ rfl mem_ (by rfl)))) (all_c (QF.mk [] [] rfl rfl kr_ rfl (QAt.y Wt.none (Yd.fieldAddr (k := 1) kr_ rfl))) (all_n))))))) (all_c ?_ (all_n))
                      · change SO _ _ _ _ _ _ 8 ([(110, _)] ++ _) _ _
                        refine SO.h rfl Wt.none rfl (Hd.appendRow (e := 43) (sz := 6) (bytes := 80) (zs := [.int .u32 0, .int .i64 0, .bool false, .slice none 0 0, .int .i64 0, .slice none 0 0]) kr_ kr_ rfl (by omega) rfl rfl (by first | exact h2 | exact hOl) sp_ mem_ (by rfl) (kc_one (by rfl) (by rfl)) (by simp only [maxLen]; omega) (by omega) fun v3 C3 h3 => ⟨_, rfl, ?_⟩)
                        obtain ⟨lo3, lc3, rfl, hlc3⟩ := h3.form
                        change WAF _ _ _ _ _ _ [(5, 114, _), (4, 113, _), (3, 112, _), (2, 111, _), (0, 109, _)] _ [8, 1, 7, 6] ((117, _) :: ([(110, _)] ++ _)) _
                        refine WAF.add (i := 9) (d := 118) rfl (QF.mk [5, 4, 3, 2, 0] [(114, _), (113, _), (112, _), (111, _), (109, _)] rfl rfl kr_ rfl (QAt.y Wt.none (Yd.fieldAddr (k := 1) kr_ rfl))) ?_
                        refine WAF.step (pd := [(9, 118), (5, 114), (4, 113), (3, 112), (2, 111), (0, 109)]) [(10, [9, 5, 4, 3, 2, 0])] rfl kr_ kr_ (all_c rfl (all_c rfl (all_c rfl (all_c rfl (all_c rfl (all_c rfl (all_n))))))) (all_c (QF.mk [5, 4, 3, 2, 0] [(114, _), (113, _), (112, _), (111, _), (109, _)] rfl rfl kr_ rfl (QAt.y Wt.none (Yd.fieldAddr (k := 1) kr_ rfl))) (all_c (QF.mk [4, 3] [(113, _), (112, _)] rfl rfl kr_ rfl (QAt.y Wt.none (Yd.indexAddr (e := 43) (s := 6) (b := lb) (o := lf) (n := ks.length) (c := wc) kr_ kr_ (congrArg (fun q => some (Value.slice q ks.length wc)) elo) rfl (by omega) (by omega)))) (all_c (QF.mk [] [] rfl rfl kr_ rfl (QAt.y Wt.none (Yd.move rfl))) (all_c (QF.mk [2] [(111, _)] rfl rfl kr_ rfl (QAt.rd Wt.none (Rd.load1 kr_ rfl mem_ (by rfl)))) (all_c (QF.mk [] [] rfl rfl kr_ rfl (QAt.y Wt.none (Yd.fieldAddr (k := 1) kr_ rfl))) (all_c (QF.mk [] [] rfl rfl kr_ rfl (QAt.y Wt.none (Yd.fieldAddr (k := 1) kr_ rfl))) (all_n))))))) (all_c ?_ (all_n))
                        · change SO _ _ _ _ _ _ 10 ([(118, _), (114, _), (113, _), (112, _), (111, _), (109, _)] ++ _) _ _
                          refine SO.s rfl Wt.none (Hd.store1s kr_ rfl rfl (by rfl) fr_ (by rfl) (by first | (simp only [List.set_cons_zero, List.set_cons_succ, Nat.zero_add, Nat.add_zero, Nat.reduceAdd]; rfl) | rfl) ⟨rfl, ?_⟩)
                          change WAF _ _ _ _ _ _ [] _ [10, 9, 5, 4, 3, 2, 0, 8, 1, 7, 6] (([(118, _), (114, _), (113, _), (112, _), (111, _), (109, _)] ++ _)) _
                          refine WAF.done (pd := []) rfl kr_ kr_ (all_n) (all_n) ?_
                          change DN _ _ _ _ _ _ ([] ++ _) _
                          refine DN.block_normal ?_
                          refine DN.then_normal ?_
                          refine WC.region ?_
                          refine WL.y rfl (Yd.move rfl) ?_
                          refine WL.y rfl (Yd.add rfl rfl (by omega) (by omega)) ?_
                          refine WL.y rfl (Yd.assign rfl) ?_
                          refine WL.nil ?_
                          first
                          | (have h9 : (pos ks (stepK n code reply).num) = i := hpi
                             exact DN.againS (i + 1, m + 1 + 1, true, .slice lo3 (m + 1 + 1) lc3, C3) ⟨by show i + 1 ≤ ks.length; omega, (decide_eq_true (show (pos ks (stepK n code reply).num) < i + 1 by omega)).symm, by show m + 1 + 1 = (if (pos ks (stepK n code reply).num) < i + 1 then i + 1 + 1 else i + 1); rw [hm, if_neg (by omega), if_pos (by omega)], by
                              show Own (.slice lo3 (m + 1 + 1) lc3) (m + 1 + 1) (layC cs (kc (stepK n code reply) (.slice o1 n.data.length c1) (.slice o2 reply.length c2)) (pos ks (stepK n code reply).num) (i + 1)) _ 6 C3
                              rw [layC_now hcl hlt hpi, hg]; exact h3⟩ (by show ks.length - (i + 1) < ks.length - i; omega) ((Sx.put rfl (Sx.put rfl (sx_)))) sp_)
                          | (first
                             | have h9 : (pos ks (stepK n code reply).num) < i ∨ i < (pos ks (stepK n code reply).num) := hpi
                             | have h9 : (pos ks (stepK n code reply).num) < i ∨ i < (pos ks (stepK n code reply).num) := .inl (of_decide_eq_true (hld.symm.trans (by simpa using hg94)))
                             exact DN.againS (i + 1, m + 1, ld, .slice lo3 (m + 1) lc3, C3) ⟨by show i + 1 ≤ ks.length; omega, by show ld = decide ((pos ks (stepK n code reply).num) < i + 1); rw [hld, Bool.eq_iff_iff, decide_eq_true_eq, decide_eq_true_eq]; omega, by show m + 1 = (if (pos ks (stepK n code reply).num) < i + 1 then i + 1 + 1 else i + 1); rw [hm]; split <;> split <;> omega, by
                              show Own (.slice lo3 (m + 1) lc3) (m + 1) (layC cs (kc (stepK n code reply) (.slice o1 n.data.length c1) (.slice o2 reply.length c2)) (pos ks (stepK n code reply).num) (i + 1)) _ 6 C3
                              rcases h9 with h | h
                              · rw [layC_past hcl hlt h, hg]; exact h3
                              · rw [layC_not hcl hlt h, hg]; exact h3⟩ (by show ks.length - (i + 1) < ks.length - i; omega) ((Sx.put rfl (Sx.put rfl (sx_)))) sp_)
                · refine WAF.add (i := 3) (d := 95) rfl (QF.mk [2] [(94, _)] rfl rfl kr_ rfl (QAt.gn rfl rfl rfl)) ?_
                  refine WAF.add (i := 4) (d := 96) rfl (QF.mk [2] [(94, _)] rfl rfl kr_ rfl (QAt.gn rfl rfl rfl)) ?_
                  refine WAF.add (i := 5) (d := 97) rfl (QF.mk [4, 2] [(96, _), (94, _)] rfl rfl kr_ rfl (QAt.gn rfl rfl rfl)) ?_
                  refine WAF.add (i := 6) (d := 98) rfl (QF.mk [2] [(94, _)] rfl rfl kr_ rfl (QAt.gn rfl rfl rfl)) ?_
                  refine WAF.add (i := 7) (d := 99) rfl (QF.mk [6, 5, 2] [(98, _), (97, _), (94, _)] rfl rfl kr_ rfl (QAt.gn rfl rfl rfl)) ?_
                  refine WAF.add (i := 8) (d := 100) rfl (QF.mk [7, 2] [(99, _), (94, _)] rfl rfl kr_ rfl (QAt.gn rfl rfl rfl)) ?_
                  refine WAF.add (i := 9) (d := 101) rfl (QF.mk [8, 3, 2] [(100, _), (95, _), (94, _)] rfl rfl kr_ rfl (QAt.gn rfl rfl rfl)) ?_
                  refine WAF.add (i := 10) (d := 102) rfl (QF.mk [9, 2] [(101, _), (94, _)] rfl rfl kr_ rfl (QAt.y Wt.none (Yd.pickF rfl rfl))) ?_
                  refine WAF.done (pd := [(10, 102), (9, 101), (8, 100), (7, 99), (6, 98), (5, 97), (4, 96), (3, 95), (2, 94), (1, 93), (0, 92)]) rfl kr_ kr_ (all_c rfl (all_c rfl (all_c rfl (all_c rfl (all_c rfl (all_c rfl (all_c rfl (all_c rfl (all_c rfl (all_c rfl (all_c rfl (all_n)))))))))))) (all_c (QF.mk [9, 2] [(101, _), (94, _)] rfl rfl kr_ rfl (QAt.y Wt.none (Yd.pickF rfl rfl))) (all_c (QF.mk [8, 3, 2] [(100, _), (95, _), (94, _)] rfl rfl kr_ rfl (QAt.gn rfl rfl rfl)) (all_c (QF.mk [7, 2] [(99, _), (94, _)] rfl rfl kr_ rfl (QAt.gn rfl rfl rfl)) (all_c (QF.mk [6, 5, 2] [(98, _), (97, _), (94, _)] rfl rfl kr_ rfl (QAt.gn rfl rfl rfl)) (all_c (QF.mk [2] [(94, _)] rfl rfl kr_ rfl (QAt.gn rfl rfl rfl)) (all_c (QF.mk [4, 2] [(96, _), (94, _)] rfl rfl kr_ rfl (QAt.gn rfl rfl rfl)) (all_c (QF.mk [2] [(94, _)] rfl rfl kr_ rfl (QAt.gn rfl rfl rfl)) (all_c (QF.mk [2] [(94, _)] rfl rfl kr_ rfl (QAt.gn rfl rfl rfl)) (all_c (QF.ren (congrArg Value.bool hg94) (QF.mk [1] [(93, _)] rfl rfl kr_ rfl (QAt.y Wt.none (Yd.move rfl)))) (all_c (QF.mk [0] [(92, _)] rfl rfl kr_ rfl (QAt.y Wt.none (Yd.notB rfl))) (all_c (QF.mk [] [] rfl rfl kr_ rfl (QAt.y Wt.none (Yd.move rfl))) (all_n)))))))))))) ?_
                  change DN _ _ _ _ _ _ ([(102, _), (101, _), (100, _), (99, _), (98, _), (97, _), (96, _), (95, _), (94, _), (93, _), (92, _)] ++ _) _
                  refine DN.then_normal ?_
                  refine WC.no rfl ?_
                  refine WC.skip ?_
                  refine DN.then_normal ?_
                  refine WC.draw 11 kr_ rfl ?_
                  refine WA.float (N := 11) rfl ?_
                  refine WAF.add (i := 0) (d := 109) rfl (QF.mk [] [] rfl rfl kr_ rfl (QAt.y Wt.none (Yd.fieldAddr (k := 1) kr_ rfl))) ?_
                  refine WAF.add (i := 1) (d := 110) rfl (QF.mk [0] [(109, _)] rfl rfl kr_ rfl (QAt.rd Wt.none (Rd.load1 kr_ rfl mem_ (by rfl)))) ?_
                  refine WAF.add (i := 2) (d := 111) rfl (QF.mk [] [] rfl rfl kr_ rfl (QAt.y Wt.none (Yd.fieldAddr (k := 1) kr_ rfl))) ?_
                  refine WAF.add (i := 3) (d := 112) rfl (QF.mk [2] [(111, _)] rfl rfl kr_ rfl (QAt.rd Wt.none (Rd.load1 kr_ rfl mem_ (by rfl)))) ?_
                  refine WAF.add (i := 4) (d := 113) rfl (QF.mk [] [] rfl rfl kr_ rfl (QAt.y Wt.none (Yd.move rfl))) ?_
                  refine WAF.add (i := 5) (d := 114) rfl (QF.mk [4, 3] [(113, _), (112, _)] rfl rfl kr_ rfl (QAt.y Wt.none (Yd.indexAddr (e := 43) (s := 6) (b := lb) (o := lf) (n := ks.length) (c := wc) kr_ kr_ (congrArg (fun q => some (Value.slice q ks.length wc)) elo) rfl (by omega) (by omega)))) ?_
                  refine WAF.add (i := 6) (d := 115) rfl (QF.mk [5] [(114, _)] rfl rfl kr_ rfl (QAt.rd Wt.none (Rd.loadA (n := 6) (b := lb) (o := lf + (i : Int).toNat * 6) (cs := lcs) (vs := kc ks[i] (.slice ao1 ks[i].asked.length ac1) (.slice ro1 ks[i].reply.length rc1)) kr_ rfl (Gr.get gr_ hlm) rfl (rs_cell hlcs (by omega) hg)))) ?_
                  refine WAF.step (pd := [(6, 115), (5, 114), (4, 113), (3, 112), (2, 111), (1, 110), (0, 109)]) [(7, [6])] rfl kr_ kr_ (all_c rfl (all_c rfl (all_c rfl (all_c rfl (all_c rfl (all_c rfl (all_c rfl (all_n)))))))) (all_c (QF.mk [5] [(114, _)] rfl rfl kr_ rfl (QAt.rd Wt.none (Rd.loadA (n := 6) (b := lb) (o := lf + (i : Int).toNat * 6) (cs := lcs) (vs := kc ks[i] (.slice ao1 ks[i].asked.length ac1) (.slice ro1 ks[i].reply.length rc1)) kr_ rfl (Gr.get gr_ hlm) rfl (rs_cell hlcs (by omega) hg)))) (all_c (QF.mk [4, 3] [(113, _), (112, _)] rfl rfl kr_ rfl (QAt.y Wt.none (Yd.indexAddr (e := 43) (s := 6) (b := lb) (o := lf) (n := ks.length) (c := wc) kr_ kr_ (congrArg (fun q => some (Value.slice q ks.length wc)) elo) rfl (by omega) (by omega)))) (all_c (QF.mk [] [] rfl rfl kr_ rfl (QAt.y Wt.none (Yd.move rfl))) (all_c (QF.mk [2] [(111, _)] rfl rfl kr_ rfl (QAt.rd Wt.none (Rd.load1 kr_ rfl mem_ (by rfl)))) (all_c (QF.mk [] [] rfl rfl kr_ rfl (QAt.y Wt.none (Yd.fieldAddr (k := 1) kr_ rfl))) (all_c (QF.mk [0] [(109, _)] rfl rfl kr_ rfl (QAt.rd Wt.none (Rd.load1 kr_ rfl mem_ (by rfl)))) (all_c (QF.mk [] [] rfl rfl kr_ rfl (QAt.y Wt.none (Yd.fieldAddr (k := 1) kr_ rfl))) (all_n)))))))) (all_c ?_ (all_n))
                  · change SO _ _ _ _ _ _ 7 ([(115, _)] ++ _) _ _
                    refine SO.h rfl Wt.none rfl (Hd.buildA (e := 43) (sz := 6) (zs := [.int .u32 0, .int .i64 0, .bool false, .slice none 0 0, .int .i64 0, .slice none 0 0]) kr_ kr_ kr_ rfl rfl (by rfl) kr_ fun b116 => ⟨_, rfl, ?_⟩)
                    change WAF _ _ _ _ _ _ [(5, 114, _), (4, 113, _), (3, 112, _), (2, 111, _), (1, 110, _), (0, 109, _)] _ [7, 6] ((116, _) :: ([(115, _)] ++ _)) _
                    refine WAF.step (pd := [(5, 114), (4, 113), (3, 112), (2, 111), (1, 110), (0, 109)]) [(8, [1])] rfl kr_ kr_ (all_c rfl (all_c rfl (all_c rfl (all_c rfl (all_c rfl (all_c rfl (all_n))))))) (all_c (QF.mk [4, 3] [(113, _), (112, _)] rfl rfl kr_ rfl (QAt.y Wt.none (Yd.indexAddr (e := 43) (s := 6) (b := lb) (o := lf) (n := ks.length) (c := wc) kr_ kr_ (congrArg (fun q => some (Value.slice q ks.length wc)) elo) rfl (by omega) (by omega)))) (all_c (QF.mk [] [] rfl rfl kr_ rfl (QAt.y Wt.none (Yd.move rfl))) (all_c (QF.mk [2] [(111, _)] rfl rfl kr_ rfl (QAt.rd Wt.none (Rd.load1 kr_ rfl mem_ (by rfl)))) (all_c (QF.mk [] [] rfl rfl kr_ rfl (QAt.y Wt.none (Yd.fieldAddr (k := 1) kr_ rfl))) (all_c (QF.mk [0] [(109, _)] rfl rfl kr_ rfl (QAt.rd Wt.none (Rd.load1 kr_ rfl mem_ (by rfl)))) (all_c (QF.mk [] [] rfl rfl kr_ rfl (QAt.y Wt.none (Yd.fieldAddr (k := 1) kr_ rfl))) (all_n))))))) (all_c ?_ (all_n))
                    · change SO _ _ _ _ _ _ 8 ([(110, _)] ++ _) _ _
                      refine SO.h rfl Wt.none rfl (Hd.appendRow (e := 43) (sz := 6) (bytes := 80) (zs := [.int .u32 0, .int .i64 0, .bool false, .slice none 0 0, .int .i64 0, .slice none 0 0]) kr_ kr_ rfl (by omega) rfl rfl (by first | exact h2 | exact hOl) sp_ mem_ (by rfl) (kc_one (by rfl) (by rfl)) (by simp only [maxLen]; omega) (by omega) fun v3 C3 h3 => ⟨_, rfl, ?_⟩)
                      obtain ⟨lo3, lc3, rfl, hlc3⟩ := h3.form
                      change WAF _ _ _ _ _ _ [(5, 114, _), (4, 113, _), (3, 112, _), (2, 111, _), (0, 109, _)] _ [8, 1, 7, 6] ((117, _) :: ([(110, _)] ++ _)) _
                      refine WAF.add (i := 9) (d := 118) rfl (QF.mk [5, 4, 3, 2, 0] [(114, _), (113, _), (112, _), (111, _), (109, _)] rfl rfl kr_ rfl (QAt.y Wt.none (Yd.fieldAddr (k := 1) kr_ rfl))) ?_
                      refine WAF.step (pd := [(9, 118), (5, 114), (4, 113), (3, 112), (2, 111), (0, 109)]) [(10, [9, 5, 4, 3, 2, 0])] rfl kr_ kr_ (all_c rfl (all_c rfl (all_c rfl (all_c rfl (all_c rfl (all_c rfl (all_n))))))) (all_c (QF.mk [5, 4, 3, 2, 0] [(114, _), (113, _), (112, _), (111, _), (109, _)] rfl rfl kr_ rfl (QAt.y Wt.none (Yd.fieldAddr (k := 1) kr_ rfl))) (all_c (QF.mk [4, 3] [(113, _), (112, _)] rfl rfl kr_ rfl (QAt.y Wt.none (Yd.indexAddr (e := 43) (s := 6) (b := lb) (o := lf) (n := ks.length) (c := wc) kr_ kr_ (congrArg (fun q => some (Value.slice q ks.length wc)) elo) rfl (by omega) (by omega)))) (all_c (QF.mk [] [] rfl rfl kr_ rfl (QAt.y Wt.none (Yd.move rfl))) (all_c (QF.mk [2] [(111, _)] rfl rfl kr_ rfl (QAt.rd Wt.none (Rd.load1 kr_ rfl mem_ (by rfl)))) (all_c (QF.mk [] [] rfl rfl kr_ rfl (QAt.y Wt.none (Yd.fieldAddr (k := 1) kr_ rfl))) (all_c (QF.mk [] [] rfl rfl kr_ rfl (QAt.y Wt.none (Yd.fieldAddr (k := 1) kr_ rfl))) (all_n))))))) (all_c ?_ (all_n))
                      · change SO _ _ _ _ _ _ 10 ([(118, _), (114, _), (113, _), (112, _), (111, _), (109, _)] ++ _) _ _
                        refine SO.s rfl Wt.none (Hd.store1s kr_ rfl rfl (by rfl) fr_ (by rfl) (by first | (simp only [List.set_cons_zero, List.set_cons_succ, Nat.zero_add, Nat.add_zero, Nat.reduceAdd]; rfl) | rfl) ⟨rfl, ?_⟩)
                        change WAF _ _ _ _ _ _ [] _ [10, 9, 5, 4, 3, 2, 0, 8, 1, 7, 6] (([(118, _), (114, _), (113, _), (112, _), (111, _), (109, _)] ++ _)) _
                        refine WAF.done (pd := []) rfl kr_ kr_ (all_n) (all_n) ?_
                        change DN _ _ _ _ _ _ ([] ++ _) _
                        refine DN.block_normal ?_
                        refine DN.then_normal ?_
                        refine WC.region ?_
                        refine WL.y rfl (Yd.move rfl) ?_
                        refine WL.y rfl (Yd.add rfl rfl (by omega) (by omega)) ?_
                        refine WL.y rfl (Yd.assign rfl) ?_
                        refine WL.nil ?_
                        first
                        | (have h9 : (pos ks (stepK n code reply).num) = i := hpi
                           exact DN.againS (i + 1, m + 1 + 1, true, .slice lo3 (m + 1 + 1) lc3, C3) ⟨by show i + 1 ≤ ks.length; omega, (decide_eq_true (show (pos ks (stepK n code reply).num) < i + 1 by omega)).symm, by show m + 1 + 1 = (if (pos ks (stepK n code reply).num) < i + 1 then i + 1 + 1 else i + 1); rw [hm, if_neg (by omega), if_pos (by omega)], by
                            show Own (.slice lo3 (m + 1 + 1) lc3) (m + 1 + 1) (layC cs (kc (stepK n code reply) (.slice o1 n.data.length c1) (.slice o2 reply.length c2)) (pos ks (stepK n code reply).num) (i + 1)) _ 6 C3
                            rw [layC_now hcl hlt hpi, hg]; exact h3⟩ (by show ks.length - (i + 1) < ks.length - i; omega) ((Sx.put rfl (Sx.put rfl (sx_)))) sp_)
                        | (first
                           | have h9 : (pos ks (stepK n code reply).num) < i ∨ i < (pos ks (stepK n code reply).num) := hpi
                           | have h9 : (pos ks (stepK n code reply).num) < i ∨ i < (pos ks (stepK n code reply).num) := .inl (of_decide_eq_true (hld.symm.trans (by simpa using hg94)))
                           exact DN.againS (i + 1, m + 1, ld, .slice lo3 (m + 1) lc3, C3) ⟨by show i + 1 ≤ ks.length; omega, by show ld = decide ((pos ks (stepK n code reply).num) < i + 1); rw [hld, Bool.eq_iff_iff, decide_eq_true_eq, decide_eq_true_eq]; omega, by show m + 1 = (if (pos ks (stepK n code reply).num) < i + 1 then i + 1 + 1 else i + 1); rw [hm]; split <;> split <;> omega, by
                            show Own (.slice lo3 (m + 1) lc3) (m + 1) (layC cs (kc (stepK n code reply) (.slice o1 n.data.length c1) (.slice o2 reply.length c2)) (pos ks (stepK n code reply).num) (i + 1)) _ 6 C3
                            rcases h9 with h | h
                            · rw [layC_past hcl hlt h, hg]; exact h3
                            · rw [layC_not hcl hlt h, hg]; exact h3⟩ (by show ks.length - (i + 1) < ks.length - i; omega) ((Sx.put rfl (Sx.put rfl (sx_)))) sp_)
              · obtain rfl : i = ks.length := by omega
                refine WC.exit ?_
                refine DN.then_exit ?_
                refine DN.then_exit ?_
                refine DN.block_exit ?_
                refine DN.then_normal ?_
                refine WC.seq ?_
                refine WC.seq ?_
                refine WC.region ?_
                refine WL.y rfl (Yd.move rfl) ?_
                refine WL.y rfl (Yd.notB rfl) ?_
                refine WL.nil ?_
                refine DN.then_normal ?_
                refine WC.cond rfl (fun h120 => ?_) (fun h120 => ?_)
                · have hpe : (pos ks (stepK n code reply).num) = ks.length := by
                    have h9 : ¬ (pos ks (stepK n code reply).num) < ks.length := by rw [hld] at h120; simpa using h120
                    have := pos_le ks (stepK n code reply).num
                    omega
                  refine WC.region ?_
                  refine WL.y rfl (Yd.fieldAddr (k := 1) kr_ rfl) ?_
                  refine WL.h rfl (Hd.load1 kr_ rfl mem_ (by rfl) ⟨_, rfl, ?_⟩)
                  refine WL.h rfl (Hd.loadAll (n := 6) kr_ rfl mem_ (by rfl) ⟨_, rfl, ?_⟩)
                  refine WL.h rfl (Hd.buildA (e := 43) (sz := 6) (zs := [.int .u32 0, .int .i64 0, .bool false, .slice none 0 0, .int .i64 0, .slice none 0 0]) kr_ kr_ kr_ rfl rfl (by rfl) kr_ fun b124 => ⟨_, rfl, ?_⟩)
                  refine WL.h rfl (Hd.appendRow (e := 43) (sz := 6) (bytes := 80) (zs := [.int .u32 0, .int .i64 0, .bool false, .slice none 0 0, .int .i64 0, .slice none 0 0]) kr_ kr_ rfl (by omega) rfl rfl (hOl) sp_ mem_ (by rfl) (kc_one (by rfl) (by rfl)) (by simp only [maxLen]; omega) (by omega) fun v4 C4 h4 => ⟨_, rfl, ?_⟩)
                  obtain ⟨lo4, lc4, rfl, hlc4⟩ := h4.form
                  refine WL.y rfl (Yd.fieldAddr (k := 1) kr_ rfl) ?_
                  refine WL.s (Hd.store1s kr_ rfl rfl (by rfl) fr_ (by rfl) (by first | (simp only [List.set_cons_zero, List.set_cons_succ, Nat.zero_add, Nat.add_zero, Nat.reduceAdd]; rfl) | rfl) ⟨rfl, ?_⟩)
                  refine WL.nil ?_
                  refine DN.then_normal ?_
                  refine WC.seq ?_
                  refine WC.region ?_
                  refine WL.h rfl (Hd.loadAll (n := 2) kr_ rfl mem_ (by rfl) ⟨_, rfl, ?_⟩)
                  refine WL.s (Hd.storeAll (n := 2) kr_ rfl rfl (by rfl) one_ fr_ (by rfl) ⟨rfl, ?_⟩)
                  refine WL.y rfl (Yd.assign rfl) ?_
                  refine WL.nil ?_
                  refine DN.then_normal ?_
                  refine WC.ret ?_
                  obtain ⟨D7, hK7, hp7⟩ := hK2.ins (k := stepK n code reply) (pos_le ks (stepK n code reply).num) hC1 hC2
                  refine DN.fit (C := row b8 [.int .u32 n.epoch.toNat, .slice lo4 (m + 1) lc4] 25 :: (C4 ++ ((DO ++ (C1 ++ C2)) ++ H))) sp_ ?_
                  refine DN.blocks (row b8 [.int .u32 n.epoch.toNat, .slice lo4 (m + 1) lc4] 25 :: (C4 ++ (D7 ++ H))) (List.Perm.cons _ (List.Perm.append_left _ (hp7.symm.append_right _))) ?_
                  refine DN.retCT (s := 2) (C4 ++ (D7 ++ H)) Try.results16 kr_ rfl rfl mem_ (by rfl) sp_ ?_
                  rw [keepK_ok (by rw [← hq]; exact h26) (by rw [← hq]; exact fun h => by rw [hz55.2 h] at h55; cases h55) (by rw [← hq]; exact h57) (by omega)]
                  exact ⟨_, C4 ++ D7, rfl, ⟨_, C4, D7, by rw [insAt_len _ (pos_le _ _)]; rw [show m = ks.length by rw [hm, if_neg (by omega)]] at h4 ⊢; exact h4, by rw [layC_last hcl hpe]; exact hK7, rfl⟩, by rw [List.append_assoc]⟩
                · have hpe : (pos ks (stepK n code reply).num) < ks.length := by rw [hld] at h120; simpa using h120
                  refine WC.skip ?_
                  refine DN.then_normal ?_
                  refine WC.seq ?_
                  refine WC.region ?_
                  refine WL.h rfl (Hd.loadAll (n := 2) kr_ rfl mem_ (by rfl) ⟨_, rfl, ?_⟩)
                  refine WL.s (Hd.storeAll (n := 2) kr_ rfl rfl (by rfl) one_ fr_ (by rfl) ⟨rfl, ?_⟩)
                  refine WL.y rfl (Yd.assign rfl) ?_
                  refine WL.nil ?_
                  refine DN.then_normal ?_
                  refine WC.ret ?_
                  obtain ⟨D7, hK7, hp7⟩ := hK2.ins (k := stepK n code reply) (pos_le ks (stepK n code reply).num) hC1 hC2
                  refine DN.fit (C := row b8 [.int .u32 n.epoch.toNat, .slice lo m lc] 25 :: (Cl ++ ((DO ++ (C1 ++ C2)) ++ H))) sp_ ?_
                  refine DN.blocks (row b8 [.int .u32 n.epoch.toNat, .slice lo m lc] 25 :: (Cl ++ (D7 ++ H))) (List.Perm.cons _ (List.Perm.append_left _ (hp7.symm.append_right _))) ?_
                  refine DN.retCT (s := 2) (Cl ++ (D7 ++ H)) Try.results16 kr_ rfl rfl mem_ (by rfl) sp_ ?_
                  rw [keepK_ok (by rw [← hq]; exact h26) (by rw [← hq]; exact fun h => by rw [hz55.2 h] at h55; cases h55) (by rw [← hq]; exact h57) (by omega)]
                  exact ⟨_, Cl ++ D7, rfl, ⟨_, Cl, D7, by rw [insAt_len _ (pos_le _ _)]; rw [show m = ks.length + 1 by rw [hm, if_pos hpe]] at hOl ⊢; exact hOl, by rw [layC_end hcl hpe]; exact hK7, rfl⟩, by rw [List.append_assoc]⟩

end Go.Proofs.Ytonnkgblligdkaa
