/-
  The walk of Keep.
-/
import Derived.Test.YtonnkgblligdkaaFence5
set_option linter.unusedVariables false
set_option linter.unusedSimpArgs false
set_option maxHeartbeats 2000000
namespace Go.Proofs.Ytonnkgblligdkaa
open Go.SL
section
variable {act er code : Int} {kk : Kp} {n : Nt} {reply : List (BitVec 8)}
theorem keep_no (h42 : (!decide (rightP (stepK n code reply))) = false) : keepBad (act, kk, er) (stepK n code reply) ↔ (act = 3 ∧ code ≠ 2) ∨ (act = 4 ∧ code ≠ 1) := by
  have h : rightP (stepK n code reply) := by simpa using h42
  unfold keepBad
  exact ⟨fun h9 => h9.elim (fun h9 => absurd h h9) id, .inr⟩
theorem keep_z0 (h42 : (!decide (rightP (stepK n code reply))) = true) : (true = true ↔ keepBad (act, kk, er) (stepK n code reply)) := ⟨fun _ => .inl (by simpa using h42), fun _ => rfl⟩
theorem keep_z1 (h42 : (!decide (rightP (stepK n code reply))) = false) (h45 : decide (act = 3) = true) (h50 : decide (code ≠ 2) = true) : (true = true ↔ keepBad (act, kk, er) (stepK n code reply)) := by
  rw [keep_no h42]
  exact ⟨fun _ => .inl ⟨of_decide_eq_true h45, of_decide_eq_true h50⟩, fun _ => rfl⟩
theorem keep_z2 (h42 : (!decide (rightP (stepK n code reply))) = false) (h45 : decide (act = 3) = true) (h50 : decide (code ≠ 2) = false) (h53 : decide (act = 4) = true) : (decide (code ≠ 1) = true ↔ keepBad (act, kk, er) (stepK n code reply)) := by
  have h1 := of_decide_eq_true h45
  have h2 := of_decide_eq_true h53
  omega
theorem keep_z3 (h42 : (!decide (rightP (stepK n code reply))) = false) (h45 : decide (act = 3) = true) (h50 : decide (code ≠ 2) = false) (h53 : decide (act = 4) = false) : (false = true ↔ keepBad (act, kk, er) (stepK n code reply)) := by
  rw [keep_no h42]
  have h1 := of_decide_eq_true h45
  have h2 := of_decide_eq_false h50
  exact ⟨fun h => absurd h (by decide), fun h => by omega⟩
theorem keep_z4 (h42 : (!decide (rightP (stepK n code reply))) = false) (h45 : decide (act = 3) = false) (h53 : decide (act = 4) = true) : (decide (code ≠ 1) = true ↔ keepBad (act, kk, er) (stepK n code reply)) := by
  rw [keep_no h42, decide_eq_true_eq]
  have h1 := of_decide_eq_false h45
  have h2 := of_decide_eq_true h53
  omega
theorem keep_z5 (h42 : (!decide (rightP (stepK n code reply))) = false) (h45 : decide (act = 3) = false) (h53 : decide (act = 4) = false) : (false = true ↔ keepBad (act, kk, er) (stepK n code reply)) := by
  rw [keep_no h42]
  have h1 := of_decide_eq_false h45
  have h2 := of_decide_eq_false h53
  exact ⟨fun h => absurd h (by decide), fun h => by omega⟩
end


/-- drayage/fence.Keep -/
theorem keep_tells (e : BitVec 32) (v : Value) (ks : List Kp) (H : List Ck) (hv : KV v ks H) (hl : ks.length ≤ 9223372036854775807) (n : Nt) (vk vd : Value) (hvk : Bs vk n.key H) (hvd : Bs vd n.data H) (code : Int) (vr : Value) (reply : List (BitVec 8)) (hvr : Bs vr reply H) : Tells Try.prog 15 [.agg #[.int .u32 e.toNat, v], .agg (ntc n vk vd).toArray, .int .i64 code, vr] H fun r H' => ∃ w D, r = .tuple #[.agg #[.int .u32 (keepK e ks n code reply).1.toNat, w], .int .i64 (keepK e ks n code reply).2.2] ∧ FAt 5 43 w (keepK e ks n code reply).2.1 D ∧ H' = D ++ H := by
  refine Tells.enter Try.func15 rfl Try.ntmps15 rfl ?_
  intro w0 R
  obtain ⟨ao, c, rfl, hc⟩ := hv.form
  obtain ⟨ko, kcap, rfl, hkc⟩ := hvk.form
  obtain ⟨do_, dc, rfl, hdc⟩ := hvd.form
  obtain ⟨ro, rc, rfl, hrc⟩ := hvr.form
  refine WC.seq ?_
  refine WC.region ?_
  refine WL.h rfl (Hd.boxA rfl fun b4 => ⟨_, rfl, ?_⟩)
  refine WL.h rfl (Hd.boxA rfl fun b5 => ⟨_, rfl, ?_⟩)
  refine WL.h rfl (Hd.alloc (zs := [.int .u32 0, .slice none 0 0]) kr_ fun b8 => ⟨_, rfl, ?_⟩)
  refine WL.y rfl (Yd.assign rfl) ?_
  refine WL.nil ?_
  refine DN.then_normal ?_
  refine WC.seq ?_
  refine WC.region ?_
  refine WL.h rfl (Hd.loadAll (n := 2) kr_ rfl mem_ (by rfl) ⟨_, rfl, ?_⟩)
  refine WL.h rfl (Hd.loadAll (n := 11) kr_ rfl mem_ (by rfl) ⟨_, rfl, ?_⟩)
  refine WL.c rfl (Ent.func Try.call24 rfl) (ask_tells e _ ks H hv hl n _ _ hvk hvd) (Sp.p sp_) ?_
  rintro x H1 ⟨wa, wr, A, B, rfl, hA, hB, rfl⟩
  obtain ⟨q, hq⟩ : ∃ q, q = askK e ks n := ⟨_, rfl⟩
  rw [← hq] at hA hB ⊢
  obtain ⟨act, kk, er⟩ := q
  dsimp only at hA hB ⊢
  obtain ⟨oa, ca, rfl, _⟩ := hA.form
  obtain ⟨or_, cr, rfl, _⟩ := hB.form
  refine WL.y rfl (Yd.move rfl) ?_
  refine WL.y rfl (Yd.extract rfl rfl) ?_
  refine WL.y rfl (Yd.extract rfl rfl) ?_
  refine WL.y rfl (Yd.extract rfl rfl) ?_
  refine WL.h rfl (Hd.alloc (zs := [.int .u32 0, .int .i64 0, .bool false, .slice none 0 0, .int .i64 0, .slice none 0 0]) kr_ fun b11 => ⟨_, rfl, ?_⟩)
  refine WL.y rfl (Yd.assign rfl) ?_
  refine WL.s (Hd.storeAll (n := 6) kr_ rfl rfl (by rfl) (kc_one rfl rfl) fr_ (by rfl) ⟨rfl, ?_⟩)
  refine WL.y rfl (Yd.assign rfl) ?_
  refine WL.nil ?_
  refine DN.then_normal ?_
  refine WC.seq ?_
  refine WC.seq ?_
  refine WC.region ?_
  refine WL.y rfl (Yd.move rfl) ?_
  refine WL.y rfl (Yd.neq rfl rfl) ?_
  refine WL.nil ?_
  refine DN.then_normal ?_
  refine WC.ite rfl (fun h24 => ?_) (fun h24 => ?_)
  · refine WC.seq ?_
    refine WC.region ?_
    refine WL.y rfl (Yd.buildL (pl := [(0, 1), (1, 1)]) (zs := [.int .u32 0, .slice none 0 0]) (parts := []) (vs := []) (cells := [.int .u32 0, .slice none 0 0]) kr_ kr_ rfl rfl) ?_
    refine WL.y rfl (Yd.move rfl) ?_
    refine WL.s (Hd.storeAll (n := 2) kr_ rfl rfl (by rfl) one_ fr_ (by rfl) ⟨rfl, ?_⟩)
    refine WL.y rfl (Yd.assign rfl) ?_
    refine WL.nil ?_
    refine DN.then_normal ?_
    refine WC.ret ?_
    refine DN.then_ret ?_
    refine DN.retCT (s := 2) (H) Try.results15 kr_ rfl rfl mem_ (by rfl) sp_ ?_
    rw [keepK_err (by rw [← hq]; exact h24), ← hq]
    exact ⟨_, [], rfl, FAt.nil _ _, rfl⟩
  · refine WC.skip ?_
    refine DN.then_normal ?_
    refine WC.seq ?_
    refine WC.region ?_
    have hgo := askK_ok (show (askK e ks n).2.2 = 0 by rw [← hq]; exact Classical.byContradiction h24)
    have hck := good_chk hgo.1
    refine WL.y rfl (Yd.fieldAddr (k := 5) kr_ rfl) ?_
    refine WL.h rfl (Hd.load1 kr_ rfl mem_ (by rfl) ⟨_, rfl, ?_⟩)
    refine WL.y rfl (Yd.fieldAddr (k := 6) kr_ rfl) ?_
    refine WL.h rfl (Hd.load1 kr_ rfl mem_ (by rfl) ⟨_, rfl, ?_⟩)
    refine WL.y rfl (Yd.fieldAddr (k := 7) kr_ rfl) ?_
    refine WL.h rfl (Hd.load1 kr_ rfl mem_ (by rfl) ⟨_, rfl, ?_⟩)
    refine WL.y rfl (Yd.fieldAddr (k := 10) kr_ rfl) ?_
    refine WL.h rfl (Hd.load1 kr_ rfl mem_ (by rfl) ⟨_, rfl, ?_⟩)
    refine WL.y rfl (Yd.move rfl) ?_
    refine WL.y rfl (Yd.move rfl) ?_
    refine WL.y rfl (Yd.buildL (pl := [(0, 1), (1, 1), (2, 1), (3, 1), (4, 1), (5, 1)]) (zs := [.int .u32 0, .int .i64 0, .bool false, .slice none 0 0, .int .i64 0, .slice none 0 0]) (parts := [(0, .tmp 28), (1, .tmp 30), (2, .tmp 32), (3, .tmp 34), (4, .tmp 35), (5, .tmp 36)]) (vs := [(0, _), (1, _), (2, _), (3, _), (4, _), (5, _)]) (cells := [_, _, _, _, _, _]) kr_ kr_ rfl rfl) ?_
    refine WL.h rfl (Hd.alloc (zs := [.int .u32 0, .int .i64 0, .bool false, .slice none 0 0, .int .i64 0, .slice none 0 0]) kr_ fun b13 => ⟨_, rfl, ?_⟩)
    refine WL.s (Hd.storeAll (n := 6) kr_ rfl rfl (by rfl) one_ fr_ (by rfl) ⟨rfl, ?_⟩)
    refine WL.nil ?_
    refine DN.then_normal ?_
    refine WC.seq ?_
    refine WC.block ?_
    refine WC.cutK (fun z : Bool => z = true ↔ keepBad (act, kk, er) (stepK n code reply)) (fun z : Bool => [(38, .bool z)]) (fun z : Bool => row b13 (kc (stepK n code reply) (.slice do_ n.data.length dc) (.slice ro reply.length rc)) 43 :: row b11 (kc kk (.slice oa kk.asked.length ca) (.slice or_ kk.reply.length cr)) 43 :: (A ++ (B ++ (row b4 [.int .u32 e.toNat, .slice ao ks.length c] 25 :: row b5 (ntc n (.slice ko n.key.length kcap) (.slice do_ n.data.length dc)) 29 :: row b8 [.int .u32 0, .slice none 0 0] 25 :: H)))) ?_ ?_
    · refine WC.region ?_
      refine WL.h rfl (Hd.loadAll (n := 6) kr_ rfl mem_ (by rfl) ⟨_, rfl, ?_⟩)
      refine WL.r rfl (Ent.func Try.call38 rfl) (right_reads (stepK n code reply) (.slice do_ n.data.length dc) (.slice ro reply.length rc) ⟨_, _, rfl⟩ ⟨_, _, rfl⟩ _) ?_
      refine WL.y rfl (Yd.notB rfl) ?_
      refine WL.y rfl (Yd.move rfl) ?_
      refine WL.part (t := 42) rfl (fun hg42 => ?_) (fun hg42 => ?_)
      · refine WL.gn (dj := 42) rfl rfl rfl rfl ?_
        refine WL.gn (dj := 42) rfl rfl rfl rfl ?_
        refine WL.gn (dj := 42) rfl rfl rfl rfl ?_
        refine WL.gu (dj := 45) rfl rfl rfl ?_
        refine WL.gu (dj := 45) rfl rfl rfl ?_
        refine WL.gn (dj := 42) rfl rfl rfl rfl ?_
        refine WL.y rfl (Yd.pickT rfl rfl) ?_
        refine WL.y rfl (Yd.move rfl) ?_
        refine WL.gn (dj := 50) rfl rfl rfl rfl ?_
        refine WL.gn (dj := 50) rfl rfl rfl rfl ?_
        refine WL.gn (dj := 50) rfl rfl rfl rfl ?_
        refine WL.gu (dj := 53) rfl rfl rfl ?_
        refine WL.gu (dj := 53) rfl rfl rfl ?_
        refine WL.gn (dj := 50) rfl rfl rfl rfl ?_
        refine WL.y rfl (Yd.pickT rfl rfl) ?_
        refine WL.y rfl (Yd.assign rfl) ?_
        refine WL.nil ?_
        exact DN.reachK (_) (by first | exact keep_z0 hg42 | exact keep_z1 hg42 hg45 hg50 | exact keep_z2 hg42 hg45 hg50 hg53 | exact keep_z3 hg42 hg45 hg50 hg53 | exact keep_z4 hg42 hg45 hg53 | exact keep_z5 hg42 hg45 hg53) (Sx.put rfl (sx_)) (Sp.all sp_)
      · refine WL.gy (dj := 42) rfl rfl rfl (Yd.move rfl) ?_
        refine WL.gy (dj := 42) rfl rfl rfl (Yd.eql rfl rfl) ?_
        refine WL.gy (dj := 42) rfl rfl rfl (Yd.move rfl) ?_
        refine WL.part (t := 45) rfl (fun hg45 => ?_) (fun hg45 => ?_)
        · refine WL.gy (dj := 45) rfl rfl rfl (Yd.move rfl) ?_
          refine WL.gy (dj := 45) rfl rfl rfl (Yd.neq rfl rfl) ?_
          refine WL.gy (dj := 42) rfl rfl rfl (Yd.pickT rfl rfl) ?_
          refine WL.y rfl (Yd.pickF rfl rfl) ?_
          refine WL.y rfl (Yd.move rfl) ?_
          refine WL.part (t := 50) rfl (fun hg50 => ?_) (fun hg50 => ?_)
          · refine WL.gn (dj := 50) rfl rfl rfl rfl ?_
            refine WL.gn (dj := 50) rfl rfl rfl rfl ?_
            refine WL.gn (dj := 50) rfl rfl rfl rfl ?_
            refine WL.gu (dj := 53) rfl rfl rfl ?_
            refine WL.gu (dj := 53) rfl rfl rfl ?_
            refine WL.gn (dj := 50) rfl rfl rfl rfl ?_
            refine WL.y rfl (Yd.pickT rfl rfl) ?_
            refine WL.y rfl (Yd.assign rfl) ?_
            refine WL.nil ?_
            exact DN.reachK (_) (by first | exact keep_z0 hg42 | exact keep_z1 hg42 hg45 hg50 | exact keep_z2 hg42 hg45 hg50 hg53 | exact keep_z3 hg42 hg45 hg50 hg53 | exact keep_z4 hg42 hg45 hg53 | exact keep_z5 hg42 hg45 hg53) (Sx.put rfl (sx_)) (Sp.all sp_)
          · refine WL.gy (dj := 50) rfl rfl rfl (Yd.move rfl) ?_
            refine WL.gy (dj := 50) rfl rfl rfl (Yd.eql rfl rfl) ?_
            refine WL.gy (dj := 50) rfl rfl rfl (Yd.move rfl) ?_
            refine WL.part (t := 53) rfl (fun hg53 => ?_) (fun hg53 => ?_)
            · refine WL.gy (dj := 53) rfl rfl rfl (Yd.move rfl) ?_
              refine WL.gy (dj := 53) rfl rfl rfl (Yd.neq rfl rfl) ?_
              refine WL.gy (dj := 50) rfl rfl rfl (Yd.pickT rfl rfl) ?_
              refine WL.y rfl (Yd.pickF rfl rfl) ?_
              refine WL.y rfl (Yd.assign rfl) ?_
              refine WL.nil ?_
              exact DN.reachK (_) (by first | exact keep_z0 hg42 | exact keep_z1 hg42 hg45 hg50 | exact keep_z2 hg42 hg45 hg50 hg53 | exact keep_z3 hg42 hg45 hg50 hg53 | exact keep_z4 hg42 hg45 hg53 | exact keep_z5 hg42 hg45 hg53) (Sx.put rfl (sx_)) (Sp.all sp_)
            · refine WL.gn (dj := 53) rfl rfl rfl rfl ?_
              refine WL.gn (dj := 53) rfl rfl rfl rfl ?_
              refine WL.gy (dj := 50) rfl rfl rfl (Yd.pickF rfl rfl) ?_
              refine WL.y rfl (Yd.pickF rfl rfl) ?_
              refine WL.y rfl (Yd.assign rfl) ?_
              refine WL.nil ?_
              exact DN.reachK (_) (by first | exact keep_z0 hg42 | exact keep_z1 hg42 hg45 hg50 | exact keep_z2 hg42 hg45 hg50 hg53 | exact keep_z3 hg42 hg45 hg50 hg53 | exact keep_z4 hg42 hg45 hg53 | exact keep_z5 hg42 hg45 hg53) (Sx.put rfl (sx_)) (Sp.all sp_)
        · refine WL.gn (dj := 45) rfl rfl rfl rfl ?_
          refine WL.gn (dj := 45) rfl rfl rfl rfl ?_
          refine WL.gy (dj := 42) rfl rfl rfl (Yd.pickF rfl rfl) ?_
          refine WL.y rfl (Yd.pickF rfl rfl) ?_
          refine WL.y rfl (Yd.move rfl) ?_
          refine WL.gy (dj := 50) rfl rfl rfl (Yd.move rfl) ?_
          refine WL.gy (dj := 50) rfl rfl rfl (Yd.eql rfl rfl) ?_
          refine WL.gy (dj := 50) rfl rfl rfl (Yd.move rfl) ?_
          refine WL.part (t := 53) rfl (fun hg53 => ?_) (fun hg53 => ?_)
          · refine WL.gy (dj := 53) rfl rfl rfl (Yd.move rfl) ?_
            refine WL.gy (dj := 53) rfl rfl rfl (Yd.neq rfl rfl) ?_
            refine WL.gy (dj := 50) rfl rfl rfl (Yd.pickT rfl rfl) ?_
            refine WL.y rfl (Yd.pickF rfl rfl) ?_
            refine WL.y rfl (Yd.assign rfl) ?_
            refine WL.nil ?_
            exact DN.reachK (_) (by first | exact keep_z0 hg42 | exact keep_z1 hg42 hg45 hg50 | exact keep_z2 hg42 hg45 hg50 hg53 | exact keep_z3 hg42 hg45 hg50 hg53 | exact keep_z4 hg42 hg45 hg53 | exact keep_z5 hg42 hg45 hg53) (Sx.put rfl (sx_)) (Sp.all sp_)
          · refine WL.gn (dj := 53) rfl rfl rfl rfl ?_
            refine WL.gn (dj := 53) rfl rfl rfl rfl ?_
            refine WL.gy (dj := 50) rfl rfl rfl (Yd.pickF rfl rfl) ?_
            refine WL.y rfl (Yd.pickF rfl rfl) ?_
            refine WL.y rfl (Yd.assign rfl) ?_
            refine WL.nil ?_
            exact DN.reachK (_) (by first | exact keep_z0 hg42 | exact keep_z1 hg42 hg45 hg50 | exact keep_z2 hg42 hg45 hg50 hg53 | exact keep_z3 hg42 hg45 hg50 hg53 | exact keep_z4 hg42 hg45 hg53 | exact keep_z5 hg42 hg45 hg53) (Sx.put rfl (sx_)) (Sp.all sp_)
    · intro z38 hz38
      refine WC.cond rfl (fun h38 => ?_) (fun h38 => ?_)
      · refine WC.seq ?_
        refine WC.region ?_
        refine WL.y rfl (Yd.buildL (pl := [(0, 1), (1, 1)]) (zs := [.int .u32 0, .slice none 0 0]) (parts := []) (vs := []) (cells := [.int .u32 0, .slice none 0 0]) kr_ kr_ rfl rfl) ?_
        refine WL.s (Hd.storeAll (n := 2) kr_ rfl rfl (by rfl) one_ fr_ (by rfl) ⟨rfl, ?_⟩)
        refine WL.y rfl (Yd.assign rfl) ?_
        refine WL.nil ?_
        refine DN.then_normal ?_
        refine WC.ret ?_
        refine DN.block_ret ?_
        refine DN.then_ret ?_
        refine DN.retCT (s := 2) (H) Try.results15 kr_ rfl rfl mem_ (by rfl) sp_ ?_
        rw [keepK_bad (by rw [← hq]; exact h24) (by rw [← hq]; exact hz38.1 h38)]
        exact ⟨_, [], rfl, FAt.nil _ _, rfl⟩
      · refine WC.seq ?_
        refine WC.region ?_
        refine WL.y rfl (Yd.move rfl) ?_
        refine WL.y rfl (Yd.eql rfl rfl) ?_
        refine WL.y rfl (Yd.assign rfl) ?_
        refine WL.nil ?_
        refine DN.then_normal ?_
        refine WC.ite rfl (fun h59 => ?_) (fun h59 => ?_)
        · refine WC.seq ?_
          refine WC.region ?_
          refine WL.y rfl (Yd.buildL (pl := [(0, 1), (1, 1)]) (zs := [.int .u32 0, .slice none 0 0]) (parts := []) (vs := []) (cells := [.int .u32 0, .slice none 0 0]) kr_ kr_ rfl rfl) ?_
          refine WL.s (Hd.storeAll (n := 2) kr_ rfl rfl (by rfl) one_ fr_ (by rfl) ⟨rfl, ?_⟩)
          refine WL.y rfl (Yd.assign rfl) ?_
          refine WL.nil ?_
          refine DN.then_normal ?_
          refine WC.ret ?_
          refine DN.block_ret ?_
          refine DN.then_ret ?_
          refine DN.retCT (s := 2) (H) Try.results15 kr_ rfl rfl mem_ (by rfl) sp_ ?_
          rw [keepK_twice (by rw [← hq]; exact h24) (by rw [← hq]; exact fun h => by rw [hz38.2 h] at h38; cases h38) (by rw [← hq]; exact h59)]
          exact ⟨_, [], rfl, FAt.nil _ _, rfl⟩
        · refine WC.seq ?_
          refine WC.region ?_
          refine WL.y rfl (Yd.fieldAddr (k := 1) kr_ rfl) ?_
          refine WL.h rfl (Hd.load1 kr_ rfl mem_ (by rfl) ⟨_, rfl, ?_⟩)
          refine WL.y rfl (Yd.len (e := 43) kr_ rfl) ?_
          refine WL.y rfl (Yd.geq rfl rfl) ?_
          refine WL.y rfl (Yd.assign rfl) ?_
          refine WL.nil ?_
          refine DN.then_normal ?_
          refine WC.ite rfl (fun h63 => ?_) (fun h63 => ?_)
          · refine WC.seq ?_
            refine WC.region ?_
            refine WL.y rfl (Yd.buildL (pl := [(0, 1), (1, 1)]) (zs := [.int .u32 0, .slice none 0 0]) (parts := []) (vs := []) (cells := [.int .u32 0, .slice none 0 0]) kr_ kr_ rfl rfl) ?_
            refine WL.s (Hd.storeAll (n := 2) kr_ rfl rfl (by rfl) one_ fr_ (by rfl) ⟨rfl, ?_⟩)
            refine WL.y rfl (Yd.assign rfl) ?_
            refine WL.nil ?_
            refine DN.then_normal ?_
            refine WC.ret ?_
            refine DN.block_ret ?_
            refine DN.then_ret ?_
            refine DN.retCT (s := 2) (H) Try.results15 kr_ rfl rfl mem_ (by rfl) sp_ ?_
            rw [keepK_full (by rw [← hq]; exact h24) (by rw [← hq]; exact fun h => by rw [hz38.2 h] at h38; cases h38) (by rw [← hq]; exact h59) (by omega)]
            exact ⟨_, [], rfl, FAt.nil _ _, rfl⟩
          · refine WC.skip ?_
            refine DN.block_normal ?_
            refine DN.then_normal ?_
            refine WC.seq ?_
            refine WC.draw 9 kr_ rfl ?_
            refine WA.quiet 9 0 rfl rfl kr_ kr_ kr_ rfl ?_
            have hrt : rightP (stepK n code reply) := Classical.byContradiction fun h => by rw [hz38.2 (.inl h)] at h38; cases h38
            have h200 := hck.1
            refine WQ.rd rfl Wt.none (Rd.loadAll (n := 2) kr_ rfl mem_ (by rfl)) ?_
            refine WQ.rd rfl Wt.none (Rd.loadAll (n := 6) kr_ rfl mem_ (by rfl)) ?_
            refine WQ.rf rfl Wt.none (Ent.func Try.call40 rfl) (of_reads (stepK n code reply) (.slice do_ n.data.length dc) (.slice ro reply.length rc) rfl rfl _) Sp.sn ?_
            refine WQ.rf rfl Wt.none (Ent.func Try.call39 rfl) (find_reads e _ ks _ (hv.mono gr_) hck n.order n.step n.undo hrt.2.1 hrt.2.2.1) Sp.sn ?_
            refine WQ.y rfl (Yd.move rfl) ?_
            refine WQ.y rfl (Yd.extract rfl rfl) ?_
            refine WQ.y rfl (Yd.extract rfl rfl) ?_
            refine WQ.y rfl (Yd.assign rfl) ?_
            refine WQ.y rfl (Yd.assign rfl) ?_
            refine WQ.nil ?_
            refine WA.done kr_ ?_
            refine DN.then_normal ?_
            refine WC.seq ?_
            refine WC.region ?_
            refine WL.h rfl (Hd.loadAll (n := 2) kr_ rfl mem_ (by rfl) ⟨_, rfl, ?_⟩)
            refine WL.c rfl (Ent.func Try.call41 rfl) (all_tells e _ ks H hv hck) (Sp.p sp_) ?_
            rintro r2 H1 ⟨w, D, rfl, hF, rfl⟩
            obtain ⟨cs2, C2, D2, hO2, hK2, rfl⟩ := hF
            obtain ⟨wo, wc, rfl, hwc⟩ := hO2.form
            refine WL.s (Hd.storeAll (n := 2) kr_ rfl rfl (by rfl) one_ fr_ (by rfl) ⟨rfl, ?_⟩)
            refine WL.nil ?_
            refine DN.then_normal ?_
            refine WC.seq ?_
            refine WC.region ?_
            refine WL.y rfl (Yd.fieldAddr (k := 1) kr_ rfl) ?_
            refine WL.h rfl (Hd.load1 kr_ rfl mem_ (by rfl) ⟨_, rfl, ?_⟩)
            refine WL.y rfl (Yd.fieldAddr (k := 0) kr_ rfl) ?_
            refine WL.s (Hd.store1s kr_ rfl rfl (by rfl) fr_ (by rfl) (by first | (simp only [List.set_cons_zero, List.set_cons_succ, Nat.zero_add, Nat.add_zero, Nat.reduceAdd]; rfl) | rfl) ⟨rfl, ?_⟩)
            refine WL.nil ?_
            refine DN.then_normal ?_
            refine WC.seq ?_
            refine WC.draw 9 kr_ rfl ?_
            refine WA.y (i := 0) (NoPanic.then (NoPanic.body)) rfl kr_ kr_ kr_ rfl (Yd.fieldAddr (k := 1) kr_ rfl) ?_
            refine WA.y (i := 2) (NoPanic.then (NoPanic.body)) rfl kr_ kr_ kr_ rfl (Yd.move rfl) ?_
            refine WA.two (i := 1) (j := 3) kr_ ?_ ?_
            · refine WO.h rfl Wt.none rfl (Hd.load1 kr_ rfl mem_ (by rfl) ⟨_, rfl, ?_⟩)
              refine WA.one (i := 3) kr_ ?_
              refine WO.h rfl Wt.none rfl (Hd.loadAll (n := 6) kr_ rfl mem_ (by rfl) ⟨_, rfl, ?_⟩)
              refine WA.one (i := 4) kr_ ?_
              refine WO.c rfl Wt.none rfl (Ent.func Try.call43 rfl) (own_tells (stepK n code reply) (.slice do_ n.data.length dc) (.slice ro reply.length rc) H hvd hvr (by have := hrt.2.2.2.1; omega) (by have := hrt.2.2.2.2.1; omega)) (Sp.p sp_) ?_
              rintro x5 H5 ⟨wa5, wr5, A5, B5, rfl, hA5, hB5, rfl⟩
              obtain ⟨o5, c5, rfl, hc5⟩ := hA5.form
              obtain ⟨o6, c6, rfl, hc6⟩ := hB5.form
              refine WA.one (i := 5) kr_ ?_
              refine WO.h rfl Wt.none rfl (Hd.buildA (e := 43) (sz := 6) (zs := [.int .u32 0, .int .i64 0, .bool false, .slice none 0 0, .int .i64 0, .slice none 0 0]) kr_ kr_ kr_ rfl rfl (by rfl) kr_ fun b86 => ⟨_, rfl, ?_⟩)
              refine WA.one (i := 6) kr_ ?_
              refine WO.c rfl Wt.none rfl (Ent.func Try.call42 rfl) (insert_tells _ ks.length cs2 C2 hO2 hK2.one (by omega) (pos ks (stepK n code reply).num) (pos_le _ _) b86 (kc (stepK n code reply) (.slice o5 _ c5) (.slice o6 _ c6)) rfl (kc_one rfl rfl)) (Sp.p sp_) ?_
              intro r7 H7 hO7
              obtain ⟨D7, hK7, hp7⟩ := hK2.ins (pos_le ks (stepK n code reply).num) hA5 hB5
              obtain ⟨io, ic7, rfl, hic7⟩ := hO7.form
              refine WA.y (i := 7) (NoPanic.then (NoPanic.body)) rfl kr_ kr_ kr_ rfl (Yd.fieldAddr (k := 1) kr_ rfl) ?_
              refine WA.one (i := 8) kr_ ?_
              refine WO.s rfl Wt.none (Hd.store1s kr_ rfl rfl (by rfl) fr_ (by rfl) (by first | (simp only [List.set_cons_zero, List.set_cons_succ, Nat.zero_add, Nat.add_zero, Nat.reduceAdd]; rfl) | rfl) ⟨rfl, ?_⟩)
              refine WA.done kr_ ?_
              refine DN.then_normal ?_
              refine WC.seq ?_
              refine WC.region ?_
              refine WL.h rfl (Hd.loadAll (n := 2) kr_ rfl mem_ (by rfl) ⟨_, rfl, ?_⟩)
              refine WL.s (Hd.storeAll (n := 2) kr_ rfl rfl (by rfl) one_ fr_ (by rfl) ⟨rfl, ?_⟩)
              refine WL.y rfl (Yd.assign rfl) ?_
              refine WL.nil ?_
              refine DN.then_normal ?_
              refine WC.ret ?_
              refine DN.fit (C := row b8 [.int .u32 n.epoch.toNat, .slice io (ks.length + 1) ic7] 25 :: (H7 ++ ((D2 ++ (A5 ++ B5)) ++ H))) sp_ ?_
              refine DN.blocks (row b8 [.int .u32 n.epoch.toNat, .slice io (ks.length + 1) ic7] 25 :: (H7 ++ (D7 ++ H))) (List.Perm.cons _ (List.Perm.append_left _ (hp7.symm.append_right _))) ?_
              refine DN.retCT (s := 2) (H7 ++ (D7 ++ H)) Try.results15 kr_ rfl rfl mem_ (by rfl) sp_ ?_
              rw [keepK_ok (by rw [← hq]; exact h24) (by rw [← hq]; exact fun h => by rw [hz38.2 h] at h38; cases h38) (by rw [← hq]; exact h59) (by omega)]
              exact ⟨_, H7 ++ D7, rfl, ⟨_, H7, D7, by rw [insAt_len _ (pos_le _ _)]; exact hO7, hK7, rfl⟩, by rw [List.append_assoc]⟩
            · refine WO.h rfl Wt.none rfl (Hd.loadAll (n := 6) kr_ rfl mem_ (by rfl) ⟨_, rfl, ?_⟩)
              refine WA.two (i := 1) (j := 4) kr_ ?_ ?_
              · refine WO.h rfl Wt.none rfl (Hd.load1 kr_ rfl mem_ (by rfl) ⟨_, rfl, ?_⟩)
                refine WA.one (i := 4) kr_ ?_
                refine WO.c rfl Wt.none rfl (Ent.func Try.call43 rfl) (own_tells (stepK n code reply) (.slice do_ n.data.length dc) (.slice ro reply.length rc) H hvd hvr (by have := hrt.2.2.2.1; omega) (by have := hrt.2.2.2.2.1; omega)) (Sp.p sp_) ?_
                rintro x5 H5 ⟨wa5, wr5, A5, B5, rfl, hA5, hB5, rfl⟩
                obtain ⟨o5, c5, rfl, hc5⟩ := hA5.form
                obtain ⟨o6, c6, rfl, hc6⟩ := hB5.form
                refine WA.one (i := 5) kr_ ?_
                refine WO.h rfl Wt.none rfl (Hd.buildA (e := 43) (sz := 6) (zs := [.int .u32 0, .int .i64 0, .bool false, .slice none 0 0, .int .i64 0, .slice none 0 0]) kr_ kr_ kr_ rfl rfl (by rfl) kr_ fun b86 => ⟨_, rfl, ?_⟩)
                refine WA.one (i := 6) kr_ ?_
                refine WO.c rfl Wt.none rfl (Ent.func Try.call42 rfl) (insert_tells _ ks.length cs2 C2 hO2 hK2.one (by omega) (pos ks (stepK n code reply).num) (pos_le _ _) b86 (kc (stepK n code reply) (.slice o5 _ c5) (.slice o6 _ c6)) rfl (kc_one rfl rfl)) (Sp.p sp_) ?_
                intro r7 H7 hO7
                obtain ⟨D7, hK7, hp7⟩ := hK2.ins (pos_le ks (stepK n code reply).num) hA5 hB5
                obtain ⟨io, ic7, rfl, hic7⟩ := hO7.form
                refine WA.y (i := 7) (NoPanic.then (NoPanic.body)) rfl kr_ kr_ kr_ rfl (Yd.fieldAddr (k := 1) kr_ rfl) ?_
                refine WA.one (i := 8) kr_ ?_
                refine WO.s rfl Wt.none (Hd.store1s kr_ rfl rfl (by rfl) fr_ (by rfl) (by first | (simp only [List.set_cons_zero, List.set_cons_succ, Nat.zero_add, Nat.add_zero, Nat.reduceAdd]; rfl) | rfl) ⟨rfl, ?_⟩)
                refine WA.done kr_ ?_
                refine DN.then_normal ?_
                refine WC.seq ?_
                refine WC.region ?_
                refine WL.h rfl (Hd.loadAll (n := 2) kr_ rfl mem_ (by rfl) ⟨_, rfl, ?_⟩)
                refine WL.s (Hd.storeAll (n := 2) kr_ rfl rfl (by rfl) one_ fr_ (by rfl) ⟨rfl, ?_⟩)
                refine WL.y rfl (Yd.assign rfl) ?_
                refine WL.nil ?_
                refine DN.then_normal ?_
                refine WC.ret ?_
                refine DN.fit (C := row b8 [.int .u32 n.epoch.toNat, .slice io (ks.length + 1) ic7] 25 :: (H7 ++ ((D2 ++ (A5 ++ B5)) ++ H))) sp_ ?_
                refine DN.blocks (row b8 [.int .u32 n.epoch.toNat, .slice io (ks.length + 1) ic7] 25 :: (H7 ++ (D7 ++ H))) (List.Perm.cons _ (List.Perm.append_left _ (hp7.symm.append_right _))) ?_
                refine DN.retCT (s := 2) (H7 ++ (D7 ++ H)) Try.results15 kr_ rfl rfl mem_ (by rfl) sp_ ?_
                rw [keepK_ok (by rw [← hq]; exact h24) (by rw [← hq]; exact fun h => by rw [hz38.2 h] at h38; cases h38) (by rw [← hq]; exact h59) (by omega)]
                exact ⟨_, H7 ++ D7, rfl, ⟨_, H7, D7, by rw [insAt_len _ (pos_le _ _)]; exact hO7, hK7, rfl⟩, by rw [List.append_assoc]⟩
              · refine WO.c rfl Wt.none rfl (Ent.func Try.call43 rfl) (own_tells (stepK n code reply) (.slice do_ n.data.length dc) (.slice ro reply.length rc) H hvd hvr (by have := hrt.2.2.2.1; omega) (by have := hrt.2.2.2.2.1; omega)) (Sp.p sp_) ?_
                rintro x5 H5 ⟨wa5, wr5, A5, B5, rfl, hA5, hB5, rfl⟩
                obtain ⟨o5, c5, rfl, hc5⟩ := hA5.form
                obtain ⟨o6, c6, rfl, hc6⟩ := hB5.form
                refine WA.two (i := 1) (j := 5) kr_ ?_ ?_
                · refine WO.h rfl Wt.none rfl (Hd.load1 kr_ rfl mem_ (by rfl) ⟨_, rfl, ?_⟩)
                  refine WA.one (i := 5) kr_ ?_
                  refine WO.h rfl Wt.none rfl (Hd.buildA (e := 43) (sz := 6) (zs := [.int .u32 0, .int .i64 0, .bool false, .slice none 0 0, .int .i64 0, .slice none 0 0]) kr_ kr_ kr_ rfl rfl (by rfl) kr_ fun b86 => ⟨_, rfl, ?_⟩)
                  refine WA.one (i := 6) kr_ ?_
                  refine WO.c rfl Wt.none rfl (Ent.func Try.call42 rfl) (insert_tells _ ks.length cs2 C2 hO2 hK2.one (by omega) (pos ks (stepK n code reply).num) (pos_le _ _) b86 (kc (stepK n code reply) (.slice o5 _ c5) (.slice o6 _ c6)) rfl (kc_one rfl rfl)) (Sp.p sp_) ?_
                  intro r7 H7 hO7
                  obtain ⟨D7, hK7, hp7⟩ := hK2.ins (pos_le ks (stepK n code reply).num) hA5 hB5
                  obtain ⟨io, ic7, rfl, hic7⟩ := hO7.form
                  refine WA.y (i := 7) (NoPanic.then (NoPanic.body)) rfl kr_ kr_ kr_ rfl (Yd.fieldAddr (k := 1) kr_ rfl) ?_
                  refine WA.one (i := 8) kr_ ?_
                  refine WO.s rfl Wt.none (Hd.store1s kr_ rfl rfl (by rfl) fr_ (by rfl) (by first | (simp only [List.set_cons_zero, List.set_cons_succ, Nat.zero_add, Nat.add_zero, Nat.reduceAdd]; rfl) | rfl) ⟨rfl, ?_⟩)
                  refine WA.done kr_ ?_
                  refine DN.then_normal ?_
                  refine WC.seq ?_
                  refine WC.region ?_
                  refine WL.h rfl (Hd.loadAll (n := 2) kr_ rfl mem_ (by rfl) ⟨_, rfl, ?_⟩)
                  refine WL.s (Hd.storeAll (n := 2) kr_ rfl rfl (by rfl) one_ fr_ (by rfl) ⟨rfl, ?_⟩)
                  refine WL.y rfl (Yd.assign rfl) ?_
                  refine WL.nil ?_
                  refine DN.then_normal ?_
                  refine WC.ret ?_
                  refine DN.fit (C := row b8 [.int .u32 n.epoch.toNat, .slice io (ks.length + 1) ic7] 25 :: (H7 ++ ((D2 ++ (A5 ++ B5)) ++ H))) sp_ ?_
                  refine DN.blocks (row b8 [.int .u32 n.epoch.toNat, .slice io (ks.length + 1) ic7] 25 :: (H7 ++ (D7 ++ H))) (List.Perm.cons _ (List.Perm.append_left _ (hp7.symm.append_right _))) ?_
                  refine DN.retCT (s := 2) (H7 ++ (D7 ++ H)) Try.results15 kr_ rfl rfl mem_ (by rfl) sp_ ?_
                  rw [keepK_ok (by rw [← hq]; exact h24) (by rw [← hq]; exact fun h => by rw [hz38.2 h] at h38; cases h38) (by rw [← hq]; exact h59) (by omega)]
                  exact ⟨_, H7 ++ D7, rfl, ⟨_, H7, D7, by rw [insAt_len _ (pos_le _ _)]; exact hO7, hK7, rfl⟩, by rw [List.append_assoc]⟩
                · refine WO.h rfl Wt.none rfl (Hd.buildA (e := 43) (sz := 6) (zs := [.int .u32 0, .int .i64 0, .bool false, .slice none 0 0, .int .i64 0, .slice none 0 0]) kr_ kr_ kr_ rfl rfl (by rfl) kr_ fun b86 => ⟨_, rfl, ?_⟩)
                  refine WA.one (i := 1) kr_ ?_
                  refine WO.h rfl Wt.none rfl (Hd.load1 kr_ rfl mem_ (by rfl) ⟨_, rfl, ?_⟩)
                  refine WA.one (i := 6) kr_ ?_
                  refine WO.c rfl Wt.none rfl (Ent.func Try.call42 rfl) (insert_tells _ ks.length cs2 C2 hO2 hK2.one (by omega) (pos ks (stepK n code reply).num) (pos_le _ _) b86 (kc (stepK n code reply) (.slice o5 _ c5) (.slice o6 _ c6)) rfl (kc_one rfl rfl)) (Sp.p sp_) ?_
                  intro r7 H7 hO7
                  obtain ⟨D7, hK7, hp7⟩ := hK2.ins (pos_le ks (stepK n code reply).num) hA5 hB5
                  obtain ⟨io, ic7, rfl, hic7⟩ := hO7.form
                  refine WA.y (i := 7) (NoPanic.then (NoPanic.body)) rfl kr_ kr_ kr_ rfl (Yd.fieldAddr (k := 1) kr_ rfl) ?_
                  refine WA.one (i := 8) kr_ ?_
                  refine WO.s rfl Wt.none (Hd.store1s kr_ rfl rfl (by rfl) fr_ (by rfl) (by first | (simp only [List.set_cons_zero, List.set_cons_succ, Nat.zero_add, Nat.add_zero, Nat.reduceAdd]; rfl) | rfl) ⟨rfl, ?_⟩)
                  refine WA.done kr_ ?_
                  refine DN.then_normal ?_
                  refine WC.seq ?_
                  refine WC.region ?_
                  refine WL.h rfl (Hd.loadAll (n := 2) kr_ rfl mem_ (by rfl) ⟨_, rfl, ?_⟩)
                  refine WL.s (Hd.storeAll (n := 2) kr_ rfl rfl (by rfl) one_ fr_ (by rfl) ⟨rfl, ?_⟩)
                  refine WL.y rfl (Yd.assign rfl) ?_
                  refine WL.nil ?_
                  refine DN.then_normal ?_
                  refine WC.ret ?_
                  refine DN.fit (C := row b8 [.int .u32 n.epoch.toNat, .slice io (ks.length + 1) ic7] 25 :: (H7 ++ ((D2 ++ (A5 ++ B5)) ++ H))) sp_ ?_
                  refine DN.blocks (row b8 [.int .u32 n.epoch.toNat, .slice io (ks.length + 1) ic7] 25 :: (H7 ++ (D7 ++ H))) (List.Perm.cons _ (List.Perm.append_left _ (hp7.symm.append_right _))) ?_
                  refine DN.retCT (s := 2) (H7 ++ (D7 ++ H)) Try.results15 kr_ rfl rfl mem_ (by rfl) sp_ ?_
                  rw [keepK_ok (by rw [← hq]; exact h24) (by rw [← hq]; exact fun h => by rw [hz38.2 h] at h38; cases h38) (by rw [← hq]; exact h59) (by omega)]
                  exact ⟨_, H7 ++ D7, rfl, ⟨_, H7, D7, by rw [insAt_len _ (pos_le _ _)]; exact hO7, hK7, rfl⟩, by rw [List.append_assoc]⟩

end Go.Proofs.Ytonnkgblligdkaa
