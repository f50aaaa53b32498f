/-
  FenceAsks: of any fence what it says of any note.
-/
import Derived.Test.YtonnkgblligdkaaFLaw1
set_option linter.unusedVariables false
set_option linter.unusedSimpArgs false
set_option maxHeartbeats 8000000
namespace Go.Proofs.Ytonnkgblligdkaa
open Go.SL


/-- drayage/drayagelaw08.FenceAsks -/
theorem law_FenceAsks (e : BitVec 32) (v : Value) (ks : List Kp) (H : List Ck) (hv : KV v ks H) (hl : ks.length ≤ maxLen) (n : Nt) (vk vd : Value) (hvk : Bs vk n.key H) (hvd : Bs vd n.data H) (hd : n.data.length ≤ maxLen) (ep : BitVec 32) : Reads Try.prog 7 [.agg #[.int .u32 e.toNat, v], .agg (ntc n vk vd).toArray, .int .u32 ep.toNat] H (.bool true) := by
  refine Tells.enter Try.func7 rfl Try.ntmps7 rfl ?_
  intro w0 R
  obtain ⟨ao, c, rfl, hc⟩ := hv.form
  obtain ⟨ko, kcap, rfl, hkc⟩ := hvk.form
  obtain ⟨do_, dc, rfl, hdc⟩ := hvd.form
  refine WC.seq ?_
  refine WC.region ?_
  refine WL.h rfl (Hd.boxA rfl fun b3 => ⟨_, rfl, ?_⟩)
  refine WL.h rfl (Hd.boxA rfl fun b4 => ⟨_, rfl, ?_⟩)
  refine WL.y rfl (Yd.assign rfl) ?_
  refine WL.nil ?_
  refine DN.then_normal ?_
  refine WC.seq ?_
  refine WC.seq ?_
  refine WC.region ?_
  refine WL.h rfl (Hd.loadAll (n := 2) kr_ rfl mem_ (by rfl) ⟨_, rfl, ?_⟩)
  refine WL.h rfl (Hd.loadAll (n := 11) kr_ rfl mem_ (by rfl) ⟨_, rfl, ?_⟩)
  refine WL.c rfl (Ent.func Try.call11 rfl) (many_tells e _ ks H hv hl n _ _ hvk hvd hd) (Sp.p sp_) ?_
  rintro x H9 ⟨b25, rfl, hfew, hH9⟩
  rw [hH9]
  clear hH9 H9
  refine WL.nil ?_
  refine DN.then_normal ?_
  refine WC.cond rfl (fun h25 => ?_) (fun h25 => ?_)
  · refine WC.seq ?_
    refine WC.region ?_
    refine WL.rf rfl (Ent.func Try.call12 rfl) (known_reads) sp_ ?_
    refine WL.y rfl (Yd.assign rfl) ?_
    refine WL.nil ?_
    refine DN.then_normal ?_
    refine WC.ret ?_
    refine DN.then_ret ?_
    refine DN.fit (C := H) sp_ ?_
    refine DN.ret1 Try.results7 rfl ?_
    exact ⟨rfl, rfl⟩
  · obtain ⟨hl3, hb3, hd3⟩ := hfew h25
    have hb : ∀ k ∈ ks, k.asked.length ≤ 1000000 ∧ k.reply.length ≤ 1000000 := fun k hk => ⟨by have := (hb3 k hk).1; omega, by have := (hb3 k hk).2; omega⟩
    have hl1 : ks.length ≤ 1000 := by omega
    refine WC.skip ?_
    refine DN.then_normal ?_
    refine WC.seq ?_
    refine WC.region ?_
    refine WL.h rfl (Hd.loadAll (n := 2) kr_ rfl mem_ (by rfl) ⟨_, rfl, ?_⟩)
    refine WL.c rfl (Ent.func Try.call13 rfl) (rcopy_tells e _ ks H hv hl1 hb) (Sp.p sp_) ?_
    rintro x H9 ⟨w, DX, rfl, hX, rfl⟩
    obtain ⟨xo, xc, rfl⟩ := hX.form
    refine WL.h rfl (Hd.alloc (zs := [.int .u32 0, .slice none 0 0]) kr_ fun b7 => ⟨_, rfl, ?_⟩)
    refine WL.s (Hd.storeAll (n := 2) kr_ rfl rfl (by rfl) one_ fr_ (by rfl) ⟨rfl, ?_⟩)
    refine WL.nil ?_
    refine DN.then_normal ?_
    refine WC.seq ?_
    refine WC.region ?_
    refine WL.h rfl (Hd.loadAll (n := 2) kr_ rfl mem_ (by rfl) ⟨_, rfl, ?_⟩)
    refine WL.h rfl (Hd.loadAll (n := 11) kr_ rfl mem_ (by rfl) ⟨_, rfl, ?_⟩)
    refine WL.c rfl (Ent.func Try.call24 rfl) (ask_tells e _ ks (DX ++ H) (hX.kv.mono gr_) (by omega) n _ _ (hvk.mono gr_) (hvd.mono gr_)) (Sp.p sp_) ?_
    rintro x H9 ⟨wa, wr, A, B, rfl, hA, hB, rfl⟩
    obtain ⟨q, hq⟩ : ∃ q, q = askK e ks n := ⟨_, rfl⟩
    rw [← hq] at hA hB ⊢
    obtain ⟨oa, ca, rfl, _⟩ := hA.form
    obtain ⟨or_, cr, rfl, hcr⟩ := hB.form
    refine WL.y rfl (Yd.move rfl) ?_
    refine WL.y rfl (Yd.extract rfl rfl) ?_
    refine WL.y rfl (Yd.extract rfl rfl) ?_
    refine WL.y rfl (Yd.extract rfl rfl) ?_
    refine WL.h rfl (Hd.alloc (zs := [.int .u32 0, .int .i64 0, .bool false, .slice none 0 0, .int .i64 0, .slice none 0 0]) kr_ fun b9 => ⟨_, rfl, ?_⟩)
    refine WL.y rfl (Yd.assign rfl) ?_
    refine WL.s (Hd.storeAll (n := 6) kr_ rfl rfl (by rfl) one_ fr_ (by rfl) ⟨rfl, ?_⟩)
    refine WL.y rfl (Yd.assign rfl) ?_
    refine WL.nil ?_
    refine DN.then_normal ?_
    refine WC.seq ?_
    refine WC.region ?_
    refine WL.h rfl (Hd.loadAll (n := 2) kr_ rfl mem_ (by rfl) ⟨_, rfl, ?_⟩)
    refine WL.h rfl (Hd.loadAll (n := 11) kr_ rfl mem_ (by rfl) ⟨_, rfl, ?_⟩)
    refine WL.c rfl (Ent.func Try.call25 rfl) (rask_tells e _ ks H hv hl1 n _ _ hvk hvd) (Sp.p sp_) ?_
    rintro x H9 ⟨wa1, wr1, rfl, hA1, hB1, hH9⟩
    rw [hH9]
    clear hH9 H9
    rw [← hq] at hA1 hB1 ⊢
    obtain ⟨oa1, ca1, rfl, _⟩ := hA1.form
    obtain ⟨or1, cr1, rfl, _⟩ := hB1.form
    refine WL.y rfl (Yd.move rfl) ?_
    refine WL.y rfl (Yd.extract rfl rfl) ?_
    refine WL.y rfl (Yd.extract rfl rfl) ?_
    refine WL.y rfl (Yd.extract rfl rfl) ?_
    refine WL.h rfl (Hd.alloc (zs := [.int .u32 0, .int .i64 0, .bool false, .slice none 0 0, .int .i64 0, .slice none 0 0]) kr_ fun b12 => ⟨_, rfl, ?_⟩)
    refine WL.y rfl (Yd.assign rfl) ?_
    refine WL.s (Hd.storeAll (n := 6) kr_ rfl rfl (by rfl) one_ fr_ (by rfl) ⟨rfl, ?_⟩)
    refine WL.y rfl (Yd.assign rfl) ?_
    refine WL.nil ?_
    refine DN.then_normal ?_
    refine WC.seq ?_
    refine WC.region ?_
    refine WL.h rfl (Hd.loadAll (n := 2) kr_ rfl mem_ (by rfl) ⟨_, rfl, ?_⟩)
    refine WL.y rfl (Yd.fieldAddr (k := 5) kr_ rfl) ?_
    refine WL.h rfl (Hd.load1 kr_ rfl mem_ (by rfl) ⟨_, rfl, ?_⟩)
    refine WL.y rfl (Yd.fieldAddr (k := 6) kr_ rfl) ?_
    refine WL.h rfl (Hd.load1 kr_ rfl mem_ (by rfl) ⟨_, rfl, ?_⟩)
    refine WL.y rfl (Yd.fieldAddr (k := 7) kr_ rfl) ?_
    refine WL.h rfl (Hd.load1 kr_ rfl mem_ (by rfl) ⟨_, rfl, ?_⟩)
    refine WL.c rfl (Ent.func Try.call26 rfl) (find2_tells e _ ks DX hX.kv (by omega) n.order n.step n.undo) (Sp.p sp_) ?_
    rintro x H9 ⟨wa2, wr2, A2, B2, rfl, hA2, hB2, rfl⟩
    obtain ⟨fk, hfk⟩ : ∃ q, q = findB ks n.order n.step n.undo := ⟨_, rfl⟩
    rw [← hfk] at hA2 hB2 ⊢
    obtain ⟨oa2, ca2, rfl, _⟩ := hA2.form
    obtain ⟨or2, cr2, rfl, _⟩ := hB2.form
    refine WL.y rfl (Yd.move rfl) ?_
    refine WL.y rfl (Yd.extract rfl rfl) ?_
    refine WL.y rfl (Yd.extract rfl rfl) ?_
    refine WL.h rfl (Hd.alloc (zs := [.int .u32 0, .int .i64 0, .bool false, .slice none 0 0, .int .i64 0, .slice none 0 0]) kr_ fun b14 => ⟨_, rfl, ?_⟩)
    refine WL.s (Hd.storeAll (n := 6) kr_ rfl rfl (by rfl) one_ fr_ (by rfl) ⟨rfl, ?_⟩)
    refine WL.y rfl (Yd.assign rfl) ?_
    refine WL.nil ?_
    refine DN.then_normal ?_
    refine WC.seq ?_
    refine WC.region ?_
    refine WL.h rfl (Hd.loadAll (n := 2) kr_ rfl mem_ (by rfl) ⟨_, rfl, ?_⟩)
    refine WL.y rfl (Yd.fieldAddr (k := 5) kr_ rfl) ?_
    refine WL.h rfl (Hd.load1 kr_ rfl mem_ (by rfl) ⟨_, rfl, ?_⟩)
    refine WL.y rfl (Yd.fieldAddr (k := 6) kr_ rfl) ?_
    refine WL.h rfl (Hd.load1 kr_ rfl mem_ (by rfl) ⟨_, rfl, ?_⟩)
    refine WL.y rfl (Yd.fieldAddr (k := 7) kr_ rfl) ?_
    refine WL.h rfl (Hd.load1 kr_ rfl mem_ (by rfl) ⟨_, rfl, ?_⟩)
    refine WL.c rfl (Ent.func Try.call27 rfl) (rfind_tells e _ ks H hv hl1 n.order n.step n.undo) (Sp.p sp_) ?_
    rintro x H9 ⟨wa3, wr3, rfl, hA3, hB3, hH9⟩
    rw [hH9]
    clear hH9 H9
    rw [← hfk] at hA3 hB3 ⊢
    obtain ⟨oa3, ca3, rfl, _⟩ := hA3.form
    obtain ⟨or3, cr3, rfl, _⟩ := hB3.form
    refine WL.y rfl (Yd.move rfl) ?_
    refine WL.y rfl (Yd.extract rfl rfl) ?_
    refine WL.y rfl (Yd.extract rfl rfl) ?_
    refine WL.h rfl (Hd.alloc (zs := [.int .u32 0, .int .i64 0, .bool false, .slice none 0 0, .int .i64 0, .slice none 0 0]) kr_ fun b16 => ⟨_, rfl, ?_⟩)
    refine WL.s (Hd.storeAll (n := 6) kr_ rfl rfl (by rfl) one_ fr_ (by rfl) ⟨rfl, ?_⟩)
    refine WL.y rfl (Yd.assign rfl) ?_
    refine WL.nil ?_
    refine DN.then_normal ?_
    refine WC.seq ?_
    refine WC.region ?_
    refine WL.h rfl (Hd.loadAll (n := 2) kr_ rfl mem_ (by rfl) ⟨_, rfl, ?_⟩)
    refine WL.y rfl (Yd.move rfl) ?_
    refine WL.c rfl (Ent.func Try.call28 rfl) (see_tells e _ ks DX hX.kv (by omega) ep) (Sp.p sp_) ?_
    rintro x H9 ⟨ws, DS, rfl, hS, rfl⟩
    obtain ⟨so, sc, rfl⟩ := hS.form
    refine WL.y rfl (Yd.move rfl) ?_
    refine WL.y rfl (Yd.extract rfl rfl) ?_
    refine WL.y rfl (Yd.extract rfl rfl) ?_
    refine WL.h rfl (Hd.alloc (zs := [.int .u32 0, .slice none 0 0]) kr_ fun b18 => ⟨_, rfl, ?_⟩)
    refine WL.s (Hd.storeAll (n := 2) kr_ rfl rfl (by rfl) one_ fr_ (by rfl) ⟨rfl, ?_⟩)
    refine WL.y rfl (Yd.assign rfl) ?_
    refine WL.nil ?_
    refine DN.then_normal ?_
    refine WC.seq ?_
    refine WC.region ?_
    refine WL.h rfl (Hd.loadAll (n := 2) kr_ rfl mem_ (by rfl) ⟨_, rfl, ?_⟩)
    refine WL.y rfl (Yd.move rfl) ?_
    refine WL.c rfl (Ent.func Try.call29 rfl) (rsee_tells e _ ks H hv hl1 hb ep) (Sp.p sp_) ?_
    rintro x H9 ⟨wt, DT, rfl, hT, rfl⟩
    obtain ⟨to_, tc, rfl⟩ := hT.form
    obtain ⟨cs, CS, DS0, hO0, hK0, rfl⟩ := id hS
    have hqr : q.2.1.reply.length ≤ 1000000 := by
      rw [hq]
      exact (ask_small hb n).2
    have hfa : (fk.getD Kp.z).asked.length ≤ 1000000 := by
      rw [hfk]
      exact (find_small hb n.order n.step n.undo).1
    have hsl : (seeK e ks ep).2.1.length ≤ 1000 := see_len hl1 ep
    refine WL.y rfl (Yd.move rfl) ?_
    refine WL.y rfl (Yd.extract rfl rfl) ?_
    refine WL.y rfl (Yd.extract rfl rfl) ?_
    refine WL.h rfl (Hd.alloc (zs := [.int .u32 0, .slice none 0 0]) kr_ fun b20 => ⟨_, rfl, ?_⟩)
    refine WL.s (Hd.storeAll (n := 2) kr_ rfl rfl (by rfl) one_ fr_ (by rfl) ⟨rfl, ?_⟩)
    refine WL.y rfl (Yd.assign rfl) ?_
    refine WL.nil ?_
    refine DN.then_normal ?_
    refine WC.seq ?_
    refine WC.cutK (fun _z : Unit => True) (fun _z : Unit => [(119, .bool false)]) (fun _z : Unit => row b18 [.int .u32 (seeK e ks ep).1.toNat, .slice so (seeK e ks ep).2.1.length sc] 25 :: (CS ++ (DS0 ++ (row b14 (kc (fk.getD Kp.z) (.slice oa2 (fk.getD Kp.z).asked.length ca2) (.slice or2 (fk.getD Kp.z).reply.length cr2)) 43 :: (A2 ++ (B ++ (row b9 (kc q.2.1 (.slice oa q.2.1.asked.length ca) (.slice or_ q.2.1.reply.length cr)) 43 :: (A ++ (row b7 [.int .u32 e.toNat, .slice xo ks.length xc] 25 :: (DX ++ (row b4 (ntc n (.slice ko n.key.length kcap) (.slice do_ n.data.length dc)) 29 :: row b3 [.int .u32 e.toNat, .slice ao ks.length c] 25 :: H))))))))))) ?_ ?_
    · refine WC.draw 43 kr_ rfl ?_
      refine WA.quiet 43 0 rfl rfl kr_ kr_ kr_ rfl ?_
      refine WQ.y rfl (Yd.move rfl) ?_
      refine WQ.y rfl (Yd.move rfl) ?_
      refine WQ.y rfl (Yd.neq rfl rfl) ?_
      refine WQ.renamed (t := 79) (v := .bool false) rfl (congrArg Value.bool (decide_eq_false (fun h => h rfl))) ?_
      refine WQ.y rfl (Yd.move rfl) ?_
      refine WQ.rd rfl (Wt.yes (dj := 80) rfl rfl) (Rd.loadAll (n := 6) kr_ rfl mem_ (by rfl)) ?_
      refine WQ.rd rfl (Wt.yes (dj := 80) rfl rfl) (Rd.loadAll (n := 6) kr_ rfl mem_ (by rfl)) ?_
      refine WQ.rf rfl (Wt.yes (dj := 80) rfl rfl) (Ent.func Try.call22 rfl) (rkept_reads q.2.1 q.2.1 _ _ _ _ _ (hA.bs.mono gr_) (hB.bs.mono gr_) (hA1.mono gr_) (hB1.mono gr_)) Sp.sn ?_
      refine WQ.renamed (t := 83) (v := .bool true) rfl (congrArg Value.bool (decide_eq_true rfl)) ?_
      refine WQ.gy (dj := 80) rfl rfl rfl (Yd.notB rfl) ?_
      refine WQ.y rfl (Yd.pickF rfl rfl) ?_
      refine WQ.y rfl (Yd.move rfl) ?_
      refine WQ.gy (dj := 86) rfl rfl rfl (Yd.move rfl) ?_
      refine WQ.gy (dj := 86) rfl rfl rfl (Yd.move rfl) ?_
      refine WQ.gy (dj := 86) rfl rfl rfl (Yd.neq rfl rfl) ?_
      refine WQ.renamed (t := 89) (v := .bool false) rfl (congrArg Value.bool (decide_eq_false (fun h => h rfl))) ?_
      refine WQ.y rfl (Yd.pickF rfl rfl) ?_
      refine WQ.y rfl (Yd.move rfl) ?_
      refine WQ.rd rfl (Wt.yes (dj := 91) rfl rfl) (Rd.loadAll (n := 6) kr_ rfl mem_ (by rfl)) ?_
      refine WQ.rd rfl (Wt.yes (dj := 91) rfl rfl) (Rd.loadAll (n := 6) kr_ rfl mem_ (by rfl)) ?_
      refine WQ.rf rfl (Wt.yes (dj := 91) rfl rfl) (Ent.func Try.call22 rfl) (rkept_reads (fk.getD Kp.z) (fk.getD Kp.z) _ _ _ _ _ (hA2.bs.mono gr_) (hB2.bs.mono gr_) (hA3.mono gr_) (hB3.mono gr_)) Sp.sn ?_
      refine WQ.renamed (t := 94) (v := .bool true) rfl (congrArg Value.bool (decide_eq_true rfl)) ?_
      refine WQ.gy (dj := 91) rfl rfl rfl (Yd.notB rfl) ?_
      refine WQ.y rfl (Yd.pickF rfl rfl) ?_
      refine WQ.y rfl (Yd.move rfl) ?_
      refine WQ.gy (dj := 97) rfl rfl rfl (Yd.move rfl) ?_
      refine WQ.gy (dj := 97) rfl rfl rfl (Yd.move rfl) ?_
      refine WQ.gy (dj := 97) rfl rfl rfl (Yd.neqB Try.underlying4 rfl rfl) ?_
      refine WQ.renamed (t := 100) (v := .bool false) rfl (congrArg Value.bool (by cases fk.isSome <;> rfl)) ?_
      refine WQ.y rfl (Yd.pickF rfl rfl) ?_
      refine WQ.y rfl (Yd.move rfl) ?_
      refine WQ.rd rfl (Wt.yes (dj := 102) rfl rfl) (Rd.loadAll (n := 2) kr_ rfl mem_ (by rfl)) ?_
      refine WQ.rd rfl (Wt.yes (dj := 102) rfl rfl) (Rd.loadAll (n := 2) kr_ rfl mem_ (by rfl)) ?_
      refine WQ.rf rfl (Wt.yes (dj := 102) rfl rfl) (Ent.func Try.call19 rfl) (rsame_reads _ _ _ _ (seeK e ks ep).2.1 (seeK e ks ep).2.1 _ (hS.kv.mono gr_) (hT.kv.mono gr_) (by omega)) Sp.sn ?_
      refine WQ.renamed (t := 105) (v := .bool true) rfl (congrArg Value.bool (decide_eq_true ⟨rfl, rfl⟩)) ?_
      refine WQ.gy (dj := 102) rfl rfl rfl (Yd.notB rfl) ?_
      refine WQ.y rfl (Yd.pickF rfl rfl) ?_
      refine WQ.y rfl (Yd.move rfl) ?_
      refine WQ.gy (dj := 108) rfl rfl rfl (Yd.move rfl) ?_
      refine WQ.gy (dj := 108) rfl rfl rfl (Yd.move rfl) ?_
      refine WQ.gy (dj := 108) rfl rfl rfl (Yd.neq rfl rfl) ?_
      refine WQ.renamed (t := 111) (v := .bool false) rfl (congrArg Value.bool (decide_eq_false (fun h => h rfl))) ?_
      refine WQ.y rfl (Yd.pickF rfl rfl) ?_
      refine WQ.y rfl (Yd.move rfl) ?_
      refine WQ.rd rfl (Wt.yes (dj := 113) rfl rfl) (Rd.loadAll (n := 2) kr_ rfl mem_ (by rfl)) ?_
      refine WQ.rf rfl (Wt.yes (dj := 113) rfl rfl) (Ent.func Try.call30 rfl) (check2_reads e _ ks _ (hX.kv.mono gr_) (by omega)) Sp.sn ?_
      refine WQ.rd rfl (Wt.yes (dj := 113) rfl rfl) (Rd.loadAll (n := 2) kr_ rfl mem_ (by rfl)) ?_
      refine WQ.rf rfl (Wt.yes (dj := 113) rfl rfl) (Ent.func Try.call31 rfl) (rfcheck_reads e _ ks _ (hv.mono gr_) (by omega)) Sp.sn ?_
      refine WQ.gy (dj := 113) rfl rfl rfl (Yd.neq rfl rfl) ?_
      refine WQ.renamed (t := 118) (v := .bool false) rfl (congrArg Value.bool (decide_eq_false (fun h => h rfl))) ?_
      refine WQ.y rfl (Yd.pickF rfl rfl) ?_
      refine WQ.nil ?_
      refine WA.done kr_ ?_
      exact DN.reachS (()) (trivial) (Sx.put rfl (sx_)) sp_
    · intro _ _
      refine WC.no rfl ?_
      refine WC.skip ?_
      refine DN.then_normal ?_
      refine WC.seq ?_
      refine WC.region ?_
      refine WL.y rfl (Yd.fieldAddr (k := 5) kr_ rfl) ?_
      refine WL.h rfl (Hd.load1 kr_ rfl mem_ (by rfl) ⟨_, rfl, ?_⟩)
      refine WL.c rfl (Ent.func Try.call18 rfl) (spoil_own or_ cr q.2.1.reply B hB hqr) (Sp.p sp_) ?_
      intro x H9 hH9
      subst hH9
      refine WL.nil ?_
      refine DN.then_normal ?_
      refine WC.seq ?_
      refine WC.region ?_
      refine WL.y rfl (Yd.fieldAddr (k := 3) kr_ rfl) ?_
      refine WL.h rfl (Hd.load1 kr_ rfl mem_ (by rfl) ⟨_, rfl, ?_⟩)
      refine WL.c rfl (Ent.func Try.call18 rfl) (spoil_own oa2 ca2 (fk.getD Kp.z).asked A2 hA2 hfa) (Sp.p sp_) ?_
      intro x H9 hH9
      subst hH9
      refine WL.nil ?_
      refine DN.then_normal ?_
      refine WC.seq ?_
      refine WC.seq ?_
      refine WC.region ?_
      refine WL.y rfl (Yd.assign rfl) ?_
      refine WL.nil ?_
      refine DN.then_normal ?_
      refine WC.block ?_
      refine WC.loopS (fun z : Nat × List Value × List Ck × List Ck => z.1 ≤ (seeK e ks ep).2.1.length ∧ Own (.slice so (seeK e ks ep).2.1.length sc) (seeK e ks ep).2.1.length z.2.1 43 6 z.2.2.1 ∧ Kts 5 (z.2.1.drop (z.1 * 6)) ((seeK e ks ep).2.1.drop z.1) z.2.2.2) (fun z : Nat × List Value × List Ck × List Ck => [(22, .int .i64 (z.1 : Int))]) (fun z : Nat × List Value × List Ck × List Ck => row b18 [.int .u32 (seeK e ks ep).1.toNat, .slice so (seeK e ks ep).2.1.length sc] 25 :: (z.2.2.1 ++ (z.2.2.2 ++ (row b7 [.int .u32 e.toNat, .slice xo ks.length xc] 25 :: (DX ++ (row b4 (ntc n (.slice ko n.key.length kcap) (.slice do_ n.data.length dc)) 29 :: row b3 [.int .u32 e.toNat, .slice ao ks.length c] 25 :: H)))))) (fun z : Nat × List Value × List Ck × List Ck => (seeK e ks ep).2.1.length - z.1) (⟨0, cs, CS, DS0⟩) (show 0 ≤ (seeK e ks ep).2.1.length ∧ Own (.slice so (seeK e ks ep).2.1.length sc) (seeK e ks ep).2.1.length cs 43 6 CS ∧ Kts 5 (cs.drop (0 * 6)) ((seeK e ks ep).2.1.drop 0) DS0 from ⟨Nat.zero_le _, hO0, by simpa using hK0⟩) (Sx.put rfl (sx_)) sp_ ?_
      rintro ⟨j, cs9, C9, D9⟩ hI
      replace hI : j ≤ (seeK e ks ep).2.1.length ∧ Own (.slice so (seeK e ks ep).2.1.length sc) (seeK e ks ep).2.1.length cs9 43 6 C9 ∧ Kts 5 (cs9.drop (j * 6)) ((seeK e ks ep).2.1.drop j) D9 := hI
      obtain ⟨hj, hOl, hKt⟩ := hI
      change WC _ _ _ _ _ _ ([(22, .int .i64 (j : Int))] ++ _) (row b18 [.int .u32 (seeK e ks ep).1.toNat, .slice so (seeK e ks ep).2.1.length sc] 25 :: (C9 ++ (D9 ++ (row b7 [.int .u32 e.toNat, .slice xo ks.length xc] 25 :: (DX ++ (row b4 (ntc n (.slice ko n.key.length kcap) (.slice do_ n.data.length dc)) 29 :: row b3 [.int .u32 e.toNat, .slice ao ks.length c] 25 :: H))))))
      refine WC.seq ?_
      refine WC.seq ?_
      refine WC.region ?_
      refine WL.y rfl (Yd.move rfl) ?_
      refine WL.y rfl (Yd.fieldAddr (k := 1) kr_ rfl) ?_
      refine WL.h rfl (Hd.load1 kr_ rfl mem_ (by rfl) ⟨_, rfl, ?_⟩)
      refine WL.y rfl (Yd.len (e := 43) kr_ rfl) ?_
      refine WL.y rfl (Yd.lss rfl rfl) ?_
      refine WL.nil ?_
      refine DN.then_normal ?_
      refine WC.ite rfl (fun h130 => ?_) (fun h130 => ?_)
      · have hlt : j < (seeK e ks ep).2.1.length := by omega
        obtain ⟨va, vr, A9, B9, D9, hg, hA9, hB9, rfl, hK9⟩ := hKt.head hlt
        obtain ⟨ao9, ac9, rfl, _⟩ := hA9.form
        obtain ⟨ro9, rc9, rfl, _⟩ := hB9.form
        have hxl := hOl.len
        obtain ⟨bo, extra, eso, rfl, hset, ho2⟩ := hOl.put1 (by omega) ((j : Int).toNat * 6 + 0) (by omega) (.int .u32 (0#32).toNat)
        refine WC.skip ?_
        refine DN.then_normal ?_
        refine WC.seq ?_
        refine WC.block ?_
        refine WC.seq ?_
        refine WC.region ?_
        refine WL.y rfl (Yd.fieldAddr (k := 1) kr_ rfl) ?_
        refine WL.h rfl (Hd.load1 kr_ rfl mem_ (by rfl) ⟨_, rfl, ?_⟩)
        refine WL.y rfl (Yd.move rfl) ?_
        refine WL.y rfl (Yd.indexAddr (e := 43) (s := 6) (b := bo) (o := 0) (n := (seeK e ks ep).2.1.length) (c := sc) kr_ kr_ (congrArg (fun z => some (Value.slice z (seeK e ks ep).2.1.length sc)) eso) rfl (by omega) (by omega)) ?_
        refine WL.y rfl (Yd.fieldAddr (k := 5) kr_ rfl) ?_
        refine WL.h rfl (Hd.load1 (v := .slice ro9 (seeK e ks ep).2.1[j].reply.length rc9) (b := bo) (o := 0 + (j : Int).toNat * 6 + 5) (cs := cs9 ++ extra) kr_ rfl mem_ (kc_cell (cs := cs9) (by simp) (by omega) hg rfl) ⟨_, rfl, ?_⟩)
        refine WL.c rfl (Ent.func Try.call18 rfl) (spoil_own ro9 rc9 (seeK e ks ep).2.1[j].reply B9 hB9 (see_small hb ep _ (List.getElem_mem hlt)).2) (Sp.p sp_) ?_
        intro x H9 hH9
        subst hH9
        refine WL.nil ?_
        refine DN.then_normal ?_
        refine WC.region ?_
        refine WL.y rfl (Yd.fieldAddr (k := 1) kr_ rfl) ?_
        refine WL.h rfl (Hd.load1 kr_ rfl mem_ (by rfl) ⟨_, rfl, ?_⟩)
        refine WL.y rfl (Yd.move rfl) ?_
        refine WL.y rfl (Yd.indexAddr (e := 43) (s := 6) (b := bo) (o := 0) (n := (seeK e ks ep).2.1.length) (c := sc) kr_ kr_ (congrArg (fun z => some (Value.slice z (seeK e ks ep).2.1.length sc)) eso) rfl (by omega) (by omega)) ?_
        refine WL.y rfl (Yd.fieldAddr (k := 0) kr_ rfl) ?_
        refine WL.s (Hd.store1q (b := bo) (cs := cs9 ++ extra) (T' := 43) kr_ rfl rfl rfl fr_ (by rw [List.length_append]; omega) ((congrArg (fun z => (cs9 ++ extra).set z (Value.int .u32 (0#32).toNat)) (Nat.add_assoc 0 _ 0)).trans hset) ⟨rfl, ?_⟩)
        refine WL.nil ?_
        refine DN.block_normal ?_
        refine DN.then_normal ?_
        refine WC.region ?_
        refine WL.y rfl (Yd.move rfl) ?_
        refine WL.y rfl (Yd.add rfl rfl (by omega) (by omega)) ?_
        refine WL.y rfl (Yd.assign rfl) ?_
        refine WL.nil ?_
        exact DN.againS (⟨j + 1, cs9.set ((j : Int).toNat * 6 + 0) (.int .u32 (0#32).toNat), [row bo (cs9.set ((j : Int).toNat * 6 + 0) (.int .u32 (0#32).toNat) ++ extra) 43], D9⟩) (show (j + 1) ≤ (seeK e ks ep).2.1.length ∧ Own (.slice so (seeK e ks ep).2.1.length sc) (seeK e ks ep).2.1.length (cs9.set ((j : Int).toNat * 6 + 0) (.int .u32 (0#32).toNat)) 43 6 ([row bo (cs9.set ((j : Int).toNat * 6 + 0) (.int .u32 (0#32).toNat) ++ extra) 43]) ∧ Kts 5 ((cs9.set ((j : Int).toNat * 6 + 0) (.int .u32 (0#32).toNat)).drop ((j + 1) * 6)) ((seeK e ks ep).2.1.drop (j + 1)) D9 from ⟨by omega, ho2, hK9.set (by omega)⟩) (show (seeK e ks ep).2.1.length - (j + 1) < (seeK e ks ep).2.1.length - j by omega) (Sx.put rfl (sx_)) sp_
      · refine WC.exit ?_
        refine DN.then_exit ?_
        refine DN.then_exit ?_
        refine DN.block_exit ?_
        refine DN.then_normal ?_
        refine WC.seq ?_
        refine WC.region ?_
        refine WL.h rfl (Hd.loadAll (n := 2) kr_ rfl mem_ (by rfl) ⟨_, rfl, ?_⟩)
        refine WL.h rfl (Hd.loadAll (n := 2) kr_ rfl mem_ (by rfl) ⟨_, rfl, ?_⟩)
        refine WL.r rfl (Ent.func Try.call19 rfl) (rsame_reads e e _ _ ks ks _ (hX.kv.mono gr_) (hv.mono gr_) (by omega)) ?_
        refine WL.renamed (t := 147) (v := .bool true) rfl (congrArg Value.bool (decide_eq_true ⟨rfl, rfl⟩)) ?_
        refine WL.y rfl (Yd.move rfl) ?_
        refine WL.grf (dj := 148) rfl rfl rfl (Ent.func Try.call12 rfl) (known_reads) sp_ ?_
        refine WL.y rfl (Yd.pickT rfl rfl) ?_
        refine WL.y rfl (Yd.assign rfl) ?_
        refine WL.nil ?_
        refine DN.then_normal ?_
        refine WC.ret ?_
        refine DN.fit (C := H) sp_ ?_
        refine DN.ret1 Try.results7 rfl ?_
        exact ⟨rfl, rfl⟩

end Go.Proofs.Ytonnkgblligdkaa
