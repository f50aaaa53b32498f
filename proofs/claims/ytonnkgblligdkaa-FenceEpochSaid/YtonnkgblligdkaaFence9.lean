/-
  The walk of a step that comes.
-/
import Derived.Test.YtonnkgblligdkaaFence7
import Derived.Test.YtonnkgblligdkaaFenceMath4
import Derived.Test.YtonnkgblligdkaaSLQuiet2
set_option linter.unusedVariables false
set_option linter.unusedSimpArgs false
set_option maxHeartbeats 8000000
namespace Go.Proofs.Ytonnkgblligdkaa
open Go.SL


/-- (*drayage/drayagelaw08.served).calls -/
theorem calls_tells (p : Nat) (s : Sv) (i : Nat) (C : List Ck) (h : SvAt 50 43 5 p s C) (inv : SvInv s i) (hi : i < 200) (c : Cl) (hd : c.data.length ≤ 255) (vc : Value) (H : List Ck) (hvc : Bs vc c.data H) : Tells Try.prog 45 [.pointer (some ⟨p, 0, none⟩), .agg (clc c vc).toArray] (C ++ H) fun r H' => ∃ C', SvAt 50 43 5 p (callS s c) C' ∧ H' = C' ++ H := by
  refine Tells.enter Try.func45 rfl Try.ntmps45 rfl ?_
  intro w0 R
  obtain ⟨vL, CF, vd, cd, Cd, vt, ct, Ct, Dt, vo, co, Co, rfl, hF, hOd, hKd, hOt, hKt, hOo, hKo⟩ := h
  obtain ⟨lo, lc, rfl⟩ := hF.form
  obtain ⟨do_, dc, rfl, hdc⟩ := hOd.form
  obtain ⟨to_, tc, rfl, htc⟩ := hOt.form
  obtain ⟨oo, oc, rfl, hoc⟩ := hOo.form
  obtain ⟨vo9, vc9, rfl, hvc9⟩ := hvc.form
  have hmany := inv.many
  have hfew := inv.few
  have h3s := stp_lt c.step
  have hOver := over_no inv hd
  have hE := ask_err inv hd
  have hOk := ask_ok inv hd
  have hE2 : (askK s.e s.ks (noteOf c)).2.2 = 0 ∨ ((askK s.e s.ks (noteOf c)).2.2 = 72 ∧ (noteOf c).epoch.toNat < s.e.toNat) ∨ (askK s.e s.ks (noteOf c)).2.2 = 80 := hE
  have hKeep := keep_call inv hd hi
  have hFind := new_find inv hd hi
  obtain ⟨q, hq⟩ : ∃ q, q = askK s.e s.ks (noteOf c) := ⟨_, rfl⟩
  rw [← hq] at hE hE2 hOk hOver hKeep hFind
  have hcode : (keptS s c).code = codeS c.good q.1 := by rw [hq]; rfl
  obtain ⟨act, kk, er⟩ := q
  dsimp only at hE hE2 hOk hOver hKeep hFind hcode
  refine WC.seq ?_
  refine WC.region ?_
  refine WL.h rfl (Hd.boxA rfl fun b3 => ⟨_, rfl, ?_⟩)
  refine WL.nil ?_
  refine DN.then_normal ?_
  refine WC.seq ?_
  refine WC.region ?_
  refine WL.y rfl (Yd.fieldAddr (k := 0) kr_ rfl) ?_
  refine WL.h rfl (Hd.load1 kr_ rfl mem_ (by rfl) ⟨_, rfl, ?_⟩)
  refine WL.y rfl (Yd.rem32 _ (6#32) rfl rfl rfl rfl (by decide)) ?_
  refine WL.y rfl (Yd.add32 (1#32) _ rfl rfl rfl rfl) ?_
  refine WL.y rfl (Yd.fieldAddr (k := 1) kr_ rfl) ?_
  refine WL.h rfl (Hd.load1 kr_ rfl mem_ (by rfl) ⟨_, rfl, ?_⟩)
  refine WL.y rfl (Yd.rem32 _ (4#32) rfl rfl rfl rfl (by decide)) ?_
  refine WL.y rfl (Yd.add32 (1#32) _ rfl rfl rfl rfl) ?_
  refine WL.y rfl (Yd.fieldAddr (k := 2) kr_ rfl) ?_
  refine WL.h rfl (Hd.load1 kr_ rfl mem_ (by rfl) ⟨_, rfl, ?_⟩)
  refine WL.y rfl (Yd.to64 _ kr_ kr_ rfl rfl) ?_
  refine WL.y rfl (Yd.rem64 _ (3#64) rfl rfl rfl rfl (by decide)) ?_
  have h3s := stp_lt c.step
  refine WL.y rfl (Yd.toInt kr_ kr_ rfl (by omega) (by omega)) ?_
  refine WL.y rfl (Yd.fieldAddr (k := 3) kr_ rfl) ?_
  refine WL.h rfl (Hd.load1 kr_ rfl mem_ (by rfl) ⟨_, rfl, ?_⟩)
  refine WL.y rfl (Yd.fieldAddr (k := 4) kr_ rfl) ?_
  refine WL.h rfl (Hd.load1 kr_ rfl mem_ (by rfl) ⟨_, rfl, ?_⟩)
  refine WL.y rfl (Yd.buildL (pl := [(0, 1), (1, 1), (2, 1), (3, 1), (4, 1), (5, 1), (6, 1), (7, 1), (8, 1), (9, 1), (10, 1)]) (zs := [.int .i64 0, .int .u32 0, .int .u32 0, .int .u64 0, .int .u64 0, .int .u32 0, .int .i64 0, .bool false, .int .i64 0, .slice none 0 0, .slice none 0 0]) (parts := [(0, .const (.int .i64 7)), (1, .tmp 18), (5, .tmp 22), (6, .tmp 27), (7, .tmp 29), (10, .tmp 31)]) (vs := [(0, _), (1, _), (5, _), (6, _), (7, _), (10, _)]) (cells := [_, _, .int .u32 0, .int .u64 0, .int .u64 0, _, _, _, .int .i64 0, .slice none 0 0, _]) kr_ kr_ rfl rfl) ?_
  refine WL.h rfl (Hd.alloc (zs := [.int .i64 0, .int .u32 0, .int .u32 0, .int .u64 0, .int .u64 0, .int .u32 0, .int .i64 0, .bool false, .int .i64 0, .slice none 0 0, .slice none 0 0]) kr_ fun b4 => ⟨_, rfl, ?_⟩)
  refine WL.s (Hd.storeAll (n := 11) kr_ rfl rfl (by rfl) one_ fr_ (by rfl) ⟨rfl, ?_⟩)
  refine WL.nil ?_
  refine DN.then_normal ?_
  refine WC.seq ?_
  refine WC.region ?_
  refine WL.y rfl (Yd.move rfl) ?_
  refine WL.y rfl (Yd.notNil rfl) ?_
  refine WL.y rfl (Yd.fieldAddr (k := 0) kr_ rfl) ?_
  refine WL.y rfl (Yd.fieldAddr (k := 0) kr_ rfl) ?_
  refine WL.h rfl (Hd.load1 kr_ rfl mem_ (by rfl) ⟨_, rfl, ?_⟩)
  refine WL.y rfl (Yd.assign rfl) ?_
  refine WL.nil ?_
  refine DN.then_normal ?_
  refine WC.cutK (fun z : Nat × (Option Addr × Nat) × (Option Addr × Nat) × List Ck × List Ck => Ob 5 (.slice z.2.1.1 kk.asked.length z.2.1.2) kk.asked z.2.2.2.1 ∧ Ob 5 (.slice z.2.2.1.1 kk.reply.length z.2.2.1.2) kk.reply z.2.2.2.2) (fun z : Nat × (Option Addr × Nat) × (Option Addr × Nat) × List Ck × List Ck => [(6, .int .i64 act), (7, .pointer (some ⟨z.1, 0, none⟩)), (8, .int .i64 er)]) (fun z : Nat × (Option Addr × Nat) × (Option Addr × Nat) × List Ck × List Ck => row z.1 (kc kk (.slice z.2.1.1 kk.asked.length z.2.1.2) (.slice z.2.2.1.1 kk.reply.length z.2.2.1.2)) 43 :: (z.2.2.2.1 ++ (z.2.2.2.2 ++ (row b4 (ntc (noteOf c) (.slice none 0 0) (.slice vo9 c.data.length vc9)) 29 :: row b3 (clc c (.slice vo9 c.data.length vc9)) 70 :: row p [.int .u32 (s.e).toNat, .slice lo s.ks.length lc, .slice do_ s.done.length dc, .slice to_ s.told.length tc, .slice oo s.over.length oc, .bool false] 50 :: (CF ++ (Cd ++ (Ct ++ (Dt ++ (Co ++ H))))))))) ?_ ?_
  · refine WC.draw 14 kr_ rfl ?_
    refine WA.y (i := 0) (NoPanic.then (NoPanic.body)) rfl kr_ kr_ kr_ rfl (Yd.move rfl) ?_
    refine WA.y (i := 1) (NoPanic.then (NoPanic.body)) rfl kr_ kr_ kr_ rfl (Yd.notNil rfl) ?_
    refine WA.y (i := 2) (NoPanic.then (NoPanic.body)) rfl kr_ kr_ kr_ rfl (Yd.fieldAddr (k := 0) kr_ rfl) ?_
    refine WA.reads [(3, 42, _), (4, 43, _)] [3, 4] [([], 10), ([3], 10), ([4], 10)] 9 rfl rfl (List.forall_mem_cons.2 ⟨ReadAt.mk rfl Wt.none rfl (Rd.loadA (n := 2) (vs := [_, _]) kr_ rfl mem_ (by rfl) (by rfl)), List.forall_mem_cons.2 ⟨ReadAt.mk rfl Wt.none rfl (Rd.loadAll (n := 11) kr_ rfl mem_ (by rfl)), fun _ h => absurd h List.not_mem_nil⟩⟩) (by decide) (by simp) (List.forall_mem_cons.2 ⟨rfl, List.forall_mem_cons.2 ⟨rfl, fun _ h => absurd h List.not_mem_nil⟩⟩) kr_ (List.forall_mem_cons.2 ⟨?_, List.forall_mem_cons.2 ⟨?_, List.forall_mem_cons.2 ⟨?_, fun _ h => absurd h List.not_mem_nil⟩⟩⟩) ?_
    · change WO _ _ _ _ _ _ 10 _ 10 ([] ++ _) _
      refine WO.h rfl Wt.none rfl (Hd.alloc (zs := [.int .u32 0, .int .i64 0, .bool false, .slice none 0 0, .int .i64 0, .slice none 0 0]) kr_ fun b7 => ⟨_, rfl, ?_⟩)
      refine WA.reads [(3, 42, _), (4, 43, _)] [3, 4] [] 8 rfl rfl (List.forall_mem_cons.2 ⟨ReadAt.mk rfl Wt.none rfl (Rd.loadA (n := 2) (vs := [_, _]) kr_ rfl mem_ (by rfl) (by rfl)), List.forall_mem_cons.2 ⟨ReadAt.mk rfl Wt.none rfl (Rd.loadAll (n := 11) kr_ rfl mem_ (by rfl)), fun _ h => absurd h List.not_mem_nil⟩⟩) (by decide) (by simp) (List.forall_mem_cons.2 ⟨rfl, List.forall_mem_cons.2 ⟨rfl, fun _ h => absurd h List.not_mem_nil⟩⟩) kr_ (fun _ h => absurd h List.not_mem_nil) ?_
      · change WA _ _ _ _ _ _ 8 _ ([(42, _), (43, _)] ++ _) _
        refine WA.one (i := 5) kr_ ?_
        refine WO.c rfl Wt.none rfl (Ent.func Try.call24 rfl) (ask_tells s.e _ s.ks (CF ++ H) (hF.kv.mono gr_) (by omega) (noteOf c) (.slice none 0 0) (.slice vo9 c.data.length vc9) (Bs_nil _) (hvc.mono gr_)) (Sp.p sp_) ?_
        rintro xa Ha ⟨wa, wr, A, B, rfl, hA, hB, rfl⟩
        rw [← hq] at hA hB ⊢
        dsimp only at hA hB ⊢
        obtain ⟨oa, ca, rfl, _⟩ := hA.form
        obtain ⟨or_, cr, rfl, _⟩ := hB.form
        refine WA.y (i := 6) (NoPanic.then (NoPanic.body)) rfl kr_ kr_ kr_ rfl (Yd.move rfl) ?_
        refine WA.y (i := 7) (NoPanic.then (NoPanic.body)) rfl kr_ kr_ kr_ rfl (Yd.extract rfl rfl) ?_
        refine WA.y (i := 8) (NoPanic.then (NoPanic.body)) rfl kr_ kr_ kr_ rfl (Yd.extract rfl rfl) ?_
        refine WA.y (i := 9) (NoPanic.then (NoPanic.body)) rfl kr_ kr_ kr_ rfl (Yd.extract rfl rfl) ?_
        refine WA.y (i := 11) (NoPanic.then (NoPanic.body)) rfl kr_ kr_ kr_ rfl (Yd.assign rfl) ?_
        refine WA.one (i := 12) kr_ ?_
        refine WO.s rfl Wt.none (Hd.storeAll (n := 6) kr_ rfl rfl (by rfl) (kc_one rfl rfl) fr_ (by rfl) ⟨rfl, ?_⟩)
        refine WA.y (i := 13) (NoPanic.then (NoPanic.body)) rfl kr_ kr_ kr_ rfl (Yd.assign rfl) ?_
        refine WA.done kr_ ?_
        exact DN.reachS ((b7, (oa, ca), (or_, cr), A, B)) (⟨hA, hB⟩) (Sx.put rfl (Sx.put rfl (Sx.put rfl (sx_)))) sp_
    · change WO _ _ _ _ _ _ 9 _ 10 ([(42, _)] ++ _) _
      refine WO.h rfl Wt.none rfl (Hd.alloc (zs := [.int .u32 0, .int .i64 0, .bool false, .slice none 0 0, .int .i64 0, .slice none 0 0]) kr_ fun b7 => ⟨_, rfl, ?_⟩)
      refine WA.one (i := 4) kr_ ?_
      refine WO.h rfl Wt.none rfl (Hd.loadAll (n := 11) kr_ rfl mem_ (by rfl) ⟨_, rfl, ?_⟩)
      refine WA.one (i := 5) kr_ ?_
      refine WO.c rfl Wt.none rfl (Ent.func Try.call24 rfl) (ask_tells s.e _ s.ks (CF ++ H) (hF.kv.mono gr_) (by omega) (noteOf c) (.slice none 0 0) (.slice vo9 c.data.length vc9) (Bs_nil _) (hvc.mono gr_)) (Sp.p sp_) ?_
      rintro xa Ha ⟨wa, wr, A, B, rfl, hA, hB, rfl⟩
      rw [← hq] at hA hB ⊢
      dsimp only at hA hB ⊢
      obtain ⟨oa, ca, rfl, _⟩ := hA.form
      obtain ⟨or_, cr, rfl, _⟩ := hB.form
      refine WA.y (i := 6) (NoPanic.then (NoPanic.body)) rfl kr_ kr_ kr_ rfl (Yd.move rfl) ?_
      refine WA.y (i := 7) (NoPanic.then (NoPanic.body)) rfl kr_ kr_ kr_ rfl (Yd.extract rfl rfl) ?_
      refine WA.y (i := 8) (NoPanic.then (NoPanic.body)) rfl kr_ kr_ kr_ rfl (Yd.extract rfl rfl) ?_
      refine WA.y (i := 9) (NoPanic.then (NoPanic.body)) rfl kr_ kr_ kr_ rfl (Yd.extract rfl rfl) ?_
      refine WA.y (i := 11) (NoPanic.then (NoPanic.body)) rfl kr_ kr_ kr_ rfl (Yd.assign rfl) ?_
      refine WA.one (i := 12) kr_ ?_
      refine WO.s rfl Wt.none (Hd.storeAll (n := 6) kr_ rfl rfl (by rfl) (kc_one rfl rfl) fr_ (by rfl) ⟨rfl, ?_⟩)
      refine WA.y (i := 13) (NoPanic.then (NoPanic.body)) rfl kr_ kr_ kr_ rfl (Yd.assign rfl) ?_
      refine WA.done kr_ ?_
      exact DN.reachS ((b7, (oa, ca), (or_, cr), A, B)) (⟨hA, hB⟩) (Sx.put rfl (Sx.put rfl (Sx.put rfl (sx_)))) sp_
    · change WO _ _ _ _ _ _ 9 _ 10 ([(43, _)] ++ _) _
      refine WO.h rfl Wt.none rfl (Hd.alloc (zs := [.int .u32 0, .int .i64 0, .bool false, .slice none 0 0, .int .i64 0, .slice none 0 0]) kr_ fun b7 => ⟨_, rfl, ?_⟩)
      refine WA.one (i := 3) kr_ ?_
      refine WO.h rfl Wt.none rfl (Hd.loadA (n := 2) (vs := [_, _]) kr_ rfl mem_ (by rfl) (by rfl) ⟨_, rfl, ?_⟩)
      refine WA.one (i := 5) kr_ ?_
      refine WO.c rfl Wt.none rfl (Ent.func Try.call24 rfl) (ask_tells s.e _ s.ks (CF ++ H) (hF.kv.mono gr_) (by omega) (noteOf c) (.slice none 0 0) (.slice vo9 c.data.length vc9) (Bs_nil _) (hvc.mono gr_)) (Sp.p sp_) ?_
      rintro xa Ha ⟨wa, wr, A, B, rfl, hA, hB, rfl⟩
      rw [← hq] at hA hB ⊢
      dsimp only at hA hB ⊢
      obtain ⟨oa, ca, rfl, _⟩ := hA.form
      obtain ⟨or_, cr, rfl, _⟩ := hB.form
      refine WA.y (i := 6) (NoPanic.then (NoPanic.body)) rfl kr_ kr_ kr_ rfl (Yd.move rfl) ?_
      refine WA.y (i := 7) (NoPanic.then (NoPanic.body)) rfl kr_ kr_ kr_ rfl (Yd.extract rfl rfl) ?_
      refine WA.y (i := 8) (NoPanic.then (NoPanic.body)) rfl kr_ kr_ kr_ rfl (Yd.extract rfl rfl) ?_
      refine WA.y (i := 9) (NoPanic.then (NoPanic.body)) rfl kr_ kr_ kr_ rfl (Yd.extract rfl rfl) ?_
      refine WA.y (i := 11) (NoPanic.then (NoPanic.body)) rfl kr_ kr_ kr_ rfl (Yd.assign rfl) ?_
      refine WA.one (i := 12) kr_ ?_
      refine WO.s rfl Wt.none (Hd.storeAll (n := 6) kr_ rfl rfl (by rfl) (kc_one rfl rfl) fr_ (by rfl) ⟨rfl, ?_⟩)
      refine WA.y (i := 13) (NoPanic.then (NoPanic.body)) rfl kr_ kr_ kr_ rfl (Yd.assign rfl) ?_
      refine WA.done kr_ ?_
      exact DN.reachS ((b7, (oa, ca), (or_, cr), A, B)) (⟨hA, hB⟩) (Sx.put rfl (Sx.put rfl (Sx.put rfl (sx_)))) sp_
    · change WA _ _ _ _ _ _ 9 _ ([(42, _), (43, _)] ++ _) _
      refine WA.two (i := 5) (j := 10) kr_ ?_ ?_
      · refine WO.c rfl Wt.none rfl (Ent.func Try.call24 rfl) (ask_tells s.e _ s.ks (CF ++ H) (hF.kv.mono gr_) (by omega) (noteOf c) (.slice none 0 0) (.slice vo9 c.data.length vc9) (Bs_nil _) (hvc.mono gr_)) (Sp.p sp_) ?_
        rintro xa Ha ⟨wa, wr, A, B, rfl, hA, hB, rfl⟩
        rw [← hq] at hA hB ⊢
        dsimp only at hA hB ⊢
        obtain ⟨oa, ca, rfl, _⟩ := hA.form
        obtain ⟨or_, cr, rfl, _⟩ := hB.form
        refine WA.y (i := 6) (NoPanic.then (NoPanic.body)) rfl kr_ kr_ kr_ rfl (Yd.move rfl) ?_
        refine WA.y (i := 7) (NoPanic.then (NoPanic.body)) rfl kr_ kr_ kr_ rfl (Yd.extract rfl rfl) ?_
        refine WA.y (i := 8) (NoPanic.then (NoPanic.body)) rfl kr_ kr_ kr_ rfl (Yd.extract rfl rfl) ?_
        refine WA.y (i := 9) (NoPanic.then (NoPanic.body)) rfl kr_ kr_ kr_ rfl (Yd.extract rfl rfl) ?_
        refine WA.one (i := 10) kr_ ?_
        refine WO.h rfl Wt.none rfl (Hd.alloc (zs := [.int .u32 0, .int .i64 0, .bool false, .slice none 0 0, .int .i64 0, .slice none 0 0]) kr_ fun b7 => ⟨_, rfl, ?_⟩)
        refine WA.y (i := 11) (NoPanic.then (NoPanic.body)) rfl kr_ kr_ kr_ rfl (Yd.assign rfl) ?_
        refine WA.one (i := 12) kr_ ?_
        refine WO.s rfl Wt.none (Hd.storeAll (n := 6) kr_ rfl rfl (by rfl) (kc_one rfl rfl) fr_ (by rfl) ⟨rfl, ?_⟩)
        refine WA.y (i := 13) (NoPanic.then (NoPanic.body)) rfl kr_ kr_ kr_ rfl (Yd.assign rfl) ?_
        refine WA.done kr_ ?_
        exact DN.reachS ((b7, (oa, ca), (or_, cr), A, B)) (⟨hA, hB⟩) (Sx.put rfl (Sx.put rfl (Sx.put rfl (sx_)))) sp_
      · refine WO.h rfl Wt.none rfl (Hd.alloc (zs := [.int .u32 0, .int .i64 0, .bool false, .slice none 0 0, .int .i64 0, .slice none 0 0]) kr_ fun b7 => ⟨_, rfl, ?_⟩)
        refine WA.one (i := 5) kr_ ?_
        refine WO.c rfl Wt.none rfl (Ent.func Try.call24 rfl) (ask_tells s.e _ s.ks (CF ++ H) (hF.kv.mono gr_) (by omega) (noteOf c) (.slice none 0 0) (.slice vo9 c.data.length vc9) (Bs_nil _) (hvc.mono gr_)) (Sp.p sp_) ?_
        rintro xa Ha ⟨wa, wr, A, B, rfl, hA, hB, rfl⟩
        rw [← hq] at hA hB ⊢
        dsimp only at hA hB ⊢
        obtain ⟨oa, ca, rfl, _⟩ := hA.form
        obtain ⟨or_, cr, rfl, _⟩ := hB.form
        refine WA.y (i := 6) (NoPanic.then (NoPanic.body)) rfl kr_ kr_ kr_ rfl (Yd.move rfl) ?_
        refine WA.y (i := 7) (NoPanic.then (NoPanic.body)) rfl kr_ kr_ kr_ rfl (Yd.extract rfl rfl) ?_
        refine WA.y (i := 8) (NoPanic.then (NoPanic.body)) rfl kr_ kr_ kr_ rfl (Yd.extract rfl rfl) ?_
        refine WA.y (i := 9) (NoPanic.then (NoPanic.body)) rfl kr_ kr_ kr_ rfl (Yd.extract rfl rfl) ?_
        refine WA.y (i := 11) (NoPanic.then (NoPanic.body)) rfl kr_ kr_ kr_ rfl (Yd.assign rfl) ?_
        refine WA.one (i := 12) kr_ ?_
        refine WO.s rfl Wt.none (Hd.storeAll (n := 6) kr_ rfl rfl (by rfl) (kc_one rfl rfl) fr_ (by rfl) ⟨rfl, ?_⟩)
        refine WA.y (i := 13) (NoPanic.then (NoPanic.body)) rfl kr_ kr_ kr_ rfl (Yd.assign rfl) ?_
        refine WA.done kr_ ?_
        exact DN.reachS ((b7, (oa, ca), (or_, cr), A, B)) (⟨hA, hB⟩) (Sx.put rfl (Sx.put rfl (Sx.put rfl (sx_)))) sp_
  · rintro ⟨b7, ⟨oa, ca⟩, ⟨or_, cr⟩, A, B⟩ ⟨hA, hB⟩
    dsimp only at hA hB ⊢
    refine WC.seq ?_
    refine WC.seq ?_
    refine WC.region ?_
    refine WL.y rfl (Yd.move rfl) ?_
    refine WL.y rfl (Yd.eql rfl rfl) ?_
    refine WL.nil ?_
    refine DN.then_normal ?_
    refine WC.ite rfl (fun h49 => ?_) (fun h49 => ?_)
    · refine WC.seq ?_
      refine WC.region ?_
      refine WL.y rfl (Yd.move rfl) ?_
      refine WL.y rfl (Yd.move rfl) ?_
      refine WL.y rfl (Yd.notNil rfl) ?_
      refine WL.y rfl (Yd.fieldAddr (k := 5) kr_ rfl) ?_
      refine WL.h rfl (Hd.load1 kr_ rfl mem_ (by rfl) ⟨_, rfl, ?_⟩)
      refine WL.y rfl (Yd.move rfl) ?_
      refine WL.renamed (t := 55) (v := .bool false) rfl (congrArg Value.bool (rfl)) ?_
      refine WL.gy (dj := 55) rfl rfl rfl (Yd.fieldAddr (k := 1) kr_ rfl) ?_
      refine WL.gh (dj := 55) rfl rfl rfl (Hd.load1 kr_ rfl mem_ (by rfl) ⟨_, rfl, ?_⟩)
      refine WL.gy (dj := 55) rfl rfl rfl (Yd.move rfl) ?_
      refine WL.gy (dj := 55) rfl rfl rfl (Yd.geq rfl rfl) ?_
      refine WL.y rfl (Yd.pickF rfl rfl) ?_
      refine WL.renamed (t := 60) (v := .bool false) rfl (congrArg Value.bool (decide_eq_false (by omega))) ?_
      refine WL.y rfl (Yd.notNil rfl) ?_
      refine WL.y rfl (Yd.fieldAddr (k := 5) kr_ rfl) ?_
      refine WL.s (Hd.store1s kr_ rfl rfl (by rfl) fr_ (by rfl) (by first | (simp only [List.set_cons_zero, List.set_cons_succ, Nat.zero_add, Nat.add_zero, Nat.reduceAdd]; rfl) | rfl) ⟨rfl, ?_⟩)
      refine WL.nil ?_
      refine DN.then_normal ?_
      refine WC.ret ?_
      refine DN.then_ret ?_
      first
      | refine DN.fit (C := (row p [.int .u32 (epN c).toNat, .slice w8 L2.length x8, .slice d4 dn.length e4, .slice t27 (s.told.length + 1) e27, .slice d7 (s.over.length + 1) e7, .bool false] 50 :: (D8 ++ (C4 ++ (C27 ++ ((Dt ++ (A9 ++ B9)) ++ C29))))) ++ H) sp_ ?_
      | refine DN.fit (C := (row p [.int .u32 (epN c).toNat, .slice w8 L2.length x8, .slice d4 dn.length e4, .slice t27 (s.told.length + 1) e27, .slice oo s.over.length oc, .bool false] 50 :: (D8 ++ (C4 ++ (C27 ++ ((Dt ++ (A9 ++ B9)) ++ Co))))) ++ H) sp_ ?_
      | refine DN.fit (C := (row p [.int .u32 (s.e).toNat, .slice lo s.ks.length lc, .slice do_ s.done.length dc, .slice t2 (s.told.length + 1) e2, .slice oo s.over.length oc, .bool false] 50 :: (CF ++ (Cd ++ (C2 ++ ((Dt ++ (A ++ B)) ++ Co))))) ++ H) sp_ ?_
      | refine DN.fit (C := (row p [.int .u32 (s.e).toNat, .slice lo s.ks.length lc, .slice do_ s.done.length dc, .slice to_ s.told.length tc, .slice oo s.over.length oc, .bool false] 50 :: (CF ++ (Cd ++ (Ct ++ (Dt ++ Co))))) ++ H) sp_ ?_
      refine DN.ret0 Try.results45  ?_
      first
      | (have e9 : callS s c = ⟨epN c, L2, dn, s.told ++ [keptS s c], if c.undo then s.over ++ [keptS s c] else s.over⟩ := by
           unfold callS
           rw [← hq]
           dsimp only
           exact (if_neg (fun h => h hE0)).trans ((if_neg hne).trans (by rw [hL2, hdn, hcd9]))
         rw [e9]
         first
         | (rw [if_pos h241]
            exact ⟨_, ⟨_, D8, _, cd4, C4, _, _, C27, Dt ++ (A9 ++ B9), _, _, C29, rfl, hF8, h4, hK4, by rw [List.length_append]; exact h27, hKt.append (Kts.one' hA9 hB9), by rw [List.length_append]; exact h29, hKo.append (KW.one' rfl rfl)⟩, by simp only [List.cons_append, List.append_assoc, List.length_append, List.length_singleton]⟩)
         | (rw [if_neg (by rw [h241]; decide)]
            exact ⟨_, ⟨_, D8, _, cd4, C4, _, _, C27, Dt ++ (A9 ++ B9), _, co, Co, rfl, hF8, h4, hK4, by rw [List.length_append]; exact h27, hKt.append (Kts.one' hA9 hB9), hOo, hKo⟩, by simp only [List.cons_append, List.append_assoc, List.length_append, List.length_singleton]⟩))
      | (rw [show callS s c = { s with told := s.told ++ [kk] } by unfold callS; rw [← hq, if_neg (fun h => h hE0), if_pos h87]]
         exact ⟨_, ⟨_, CF, _, cd, Cd, _, _, C2, Dt ++ (A ++ B), _, co, Co, rfl, hF, hOd, hKd, by rw [List.length_append]; exact h2, hKt.append (Kts.one' hA hB), hOo, hKo⟩, by simp only [List.cons_append, List.append_assoc, List.length_append, List.length_singleton]⟩)
      | (rw [show callS s c = s from if_pos (by rw [← hq]; first | exact h64 | exact fun h => by have h : er = 0 := h; omega)]
         exact ⟨_, ⟨_, CF, _, cd, Cd, _, ct, Ct, Dt, _, co, Co, rfl, hF, hOd, hKd, hOt, hKt, hOo, hKo⟩, by simp only [List.cons_append, List.append_assoc]⟩)
    · refine WC.skip ?_
      refine DN.then_normal ?_
      refine WC.seq ?_
      refine WC.seq ?_
      refine WC.region ?_
      refine WL.y rfl (Yd.move rfl) ?_
      refine WL.y rfl (Yd.neq rfl rfl) ?_
      refine WL.nil ?_
      refine DN.then_normal ?_
      refine WC.ite rfl (fun h64 => ?_) (fun h64 => ?_)
      · refine WC.seq ?_
        refine WC.region ?_
        refine WL.y rfl (Yd.move rfl) ?_
        refine WL.y rfl (Yd.move rfl) ?_
        refine WL.y rfl (Yd.notNil rfl) ?_
        refine WL.y rfl (Yd.fieldAddr (k := 5) kr_ rfl) ?_
        refine WL.h rfl (Hd.load1 kr_ rfl mem_ (by rfl) ⟨_, rfl, ?_⟩)
        refine WL.y rfl (Yd.move rfl) ?_
        refine WL.renamed (t := 70) (v := .bool false) rfl (congrArg Value.bool (rfl)) ?_
        refine WL.gy (dj := 70) rfl rfl rfl (Yd.move rfl) ?_
        refine WL.gy (dj := 70) rfl rfl rfl (Yd.neq rfl rfl) ?_
        refine WL.y rfl (Yd.pickF rfl rfl) ?_
        refine WL.renamed (t := 73) (v := .bool false) rfl (congrArg Value.bool (decide_eq_false (by omega))) ?_
        refine WL.y rfl (Yd.notNil rfl) ?_
        refine WL.y rfl (Yd.fieldAddr (k := 5) kr_ rfl) ?_
        refine WL.s (Hd.store1s kr_ rfl rfl (by rfl) fr_ (by rfl) (by first | (simp only [List.set_cons_zero, List.set_cons_succ, Nat.zero_add, Nat.add_zero, Nat.reduceAdd]; rfl) | rfl) ⟨rfl, ?_⟩)
        refine WL.nil ?_
        refine DN.then_normal ?_
        refine WC.ret ?_
        refine DN.then_ret ?_
        first
        | refine DN.fit (C := (row p [.int .u32 (epN c).toNat, .slice w8 L2.length x8, .slice d4 dn.length e4, .slice t27 (s.told.length + 1) e27, .slice d7 (s.over.length + 1) e7, .bool false] 50 :: (D8 ++ (C4 ++ (C27 ++ ((Dt ++ (A9 ++ B9)) ++ C29))))) ++ H) sp_ ?_
        | refine DN.fit (C := (row p [.int .u32 (epN c).toNat, .slice w8 L2.length x8, .slice d4 dn.length e4, .slice t27 (s.told.length + 1) e27, .slice oo s.over.length oc, .bool false] 50 :: (D8 ++ (C4 ++ (C27 ++ ((Dt ++ (A9 ++ B9)) ++ Co))))) ++ H) sp_ ?_
        | refine DN.fit (C := (row p [.int .u32 (s.e).toNat, .slice lo s.ks.length lc, .slice do_ s.done.length dc, .slice t2 (s.told.length + 1) e2, .slice oo s.over.length oc, .bool false] 50 :: (CF ++ (Cd ++ (C2 ++ ((Dt ++ (A ++ B)) ++ Co))))) ++ H) sp_ ?_
        | refine DN.fit (C := (row p [.int .u32 (s.e).toNat, .slice lo s.ks.length lc, .slice do_ s.done.length dc, .slice to_ s.told.length tc, .slice oo s.over.length oc, .bool false] 50 :: (CF ++ (Cd ++ (Ct ++ (Dt ++ Co))))) ++ H) sp_ ?_
        refine DN.ret0 Try.results45  ?_
        first
        | (have e9 : callS s c = ⟨epN c, L2, dn, s.told ++ [keptS s c], if c.undo then s.over ++ [keptS s c] else s.over⟩ := by
             unfold callS
             rw [← hq]
             dsimp only
             exact (if_neg (fun h => h hE0)).trans ((if_neg hne).trans (by rw [hL2, hdn, hcd9]))
           rw [e9]
           first
           | (rw [if_pos h241]
              exact ⟨_, ⟨_, D8, _, cd4, C4, _, _, C27, Dt ++ (A9 ++ B9), _, _, C29, rfl, hF8, h4, hK4, by rw [List.length_append]; exact h27, hKt.append (Kts.one' hA9 hB9), by rw [List.length_append]; exact h29, hKo.append (KW.one' rfl rfl)⟩, by simp only [List.cons_append, List.append_assoc, List.length_append, List.length_singleton]⟩)
           | (rw [if_neg (by rw [h241]; decide)]
              exact ⟨_, ⟨_, D8, _, cd4, C4, _, _, C27, Dt ++ (A9 ++ B9), _, co, Co, rfl, hF8, h4, hK4, by rw [List.length_append]; exact h27, hKt.append (Kts.one' hA9 hB9), hOo, hKo⟩, by simp only [List.cons_append, List.append_assoc, List.length_append, List.length_singleton]⟩))
        | (rw [show callS s c = { s with told := s.told ++ [kk] } by unfold callS; rw [← hq, if_neg (fun h => h hE0), if_pos h87]]
           exact ⟨_, ⟨_, CF, _, cd, Cd, _, _, C2, Dt ++ (A ++ B), _, co, Co, rfl, hF, hOd, hKd, by rw [List.length_append]; exact h2, hKt.append (Kts.one' hA hB), hOo, hKo⟩, by simp only [List.cons_append, List.append_assoc, List.length_append, List.length_singleton]⟩)
        | (rw [show callS s c = s from if_pos (by rw [← hq]; first | exact h64 | exact fun h => by have h : er = 0 := h; omega)]
           exact ⟨_, ⟨_, CF, _, cd, Cd, _, ct, Ct, Dt, _, co, Co, rfl, hF, hOd, hKd, hOt, hKt, hOo, hKo⟩, by simp only [List.cons_append, List.append_assoc]⟩)
      · refine WC.skip ?_
        refine DN.then_normal ?_
        refine WC.seq ?_
        refine WC.region ?_
        refine WL.y rfl (Yd.assign rfl) ?_
        refine WL.nil ?_
        refine DN.then_normal ?_
        refine WC.cutK (fun z : Int => z = codeS c.good act) (fun z : Int => [(9, .int .i64 z)]) (fun z : Int => row b7 (kc kk (.slice oa kk.asked.length ca) (.slice or_ kk.reply.length cr)) 43 :: (A ++ (B ++ (row b4 (ntc (noteOf c) (.slice none 0 0) (.slice vo9 c.data.length vc9)) 29 :: row b3 (clc c (.slice vo9 c.data.length vc9)) 70 :: row p [.int .u32 (s.e).toNat, .slice lo s.ks.length lc, .slice do_ s.done.length dc, .slice to_ s.told.length tc, .slice oo s.over.length oc, .bool false] 50 :: (CF ++ (Cd ++ (Ct ++ (Dt ++ (Co ++ H))))))))) ?_ ?_
        · refine WC.cutK (fun z : Bool => z = decide ((c.good = true ∧ act = 1) ∨ act = 4)) (fun z : Bool => [(85, .bool z)]) (fun z : Bool => row b7 (kc kk (.slice oa kk.asked.length ca) (.slice or_ kk.reply.length cr)) 43 :: (A ++ (B ++ (row b4 (ntc (noteOf c) (.slice none 0 0) (.slice vo9 c.data.length vc9)) 29 :: row b3 (clc c (.slice vo9 c.data.length vc9)) 70 :: row p [.int .u32 (s.e).toNat, .slice lo s.ks.length lc, .slice do_ s.done.length dc, .slice to_ s.told.length tc, .slice oo s.over.length oc, .bool false] 50 :: (CF ++ (Cd ++ (Ct ++ (Dt ++ (Co ++ H))))))))) ?_ ?_
          · refine WC.region ?_
            refine WL.y rfl (Yd.fieldAddr (k := 5) kr_ rfl) ?_
            refine WL.h rfl (Hd.load1 kr_ rfl mem_ (by rfl) ⟨_, rfl, ?_⟩)
            refine WL.y rfl (Yd.move rfl) ?_
            refine WL.part (t := 78) rfl (fun hg78 => ?_) (fun hg78 => ?_)
            · refine WL.gy (dj := 78) rfl rfl rfl (Yd.move rfl) ?_
              refine WL.gy (dj := 78) rfl rfl rfl (Yd.eql rfl rfl) ?_
              refine WL.y rfl (Yd.pickT rfl rfl) ?_
              refine WL.y rfl (Yd.move rfl) ?_
              refine WL.part (t := 82) rfl (fun hg82 => ?_) (fun hg82 => ?_)
              · refine WL.gn (dj := 82) rfl rfl rfl rfl ?_
                refine WL.gn (dj := 82) rfl rfl rfl rfl ?_
                refine WL.y rfl (Yd.pickT rfl rfl) ?_
                refine WL.nil ?_
                exact DN.reachS (_) (by first | exact code_a hg78 hg82 | exact code_b hg78 hg82 | exact code_c hg78) (Sx.put rfl (sx_)) sp_
              · refine WL.gy (dj := 82) rfl rfl rfl (Yd.move rfl) ?_
                refine WL.gy (dj := 82) rfl rfl rfl (Yd.eql rfl rfl) ?_
                refine WL.y rfl (Yd.pickF rfl rfl) ?_
                refine WL.nil ?_
                exact DN.reachS (_) (by first | exact code_a hg78 hg82 | exact code_b hg78 hg82 | exact code_c hg78) (Sx.put rfl (sx_)) sp_
            · refine WL.gn (dj := 78) rfl rfl rfl rfl ?_
              refine WL.gn (dj := 78) rfl rfl rfl rfl ?_
              refine WL.y rfl (Yd.pickF rfl rfl) ?_
              refine WL.y rfl (Yd.move rfl) ?_
              refine WL.gy (dj := 82) rfl rfl rfl (Yd.move rfl) ?_
              refine WL.gy (dj := 82) rfl rfl rfl (Yd.eql rfl rfl) ?_
              refine WL.y rfl (Yd.pickF rfl rfl) ?_
              refine WL.nil ?_
              exact DN.reachS (_) (by first | exact code_a hg78 hg82 | exact code_b hg78 hg82 | exact code_c hg78) (Sx.put rfl (sx_)) sp_
          · intro z85 hz85
            refine WC.cond rfl (fun h85 => ?_) (fun h85 => ?_)
            · refine WC.region ?_
              refine WL.y rfl (Yd.assign rfl) ?_
              refine WL.nil ?_
              exact DN.reachS (_) (code_yes hz85 h85) (Sx.put rfl (sx_)) sp_
            · refine WC.skip ?_
              exact DN.reachS (_) (code_no hz85 h85) (Sx.put rfl (sx_)) sp_
        · intro cd9 hcd9
          have hE0 : er = 0 := Classical.byContradiction h64
          have hOv := hOver hE0
          refine WC.cutK (fun z : List Kp × (Option Addr × Nat) × List Value × List Ck => z.1 = (if act = 1 ∧ cd9 = 1 then s.done ++ [doneK c] else s.done) ∧ act ≠ 2 ∧ Own (.slice z.2.1.1 z.1.length z.2.1.2) z.1.length z.2.2.1 43 6 z.2.2.2 ∧ KW z.2.2.1 z.1) (fun z : List Kp × (Option Addr × Nat) × List Value × List Ck => []) (fun z : List Kp × (Option Addr × Nat) × List Value × List Ck => row b4 (ntc (noteOf c) (.slice none 0 0) (.slice vo9 c.data.length vc9)) 29 :: row b3 (clc c (.slice vo9 c.data.length vc9)) 70 :: row p [.int .u32 (s.e).toNat, .slice lo s.ks.length lc, .slice z.2.1.1 z.1.length z.2.1.2, .slice to_ s.told.length tc, .slice oo s.over.length oc, .bool false] 50 :: (CF ++ (z.2.2.2 ++ (Ct ++ (Dt ++ (Co ++ H)))))) ?_ ?_
          · refine WC.seq ?_
            refine WC.region ?_
            refine WL.y rfl (Yd.move rfl) ?_
            refine WL.nil ?_
            refine DN.then_normal ?_
            refine WC.block ?_
            refine WC.seq ?_
            refine WC.region ?_
            refine WL.y rfl (Yd.eql rfl rfl) ?_
            refine WL.y rfl (Yd.assign rfl) ?_
            refine WL.nil ?_
            refine DN.then_normal ?_
            refine WC.ite rfl (fun h87 => ?_) (fun h87 => ?_)
            · refine WC.seq ?_
              refine WC.draw 11 kr_ rfl ?_
              refine WA.y (i := 0) (NoPanic.then (NoPanic.block (NoPanic.then (NoPanic.body)))) rfl kr_ kr_ kr_ rfl (Yd.move rfl) ?_
              refine WA.y (i := 1) (NoPanic.then (NoPanic.block (NoPanic.then (NoPanic.body)))) rfl kr_ kr_ kr_ rfl (Yd.move rfl) ?_
              refine WA.y (i := 2) (NoPanic.then (NoPanic.block (NoPanic.then (NoPanic.body)))) rfl kr_ kr_ kr_ rfl (Yd.notNil rfl) ?_
              refine WA.y (i := 3) (NoPanic.then (NoPanic.block (NoPanic.then (NoPanic.body)))) rfl kr_ kr_ kr_ rfl (Yd.fieldAddr (k := 3) kr_ rfl) ?_
              have hE0 : er = 0 := Classical.byContradiction h64
              refine WA.reads [(4, 93, _), (5, 94, _)] [4, 5] [([5], 6)] 5 rfl rfl (List.forall_mem_cons.2 ⟨ReadAt.mk rfl Wt.none rfl (Rd.load1 kr_ rfl mem_ (by rfl)), List.forall_mem_cons.2 ⟨ReadAt.mk rfl Wt.none rfl (Rd.loadAll (n := 6) kr_ rfl mem_ (by rfl)), fun _ h => absurd h List.not_mem_nil⟩⟩) (by decide) (by simp) (List.forall_mem_cons.2 ⟨rfl, List.forall_mem_cons.2 ⟨rfl, fun _ h => absurd h List.not_mem_nil⟩⟩) kr_ (List.forall_mem_cons.2 ⟨?_, fun _ h => absurd h List.not_mem_nil⟩) ?_
              · change WO _ _ _ _ _ _ 5 _ 6 ([(94, _)] ++ _) _
                refine WO.h rfl Wt.none rfl (Hd.buildA (e := 43) (sz := 6) (zs := [.int .u32 0, .int .i64 0, .bool false, .slice none 0 0, .int .i64 0, .slice none 0 0]) kr_ kr_ kr_ rfl rfl (by rfl) kr_ fun b95 => ⟨_, rfl, ?_⟩)
                refine WA.one (i := 4) kr_ ?_
                refine WO.h rfl Wt.none rfl (Hd.load1 kr_ rfl mem_ (by rfl) ⟨_, rfl, ?_⟩)
                refine WA.one (i := 7) kr_ ?_
                refine WO.h rfl Wt.none rfl (Hd.appendRow (e := 43) (sz := 6) (bytes := 80) (zs := [.int .u32 0, .int .i64 0, .bool false, .slice none 0 0, .int .i64 0, .slice none 0 0]) kr_ kr_ rfl (by omega) rfl rfl (hOt) sp_ mem_ (by rfl) (kc_one rfl rfl) (by simp only [maxLen]; omega) (by omega) fun v2 C2 h2 => ⟨_, rfl, ?_⟩)
                obtain ⟨t2, e2, rfl, _⟩ := h2.form
                refine WA.y (i := 8) (NoPanic.then (NoPanic.block (NoPanic.then (NoPanic.body)))) rfl kr_ kr_ kr_ rfl (Yd.notNil rfl) ?_
                refine WA.y (i := 9) (NoPanic.then (NoPanic.block (NoPanic.then (NoPanic.body)))) rfl kr_ kr_ kr_ rfl (Yd.fieldAddr (k := 3) kr_ rfl) ?_
                refine WA.one (i := 10) kr_ ?_
                refine WO.s rfl Wt.none (Hd.store1s kr_ rfl rfl (by rfl) fr_ (by rfl) (by first | (simp only [List.set_cons_zero, List.set_cons_succ, Nat.zero_add, Nat.add_zero, Nat.reduceAdd]; rfl) | rfl) ⟨rfl, ?_⟩)
                refine WA.done kr_ ?_
                refine DN.then_normal ?_
                refine WC.ret ?_
                refine DN.block_ret ?_
                refine DN.then_ret ?_
                first
                | refine DN.fit (C := (row p [.int .u32 (epN c).toNat, .slice w8 L2.length x8, .slice d4 dn.length e4, .slice t27 (s.told.length + 1) e27, .slice d7 (s.over.length + 1) e7, .bool false] 50 :: (D8 ++ (C4 ++ (C27 ++ ((Dt ++ (A9 ++ B9)) ++ C29))))) ++ H) sp_ ?_
                | refine DN.fit (C := (row p [.int .u32 (epN c).toNat, .slice w8 L2.length x8, .slice d4 dn.length e4, .slice t27 (s.told.length + 1) e27, .slice oo s.over.length oc, .bool false] 50 :: (D8 ++ (C4 ++ (C27 ++ ((Dt ++ (A9 ++ B9)) ++ Co))))) ++ H) sp_ ?_
                | refine DN.fit (C := (row p [.int .u32 (s.e).toNat, .slice lo s.ks.length lc, .slice do_ s.done.length dc, .slice t2 (s.told.length + 1) e2, .slice oo s.over.length oc, .bool false] 50 :: (CF ++ (Cd ++ (C2 ++ ((Dt ++ (A ++ B)) ++ Co))))) ++ H) sp_ ?_
                | refine DN.fit (C := (row p [.int .u32 (s.e).toNat, .slice lo s.ks.length lc, .slice do_ s.done.length dc, .slice to_ s.told.length tc, .slice oo s.over.length oc, .bool false] 50 :: (CF ++ (Cd ++ (Ct ++ (Dt ++ Co))))) ++ H) sp_ ?_
                refine DN.ret0 Try.results45  ?_
                first
                | (have e9 : callS s c = ⟨epN c, L2, dn, s.told ++ [keptS s c], if c.undo then s.over ++ [keptS s c] else s.over⟩ := by
                     unfold callS
                     rw [← hq]
                     dsimp only
                     exact (if_neg (fun h => h hE0)).trans ((if_neg hne).trans (by rw [hL2, hdn, hcd9]))
                   rw [e9]
                   first
                   | (rw [if_pos h241]
                      exact ⟨_, ⟨_, D8, _, cd4, C4, _, _, C27, Dt ++ (A9 ++ B9), _, _, C29, rfl, hF8, h4, hK4, by rw [List.length_append]; exact h27, hKt.append (Kts.one' hA9 hB9), by rw [List.length_append]; exact h29, hKo.append (KW.one' rfl rfl)⟩, by simp only [List.cons_append, List.append_assoc, List.length_append, List.length_singleton]⟩)
                   | (rw [if_neg (by rw [h241]; decide)]
                      exact ⟨_, ⟨_, D8, _, cd4, C4, _, _, C27, Dt ++ (A9 ++ B9), _, co, Co, rfl, hF8, h4, hK4, by rw [List.length_append]; exact h27, hKt.append (Kts.one' hA9 hB9), hOo, hKo⟩, by simp only [List.cons_append, List.append_assoc, List.length_append, List.length_singleton]⟩))
                | (rw [show callS s c = { s with told := s.told ++ [kk] } by unfold callS; rw [← hq, if_neg (fun h => h hE0), if_pos h87]]
                   exact ⟨_, ⟨_, CF, _, cd, Cd, _, _, C2, Dt ++ (A ++ B), _, co, Co, rfl, hF, hOd, hKd, by rw [List.length_append]; exact h2, hKt.append (Kts.one' hA hB), hOo, hKo⟩, by simp only [List.cons_append, List.append_assoc, List.length_append, List.length_singleton]⟩)
                | (rw [show callS s c = s from if_pos (by rw [← hq]; first | exact h64 | exact fun h => by have h : er = 0 := h; omega)]
                   exact ⟨_, ⟨_, CF, _, cd, Cd, _, ct, Ct, Dt, _, co, Co, rfl, hF, hOd, hKd, hOt, hKt, hOo, hKo⟩, by simp only [List.cons_append, List.append_assoc]⟩)
              · change WA _ _ _ _ _ _ 5 _ ([(93, _), (94, _)] ++ _) _
                refine WA.one (i := 6) kr_ ?_
                refine WO.h rfl Wt.none rfl (Hd.buildA (e := 43) (sz := 6) (zs := [.int .u32 0, .int .i64 0, .bool false, .slice none 0 0, .int .i64 0, .slice none 0 0]) kr_ kr_ kr_ rfl rfl (by rfl) kr_ fun b95 => ⟨_, rfl, ?_⟩)
                refine WA.one (i := 7) kr_ ?_
                refine WO.h rfl Wt.none rfl (Hd.appendRow (e := 43) (sz := 6) (bytes := 80) (zs := [.int .u32 0, .int .i64 0, .bool false, .slice none 0 0, .int .i64 0, .slice none 0 0]) kr_ kr_ rfl (by omega) rfl rfl (hOt) sp_ mem_ (by rfl) (kc_one rfl rfl) (by simp only [maxLen]; omega) (by omega) fun v2 C2 h2 => ⟨_, rfl, ?_⟩)
                obtain ⟨t2, e2, rfl, _⟩ := h2.form
                refine WA.y (i := 8) (NoPanic.then (NoPanic.block (NoPanic.then (NoPanic.body)))) rfl kr_ kr_ kr_ rfl (Yd.notNil rfl) ?_
                refine WA.y (i := 9) (NoPanic.then (NoPanic.block (NoPanic.then (NoPanic.body)))) rfl kr_ kr_ kr_ rfl (Yd.fieldAddr (k := 3) kr_ rfl) ?_
                refine WA.one (i := 10) kr_ ?_
                refine WO.s rfl Wt.none (Hd.store1s kr_ rfl rfl (by rfl) fr_ (by rfl) (by first | (simp only [List.set_cons_zero, List.set_cons_succ, Nat.zero_add, Nat.add_zero, Nat.reduceAdd]; rfl) | rfl) ⟨rfl, ?_⟩)
                refine WA.done kr_ ?_
                refine DN.then_normal ?_
                refine WC.ret ?_
                refine DN.block_ret ?_
                refine DN.then_ret ?_
                first
                | refine DN.fit (C := (row p [.int .u32 (epN c).toNat, .slice w8 L2.length x8, .slice d4 dn.length e4, .slice t27 (s.told.length + 1) e27, .slice d7 (s.over.length + 1) e7, .bool false] 50 :: (D8 ++ (C4 ++ (C27 ++ ((Dt ++ (A9 ++ B9)) ++ C29))))) ++ H) sp_ ?_
                | refine DN.fit (C := (row p [.int .u32 (epN c).toNat, .slice w8 L2.length x8, .slice d4 dn.length e4, .slice t27 (s.told.length + 1) e27, .slice oo s.over.length oc, .bool false] 50 :: (D8 ++ (C4 ++ (C27 ++ ((Dt ++ (A9 ++ B9)) ++ Co))))) ++ H) sp_ ?_
                | refine DN.fit (C := (row p [.int .u32 (s.e).toNat, .slice lo s.ks.length lc, .slice do_ s.done.length dc, .slice t2 (s.told.length + 1) e2, .slice oo s.over.length oc, .bool false] 50 :: (CF ++ (Cd ++ (C2 ++ ((Dt ++ (A ++ B)) ++ Co))))) ++ H) sp_ ?_
                | refine DN.fit (C := (row p [.int .u32 (s.e).toNat, .slice lo s.ks.length lc, .slice do_ s.done.length dc, .slice to_ s.told.length tc, .slice oo s.over.length oc, .bool false] 50 :: (CF ++ (Cd ++ (Ct ++ (Dt ++ Co))))) ++ H) sp_ ?_
                refine DN.ret0 Try.results45  ?_
                first
                | (have e9 : callS s c = ⟨epN c, L2, dn, s.told ++ [keptS s c], if c.undo then s.over ++ [keptS s c] else s.over⟩ := by
                     unfold callS
                     rw [← hq]
                     dsimp only
                     exact (if_neg (fun h => h hE0)).trans ((if_neg hne).trans (by rw [hL2, hdn, hcd9]))
                   rw [e9]
                   first
                   | (rw [if_pos h241]
                      exact ⟨_, ⟨_, D8, _, cd4, C4, _, _, C27, Dt ++ (A9 ++ B9), _, _, C29, rfl, hF8, h4, hK4, by rw [List.length_append]; exact h27, hKt.append (Kts.one' hA9 hB9), by rw [List.length_append]; exact h29, hKo.append (KW.one' rfl rfl)⟩, by simp only [List.cons_append, List.append_assoc, List.length_append, List.length_singleton]⟩)
                   | (rw [if_neg (by rw [h241]; decide)]
                      exact ⟨_, ⟨_, D8, _, cd4, C4, _, _, C27, Dt ++ (A9 ++ B9), _, co, Co, rfl, hF8, h4, hK4, by rw [List.length_append]; exact h27, hKt.append (Kts.one' hA9 hB9), hOo, hKo⟩, by simp only [List.cons_append, List.append_assoc, List.length_append, List.length_singleton]⟩))
                | (rw [show callS s c = { s with told := s.told ++ [kk] } by unfold callS; rw [← hq, if_neg (fun h => h hE0), if_pos h87]]
                   exact ⟨_, ⟨_, CF, _, cd, Cd, _, _, C2, Dt ++ (A ++ B), _, co, Co, rfl, hF, hOd, hKd, by rw [List.length_append]; exact h2, hKt.append (Kts.one' hA hB), hOo, hKo⟩, by simp only [List.cons_append, List.append_assoc, List.length_append, List.length_singleton]⟩)
                | (rw [show callS s c = s from if_pos (by rw [← hq]; first | exact h64 | exact fun h => by have h : er = 0 := h; omega)]
                   exact ⟨_, ⟨_, CF, _, cd, Cd, _, ct, Ct, Dt, _, co, Co, rfl, hF, hOd, hKd, hOt, hKt, hOo, hKo⟩, by simp only [List.cons_append, List.append_assoc]⟩)
            · refine WC.seq ?_
              refine WC.region ?_
              refine WL.y rfl (Yd.eql rfl rfl) ?_
              refine WL.y rfl (Yd.assign rfl) ?_
              refine WL.nil ?_
              refine DN.then_normal ?_
              refine WC.ite rfl (fun h99 => ?_) (fun h99 => ?_)
              · refine WC.seq ?_
                refine WC.seq ?_
                refine WC.region ?_
                refine WL.y rfl (Yd.assign rfl) ?_
                refine WL.nil ?_
                refine DN.then_normal ?_
                refine WC.block ?_
                refine WC.loopS (fun z : Nat => z ≤ s.over.length) (fun z : Nat => [(10, .int .i64 (z : Int))]) (fun z : Nat => row b7 (kc kk (.slice oa kk.asked.length ca) (.slice or_ kk.reply.length cr)) 43 :: (A ++ (B ++ (row b4 (ntc (noteOf c) (.slice none 0 0) (.slice vo9 c.data.length vc9)) 29 :: row b3 (clc c (.slice vo9 c.data.length vc9)) 70 :: row p [.int .u32 (s.e).toNat, .slice lo s.ks.length lc, .slice do_ s.done.length dc, .slice to_ s.told.length tc, .slice oo s.over.length oc, .bool false] 50 :: (CF ++ (Cd ++ (Ct ++ (Dt ++ (Co ++ H))))))))) (fun z : Nat => s.over.length - z) (0) (show 0 ≤ s.over.length from Nat.zero_le _) (Sx.put rfl (sx_)) sp_ ?_
                rintro j hI
                replace hI : j ≤ s.over.length := hI
                obtain hj := hI
                change WC _ _ _ _ _ _ ([(10, .int .i64 (j : Int))] ++ _) (row b7 (kc kk (.slice oa kk.asked.length ca) (.slice or_ kk.reply.length cr)) 43 :: (A ++ (B ++ (row b4 (ntc (noteOf c) (.slice none 0 0) (.slice vo9 c.data.length vc9)) 29 :: row b3 (clc c (.slice vo9 c.data.length vc9)) 70 :: row p [.int .u32 (s.e).toNat, .slice lo s.ks.length lc, .slice do_ s.done.length dc, .slice to_ s.told.length tc, .slice oo s.over.length oc, .bool false] 50 :: (CF ++ (Cd ++ (Ct ++ (Dt ++ (Co ++ H)))))))))
                refine WC.seq ?_
                refine WC.seq ?_
                refine WC.region ?_
                refine WL.y rfl (Yd.move rfl) ?_
                refine WL.y rfl (Yd.move rfl) ?_
                refine WL.y rfl (Yd.notNil rfl) ?_
                refine WL.y rfl (Yd.fieldAddr (k := 4) kr_ rfl) ?_
                refine WL.h rfl (Hd.load1 kr_ rfl mem_ (by rfl) ⟨_, rfl, ?_⟩)
                refine WL.y rfl (Yd.len (e := 43) kr_ rfl) ?_
                refine WL.y rfl (Yd.lss rfl rfl) ?_
                refine WL.nil ?_
                refine DN.then_normal ?_
                refine WC.ite rfl (fun h107 => ?_) (fun h107 => ?_)
                · have hlt : j < s.over.length := by omega
                  obtain ⟨va, vr, hg, hva, hvr⟩ := hKo.at j hlt
                  obtain ⟨lb, lf, lcs, lT, lfr, lex, elo, _, hlm, hlcs⟩ := hOo.rs.lies (by omega)
                  have hno := hOv h99 _ (List.getElem_mem hlt)
                  have hKol := hKo.len
                  refine WC.skip ?_
                  refine DN.then_normal ?_
                  refine WC.seq ?_
                  refine WC.block ?_
                  refine WC.draw 34 kr_ rfl ?_
                  refine WA.quiet 31 3 rfl rfl kr_ kr_ kr_ rfl ?_
                  refine WQ.y rfl (Yd.move rfl) ?_
                  refine WQ.y rfl (Yd.move rfl) ?_
                  refine WQ.y rfl (Yd.notNil rfl) ?_
                  refine WQ.y rfl (Yd.fieldAddr (k := 5) kr_ rfl) ?_
                  refine WQ.rd rfl Wt.none (Rd.load1 kr_ rfl mem_ (by rfl)) ?_
                  refine WQ.y rfl (Yd.move rfl) ?_
                  refine WQ.renamed (t := 115) (v := .bool false) rfl (congrArg Value.bool (rfl)) ?_
                  refine WQ.gy (dj := 115) rfl rfl rfl (Yd.move rfl) ?_
                  refine WQ.gy (dj := 115) rfl rfl rfl (Yd.notNil rfl) ?_
                  refine WQ.gy (dj := 115) rfl rfl rfl (Yd.fieldAddr (k := 4) kr_ rfl) ?_
                  refine WQ.rd rfl (Wt.yes (dj := 115) rfl rfl) (Rd.load1 kr_ rfl mem_ (by rfl)) ?_
                  refine WQ.gy (dj := 115) rfl rfl rfl (Yd.move rfl) ?_
                  refine WQ.gy (dj := 115) rfl rfl rfl (Yd.indexAddr (e := 43) (s := 6) (b := lb) (o := lf) (n := s.over.length) (c := oc) kr_ kr_ (congrArg (fun q => some (Value.slice q s.over.length oc)) elo) rfl (by omega) (by omega)) ?_
                  refine WQ.gy (dj := 115) rfl rfl rfl (Yd.fieldAddr (k := 0) kr_ rfl) ?_
                  refine WQ.rd rfl (Wt.yes (dj := 115) rfl rfl) (Rd.load1 (v := .int .u32 s.over[j].order.toNat) (b := lb) (o := lf + (j : Int).toNat * 6 + 0) (cs := lcs) kr_ rfl (Gr.get gr_ hlm) (kc_cell hlcs (by omega) hg rfl)) ?_
                  refine WQ.gy (dj := 115) rfl rfl rfl (Yd.fieldAddr (k := 5) kr_ rfl) ?_
                  refine WQ.rd rfl (Wt.yes (dj := 115) rfl rfl) (Rd.load1 kr_ rfl mem_ (by rfl)) ?_
                  refine WQ.gy (dj := 115) rfl rfl rfl (Yd.eql32 _ _ rfl rfl rfl rfl) ?_
                  refine WQ.gy (dj := 115) rfl rfl rfl (Yd.move rfl) ?_
                  refine WQ.partP (t := 127) rfl (fun hg127 => ?_) (fun hg127 => ?_)
                  · refine WQ.gy (dj := 127) rfl rfl rfl (Yd.move rfl) ?_
                    refine WQ.gy (dj := 127) rfl rfl rfl (Yd.notNil rfl) ?_
                    refine WQ.gy (dj := 127) rfl rfl rfl (Yd.fieldAddr (k := 4) kr_ rfl) ?_
                    refine WQ.rd rfl (Wt.yes (dj := 127) rfl rfl) (Rd.load1 kr_ rfl mem_ (by rfl)) ?_
                    refine WQ.gy (dj := 127) rfl rfl rfl (Yd.move rfl) ?_
                    refine WQ.gy (dj := 127) rfl rfl rfl (Yd.indexAddr (e := 43) (s := 6) (b := lb) (o := lf) (n := s.over.length) (c := oc) kr_ kr_ (congrArg (fun q => some (Value.slice q s.over.length oc)) elo) rfl (by omega) (by omega)) ?_
                    refine WQ.gy (dj := 127) rfl rfl rfl (Yd.fieldAddr (k := 1) kr_ rfl) ?_
                    refine WQ.rd rfl (Wt.yes (dj := 127) rfl rfl) (Rd.load1 (v := .int .i64 s.over[j].step) (b := lb) (o := lf + (j : Int).toNat * 6 + 1) (cs := lcs) kr_ rfl (Gr.get gr_ hlm) (kc_cell hlcs (by omega) hg rfl)) ?_
                    refine WQ.gy (dj := 127) rfl rfl rfl (Yd.fieldAddr (k := 6) kr_ rfl) ?_
                    refine WQ.rd rfl (Wt.yes (dj := 127) rfl rfl) (Rd.load1 kr_ rfl mem_ (by rfl)) ?_
                    refine WQ.gy (dj := 127) rfl rfl rfl (Yd.eql rfl rfl) ?_
                    refine WQ.gy (dj := 115) rfl rfl rfl (Yd.pickT rfl rfl) ?_
                    refine WQ.renamed (t := 139) (v := .bool false) rfl (congrArg Value.bool (by first | rfl | exact decide_eq_false (fun h => hno ⟨hg127, h⟩))) ?_
                    refine WQ.y rfl (Yd.pickF rfl rfl) ?_
                    refine WQ.nil ?_
                    refine WA.y (i := 31) (NoPanic.block (NoPanic.then (NoPanic.then (NoPanic.block (NoPanic.then (NoPanic.block (NoPanic.then (NoPanic.body)))))))) rfl kr_ kr_ kr_ rfl (Yd.notNil rfl) ?_
                    refine WA.y (i := 32) (NoPanic.block (NoPanic.then (NoPanic.then (NoPanic.block (NoPanic.then (NoPanic.block (NoPanic.then (NoPanic.body)))))))) rfl kr_ kr_ kr_ rfl (Yd.fieldAddr (k := 5) kr_ rfl) ?_
                    refine WA.one (i := 33) kr_ ?_
                    refine WO.s rfl Wt.none (Hd.store1s kr_ rfl rfl (by rfl) fr_ (by rfl) (by first | (simp only [List.set_cons_zero, List.set_cons_succ, Nat.zero_add, Nat.add_zero, Nat.reduceAdd]; rfl) | rfl) ⟨rfl, ?_⟩)
                    refine WA.done kr_ ?_
                    refine DN.block_normal ?_
                    refine DN.then_normal ?_
                    refine WC.region ?_
                    refine WL.y rfl (Yd.move rfl) ?_
                    refine WL.y rfl (Yd.add rfl rfl (by omega) (by omega)) ?_
                    refine WL.y rfl (Yd.assign rfl) ?_
                    refine WL.nil ?_
                    exact DN.againS (j + 1) (show (j + 1) ≤ s.over.length from by omega) (show s.over.length - (j + 1) < s.over.length - j by omega) (Sx.put rfl (sx_)) sp_
                  · refine WQ.gn (dj := 127) rfl rfl rfl rfl ?_
                    refine WQ.gn (dj := 127) rfl rfl rfl rfl ?_
                    refine WQ.gn (dj := 127) rfl rfl rfl rfl ?_
                    refine WQ.gn (dj := 127) rfl rfl rfl rfl ?_
                    refine WQ.gn (dj := 127) rfl rfl rfl rfl ?_
                    refine WQ.gn (dj := 127) rfl rfl rfl rfl ?_
                    refine WQ.gn (dj := 127) rfl rfl rfl rfl ?_
                    refine WQ.gn (dj := 127) rfl rfl rfl rfl ?_
                    refine WQ.gn (dj := 127) rfl rfl rfl rfl ?_
                    refine WQ.gn (dj := 127) rfl rfl rfl rfl ?_
                    refine WQ.gn (dj := 127) rfl rfl rfl rfl ?_
                    refine WQ.gy (dj := 115) rfl rfl rfl (Yd.pickF rfl rfl) ?_
                    refine WQ.renamed (t := 139) (v := .bool false) rfl (congrArg Value.bool (by first | rfl | exact decide_eq_false (fun h => hno ⟨hg127, h⟩))) ?_
                    refine WQ.y rfl (Yd.pickF rfl rfl) ?_
                    refine WQ.nil ?_
                    refine WA.y (i := 31) (NoPanic.block (NoPanic.then (NoPanic.then (NoPanic.block (NoPanic.then (NoPanic.block (NoPanic.then (NoPanic.body)))))))) rfl kr_ kr_ kr_ rfl (Yd.notNil rfl) ?_
                    refine WA.y (i := 32) (NoPanic.block (NoPanic.then (NoPanic.then (NoPanic.block (NoPanic.then (NoPanic.block (NoPanic.then (NoPanic.body)))))))) rfl kr_ kr_ kr_ rfl (Yd.fieldAddr (k := 5) kr_ rfl) ?_
                    refine WA.one (i := 33) kr_ ?_
                    refine WO.s rfl Wt.none (Hd.store1s kr_ rfl rfl (by rfl) fr_ (by rfl) (by first | (simp only [List.set_cons_zero, List.set_cons_succ, Nat.zero_add, Nat.add_zero, Nat.reduceAdd]; rfl) | rfl) ⟨rfl, ?_⟩)
                    refine WA.done kr_ ?_
                    refine DN.block_normal ?_
                    refine DN.then_normal ?_
                    refine WC.region ?_
                    refine WL.y rfl (Yd.move rfl) ?_
                    refine WL.y rfl (Yd.add rfl rfl (by omega) (by omega)) ?_
                    refine WL.y rfl (Yd.assign rfl) ?_
                    refine WL.nil ?_
                    exact DN.againS (j + 1) (show (j + 1) ≤ s.over.length from by omega) (show s.over.length - (j + 1) < s.over.length - j by omega) (Sx.put rfl (sx_)) sp_
                · skip
                  refine WC.exit ?_
                  refine DN.then_exit ?_
                  refine DN.then_exit ?_
                  refine DN.block_exit ?_
                  refine DN.then_normal ?_
                  refine WC.seq ?_
                  refine WC.region ?_
                  refine WL.y rfl (Yd.move rfl) ?_
                  refine WL.y rfl (Yd.eql rfl rfl) ?_
                  refine WL.nil ?_
                  refine DN.then_normal ?_
                  refine WC.ite rfl (fun h144 => ?_) (fun h144 => ?_)
                  · refine WC.draw 19 kr_ rfl ?_
                    refine WA.y (i := 0) (NoPanic.block (NoPanic.then (NoPanic.body))) rfl kr_ kr_ kr_ rfl (Yd.move rfl) ?_
                    refine WA.y (i := 1) (NoPanic.block (NoPanic.then (NoPanic.body))) rfl kr_ kr_ kr_ rfl (Yd.move rfl) ?_
                    refine WA.y (i := 2) (NoPanic.block (NoPanic.then (NoPanic.body))) rfl kr_ kr_ kr_ rfl (Yd.notNil rfl) ?_
                    refine WA.y (i := 3) (NoPanic.block (NoPanic.then (NoPanic.body))) rfl kr_ kr_ kr_ rfl (Yd.fieldAddr (k := 2) kr_ rfl) ?_
                    refine WA.y (i := 5) (NoPanic.block (NoPanic.then (NoPanic.body))) rfl kr_ kr_ kr_ rfl (Yd.fieldAddr (k := 5) kr_ rfl) ?_
                    refine WA.y (i := 7) (NoPanic.block (NoPanic.then (NoPanic.body))) rfl kr_ kr_ kr_ rfl (Yd.fieldAddr (k := 6) kr_ rfl) ?_
                    refine WA.y (i := 9) (NoPanic.block (NoPanic.then (NoPanic.body))) rfl kr_ kr_ kr_ rfl (Yd.fieldAddr (k := 7) kr_ rfl) ?_
                    refine WA.y (i := 11) (NoPanic.block (NoPanic.then (NoPanic.body))) rfl kr_ kr_ kr_ rfl (Yd.fieldAddr (k := 4) kr_ rfl) ?_
                    refine WA.reads [(4, 149, _), (6, 151, _), (8, 153, _), (10, 155, _), (12, 157, _)] [4, 6, 8, 10, 12] [([6, 8, 10, 12], 13)] 6 rfl rfl (List.forall_mem_cons.2 ⟨ReadAt.mk rfl Wt.none rfl (Rd.load1 kr_ rfl mem_ (by rfl)), List.forall_mem_cons.2 ⟨ReadAt.mk rfl Wt.none rfl (Rd.load1 kr_ rfl mem_ (by rfl)), List.forall_mem_cons.2 ⟨ReadAt.mk rfl Wt.none rfl (Rd.load1 kr_ rfl mem_ (by rfl)), List.forall_mem_cons.2 ⟨ReadAt.mk rfl Wt.none rfl (Rd.load1 kr_ rfl mem_ (by rfl)), List.forall_mem_cons.2 ⟨ReadAt.mk rfl Wt.none rfl (Rd.load1 kr_ rfl mem_ (by rfl)), fun _ h => absurd h List.not_mem_nil⟩⟩⟩⟩⟩) (by decide) (by simp) (List.forall_mem_cons.2 ⟨rfl, List.forall_mem_cons.2 ⟨rfl, List.forall_mem_cons.2 ⟨rfl, List.forall_mem_cons.2 ⟨rfl, List.forall_mem_cons.2 ⟨rfl, fun _ h => absurd h List.not_mem_nil⟩⟩⟩⟩⟩) kr_ (List.forall_mem_cons.2 ⟨?_, fun _ h => absurd h List.not_mem_nil⟩) ?_
                    · change WO _ _ _ _ _ _ 6 _ 13 ([(151, _), (153, _), (155, _), (157, _)] ++ _) _
                      refine WO.y rfl Wt.none rfl (Yd.buildL (pl := [(0, 1), (1, 1), (2, 1), (3, 1), (4, 1), (5, 1)]) (zs := [.int .u32 0, .int .i64 0, .bool false, .slice none 0 0, .int .i64 0, .slice none 0 0]) (parts := [(0, .tmp 151), (1, .tmp 153), (2, .tmp 155), (3, .tmp 157)]) (vs := [(0, _), (1, _), (2, _), (3, _)]) (cells := [_, _, _, _, .int .i64 0, .slice none 0 0]) kr_ kr_ rfl rfl) ?_
                      refine WA.two (i := 4) (j := 14) kr_ ?_ ?_
                      · refine WO.h rfl Wt.none rfl (Hd.load1 kr_ rfl mem_ (by rfl) ⟨_, rfl, ?_⟩)
                        refine WA.one (i := 14) kr_ ?_
                        refine WO.h rfl Wt.none rfl (Hd.buildA (e := 43) (sz := 6) (zs := [.int .u32 0, .int .i64 0, .bool false, .slice none 0 0, .int .i64 0, .slice none 0 0]) kr_ kr_ kr_ rfl rfl (by rfl) kr_ fun b159 => ⟨_, rfl, ?_⟩)
                        refine WA.one (i := 15) kr_ ?_
                        refine WO.h rfl Wt.none rfl (Hd.appendRow (e := 43) (sz := 6) (bytes := 80) (zs := [.int .u32 0, .int .i64 0, .bool false, .slice none 0 0, .int .i64 0, .slice none 0 0]) kr_ kr_ rfl (by omega) rfl rfl (hOd) sp_ mem_ (by rfl) (kc_one (k := doneK c) (va := (.slice vo9 c.data.length vc9)) (vr := .slice none 0 0) rfl rfl) (by simp only [maxLen]; omega) (by omega) fun v2 C2 h2 => ⟨_, rfl, ?_⟩)
                        rw [← (show (s.done ++ [doneK c]).length = s.done.length + 1 by rw [List.length_append]; rfl)] at h2
                        obtain ⟨d5, e5, rfl, _⟩ := h2.form
                        refine WA.y (i := 16) (NoPanic.block (NoPanic.then (NoPanic.body))) rfl kr_ kr_ kr_ rfl (Yd.notNil rfl) ?_
                        refine WA.y (i := 17) (NoPanic.block (NoPanic.then (NoPanic.body))) rfl kr_ kr_ kr_ rfl (Yd.fieldAddr (k := 2) kr_ rfl) ?_
                        refine WA.one (i := 18) kr_ ?_
                        refine WO.s rfl Wt.none (Hd.store1s kr_ rfl rfl (by rfl) fr_ (by rfl) (by first | (simp only [List.set_cons_zero, List.set_cons_succ, Nat.zero_add, Nat.add_zero, Nat.reduceAdd]; rfl) | rfl) ⟨rfl, ?_⟩)
                        refine WA.done kr_ ?_
                        refine DN.block_normal ?_
                        first
                        | exact DN.reachS (s.done ++ [doneK c], (d5, e5), _, C2) ⟨(if_pos ⟨h99, h144⟩).symm, h87, h2, hKd.append (KW.one' rfl rfl)⟩ (sx_) sp_
                        | exact DN.reachS (s.done, (do_, dc), cd, Cd) ⟨(if_neg (by first | exact fun h => h144 h.2 | exact fun h => h99 h.1)).symm, h87, hOd, hKd⟩ (sx_) sp_
                      · refine WO.h rfl Wt.none rfl (Hd.buildA (e := 43) (sz := 6) (zs := [.int .u32 0, .int .i64 0, .bool false, .slice none 0 0, .int .i64 0, .slice none 0 0]) kr_ kr_ kr_ rfl rfl (by rfl) kr_ fun b159 => ⟨_, rfl, ?_⟩)
                        refine WA.one (i := 4) kr_ ?_
                        refine WO.h rfl Wt.none rfl (Hd.load1 kr_ rfl mem_ (by rfl) ⟨_, rfl, ?_⟩)
                        refine WA.one (i := 15) kr_ ?_
                        refine WO.h rfl Wt.none rfl (Hd.appendRow (e := 43) (sz := 6) (bytes := 80) (zs := [.int .u32 0, .int .i64 0, .bool false, .slice none 0 0, .int .i64 0, .slice none 0 0]) kr_ kr_ rfl (by omega) rfl rfl (hOd) sp_ mem_ (by rfl) (kc_one (k := doneK c) (va := (.slice vo9 c.data.length vc9)) (vr := .slice none 0 0) rfl rfl) (by simp only [maxLen]; omega) (by omega) fun v2 C2 h2 => ⟨_, rfl, ?_⟩)
                        rw [← (show (s.done ++ [doneK c]).length = s.done.length + 1 by rw [List.length_append]; rfl)] at h2
                        obtain ⟨d5, e5, rfl, _⟩ := h2.form
                        refine WA.y (i := 16) (NoPanic.block (NoPanic.then (NoPanic.body))) rfl kr_ kr_ kr_ rfl (Yd.notNil rfl) ?_
                        refine WA.y (i := 17) (NoPanic.block (NoPanic.then (NoPanic.body))) rfl kr_ kr_ kr_ rfl (Yd.fieldAddr (k := 2) kr_ rfl) ?_
                        refine WA.one (i := 18) kr_ ?_
                        refine WO.s rfl Wt.none (Hd.store1s kr_ rfl rfl (by rfl) fr_ (by rfl) (by first | (simp only [List.set_cons_zero, List.set_cons_succ, Nat.zero_add, Nat.add_zero, Nat.reduceAdd]; rfl) | rfl) ⟨rfl, ?_⟩)
                        refine WA.done kr_ ?_
                        refine DN.block_normal ?_
                        first
                        | exact DN.reachS (s.done ++ [doneK c], (d5, e5), _, C2) ⟨(if_pos ⟨h99, h144⟩).symm, h87, h2, hKd.append (KW.one' rfl rfl)⟩ (sx_) sp_
                        | exact DN.reachS (s.done, (do_, dc), cd, Cd) ⟨(if_neg (by first | exact fun h => h144 h.2 | exact fun h => h99 h.1)).symm, h87, hOd, hKd⟩ (sx_) sp_
                    · change WA _ _ _ _ _ _ 6 _ ([(149, _), (151, _), (153, _), (155, _), (157, _)] ++ _) _
                      refine WA.y (i := 13) (NoPanic.block (NoPanic.then (NoPanic.body))) rfl kr_ kr_ kr_ rfl (Yd.buildL (pl := [(0, 1), (1, 1), (2, 1), (3, 1), (4, 1), (5, 1)]) (zs := [.int .u32 0, .int .i64 0, .bool false, .slice none 0 0, .int .i64 0, .slice none 0 0]) (parts := [(0, .tmp 151), (1, .tmp 153), (2, .tmp 155), (3, .tmp 157)]) (vs := [(0, _), (1, _), (2, _), (3, _)]) (cells := [_, _, _, _, .int .i64 0, .slice none 0 0]) kr_ kr_ rfl rfl) ?_
                      refine WA.one (i := 14) kr_ ?_
                      refine WO.h rfl Wt.none rfl (Hd.buildA (e := 43) (sz := 6) (zs := [.int .u32 0, .int .i64 0, .bool false, .slice none 0 0, .int .i64 0, .slice none 0 0]) kr_ kr_ kr_ rfl rfl (by rfl) kr_ fun b159 => ⟨_, rfl, ?_⟩)
                      refine WA.one (i := 15) kr_ ?_
                      refine WO.h rfl Wt.none rfl (Hd.appendRow (e := 43) (sz := 6) (bytes := 80) (zs := [.int .u32 0, .int .i64 0, .bool false, .slice none 0 0, .int .i64 0, .slice none 0 0]) kr_ kr_ rfl (by omega) rfl rfl (hOd) sp_ mem_ (by rfl) (kc_one (k := doneK c) (va := (.slice vo9 c.data.length vc9)) (vr := .slice none 0 0) rfl rfl) (by simp only [maxLen]; omega) (by omega) fun v2 C2 h2 => ⟨_, rfl, ?_⟩)
                      rw [← (show (s.done ++ [doneK c]).length = s.done.length + 1 by rw [List.length_append]; rfl)] at h2
                      obtain ⟨d5, e5, rfl, _⟩ := h2.form
                      refine WA.y (i := 16) (NoPanic.block (NoPanic.then (NoPanic.body))) rfl kr_ kr_ kr_ rfl (Yd.notNil rfl) ?_
                      refine WA.y (i := 17) (NoPanic.block (NoPanic.then (NoPanic.body))) rfl kr_ kr_ kr_ rfl (Yd.fieldAddr (k := 2) kr_ rfl) ?_
                      refine WA.one (i := 18) kr_ ?_
                      refine WO.s rfl Wt.none (Hd.store1s kr_ rfl rfl (by rfl) fr_ (by rfl) (by first | (simp only [List.set_cons_zero, List.set_cons_succ, Nat.zero_add, Nat.add_zero, Nat.reduceAdd]; rfl) | rfl) ⟨rfl, ?_⟩)
                      refine WA.done kr_ ?_
                      refine DN.block_normal ?_
                      first
                      | exact DN.reachS (s.done ++ [doneK c], (d5, e5), _, C2) ⟨(if_pos ⟨h99, h144⟩).symm, h87, h2, hKd.append (KW.one' rfl rfl)⟩ (sx_) sp_
                      | exact DN.reachS (s.done, (do_, dc), cd, Cd) ⟨(if_neg (by first | exact fun h => h144 h.2 | exact fun h => h99 h.1)).symm, h87, hOd, hKd⟩ (sx_) sp_
                  · refine WC.skip ?_
                    refine DN.block_normal ?_
                    first
                    | exact DN.reachS (s.done ++ [doneK c], (d5, e5), _, C2) ⟨(if_pos ⟨h99, h144⟩).symm, h87, h2, hKd.append (KW.one' rfl rfl)⟩ (sx_) sp_
                    | exact DN.reachS (s.done, (do_, dc), cd, Cd) ⟨(if_neg (by first | exact fun h => h144 h.2 | exact fun h => h99 h.1)).symm, h87, hOd, hKd⟩ (sx_) sp_
              · refine WC.skip ?_
                refine DN.block_normal ?_
                first
                | exact DN.reachS (s.done ++ [doneK c], (d5, e5), _, C2) ⟨(if_pos ⟨h99, h144⟩).symm, h87, h2, hKd.append (KW.one' rfl rfl)⟩ (sx_) sp_
                | exact DN.reachS (s.done, (do_, dc), cd, Cd) ⟨(if_neg (by first | exact fun h => h144 h.2 | exact fun h => h99 h.1)).symm, h87, hOd, hKd⟩ (sx_) sp_
          · rintro ⟨dn, ⟨d4, e4⟩, cd4, C4⟩ ⟨hdn, hne, h4, hK4⟩
            dsimp only at hdn h4 hK4 ⊢
            have hkeep := hKeep hE0 hne
            have hfind := hFind hE0 hne
            rw [← hcd9] at hkeep
            rw [← hcd9] at hcode
            obtain ⟨L2, hL2⟩ : ∃ L, L = insAt s.ks (pos s.ks (keptS s c).num) (keptS s c) := ⟨_, rfl⟩
            rw [← hL2] at hkeep hfind
            have hL2l : L2.length ≤ 201 := by rw [hL2, insAt_len _ (pos_le _ _)]; omega
            have hep := (hOk hE0).1
            refine WC.cutK (fun z : Nat × (Option Addr × Nat) × List Ck => FAt 5 43 (.slice z.2.1.1 L2.length z.2.1.2) L2 z.2.2) (fun z : Nat × (Option Addr × Nat) × List Ck => [(11, .pointer (some ⟨z.1, 0, none⟩)), (12, .int .i64 0)]) (fun z : Nat × (Option Addr × Nat) × List Ck => row z.1 [.int .u32 (epN c).toNat, .slice z.2.1.1 L2.length z.2.1.2] 25 :: (z.2.2 ++ (row b4 (ntc (noteOf c) (.slice none 0 0) (.slice vo9 c.data.length vc9)) 29 :: row b3 (clc c (.slice vo9 c.data.length vc9)) 70 :: row p [.int .u32 (s.e).toNat, .slice lo s.ks.length lc, .slice d4 dn.length e4, .slice to_ s.told.length tc, .slice oo s.over.length oc, .bool false] 50 :: (CF ++ (C4 ++ (Ct ++ (Dt ++ (Co ++ H)))))))) ?_ ?_
            · refine WC.draw 20 kr_ rfl ?_
              refine WA.y (i := 0) (NoPanic.then (NoPanic.body)) rfl kr_ kr_ kr_ rfl (Yd.move rfl) ?_
              refine WA.y (i := 1) (NoPanic.then (NoPanic.body)) rfl kr_ kr_ kr_ rfl (Yd.notNil rfl) ?_
              refine WA.y (i := 2) (NoPanic.then (NoPanic.body)) rfl kr_ kr_ kr_ rfl (Yd.fieldAddr (k := 0) kr_ rfl) ?_
              refine WA.y (i := 5) (NoPanic.then (NoPanic.body)) rfl kr_ kr_ kr_ rfl (Yd.move rfl) ?_
              refine WA.y (i := 6) (NoPanic.then (NoPanic.body)) rfl kr_ kr_ kr_ rfl (Yd.move rfl) ?_
              refine WA.y (i := 7) (NoPanic.then (NoPanic.body)) rfl kr_ kr_ kr_ rfl (Yd.notNil rfl) ?_
              refine WA.y (i := 8) (NoPanic.then (NoPanic.body)) rfl kr_ kr_ kr_ rfl (Yd.fieldAddr (k := 3) kr_ rfl) ?_
              refine WA.reads [(3, 167, _), (4, 168, _), (9, 173, _)] [3, 4, 9] [([], 17), ([3], 17), ([4], 17), ([9], 10), ([9], 17), ([3, 4], 17), ([3, 9], 10), ([3, 9], 17), ([4, 9], 10), ([4, 9], 17)] 10 rfl rfl (List.forall_mem_cons.2 ⟨ReadAt.mk rfl Wt.none rfl (Rd.loadA (n := 2) (vs := [_, _]) kr_ rfl mem_ (by rfl) (by rfl)), List.forall_mem_cons.2 ⟨ReadAt.mk rfl Wt.none rfl (Rd.loadAll (n := 11) kr_ rfl mem_ (by rfl)), List.forall_mem_cons.2 ⟨ReadAt.mk rfl Wt.none rfl (Rd.load1 kr_ rfl mem_ (by rfl)), fun _ h => absurd h List.not_mem_nil⟩⟩⟩) (by decide) (by simp) (List.forall_mem_cons.2 ⟨rfl, List.forall_mem_cons.2 ⟨rfl, List.forall_mem_cons.2 ⟨rfl, fun _ h => absurd h List.not_mem_nil⟩⟩⟩) kr_ (List.forall_mem_cons.2 ⟨?_, List.forall_mem_cons.2 ⟨?_, List.forall_mem_cons.2 ⟨?_, List.forall_mem_cons.2 ⟨?_, List.forall_mem_cons.2 ⟨?_, List.forall_mem_cons.2 ⟨?_, List.forall_mem_cons.2 ⟨?_, List.forall_mem_cons.2 ⟨?_, List.forall_mem_cons.2 ⟨?_, List.forall_mem_cons.2 ⟨?_, fun _ h => absurd h List.not_mem_nil⟩⟩⟩⟩⟩⟩⟩⟩⟩⟩) ?_
              · change WO _ _ _ _ _ _ 12 _ 17 ([] ++ _) _
                refine WO.h rfl Wt.none rfl (Hd.alloc (zs := [.int .u32 0, .slice none 0 0]) kr_ fun b11 => ⟨_, rfl, ?_⟩)
                refine WA.reads [(3, 167, _), (4, 168, _), (9, 173, _)] [3, 4, 9] [([9], 10), ([3, 9], 10), ([4, 9], 10)] 9 rfl rfl (List.forall_mem_cons.2 ⟨ReadAt.mk rfl Wt.none rfl (Rd.loadA (n := 2) (vs := [_, _]) kr_ rfl mem_ (by rfl) (by rfl)), List.forall_mem_cons.2 ⟨ReadAt.mk rfl Wt.none rfl (Rd.loadAll (n := 11) kr_ rfl mem_ (by rfl)), List.forall_mem_cons.2 ⟨ReadAt.mk rfl Wt.none rfl (Rd.load1 kr_ rfl mem_ (by rfl)), fun _ h => absurd h List.not_mem_nil⟩⟩⟩) (by decide) (by simp) (List.forall_mem_cons.2 ⟨rfl, List.forall_mem_cons.2 ⟨rfl, List.forall_mem_cons.2 ⟨rfl, fun _ h => absurd h List.not_mem_nil⟩⟩⟩) kr_ (List.forall_mem_cons.2 ⟨?_, List.forall_mem_cons.2 ⟨?_, List.forall_mem_cons.2 ⟨?_, fun _ h => absurd h List.not_mem_nil⟩⟩⟩) ?_
                · change WO _ _ _ _ _ _ 10 _ 10 ([(173, _)] ++ _) _
                  refine WO.y rfl Wt.none rfl (Yd.len (e := 43) kr_ rfl) ?_
                  refine WA.y (i := 11) (NoPanic.then (NoPanic.body)) rfl kr_ kr_ kr_ rfl (Yd.to8 _ kr_ kr_ rfl rfl) ?_
                  refine WA.reads [(3, 167, _), (4, 168, _)] [3, 4] [([], 12), ([3], 12), ([4], 12)] 7 rfl rfl (List.forall_mem_cons.2 ⟨ReadAt.mk rfl Wt.none rfl (Rd.loadA (n := 2) (vs := [_, _]) kr_ rfl mem_ (by rfl) (by rfl)), List.forall_mem_cons.2 ⟨ReadAt.mk rfl Wt.none rfl (Rd.loadAll (n := 11) kr_ rfl mem_ (by rfl)), fun _ h => absurd h List.not_mem_nil⟩⟩) (by decide) (by simp) (List.forall_mem_cons.2 ⟨rfl, List.forall_mem_cons.2 ⟨rfl, fun _ h => absurd h List.not_mem_nil⟩⟩) kr_ (List.forall_mem_cons.2 ⟨?_, List.forall_mem_cons.2 ⟨?_, List.forall_mem_cons.2 ⟨?_, fun _ h => absurd h List.not_mem_nil⟩⟩⟩) ?_
                  · change WO _ _ _ _ _ _ 8 _ 12 ([] ++ _) _
                    refine WO.h rfl Wt.none rfl (Hd.build1 (e := 5) (z := .int .u8 0) kr_ kr_ kr_ rfl (by rfl) fun b176 => ⟨_, rfl, ?_⟩)
                    refine WA.reads [(3, 167, _), (4, 168, _)] [3, 4] [] 6 rfl rfl (List.forall_mem_cons.2 ⟨ReadAt.mk rfl Wt.none rfl (Rd.loadA (n := 2) (vs := [_, _]) kr_ rfl mem_ (by rfl) (by rfl)), List.forall_mem_cons.2 ⟨ReadAt.mk rfl Wt.none rfl (Rd.loadAll (n := 11) kr_ rfl mem_ (by rfl)), fun _ h => absurd h List.not_mem_nil⟩⟩) (by decide) (by simp) (List.forall_mem_cons.2 ⟨rfl, List.forall_mem_cons.2 ⟨rfl, fun _ h => absurd h List.not_mem_nil⟩⟩) kr_ (fun _ h => absurd h List.not_mem_nil) ?_
                    · change WA _ _ _ _ _ _ 6 _ ([(167, _), (168, _)] ++ _) _
                      refine WA.one (i := 13) kr_ ?_
                      refine WO.c rfl Wt.none rfl (Ent.func Try.call15 rfl) (keep_tells s.e _ s.ks (row b176 (bc (replyS s)) 5 :: (CF ++ H)) (hF.kv.mono gr_) (by omega) (noteOf c) (.slice none 0 0) (.slice vo9 c.data.length vc9) (Bs_nil _) (hvc.mono gr_) cd9 (.slice (some ⟨b176, 0, none⟩) 1 1) (replyS s) (.inr ⟨b176, 0, 1, bc (replyS s), 5, (0, 0), true, rfl, Nat.le_refl _, mem_, rfl⟩)) (Sp.p sp_) ?_
                      rintro xk Hk ⟨w7, D7, rfl, hF7, rfl⟩
                      rw [hkeep] at hF7 ⊢
                      dsimp only at hF7 ⊢
                      obtain ⟨w7o, w7c, rfl⟩ := hF7.form
                      refine WA.y (i := 14) (NoPanic.then (NoPanic.body)) rfl kr_ kr_ kr_ rfl (Yd.move rfl) ?_
                      refine WA.y (i := 15) (NoPanic.then (NoPanic.body)) rfl kr_ kr_ kr_ rfl (Yd.extract rfl rfl) ?_
                      refine WA.y (i := 16) (NoPanic.then (NoPanic.body)) rfl kr_ kr_ kr_ rfl (Yd.extract rfl rfl) ?_
                      refine WA.one (i := 18) kr_ ?_
                      refine WO.s rfl Wt.none (Hd.storeAll (n := 2) kr_ rfl rfl (by rfl) one_ fr_ (by rfl) ⟨rfl, ?_⟩)
                      refine WA.y (i := 19) (NoPanic.then (NoPanic.body)) rfl kr_ kr_ kr_ rfl (Yd.assign rfl) ?_
                      refine WA.done kr_ ?_
                      exact DN.reachS ((b11, (w7o, w7c), D7)) (hF7) (Sx.put rfl (Sx.put rfl (sx_))) sp_
                  · change WO _ _ _ _ _ _ 7 _ 12 ([(167, _)] ++ _) _
                    refine WO.h rfl Wt.none rfl (Hd.build1 (e := 5) (z := .int .u8 0) kr_ kr_ kr_ rfl (by rfl) fun b176 => ⟨_, rfl, ?_⟩)
                    refine WA.one (i := 4) kr_ ?_
                    refine WO.h rfl Wt.none rfl (Hd.loadAll (n := 11) kr_ rfl mem_ (by rfl) ⟨_, rfl, ?_⟩)
                    refine WA.one (i := 13) kr_ ?_
                    refine WO.c rfl Wt.none rfl (Ent.func Try.call15 rfl) (keep_tells s.e _ s.ks (row b176 (bc (replyS s)) 5 :: (CF ++ H)) (hF.kv.mono gr_) (by omega) (noteOf c) (.slice none 0 0) (.slice vo9 c.data.length vc9) (Bs_nil _) (hvc.mono gr_) cd9 (.slice (some ⟨b176, 0, none⟩) 1 1) (replyS s) (.inr ⟨b176, 0, 1, bc (replyS s), 5, (0, 0), true, rfl, Nat.le_refl _, mem_, rfl⟩)) (Sp.p sp_) ?_
                    rintro xk Hk ⟨w7, D7, rfl, hF7, rfl⟩
                    rw [hkeep] at hF7 ⊢
                    dsimp only at hF7 ⊢
                    obtain ⟨w7o, w7c, rfl⟩ := hF7.form
                    refine WA.y (i := 14) (NoPanic.then (NoPanic.body)) rfl kr_ kr_ kr_ rfl (Yd.move rfl) ?_
                    refine WA.y (i := 15) (NoPanic.then (NoPanic.body)) rfl kr_ kr_ kr_ rfl (Yd.extract rfl rfl) ?_
                    refine WA.y (i := 16) (NoPanic.then (NoPanic.body)) rfl kr_ kr_ kr_ rfl (Yd.extract rfl rfl) ?_
                    refine WA.one (i := 18) kr_ ?_
                    refine WO.s rfl Wt.none (Hd.storeAll (n := 2) kr_ rfl rfl (by rfl) one_ fr_ (by rfl) ⟨rfl, ?_⟩)
                    refine WA.y (i := 19) (NoPanic.then (NoPanic.body)) rfl kr_ kr_ kr_ rfl (Yd.assign rfl) ?_
                    refine WA.done kr_ ?_
                    exact DN.reachS ((b11, (w7o, w7c), D7)) (hF7) (Sx.put rfl (Sx.put rfl (sx_))) sp_
                  · change WO _ _ _ _ _ _ 7 _ 12 ([(168, _)] ++ _) _
                    refine WO.h rfl Wt.none rfl (Hd.build1 (e := 5) (z := .int .u8 0) kr_ kr_ kr_ rfl (by rfl) fun b176 => ⟨_, rfl, ?_⟩)
                    refine WA.one (i := 3) kr_ ?_
                    refine WO.h rfl Wt.none rfl (Hd.loadA (n := 2) (vs := [_, _]) kr_ rfl mem_ (by rfl) (by rfl) ⟨_, rfl, ?_⟩)
                    refine WA.one (i := 13) kr_ ?_
                    refine WO.c rfl Wt.none rfl (Ent.func Try.call15 rfl) (keep_tells s.e _ s.ks (row b176 (bc (replyS s)) 5 :: (CF ++ H)) (hF.kv.mono gr_) (by omega) (noteOf c) (.slice none 0 0) (.slice vo9 c.data.length vc9) (Bs_nil _) (hvc.mono gr_) cd9 (.slice (some ⟨b176, 0, none⟩) 1 1) (replyS s) (.inr ⟨b176, 0, 1, bc (replyS s), 5, (0, 0), true, rfl, Nat.le_refl _, mem_, rfl⟩)) (Sp.p sp_) ?_
                    rintro xk Hk ⟨w7, D7, rfl, hF7, rfl⟩
                    rw [hkeep] at hF7 ⊢
                    dsimp only at hF7 ⊢
                    obtain ⟨w7o, w7c, rfl⟩ := hF7.form
                    refine WA.y (i := 14) (NoPanic.then (NoPanic.body)) rfl kr_ kr_ kr_ rfl (Yd.move rfl) ?_
                    refine WA.y (i := 15) (NoPanic.then (NoPanic.body)) rfl kr_ kr_ kr_ rfl (Yd.extract rfl rfl) ?_
                    refine WA.y (i := 16) (NoPanic.then (NoPanic.body)) rfl kr_ kr_ kr_ rfl (Yd.extract rfl rfl) ?_
                    refine WA.one (i := 18) kr_ ?_
                    refine WO.s rfl Wt.none (Hd.storeAll (n := 2) kr_ rfl rfl (by rfl) one_ fr_ (by rfl) ⟨rfl, ?_⟩)
                    refine WA.y (i := 19) (NoPanic.then (NoPanic.body)) rfl kr_ kr_ kr_ rfl (Yd.assign rfl) ?_
                    refine WA.done kr_ ?_
                    exact DN.reachS ((b11, (w7o, w7c), D7)) (hF7) (Sx.put rfl (Sx.put rfl (sx_))) sp_
                  · change WA _ _ _ _ _ _ 7 _ ([(167, _), (168, _)] ++ _) _
                    refine WA.one (i := 12) kr_ ?_
                    refine WO.h rfl Wt.none rfl (Hd.build1 (e := 5) (z := .int .u8 0) kr_ kr_ kr_ rfl (by rfl) fun b176 => ⟨_, rfl, ?_⟩)
                    refine WA.one (i := 13) kr_ ?_
                    refine WO.c rfl Wt.none rfl (Ent.func Try.call15 rfl) (keep_tells s.e _ s.ks (row b176 (bc (replyS s)) 5 :: (CF ++ H)) (hF.kv.mono gr_) (by omega) (noteOf c) (.slice none 0 0) (.slice vo9 c.data.length vc9) (Bs_nil _) (hvc.mono gr_) cd9 (.slice (some ⟨b176, 0, none⟩) 1 1) (replyS s) (.inr ⟨b176, 0, 1, bc (replyS s), 5, (0, 0), true, rfl, Nat.le_refl _, mem_, rfl⟩)) (Sp.p sp_) ?_
                    rintro xk Hk ⟨w7, D7, rfl, hF7, rfl⟩
                    rw [hkeep] at hF7 ⊢
                    dsimp only at hF7 ⊢
                    obtain ⟨w7o, w7c, rfl⟩ := hF7.form
                    refine WA.y (i := 14) (NoPanic.then (NoPanic.body)) rfl kr_ kr_ kr_ rfl (Yd.move rfl) ?_
                    refine WA.y (i := 15) (NoPanic.then (NoPanic.body)) rfl kr_ kr_ kr_ rfl (Yd.extract rfl rfl) ?_
                    refine WA.y (i := 16) (NoPanic.then (NoPanic.body)) rfl kr_ kr_ kr_ rfl (Yd.extract rfl rfl) ?_
                    refine WA.one (i := 18) kr_ ?_
                    refine WO.s rfl Wt.none (Hd.storeAll (n := 2) kr_ rfl rfl (by rfl) one_ fr_ (by rfl) ⟨rfl, ?_⟩)
                    refine WA.y (i := 19) (NoPanic.then (NoPanic.body)) rfl kr_ kr_ kr_ rfl (Yd.assign rfl) ?_
                    refine WA.done kr_ ?_
                    exact DN.reachS ((b11, (w7o, w7c), D7)) (hF7) (Sx.put rfl (Sx.put rfl (sx_))) sp_
                · change WO _ _ _ _ _ _ 9 _ 10 ([(167, _), (173, _)] ++ _) _
                  refine WO.y rfl Wt.none rfl (Yd.len (e := 43) kr_ rfl) ?_
                  refine WA.y (i := 11) (NoPanic.then (NoPanic.body)) rfl kr_ kr_ kr_ rfl (Yd.to8 _ kr_ kr_ rfl rfl) ?_
                  refine WA.two (i := 4) (j := 12) kr_ ?_ ?_
                  · refine WO.h rfl Wt.none rfl (Hd.loadAll (n := 11) kr_ rfl mem_ (by rfl) ⟨_, rfl, ?_⟩)
                    refine WA.one (i := 12) kr_ ?_
                    refine WO.h rfl Wt.none rfl (Hd.build1 (e := 5) (z := .int .u8 0) kr_ kr_ kr_ rfl (by rfl) fun b176 => ⟨_, rfl, ?_⟩)
                    refine WA.one (i := 13) kr_ ?_
                    refine WO.c rfl Wt.none rfl (Ent.func Try.call15 rfl) (keep_tells s.e _ s.ks (row b176 (bc (replyS s)) 5 :: (CF ++ H)) (hF.kv.mono gr_) (by omega) (noteOf c) (.slice none 0 0) (.slice vo9 c.data.length vc9) (Bs_nil _) (hvc.mono gr_) cd9 (.slice (some ⟨b176, 0, none⟩) 1 1) (replyS s) (.inr ⟨b176, 0, 1, bc (replyS s), 5, (0, 0), true, rfl, Nat.le_refl _, mem_, rfl⟩)) (Sp.p sp_) ?_
                    rintro xk Hk ⟨w7, D7, rfl, hF7, rfl⟩
                    rw [hkeep] at hF7 ⊢
                    dsimp only at hF7 ⊢
                    obtain ⟨w7o, w7c, rfl⟩ := hF7.form
                    refine WA.y (i := 14) (NoPanic.then (NoPanic.body)) rfl kr_ kr_ kr_ rfl (Yd.move rfl) ?_
                    refine WA.y (i := 15) (NoPanic.then (NoPanic.body)) rfl kr_ kr_ kr_ rfl (Yd.extract rfl rfl) ?_
                    refine WA.y (i := 16) (NoPanic.then (NoPanic.body)) rfl kr_ kr_ kr_ rfl (Yd.extract rfl rfl) ?_
                    refine WA.one (i := 18) kr_ ?_
                    refine WO.s rfl Wt.none (Hd.storeAll (n := 2) kr_ rfl rfl (by rfl) one_ fr_ (by rfl) ⟨rfl, ?_⟩)
                    refine WA.y (i := 19) (NoPanic.then (NoPanic.body)) rfl kr_ kr_ kr_ rfl (Yd.assign rfl) ?_
                    refine WA.done kr_ ?_
                    exact DN.reachS ((b11, (w7o, w7c), D7)) (hF7) (Sx.put rfl (Sx.put rfl (sx_))) sp_
                  · refine WO.h rfl Wt.none rfl (Hd.build1 (e := 5) (z := .int .u8 0) kr_ kr_ kr_ rfl (by rfl) fun b176 => ⟨_, rfl, ?_⟩)
                    refine WA.one (i := 4) kr_ ?_
                    refine WO.h rfl Wt.none rfl (Hd.loadAll (n := 11) kr_ rfl mem_ (by rfl) ⟨_, rfl, ?_⟩)
                    refine WA.one (i := 13) kr_ ?_
                    refine WO.c rfl Wt.none rfl (Ent.func Try.call15 rfl) (keep_tells s.e _ s.ks (row b176 (bc (replyS s)) 5 :: (CF ++ H)) (hF.kv.mono gr_) (by omega) (noteOf c) (.slice none 0 0) (.slice vo9 c.data.length vc9) (Bs_nil _) (hvc.mono gr_) cd9 (.slice (some ⟨b176, 0, none⟩) 1 1) (replyS s) (.inr ⟨b176, 0, 1, bc (replyS s), 5, (0, 0), true, rfl, Nat.le_refl _, mem_, rfl⟩)) (Sp.p sp_) ?_
                    rintro xk Hk ⟨w7, D7, rfl, hF7, rfl⟩
                    rw [hkeep] at hF7 ⊢
                    dsimp only at hF7 ⊢
                    obtain ⟨w7o, w7c, rfl⟩ := hF7.form
                    refine WA.y (i := 14) (NoPanic.then (NoPanic.body)) rfl kr_ kr_ kr_ rfl (Yd.move rfl) ?_
                    refine WA.y (i := 15) (NoPanic.then (NoPanic.body)) rfl kr_ kr_ kr_ rfl (Yd.extract rfl rfl) ?_
                    refine WA.y (i := 16) (NoPanic.then (NoPanic.body)) rfl kr_ kr_ kr_ rfl (Yd.extract rfl rfl) ?_
                    refine WA.one (i := 18) kr_ ?_
                    refine WO.s rfl Wt.none (Hd.storeAll (n := 2) kr_ rfl rfl (by rfl) one_ fr_ (by rfl) ⟨rfl, ?_⟩)
                    refine WA.y (i := 19) (NoPanic.then (NoPanic.body)) rfl kr_ kr_ kr_ rfl (Yd.assign rfl) ?_
                    refine WA.done kr_ ?_
                    exact DN.reachS ((b11, (w7o, w7c), D7)) (hF7) (Sx.put rfl (Sx.put rfl (sx_))) sp_
                · change WO _ _ _ _ _ _ 9 _ 10 ([(168, _), (173, _)] ++ _) _
                  refine WO.y rfl Wt.none rfl (Yd.len (e := 43) kr_ rfl) ?_
                  refine WA.y (i := 11) (NoPanic.then (NoPanic.body)) rfl kr_ kr_ kr_ rfl (Yd.to8 _ kr_ kr_ rfl rfl) ?_
                  refine WA.two (i := 3) (j := 12) kr_ ?_ ?_
                  · refine WO.h rfl Wt.none rfl (Hd.loadA (n := 2) (vs := [_, _]) kr_ rfl mem_ (by rfl) (by rfl) ⟨_, rfl, ?_⟩)
                    refine WA.one (i := 12) kr_ ?_
                    refine WO.h rfl Wt.none rfl (Hd.build1 (e := 5) (z := .int .u8 0) kr_ kr_ kr_ rfl (by rfl) fun b176 => ⟨_, rfl, ?_⟩)
                    refine WA.one (i := 13) kr_ ?_
                    refine WO.c rfl Wt.none rfl (Ent.func Try.call15 rfl) (keep_tells s.e _ s.ks (row b176 (bc (replyS s)) 5 :: (CF ++ H)) (hF.kv.mono gr_) (by omega) (noteOf c) (.slice none 0 0) (.slice vo9 c.data.length vc9) (Bs_nil _) (hvc.mono gr_) cd9 (.slice (some ⟨b176, 0, none⟩) 1 1) (replyS s) (.inr ⟨b176, 0, 1, bc (replyS s), 5, (0, 0), true, rfl, Nat.le_refl _, mem_, rfl⟩)) (Sp.p sp_) ?_
                    rintro xk Hk ⟨w7, D7, rfl, hF7, rfl⟩
                    rw [hkeep] at hF7 ⊢
                    dsimp only at hF7 ⊢
                    obtain ⟨w7o, w7c, rfl⟩ := hF7.form
                    refine WA.y (i := 14) (NoPanic.then (NoPanic.body)) rfl kr_ kr_ kr_ rfl (Yd.move rfl) ?_
                    refine WA.y (i := 15) (NoPanic.then (NoPanic.body)) rfl kr_ kr_ kr_ rfl (Yd.extract rfl rfl) ?_
                    refine WA.y (i := 16) (NoPanic.then (NoPanic.body)) rfl kr_ kr_ kr_ rfl (Yd.extract rfl rfl) ?_
                    refine WA.one (i := 18) kr_ ?_
                    refine WO.s rfl Wt.none (Hd.storeAll (n := 2) kr_ rfl rfl (by rfl) one_ fr_ (by rfl) ⟨rfl, ?_⟩)
                    refine WA.y (i := 19) (NoPanic.then (NoPanic.body)) rfl kr_ kr_ kr_ rfl (Yd.assign rfl) ?_
                    refine WA.done kr_ ?_
                    exact DN.reachS ((b11, (w7o, w7c), D7)) (hF7) (Sx.put rfl (Sx.put rfl (sx_))) sp_
                  · refine WO.h rfl Wt.none rfl (Hd.build1 (e := 5) (z := .int .u8 0) kr_ kr_ kr_ rfl (by rfl) fun b176 => ⟨_, rfl, ?_⟩)
                    refine WA.one (i := 3) kr_ ?_
                    refine WO.h rfl Wt.none rfl (Hd.loadA (n := 2) (vs := [_, _]) kr_ rfl mem_ (by rfl) (by rfl) ⟨_, rfl, ?_⟩)
                    refine WA.one (i := 13) kr_ ?_
                    refine WO.c rfl Wt.none rfl (Ent.func Try.call15 rfl) (keep_tells s.e _ s.ks (row b176 (bc (replyS s)) 5 :: (CF ++ H)) (hF.kv.mono gr_) (by omega) (noteOf c) (.slice none 0 0) (.slice vo9 c.data.length vc9) (Bs_nil _) (hvc.mono gr_) cd9 (.slice (some ⟨b176, 0, none⟩) 1 1) (replyS s) (.inr ⟨b176, 0, 1, bc (replyS s), 5, (0, 0), true, rfl, Nat.le_refl _, mem_, rfl⟩)) (Sp.p sp_) ?_
                    rintro xk Hk ⟨w7, D7, rfl, hF7, rfl⟩
                    rw [hkeep] at hF7 ⊢
                    dsimp only at hF7 ⊢
                    obtain ⟨w7o, w7c, rfl⟩ := hF7.form
                    refine WA.y (i := 14) (NoPanic.then (NoPanic.body)) rfl kr_ kr_ kr_ rfl (Yd.move rfl) ?_
                    refine WA.y (i := 15) (NoPanic.then (NoPanic.body)) rfl kr_ kr_ kr_ rfl (Yd.extract rfl rfl) ?_
                    refine WA.y (i := 16) (NoPanic.then (NoPanic.body)) rfl kr_ kr_ kr_ rfl (Yd.extract rfl rfl) ?_
                    refine WA.one (i := 18) kr_ ?_
                    refine WO.s rfl Wt.none (Hd.storeAll (n := 2) kr_ rfl rfl (by rfl) one_ fr_ (by rfl) ⟨rfl, ?_⟩)
                    refine WA.y (i := 19) (NoPanic.then (NoPanic.body)) rfl kr_ kr_ kr_ rfl (Yd.assign rfl) ?_
                    refine WA.done kr_ ?_
                    exact DN.reachS ((b11, (w7o, w7c), D7)) (hF7) (Sx.put rfl (Sx.put rfl (sx_))) sp_
                · change WA _ _ _ _ _ _ 9 _ ([(167, _), (168, _), (173, _)] ++ _) _
                  refine WA.y (i := 10) (NoPanic.then (NoPanic.body)) rfl kr_ kr_ kr_ rfl (Yd.len (e := 43) kr_ rfl) ?_
                  refine WA.y (i := 11) (NoPanic.then (NoPanic.body)) rfl kr_ kr_ kr_ rfl (Yd.to8 _ kr_ kr_ rfl rfl) ?_
                  refine WA.one (i := 12) kr_ ?_
                  refine WO.h rfl Wt.none rfl (Hd.build1 (e := 5) (z := .int .u8 0) kr_ kr_ kr_ rfl (by rfl) fun b176 => ⟨_, rfl, ?_⟩)
                  refine WA.one (i := 13) kr_ ?_
                  refine WO.c rfl Wt.none rfl (Ent.func Try.call15 rfl) (keep_tells s.e _ s.ks (row b176 (bc (replyS s)) 5 :: (CF ++ H)) (hF.kv.mono gr_) (by omega) (noteOf c) (.slice none 0 0) (.slice vo9 c.data.length vc9) (Bs_nil _) (hvc.mono gr_) cd9 (.slice (some ⟨b176, 0, none⟩) 1 1) (replyS s) (.inr ⟨b176, 0, 1, bc (replyS s), 5, (0, 0), true, rfl, Nat.le_refl _, mem_, rfl⟩)) (Sp.p sp_) ?_
                  rintro xk Hk ⟨w7, D7, rfl, hF7, rfl⟩
                  rw [hkeep] at hF7 ⊢
                  dsimp only at hF7 ⊢
                  obtain ⟨w7o, w7c, rfl⟩ := hF7.form
                  refine WA.y (i := 14) (NoPanic.then (NoPanic.body)) rfl kr_ kr_ kr_ rfl (Yd.move rfl) ?_
                  refine WA.y (i := 15) (NoPanic.then (NoPanic.body)) rfl kr_ kr_ kr_ rfl (Yd.extract rfl rfl) ?_
                  refine WA.y (i := 16) (NoPanic.then (NoPanic.body)) rfl kr_ kr_ kr_ rfl (Yd.extract rfl rfl) ?_
                  refine WA.one (i := 18) kr_ ?_
                  refine WO.s rfl Wt.none (Hd.storeAll (n := 2) kr_ rfl rfl (by rfl) one_ fr_ (by rfl) ⟨rfl, ?_⟩)
                  refine WA.y (i := 19) (NoPanic.then (NoPanic.body)) rfl kr_ kr_ kr_ rfl (Yd.assign rfl) ?_
                  refine WA.done kr_ ?_
                  exact DN.reachS ((b11, (w7o, w7c), D7)) (hF7) (Sx.put rfl (Sx.put rfl (sx_))) sp_
              · change WO _ _ _ _ _ _ 11 _ 17 ([(167, _)] ++ _) _
                refine WO.h rfl Wt.none rfl (Hd.alloc (zs := [.int .u32 0, .slice none 0 0]) kr_ fun b11 => ⟨_, rfl, ?_⟩)
                refine WA.reads [(4, 168, _), (9, 173, _)] [4, 9] [([9], 10)] 9 rfl rfl (List.forall_mem_cons.2 ⟨ReadAt.mk rfl Wt.none rfl (Rd.loadAll (n := 11) kr_ rfl mem_ (by rfl)), List.forall_mem_cons.2 ⟨ReadAt.mk rfl Wt.none rfl (Rd.load1 kr_ rfl mem_ (by rfl)), fun _ h => absurd h List.not_mem_nil⟩⟩) (by decide) (by simp) (List.forall_mem_cons.2 ⟨rfl, List.forall_mem_cons.2 ⟨rfl, fun _ h => absurd h List.not_mem_nil⟩⟩) kr_ (List.forall_mem_cons.2 ⟨?_, fun _ h => absurd h List.not_mem_nil⟩) ?_
                · change WO _ _ _ _ _ _ 9 _ 10 ([(173, _)] ++ _) _
                  refine WO.y rfl Wt.none rfl (Yd.len (e := 43) kr_ rfl) ?_
                  refine WA.y (i := 11) (NoPanic.then (NoPanic.body)) rfl kr_ kr_ kr_ rfl (Yd.to8 _ kr_ kr_ rfl rfl) ?_
                  refine WA.two (i := 4) (j := 12) kr_ ?_ ?_
                  · refine WO.h rfl Wt.none rfl (Hd.loadAll (n := 11) kr_ rfl mem_ (by rfl) ⟨_, rfl, ?_⟩)
                    refine WA.one (i := 12) kr_ ?_
                    refine WO.h rfl Wt.none rfl (Hd.build1 (e := 5) (z := .int .u8 0) kr_ kr_ kr_ rfl (by rfl) fun b176 => ⟨_, rfl, ?_⟩)
                    refine WA.one (i := 13) kr_ ?_
                    refine WO.c rfl Wt.none rfl (Ent.func Try.call15 rfl) (keep_tells s.e _ s.ks (row b176 (bc (replyS s)) 5 :: (CF ++ H)) (hF.kv.mono gr_) (by omega) (noteOf c) (.slice none 0 0) (.slice vo9 c.data.length vc9) (Bs_nil _) (hvc.mono gr_) cd9 (.slice (some ⟨b176, 0, none⟩) 1 1) (replyS s) (.inr ⟨b176, 0, 1, bc (replyS s), 5, (0, 0), true, rfl, Nat.le_refl _, mem_, rfl⟩)) (Sp.p sp_) ?_
                    rintro xk Hk ⟨w7, D7, rfl, hF7, rfl⟩
                    rw [hkeep] at hF7 ⊢
                    dsimp only at hF7 ⊢
                    obtain ⟨w7o, w7c, rfl⟩ := hF7.form
                    refine WA.y (i := 14) (NoPanic.then (NoPanic.body)) rfl kr_ kr_ kr_ rfl (Yd.move rfl) ?_
                    refine WA.y (i := 15) (NoPanic.then (NoPanic.body)) rfl kr_ kr_ kr_ rfl (Yd.extract rfl rfl) ?_
                    refine WA.y (i := 16) (NoPanic.then (NoPanic.body)) rfl kr_ kr_ kr_ rfl (Yd.extract rfl rfl) ?_
                    refine WA.one (i := 18) kr_ ?_
                    refine WO.s rfl Wt.none (Hd.storeAll (n := 2) kr_ rfl rfl (by rfl) one_ fr_ (by rfl) ⟨rfl, ?_⟩)
                    refine WA.y (i := 19) (NoPanic.then (NoPanic.body)) rfl kr_ kr_ kr_ rfl (Yd.assign rfl) ?_
                    refine WA.done kr_ ?_
                    exact DN.reachS ((b11, (w7o, w7c), D7)) (hF7) (Sx.put rfl (Sx.put rfl (sx_))) sp_
                  · refine WO.h rfl Wt.none rfl (Hd.build1 (e := 5) (z := .int .u8 0) kr_ kr_ kr_ rfl (by rfl) fun b176 => ⟨_, rfl, ?_⟩)
                    refine WA.one (i := 4) kr_ ?_
                    refine WO.h rfl Wt.none rfl (Hd.loadAll (n := 11) kr_ rfl mem_ (by rfl) ⟨_, rfl, ?_⟩)
                    refine WA.one (i := 13) kr_ ?_
                    refine WO.c rfl Wt.none rfl (Ent.func Try.call15 rfl) (keep_tells s.e _ s.ks (row b176 (bc (replyS s)) 5 :: (CF ++ H)) (hF.kv.mono gr_) (by omega) (noteOf c) (.slice none 0 0) (.slice vo9 c.data.length vc9) (Bs_nil _) (hvc.mono gr_) cd9 (.slice (some ⟨b176, 0, none⟩) 1 1) (replyS s) (.inr ⟨b176, 0, 1, bc (replyS s), 5, (0, 0), true, rfl, Nat.le_refl _, mem_, rfl⟩)) (Sp.p sp_) ?_
                    rintro xk Hk ⟨w7, D7, rfl, hF7, rfl⟩
                    rw [hkeep] at hF7 ⊢
                    dsimp only at hF7 ⊢
                    obtain ⟨w7o, w7c, rfl⟩ := hF7.form
                    refine WA.y (i := 14) (NoPanic.then (NoPanic.body)) rfl kr_ kr_ kr_ rfl (Yd.move rfl) ?_
                    refine WA.y (i := 15) (NoPanic.then (NoPanic.body)) rfl kr_ kr_ kr_ rfl (Yd.extract rfl rfl) ?_
                    refine WA.y (i := 16) (NoPanic.then (NoPanic.body)) rfl kr_ kr_ kr_ rfl (Yd.extract rfl rfl) ?_
                    refine WA.one (i := 18) kr_ ?_
                    refine WO.s rfl Wt.none (Hd.storeAll (n := 2) kr_ rfl rfl (by rfl) one_ fr_ (by rfl) ⟨rfl, ?_⟩)
                    refine WA.y (i := 19) (NoPanic.then (NoPanic.body)) rfl kr_ kr_ kr_ rfl (Yd.assign rfl) ?_
                    refine WA.done kr_ ?_
                    exact DN.reachS ((b11, (w7o, w7c), D7)) (hF7) (Sx.put rfl (Sx.put rfl (sx_))) sp_
                · change WA _ _ _ _ _ _ 9 _ ([(168, _), (173, _)] ++ _) _
                  refine WA.y (i := 10) (NoPanic.then (NoPanic.body)) rfl kr_ kr_ kr_ rfl (Yd.len (e := 43) kr_ rfl) ?_
                  refine WA.y (i := 11) (NoPanic.then (NoPanic.body)) rfl kr_ kr_ kr_ rfl (Yd.to8 _ kr_ kr_ rfl rfl) ?_
                  refine WA.one (i := 12) kr_ ?_
                  refine WO.h rfl Wt.none rfl (Hd.build1 (e := 5) (z := .int .u8 0) kr_ kr_ kr_ rfl (by rfl) fun b176 => ⟨_, rfl, ?_⟩)
                  refine WA.one (i := 13) kr_ ?_
                  refine WO.c rfl Wt.none rfl (Ent.func Try.call15 rfl) (keep_tells s.e _ s.ks (row b176 (bc (replyS s)) 5 :: (CF ++ H)) (hF.kv.mono gr_) (by omega) (noteOf c) (.slice none 0 0) (.slice vo9 c.data.length vc9) (Bs_nil _) (hvc.mono gr_) cd9 (.slice (some ⟨b176, 0, none⟩) 1 1) (replyS s) (.inr ⟨b176, 0, 1, bc (replyS s), 5, (0, 0), true, rfl, Nat.le_refl _, mem_, rfl⟩)) (Sp.p sp_) ?_
                  rintro xk Hk ⟨w7, D7, rfl, hF7, rfl⟩
                  rw [hkeep] at hF7 ⊢
                  dsimp only at hF7 ⊢
                  obtain ⟨w7o, w7c, rfl⟩ := hF7.form
                  refine WA.y (i := 14) (NoPanic.then (NoPanic.body)) rfl kr_ kr_ kr_ rfl (Yd.move rfl) ?_
                  refine WA.y (i := 15) (NoPanic.then (NoPanic.body)) rfl kr_ kr_ kr_ rfl (Yd.extract rfl rfl) ?_
                  refine WA.y (i := 16) (NoPanic.then (NoPanic.body)) rfl kr_ kr_ kr_ rfl (Yd.extract rfl rfl) ?_
                  refine WA.one (i := 18) kr_ ?_
                  refine WO.s rfl Wt.none (Hd.storeAll (n := 2) kr_ rfl rfl (by rfl) one_ fr_ (by rfl) ⟨rfl, ?_⟩)
                  refine WA.y (i := 19) (NoPanic.then (NoPanic.body)) rfl kr_ kr_ kr_ rfl (Yd.assign rfl) ?_
                  refine WA.done kr_ ?_
                  exact DN.reachS ((b11, (w7o, w7c), D7)) (hF7) (Sx.put rfl (Sx.put rfl (sx_))) sp_
              · change WO _ _ _ _ _ _ 11 _ 17 ([(168, _)] ++ _) _
                refine WO.h rfl Wt.none rfl (Hd.alloc (zs := [.int .u32 0, .slice none 0 0]) kr_ fun b11 => ⟨_, rfl, ?_⟩)
                refine WA.reads [(3, 167, _), (9, 173, _)] [3, 9] [([9], 10)] 9 rfl rfl (List.forall_mem_cons.2 ⟨ReadAt.mk rfl Wt.none rfl (Rd.loadA (n := 2) (vs := [_, _]) kr_ rfl mem_ (by rfl) (by rfl)), List.forall_mem_cons.2 ⟨ReadAt.mk rfl Wt.none rfl (Rd.load1 kr_ rfl mem_ (by rfl)), fun _ h => absurd h List.not_mem_nil⟩⟩) (by decide) (by simp) (List.forall_mem_cons.2 ⟨rfl, List.forall_mem_cons.2 ⟨rfl, fun _ h => absurd h List.not_mem_nil⟩⟩) kr_ (List.forall_mem_cons.2 ⟨?_, fun _ h => absurd h List.not_mem_nil⟩) ?_
                · change WO _ _ _ _ _ _ 9 _ 10 ([(173, _)] ++ _) _
                  refine WO.y rfl Wt.none rfl (Yd.len (e := 43) kr_ rfl) ?_
                  refine WA.y (i := 11) (NoPanic.then (NoPanic.body)) rfl kr_ kr_ kr_ rfl (Yd.to8 _ kr_ kr_ rfl rfl) ?_
                  refine WA.two (i := 3) (j := 12) kr_ ?_ ?_
                  · refine WO.h rfl Wt.none rfl (Hd.loadA (n := 2) (vs := [_, _]) kr_ rfl mem_ (by rfl) (by rfl) ⟨_, rfl, ?_⟩)
                    refine WA.one (i := 12) kr_ ?_
                    refine WO.h rfl Wt.none rfl (Hd.build1 (e := 5) (z := .int .u8 0) kr_ kr_ kr_ rfl (by rfl) fun b176 => ⟨_, rfl, ?_⟩)
                    refine WA.one (i := 13) kr_ ?_
                    refine WO.c rfl Wt.none rfl (Ent.func Try.call15 rfl) (keep_tells s.e _ s.ks (row b176 (bc (replyS s)) 5 :: (CF ++ H)) (hF.kv.mono gr_) (by omega) (noteOf c) (.slice none 0 0) (.slice vo9 c.data.length vc9) (Bs_nil _) (hvc.mono gr_) cd9 (.slice (some ⟨b176, 0, none⟩) 1 1) (replyS s) (.inr ⟨b176, 0, 1, bc (replyS s), 5, (0, 0), true, rfl, Nat.le_refl _, mem_, rfl⟩)) (Sp.p sp_) ?_
                    rintro xk Hk ⟨w7, D7, rfl, hF7, rfl⟩
                    rw [hkeep] at hF7 ⊢
                    dsimp only at hF7 ⊢
                    obtain ⟨w7o, w7c, rfl⟩ := hF7.form
                    refine WA.y (i := 14) (NoPanic.then (NoPanic.body)) rfl kr_ kr_ kr_ rfl (Yd.move rfl) ?_
                    refine WA.y (i := 15) (NoPanic.then (NoPanic.body)) rfl kr_ kr_ kr_ rfl (Yd.extract rfl rfl) ?_
                    refine WA.y (i := 16) (NoPanic.then (NoPanic.body)) rfl kr_ kr_ kr_ rfl (Yd.extract rfl rfl) ?_
                    refine WA.one (i := 18) kr_ ?_
                    refine WO.s rfl Wt.none (Hd.storeAll (n := 2) kr_ rfl rfl (by rfl) one_ fr_ (by rfl) ⟨rfl, ?_⟩)
                    refine WA.y (i := 19) (NoPanic.then (NoPanic.body)) rfl kr_ kr_ kr_ rfl (Yd.assign rfl) ?_
                    refine WA.done kr_ ?_
                    exact DN.reachS ((b11, (w7o, w7c), D7)) (hF7) (Sx.put rfl (Sx.put rfl (sx_))) sp_
                  · refine WO.h rfl Wt.none rfl (Hd.build1 (e := 5) (z := .int .u8 0) kr_ kr_ kr_ rfl (by rfl) fun b176 => ⟨_, rfl, ?_⟩)
                    refine WA.one (i := 3) kr_ ?_
                    refine WO.h rfl Wt.none rfl (Hd.loadA (n := 2) (vs := [_, _]) kr_ rfl mem_ (by rfl) (by rfl) ⟨_, rfl, ?_⟩)
                    refine WA.one (i := 13) kr_ ?_
                    refine WO.c rfl Wt.none rfl (Ent.func Try.call15 rfl) (keep_tells s.e _ s.ks (row b176 (bc (replyS s)) 5 :: (CF ++ H)) (hF.kv.mono gr_) (by omega) (noteOf c) (.slice none 0 0) (.slice vo9 c.data.length vc9) (Bs_nil _) (hvc.mono gr_) cd9 (.slice (some ⟨b176, 0, none⟩) 1 1) (replyS s) (.inr ⟨b176, 0, 1, bc (replyS s), 5, (0, 0), true, rfl, Nat.le_refl _, mem_, rfl⟩)) (Sp.p sp_) ?_
                    rintro xk Hk ⟨w7, D7, rfl, hF7, rfl⟩
                    rw [hkeep] at hF7 ⊢
                    dsimp only at hF7 ⊢
                    obtain ⟨w7o, w7c, rfl⟩ := hF7.form
                    refine WA.y (i := 14) (NoPanic.then (NoPanic.body)) rfl kr_ kr_ kr_ rfl (Yd.move rfl) ?_
                    refine WA.y (i := 15) (NoPanic.then (NoPanic.body)) rfl kr_ kr_ kr_ rfl (Yd.extract rfl rfl) ?_
                    refine WA.y (i := 16) (NoPanic.then (NoPanic.body)) rfl kr_ kr_ kr_ rfl (Yd.extract rfl rfl) ?_
                    refine WA.one (i := 18) kr_ ?_
                    refine WO.s rfl Wt.none (Hd.storeAll (n := 2) kr_ rfl rfl (by rfl) one_ fr_ (by rfl) ⟨rfl, ?_⟩)
                    refine WA.y (i := 19) (NoPanic.then (NoPanic.body)) rfl kr_ kr_ kr_ rfl (Yd.assign rfl) ?_
                    refine WA.done kr_ ?_
                    exact DN.reachS ((b11, (w7o, w7c), D7)) (hF7) (Sx.put rfl (Sx.put rfl (sx_))) sp_
                · change WA _ _ _ _ _ _ 9 _ ([(167, _), (173, _)] ++ _) _
                  refine WA.y (i := 10) (NoPanic.then (NoPanic.body)) rfl kr_ kr_ kr_ rfl (Yd.len (e := 43) kr_ rfl) ?_
                  refine WA.y (i := 11) (NoPanic.then (NoPanic.body)) rfl kr_ kr_ kr_ rfl (Yd.to8 _ kr_ kr_ rfl rfl) ?_
                  refine WA.one (i := 12) kr_ ?_
                  refine WO.h rfl Wt.none rfl (Hd.build1 (e := 5) (z := .int .u8 0) kr_ kr_ kr_ rfl (by rfl) fun b176 => ⟨_, rfl, ?_⟩)
                  refine WA.one (i := 13) kr_ ?_
                  refine WO.c rfl Wt.none rfl (Ent.func Try.call15 rfl) (keep_tells s.e _ s.ks (row b176 (bc (replyS s)) 5 :: (CF ++ H)) (hF.kv.mono gr_) (by omega) (noteOf c) (.slice none 0 0) (.slice vo9 c.data.length vc9) (Bs_nil _) (hvc.mono gr_) cd9 (.slice (some ⟨b176, 0, none⟩) 1 1) (replyS s) (.inr ⟨b176, 0, 1, bc (replyS s), 5, (0, 0), true, rfl, Nat.le_refl _, mem_, rfl⟩)) (Sp.p sp_) ?_
                  rintro xk Hk ⟨w7, D7, rfl, hF7, rfl⟩
                  rw [hkeep] at hF7 ⊢
                  dsimp only at hF7 ⊢
                  obtain ⟨w7o, w7c, rfl⟩ := hF7.form
                  refine WA.y (i := 14) (NoPanic.then (NoPanic.body)) rfl kr_ kr_ kr_ rfl (Yd.move rfl) ?_
                  refine WA.y (i := 15) (NoPanic.then (NoPanic.body)) rfl kr_ kr_ kr_ rfl (Yd.extract rfl rfl) ?_
                  refine WA.y (i := 16) (NoPanic.then (NoPanic.body)) rfl kr_ kr_ kr_ rfl (Yd.extract rfl rfl) ?_
                  refine WA.one (i := 18) kr_ ?_
                  refine WO.s rfl Wt.none (Hd.storeAll (n := 2) kr_ rfl rfl (by rfl) one_ fr_ (by rfl) ⟨rfl, ?_⟩)
                  refine WA.y (i := 19) (NoPanic.then (NoPanic.body)) rfl kr_ kr_ kr_ rfl (Yd.assign rfl) ?_
                  refine WA.done kr_ ?_
                  exact DN.reachS ((b11, (w7o, w7c), D7)) (hF7) (Sx.put rfl (Sx.put rfl (sx_))) sp_
              · change WO _ _ _ _ _ _ 11 _ 10 ([(173, _)] ++ _) _
                refine WO.y rfl Wt.none rfl (Yd.len (e := 43) kr_ rfl) ?_
                refine WA.y (i := 11) (NoPanic.then (NoPanic.body)) rfl kr_ kr_ kr_ rfl (Yd.to8 _ kr_ kr_ rfl rfl) ?_
                refine WA.reads [(3, 167, _), (4, 168, _)] [3, 4] [([], 12), ([], 17), ([3], 12), ([3], 17), ([4], 12), ([4], 17)] 8 rfl rfl (List.forall_mem_cons.2 ⟨ReadAt.mk rfl Wt.none rfl (Rd.loadA (n := 2) (vs := [_, _]) kr_ rfl mem_ (by rfl) (by rfl)), List.forall_mem_cons.2 ⟨ReadAt.mk rfl Wt.none rfl (Rd.loadAll (n := 11) kr_ rfl mem_ (by rfl)), fun _ h => absurd h List.not_mem_nil⟩⟩) (by decide) (by simp) (List.forall_mem_cons.2 ⟨rfl, List.forall_mem_cons.2 ⟨rfl, fun _ h => absurd h List.not_mem_nil⟩⟩) kr_ (List.forall_mem_cons.2 ⟨?_, List.forall_mem_cons.2 ⟨?_, List.forall_mem_cons.2 ⟨?_, List.forall_mem_cons.2 ⟨?_, List.forall_mem_cons.2 ⟨?_, List.forall_mem_cons.2 ⟨?_, fun _ h => absurd h List.not_mem_nil⟩⟩⟩⟩⟩⟩) ?_
                · change WO _ _ _ _ _ _ 9 _ 12 ([] ++ _) _
                  refine WO.h rfl Wt.none rfl (Hd.build1 (e := 5) (z := .int .u8 0) kr_ kr_ kr_ rfl (by rfl) fun b176 => ⟨_, rfl, ?_⟩)
                  refine WA.reads [(3, 167, _), (4, 168, _)] [3, 4] [([], 17), ([3], 17), ([4], 17)] 7 rfl rfl (List.forall_mem_cons.2 ⟨ReadAt.mk rfl Wt.none rfl (Rd.loadA (n := 2) (vs := [_, _]) kr_ rfl mem_ (by rfl) (by rfl)), List.forall_mem_cons.2 ⟨ReadAt.mk rfl Wt.none rfl (Rd.loadAll (n := 11) kr_ rfl mem_ (by rfl)), fun _ h => absurd h List.not_mem_nil⟩⟩) (by decide) (by simp) (List.forall_mem_cons.2 ⟨rfl, List.forall_mem_cons.2 ⟨rfl, fun _ h => absurd h List.not_mem_nil⟩⟩) kr_ (List.forall_mem_cons.2 ⟨?_, List.forall_mem_cons.2 ⟨?_, List.forall_mem_cons.2 ⟨?_, fun _ h => absurd h List.not_mem_nil⟩⟩⟩) ?_
                  · change WO _ _ _ _ _ _ 8 _ 17 ([] ++ _) _
                    refine WO.h rfl Wt.none rfl (Hd.alloc (zs := [.int .u32 0, .slice none 0 0]) kr_ fun b11 => ⟨_, rfl, ?_⟩)
                    refine WA.reads [(3, 167, _), (4, 168, _)] [3, 4] [] 6 rfl rfl (List.forall_mem_cons.2 ⟨ReadAt.mk rfl Wt.none rfl (Rd.loadA (n := 2) (vs := [_, _]) kr_ rfl mem_ (by rfl) (by rfl)), List.forall_mem_cons.2 ⟨ReadAt.mk rfl Wt.none rfl (Rd.loadAll (n := 11) kr_ rfl mem_ (by rfl)), fun _ h => absurd h List.not_mem_nil⟩⟩) (by decide) (by simp) (List.forall_mem_cons.2 ⟨rfl, List.forall_mem_cons.2 ⟨rfl, fun _ h => absurd h List.not_mem_nil⟩⟩) kr_ (fun _ h => absurd h List.not_mem_nil) ?_
                    · change WA _ _ _ _ _ _ 6 _ ([(167, _), (168, _)] ++ _) _
                      refine WA.one (i := 13) kr_ ?_
                      refine WO.c rfl Wt.none rfl (Ent.func Try.call15 rfl) (keep_tells s.e _ s.ks (row b176 (bc (replyS s)) 5 :: (CF ++ H)) (hF.kv.mono gr_) (by omega) (noteOf c) (.slice none 0 0) (.slice vo9 c.data.length vc9) (Bs_nil _) (hvc.mono gr_) cd9 (.slice (some ⟨b176, 0, none⟩) 1 1) (replyS s) (.inr ⟨b176, 0, 1, bc (replyS s), 5, (0, 0), true, rfl, Nat.le_refl _, mem_, rfl⟩)) (Sp.p sp_) ?_
                      rintro xk Hk ⟨w7, D7, rfl, hF7, rfl⟩
                      rw [hkeep] at hF7 ⊢
                      dsimp only at hF7 ⊢
                      obtain ⟨w7o, w7c, rfl⟩ := hF7.form
                      refine WA.y (i := 14) (NoPanic.then (NoPanic.body)) rfl kr_ kr_ kr_ rfl (Yd.move rfl) ?_
                      refine WA.y (i := 15) (NoPanic.then (NoPanic.body)) rfl kr_ kr_ kr_ rfl (Yd.extract rfl rfl) ?_
                      refine WA.y (i := 16) (NoPanic.then (NoPanic.body)) rfl kr_ kr_ kr_ rfl (Yd.extract rfl rfl) ?_
                      refine WA.one (i := 18) kr_ ?_
                      refine WO.s rfl Wt.none (Hd.storeAll (n := 2) kr_ rfl rfl (by rfl) one_ fr_ (by rfl) ⟨rfl, ?_⟩)
                      refine WA.y (i := 19) (NoPanic.then (NoPanic.body)) rfl kr_ kr_ kr_ rfl (Yd.assign rfl) ?_
                      refine WA.done kr_ ?_
                      exact DN.reachS ((b11, (w7o, w7c), D7)) (hF7) (Sx.put rfl (Sx.put rfl (sx_))) sp_
                  · change WO _ _ _ _ _ _ 7 _ 17 ([(167, _)] ++ _) _
                    refine WO.h rfl Wt.none rfl (Hd.alloc (zs := [.int .u32 0, .slice none 0 0]) kr_ fun b11 => ⟨_, rfl, ?_⟩)
                    refine WA.one (i := 4) kr_ ?_
                    refine WO.h rfl Wt.none rfl (Hd.loadAll (n := 11) kr_ rfl mem_ (by rfl) ⟨_, rfl, ?_⟩)
                    refine WA.one (i := 13) kr_ ?_
                    refine WO.c rfl Wt.none rfl (Ent.func Try.call15 rfl) (keep_tells s.e _ s.ks (row b176 (bc (replyS s)) 5 :: (CF ++ H)) (hF.kv.mono gr_) (by omega) (noteOf c) (.slice none 0 0) (.slice vo9 c.data.length vc9) (Bs_nil _) (hvc.mono gr_) cd9 (.slice (some ⟨b176, 0, none⟩) 1 1) (replyS s) (.inr ⟨b176, 0, 1, bc (replyS s), 5, (0, 0), true, rfl, Nat.le_refl _, mem_, rfl⟩)) (Sp.p sp_) ?_
                    rintro xk Hk ⟨w7, D7, rfl, hF7, rfl⟩
                    rw [hkeep] at hF7 ⊢
                    dsimp only at hF7 ⊢
                    obtain ⟨w7o, w7c, rfl⟩ := hF7.form
                    refine WA.y (i := 14) (NoPanic.then (NoPanic.body)) rfl kr_ kr_ kr_ rfl (Yd.move rfl) ?_
                    refine WA.y (i := 15) (NoPanic.then (NoPanic.body)) rfl kr_ kr_ kr_ rfl (Yd.extract rfl rfl) ?_
                    refine WA.y (i := 16) (NoPanic.then (NoPanic.body)) rfl kr_ kr_ kr_ rfl (Yd.extract rfl rfl) ?_
                    refine WA.one (i := 18) kr_ ?_
                    refine WO.s rfl Wt.none (Hd.storeAll (n := 2) kr_ rfl rfl (by rfl) one_ fr_ (by rfl) ⟨rfl, ?_⟩)
                    refine WA.y (i := 19) (NoPanic.then (NoPanic.body)) rfl kr_ kr_ kr_ rfl (Yd.assign rfl) ?_
                    refine WA.done kr_ ?_
                    exact DN.reachS ((b11, (w7o, w7c), D7)) (hF7) (Sx.put rfl (Sx.put rfl (sx_))) sp_
                  · change WO _ _ _ _ _ _ 7 _ 17 ([(168, _)] ++ _) _
                    refine WO.h rfl Wt.none rfl (Hd.alloc (zs := [.int .u32 0, .slice none 0 0]) kr_ fun b11 => ⟨_, rfl, ?_⟩)
                    refine WA.one (i := 3) kr_ ?_
                    refine WO.h rfl Wt.none rfl (Hd.loadA (n := 2) (vs := [_, _]) kr_ rfl mem_ (by rfl) (by rfl) ⟨_, rfl, ?_⟩)
                    refine WA.one (i := 13) kr_ ?_
                    refine WO.c rfl Wt.none rfl (Ent.func Try.call15 rfl) (keep_tells s.e _ s.ks (row b176 (bc (replyS s)) 5 :: (CF ++ H)) (hF.kv.mono gr_) (by omega) (noteOf c) (.slice none 0 0) (.slice vo9 c.data.length vc9) (Bs_nil _) (hvc.mono gr_) cd9 (.slice (some ⟨b176, 0, none⟩) 1 1) (replyS s) (.inr ⟨b176, 0, 1, bc (replyS s), 5, (0, 0), true, rfl, Nat.le_refl _, mem_, rfl⟩)) (Sp.p sp_) ?_
                    rintro xk Hk ⟨w7, D7, rfl, hF7, rfl⟩
                    rw [hkeep] at hF7 ⊢
                    dsimp only at hF7 ⊢
                    obtain ⟨w7o, w7c, rfl⟩ := hF7.form
                    refine WA.y (i := 14) (NoPanic.then (NoPanic.body)) rfl kr_ kr_ kr_ rfl (Yd.move rfl) ?_
                    refine WA.y (i := 15) (NoPanic.then (NoPanic.body)) rfl kr_ kr_ kr_ rfl (Yd.extract rfl rfl) ?_
                    refine WA.y (i := 16) (NoPanic.then (NoPanic.body)) rfl kr_ kr_ kr_ rfl (Yd.extract rfl rfl) ?_
                    refine WA.one (i := 18) kr_ ?_
                    refine WO.s rfl Wt.none (Hd.storeAll (n := 2) kr_ rfl rfl (by rfl) one_ fr_ (by rfl) ⟨rfl, ?_⟩)
                    refine WA.y (i := 19) (NoPanic.then (NoPanic.body)) rfl kr_ kr_ kr_ rfl (Yd.assign rfl) ?_
                    refine WA.done kr_ ?_
                    exact DN.reachS ((b11, (w7o, w7c), D7)) (hF7) (Sx.put rfl (Sx.put rfl (sx_))) sp_
                  · change WA _ _ _ _ _ _ 7 _ ([(167, _), (168, _)] ++ _) _
                    refine WA.two (i := 13) (j := 17) kr_ ?_ ?_
                    · refine WO.c rfl Wt.none rfl (Ent.func Try.call15 rfl) (keep_tells s.e _ s.ks (row b176 (bc (replyS s)) 5 :: (CF ++ H)) (hF.kv.mono gr_) (by omega) (noteOf c) (.slice none 0 0) (.slice vo9 c.data.length vc9) (Bs_nil _) (hvc.mono gr_) cd9 (.slice (some ⟨b176, 0, none⟩) 1 1) (replyS s) (.inr ⟨b176, 0, 1, bc (replyS s), 5, (0, 0), true, rfl, Nat.le_refl _, mem_, rfl⟩)) (Sp.p sp_) ?_
                      rintro xk Hk ⟨w7, D7, rfl, hF7, rfl⟩
                      rw [hkeep] at hF7 ⊢
                      dsimp only at hF7 ⊢
                      obtain ⟨w7o, w7c, rfl⟩ := hF7.form
                      refine WA.y (i := 14) (NoPanic.then (NoPanic.body)) rfl kr_ kr_ kr_ rfl (Yd.move rfl) ?_
                      refine WA.y (i := 15) (NoPanic.then (NoPanic.body)) rfl kr_ kr_ kr_ rfl (Yd.extract rfl rfl) ?_
                      refine WA.y (i := 16) (NoPanic.then (NoPanic.body)) rfl kr_ kr_ kr_ rfl (Yd.extract rfl rfl) ?_
                      refine WA.one (i := 17) kr_ ?_
                      refine WO.h rfl Wt.none rfl (Hd.alloc (zs := [.int .u32 0, .slice none 0 0]) kr_ fun b11 => ⟨_, rfl, ?_⟩)
                      refine WA.one (i := 18) kr_ ?_
                      refine WO.s rfl Wt.none (Hd.storeAll (n := 2) kr_ rfl rfl (by rfl) one_ fr_ (by rfl) ⟨rfl, ?_⟩)
                      refine WA.y (i := 19) (NoPanic.then (NoPanic.body)) rfl kr_ kr_ kr_ rfl (Yd.assign rfl) ?_
                      refine WA.done kr_ ?_
                      exact DN.reachS ((b11, (w7o, w7c), D7)) (hF7) (Sx.put rfl (Sx.put rfl (sx_))) sp_
                    · refine WO.h rfl Wt.none rfl (Hd.alloc (zs := [.int .u32 0, .slice none 0 0]) kr_ fun b11 => ⟨_, rfl, ?_⟩)
                      refine WA.one (i := 13) kr_ ?_
                      refine WO.c rfl Wt.none rfl (Ent.func Try.call15 rfl) (keep_tells s.e _ s.ks (row b176 (bc (replyS s)) 5 :: (CF ++ H)) (hF.kv.mono gr_) (by omega) (noteOf c) (.slice none 0 0) (.slice vo9 c.data.length vc9) (Bs_nil _) (hvc.mono gr_) cd9 (.slice (some ⟨b176, 0, none⟩) 1 1) (replyS s) (.inr ⟨b176, 0, 1, bc (replyS s), 5, (0, 0), true, rfl, Nat.le_refl _, mem_, rfl⟩)) (Sp.p sp_) ?_
                      rintro xk Hk ⟨w7, D7, rfl, hF7, rfl⟩
                      rw [hkeep] at hF7 ⊢
                      dsimp only at hF7 ⊢
                      obtain ⟨w7o, w7c, rfl⟩ := hF7.form
                      refine WA.y (i := 14) (NoPanic.then (NoPanic.body)) rfl kr_ kr_ kr_ rfl (Yd.move rfl) ?_
                      refine WA.y (i := 15) (NoPanic.then (NoPanic.body)) rfl kr_ kr_ kr_ rfl (Yd.extract rfl rfl) ?_
                      refine WA.y (i := 16) (NoPanic.then (NoPanic.body)) rfl kr_ kr_ kr_ rfl (Yd.extract rfl rfl) ?_
                      refine WA.one (i := 18) kr_ ?_
                      refine WO.s rfl Wt.none (Hd.storeAll (n := 2) kr_ rfl rfl (by rfl) one_ fr_ (by rfl) ⟨rfl, ?_⟩)
                      refine WA.y (i := 19) (NoPanic.then (NoPanic.body)) rfl kr_ kr_ kr_ rfl (Yd.assign rfl) ?_
                      refine WA.done kr_ ?_
                      exact DN.reachS ((b11, (w7o, w7c), D7)) (hF7) (Sx.put rfl (Sx.put rfl (sx_))) sp_
                · change WO _ _ _ _ _ _ 9 _ 17 ([] ++ _) _
                  refine WO.h rfl Wt.none rfl (Hd.alloc (zs := [.int .u32 0, .slice none 0 0]) kr_ fun b11 => ⟨_, rfl, ?_⟩)
                  refine WA.reads [(3, 167, _), (4, 168, _)] [3, 4] [([], 12), ([3], 12), ([4], 12)] 7 rfl rfl (List.forall_mem_cons.2 ⟨ReadAt.mk rfl Wt.none rfl (Rd.loadA (n := 2) (vs := [_, _]) kr_ rfl mem_ (by rfl) (by rfl)), List.forall_mem_cons.2 ⟨ReadAt.mk rfl Wt.none rfl (Rd.loadAll (n := 11) kr_ rfl mem_ (by rfl)), fun _ h => absurd h List.not_mem_nil⟩⟩) (by decide) (by simp) (List.forall_mem_cons.2 ⟨rfl, List.forall_mem_cons.2 ⟨rfl, fun _ h => absurd h List.not_mem_nil⟩⟩) kr_ (List.forall_mem_cons.2 ⟨?_, List.forall_mem_cons.2 ⟨?_, List.forall_mem_cons.2 ⟨?_, fun _ h => absurd h List.not_mem_nil⟩⟩⟩) ?_
                  · change WO _ _ _ _ _ _ 8 _ 12 ([] ++ _) _
                    refine WO.h rfl Wt.none rfl (Hd.build1 (e := 5) (z := .int .u8 0) kr_ kr_ kr_ rfl (by rfl) fun b176 => ⟨_, rfl, ?_⟩)
                    refine WA.reads [(3, 167, _), (4, 168, _)] [3, 4] [] 6 rfl rfl (List.forall_mem_cons.2 ⟨ReadAt.mk rfl Wt.none rfl (Rd.loadA (n := 2) (vs := [_, _]) kr_ rfl mem_ (by rfl) (by rfl)), List.forall_mem_cons.2 ⟨ReadAt.mk rfl Wt.none rfl (Rd.loadAll (n := 11) kr_ rfl mem_ (by rfl)), fun _ h => absurd h List.not_mem_nil⟩⟩) (by decide) (by simp) (List.forall_mem_cons.2 ⟨rfl, List.forall_mem_cons.2 ⟨rfl, fun _ h => absurd h List.not_mem_nil⟩⟩) kr_ (fun _ h => absurd h List.not_mem_nil) ?_
                    · change WA _ _ _ _ _ _ 6 _ ([(167, _), (168, _)] ++ _) _
                      refine WA.one (i := 13) kr_ ?_
                      refine WO.c rfl Wt.none rfl (Ent.func Try.call15 rfl) (keep_tells s.e _ s.ks (row b176 (bc (replyS s)) 5 :: (CF ++ H)) (hF.kv.mono gr_) (by omega) (noteOf c) (.slice none 0 0) (.slice vo9 c.data.length vc9) (Bs_nil _) (hvc.mono gr_) cd9 (.slice (some ⟨b176, 0, none⟩) 1 1) (replyS s) (.inr ⟨b176, 0, 1, bc (replyS s), 5, (0, 0), true, rfl, Nat.le_refl _, mem_, rfl⟩)) (Sp.p sp_) ?_
                      rintro xk Hk ⟨w7, D7, rfl, hF7, rfl⟩
                      rw [hkeep] at hF7 ⊢
                      dsimp only at hF7 ⊢
                      obtain ⟨w7o, w7c, rfl⟩ := hF7.form
                      refine WA.y (i := 14) (NoPanic.then (NoPanic.body)) rfl kr_ kr_ kr_ rfl (Yd.move rfl) ?_
                      refine WA.y (i := 15) (NoPanic.then (NoPanic.body)) rfl kr_ kr_ kr_ rfl (Yd.extract rfl rfl) ?_
                      refine WA.y (i := 16) (NoPanic.then (NoPanic.body)) rfl kr_ kr_ kr_ rfl (Yd.extract rfl rfl) ?_
                      refine WA.one (i := 18) kr_ ?_
                      refine WO.s rfl Wt.none (Hd.storeAll (n := 2) kr_ rfl rfl (by rfl) one_ fr_ (by rfl) ⟨rfl, ?_⟩)
                      refine WA.y (i := 19) (NoPanic.then (NoPanic.body)) rfl kr_ kr_ kr_ rfl (Yd.assign rfl) ?_
                      refine WA.done kr_ ?_
                      exact DN.reachS ((b11, (w7o, w7c), D7)) (hF7) (Sx.put rfl (Sx.put rfl (sx_))) sp_
                  · change WO _ _ _ _ _ _ 7 _ 12 ([(167, _)] ++ _) _
                    refine WO.h rfl Wt.none rfl (Hd.build1 (e := 5) (z := .int .u8 0) kr_ kr_ kr_ rfl (by rfl) fun b176 => ⟨_, rfl, ?_⟩)
                    refine WA.one (i := 4) kr_ ?_
                    refine WO.h rfl Wt.none rfl (Hd.loadAll (n := 11) kr_ rfl mem_ (by rfl) ⟨_, rfl, ?_⟩)
                    refine WA.one (i := 13) kr_ ?_
                    refine WO.c rfl Wt.none rfl (Ent.func Try.call15 rfl) (keep_tells s.e _ s.ks (row b176 (bc (replyS s)) 5 :: (CF ++ H)) (hF.kv.mono gr_) (by omega) (noteOf c) (.slice none 0 0) (.slice vo9 c.data.length vc9) (Bs_nil _) (hvc.mono gr_) cd9 (.slice (some ⟨b176, 0, none⟩) 1 1) (replyS s) (.inr ⟨b176, 0, 1, bc (replyS s), 5, (0, 0), true, rfl, Nat.le_refl _, mem_, rfl⟩)) (Sp.p sp_) ?_
                    rintro xk Hk ⟨w7, D7, rfl, hF7, rfl⟩
                    rw [hkeep] at hF7 ⊢
                    dsimp only at hF7 ⊢
                    obtain ⟨w7o, w7c, rfl⟩ := hF7.form
                    refine WA.y (i := 14) (NoPanic.then (NoPanic.body)) rfl kr_ kr_ kr_ rfl (Yd.move rfl) ?_
                    refine WA.y (i := 15) (NoPanic.then (NoPanic.body)) rfl kr_ kr_ kr_ rfl (Yd.extract rfl rfl) ?_
                    refine WA.y (i := 16) (NoPanic.then (NoPanic.body)) rfl kr_ kr_ kr_ rfl (Yd.extract rfl rfl) ?_
                    refine WA.one (i := 18) kr_ ?_
                    refine WO.s rfl Wt.none (Hd.storeAll (n := 2) kr_ rfl rfl (by rfl) one_ fr_ (by rfl) ⟨rfl, ?_⟩)
                    refine WA.y (i := 19) (NoPanic.then (NoPanic.body)) rfl kr_ kr_ kr_ rfl (Yd.assign rfl) ?_
                    refine WA.done kr_ ?_
                    exact DN.reachS ((b11, (w7o, w7c), D7)) (hF7) (Sx.put rfl (Sx.put rfl (sx_))) sp_
                  · change WO _ _ _ _ _ _ 7 _ 12 ([(168, _)] ++ _) _
                    refine WO.h rfl Wt.none rfl (Hd.build1 (e := 5) (z := .int .u8 0) kr_ kr_ kr_ rfl (by rfl) fun b176 => ⟨_, rfl, ?_⟩)
                    refine WA.one (i := 3) kr_ ?_
                    refine WO.h rfl Wt.none rfl (Hd.loadA (n := 2) (vs := [_, _]) kr_ rfl mem_ (by rfl) (by rfl) ⟨_, rfl, ?_⟩)
                    refine WA.one (i := 13) kr_ ?_
                    refine WO.c rfl Wt.none rfl (Ent.func Try.call15 rfl) (keep_tells s.e _ s.ks (row b176 (bc (replyS s)) 5 :: (CF ++ H)) (hF.kv.mono gr_) (by omega) (noteOf c) (.slice none 0 0) (.slice vo9 c.data.length vc9) (Bs_nil _) (hvc.mono gr_) cd9 (.slice (some ⟨b176, 0, none⟩) 1 1) (replyS s) (.inr ⟨b176, 0, 1, bc (replyS s), 5, (0, 0), true, rfl, Nat.le_refl _, mem_, rfl⟩)) (Sp.p sp_) ?_
                    rintro xk Hk ⟨w7, D7, rfl, hF7, rfl⟩
                    rw [hkeep] at hF7 ⊢
                    dsimp only at hF7 ⊢
                    obtain ⟨w7o, w7c, rfl⟩ := hF7.form
                    refine WA.y (i := 14) (NoPanic.then (NoPanic.body)) rfl kr_ kr_ kr_ rfl (Yd.move rfl) ?_
                    refine WA.y (i := 15) (NoPanic.then (NoPanic.body)) rfl kr_ kr_ kr_ rfl (Yd.extract rfl rfl) ?_
                    refine WA.y (i := 16) (NoPanic.then (NoPanic.body)) rfl kr_ kr_ kr_ rfl (Yd.extract rfl rfl) ?_
                    refine WA.one (i := 18) kr_ ?_
                    refine WO.s rfl Wt.none (Hd.storeAll (n := 2) kr_ rfl rfl (by rfl) one_ fr_ (by rfl) ⟨rfl, ?_⟩)
                    refine WA.y (i := 19) (NoPanic.then (NoPanic.body)) rfl kr_ kr_ kr_ rfl (Yd.assign rfl) ?_
                    refine WA.done kr_ ?_
                    exact DN.reachS ((b11, (w7o, w7c), D7)) (hF7) (Sx.put rfl (Sx.put rfl (sx_))) sp_
                  · change WA _ _ _ _ _ _ 7 _ ([(167, _), (168, _)] ++ _) _
                    refine WA.one (i := 12) kr_ ?_
                    refine WO.h rfl Wt.none rfl (Hd.build1 (e := 5) (z := .int .u8 0) kr_ kr_ kr_ rfl (by rfl) fun b176 => ⟨_, rfl, ?_⟩)
                    refine WA.one (i := 13) kr_ ?_
                    refine WO.c rfl Wt.none rfl (Ent.func Try.call15 rfl) (keep_tells s.e _ s.ks (row b176 (bc (replyS s)) 5 :: (CF ++ H)) (hF.kv.mono gr_) (by omega) (noteOf c) (.slice none 0 0) (.slice vo9 c.data.length vc9) (Bs_nil _) (hvc.mono gr_) cd9 (.slice (some ⟨b176, 0, none⟩) 1 1) (replyS s) (.inr ⟨b176, 0, 1, bc (replyS s), 5, (0, 0), true, rfl, Nat.le_refl _, mem_, rfl⟩)) (Sp.p sp_) ?_
                    rintro xk Hk ⟨w7, D7, rfl, hF7, rfl⟩
                    rw [hkeep] at hF7 ⊢
                    dsimp only at hF7 ⊢
                    obtain ⟨w7o, w7c, rfl⟩ := hF7.form
                    refine WA.y (i := 14) (NoPanic.then (NoPanic.body)) rfl kr_ kr_ kr_ rfl (Yd.move rfl) ?_
                    refine WA.y (i := 15) (NoPanic.then (NoPanic.body)) rfl kr_ kr_ kr_ rfl (Yd.extract rfl rfl) ?_
                    refine WA.y (i := 16) (NoPanic.then (NoPanic.body)) rfl kr_ kr_ kr_ rfl (Yd.extract rfl rfl) ?_
                    refine WA.one (i := 18) kr_ ?_
                    refine WO.s rfl Wt.none (Hd.storeAll (n := 2) kr_ rfl rfl (by rfl) one_ fr_ (by rfl) ⟨rfl, ?_⟩)
                    refine WA.y (i := 19) (NoPanic.then (NoPanic.body)) rfl kr_ kr_ kr_ rfl (Yd.assign rfl) ?_
                    refine WA.done kr_ ?_
                    exact DN.reachS ((b11, (w7o, w7c), D7)) (hF7) (Sx.put rfl (Sx.put rfl (sx_))) sp_
                · change WO _ _ _ _ _ _ 8 _ 12 ([(167, _)] ++ _) _
                  refine WO.h rfl Wt.none rfl (Hd.build1 (e := 5) (z := .int .u8 0) kr_ kr_ kr_ rfl (by rfl) fun b176 => ⟨_, rfl, ?_⟩)
                  refine WA.two (i := 4) (j := 17) kr_ ?_ ?_
                  · refine WO.h rfl Wt.none rfl (Hd.loadAll (n := 11) kr_ rfl mem_ (by rfl) ⟨_, rfl, ?_⟩)
                    refine WA.two (i := 13) (j := 17) kr_ ?_ ?_
                    · refine WO.c rfl Wt.none rfl (Ent.func Try.call15 rfl) (keep_tells s.e _ s.ks (row b176 (bc (replyS s)) 5 :: (CF ++ H)) (hF.kv.mono gr_) (by omega) (noteOf c) (.slice none 0 0) (.slice vo9 c.data.length vc9) (Bs_nil _) (hvc.mono gr_) cd9 (.slice (some ⟨b176, 0, none⟩) 1 1) (replyS s) (.inr ⟨b176, 0, 1, bc (replyS s), 5, (0, 0), true, rfl, Nat.le_refl _, mem_, rfl⟩)) (Sp.p sp_) ?_
                      rintro xk Hk ⟨w7, D7, rfl, hF7, rfl⟩
                      rw [hkeep] at hF7 ⊢
                      dsimp only at hF7 ⊢
                      obtain ⟨w7o, w7c, rfl⟩ := hF7.form
                      refine WA.y (i := 14) (NoPanic.then (NoPanic.body)) rfl kr_ kr_ kr_ rfl (Yd.move rfl) ?_
                      refine WA.y (i := 15) (NoPanic.then (NoPanic.body)) rfl kr_ kr_ kr_ rfl (Yd.extract rfl rfl) ?_
                      refine WA.y (i := 16) (NoPanic.then (NoPanic.body)) rfl kr_ kr_ kr_ rfl (Yd.extract rfl rfl) ?_
                      refine WA.one (i := 17) kr_ ?_
                      refine WO.h rfl Wt.none rfl (Hd.alloc (zs := [.int .u32 0, .slice none 0 0]) kr_ fun b11 => ⟨_, rfl, ?_⟩)
                      refine WA.one (i := 18) kr_ ?_
                      refine WO.s rfl Wt.none (Hd.storeAll (n := 2) kr_ rfl rfl (by rfl) one_ fr_ (by rfl) ⟨rfl, ?_⟩)
                      refine WA.y (i := 19) (NoPanic.then (NoPanic.body)) rfl kr_ kr_ kr_ rfl (Yd.assign rfl) ?_
                      refine WA.done kr_ ?_
                      exact DN.reachS ((b11, (w7o, w7c), D7)) (hF7) (Sx.put rfl (Sx.put rfl (sx_))) sp_
                    · refine WO.h rfl Wt.none rfl (Hd.alloc (zs := [.int .u32 0, .slice none 0 0]) kr_ fun b11 => ⟨_, rfl, ?_⟩)
                      refine WA.one (i := 13) kr_ ?_
                      refine WO.c rfl Wt.none rfl (Ent.func Try.call15 rfl) (keep_tells s.e _ s.ks (row b176 (bc (replyS s)) 5 :: (CF ++ H)) (hF.kv.mono gr_) (by omega) (noteOf c) (.slice none 0 0) (.slice vo9 c.data.length vc9) (Bs_nil _) (hvc.mono gr_) cd9 (.slice (some ⟨b176, 0, none⟩) 1 1) (replyS s) (.inr ⟨b176, 0, 1, bc (replyS s), 5, (0, 0), true, rfl, Nat.le_refl _, mem_, rfl⟩)) (Sp.p sp_) ?_
                      rintro xk Hk ⟨w7, D7, rfl, hF7, rfl⟩
                      rw [hkeep] at hF7 ⊢
                      dsimp only at hF7 ⊢
                      obtain ⟨w7o, w7c, rfl⟩ := hF7.form
                      refine WA.y (i := 14) (NoPanic.then (NoPanic.body)) rfl kr_ kr_ kr_ rfl (Yd.move rfl) ?_
                      refine WA.y (i := 15) (NoPanic.then (NoPanic.body)) rfl kr_ kr_ kr_ rfl (Yd.extract rfl rfl) ?_
                      refine WA.y (i := 16) (NoPanic.then (NoPanic.body)) rfl kr_ kr_ kr_ rfl (Yd.extract rfl rfl) ?_
                      refine WA.one (i := 18) kr_ ?_
                      refine WO.s rfl Wt.none (Hd.storeAll (n := 2) kr_ rfl rfl (by rfl) one_ fr_ (by rfl) ⟨rfl, ?_⟩)
                      refine WA.y (i := 19) (NoPanic.then (NoPanic.body)) rfl kr_ kr_ kr_ rfl (Yd.assign rfl) ?_
                      refine WA.done kr_ ?_
                      exact DN.reachS ((b11, (w7o, w7c), D7)) (hF7) (Sx.put rfl (Sx.put rfl (sx_))) sp_
                  · refine WO.h rfl Wt.none rfl (Hd.alloc (zs := [.int .u32 0, .slice none 0 0]) kr_ fun b11 => ⟨_, rfl, ?_⟩)
                    refine WA.one (i := 4) kr_ ?_
                    refine WO.h rfl Wt.none rfl (Hd.loadAll (n := 11) kr_ rfl mem_ (by rfl) ⟨_, rfl, ?_⟩)
                    refine WA.one (i := 13) kr_ ?_
                    refine WO.c rfl Wt.none rfl (Ent.func Try.call15 rfl) (keep_tells s.e _ s.ks (row b176 (bc (replyS s)) 5 :: (CF ++ H)) (hF.kv.mono gr_) (by omega) (noteOf c) (.slice none 0 0) (.slice vo9 c.data.length vc9) (Bs_nil _) (hvc.mono gr_) cd9 (.slice (some ⟨b176, 0, none⟩) 1 1) (replyS s) (.inr ⟨b176, 0, 1, bc (replyS s), 5, (0, 0), true, rfl, Nat.le_refl _, mem_, rfl⟩)) (Sp.p sp_) ?_
                    rintro xk Hk ⟨w7, D7, rfl, hF7, rfl⟩
                    rw [hkeep] at hF7 ⊢
                    dsimp only at hF7 ⊢
                    obtain ⟨w7o, w7c, rfl⟩ := hF7.form
                    refine WA.y (i := 14) (NoPanic.then (NoPanic.body)) rfl kr_ kr_ kr_ rfl (Yd.move rfl) ?_
                    refine WA.y (i := 15) (NoPanic.then (NoPanic.body)) rfl kr_ kr_ kr_ rfl (Yd.extract rfl rfl) ?_
                    refine WA.y (i := 16) (NoPanic.then (NoPanic.body)) rfl kr_ kr_ kr_ rfl (Yd.extract rfl rfl) ?_
                    refine WA.one (i := 18) kr_ ?_
                    refine WO.s rfl Wt.none (Hd.storeAll (n := 2) kr_ rfl rfl (by rfl) one_ fr_ (by rfl) ⟨rfl, ?_⟩)
                    refine WA.y (i := 19) (NoPanic.then (NoPanic.body)) rfl kr_ kr_ kr_ rfl (Yd.assign rfl) ?_
                    refine WA.done kr_ ?_
                    exact DN.reachS ((b11, (w7o, w7c), D7)) (hF7) (Sx.put rfl (Sx.put rfl (sx_))) sp_
                · change WO _ _ _ _ _ _ 8 _ 17 ([(167, _)] ++ _) _
                  refine WO.h rfl Wt.none rfl (Hd.alloc (zs := [.int .u32 0, .slice none 0 0]) kr_ fun b11 => ⟨_, rfl, ?_⟩)
                  refine WA.two (i := 4) (j := 12) kr_ ?_ ?_
                  · refine WO.h rfl Wt.none rfl (Hd.loadAll (n := 11) kr_ rfl mem_ (by rfl) ⟨_, rfl, ?_⟩)
                    refine WA.one (i := 12) kr_ ?_
                    refine WO.h rfl Wt.none rfl (Hd.build1 (e := 5) (z := .int .u8 0) kr_ kr_ kr_ rfl (by rfl) fun b176 => ⟨_, rfl, ?_⟩)
                    refine WA.one (i := 13) kr_ ?_
                    refine WO.c rfl Wt.none rfl (Ent.func Try.call15 rfl) (keep_tells s.e _ s.ks (row b176 (bc (replyS s)) 5 :: (CF ++ H)) (hF.kv.mono gr_) (by omega) (noteOf c) (.slice none 0 0) (.slice vo9 c.data.length vc9) (Bs_nil _) (hvc.mono gr_) cd9 (.slice (some ⟨b176, 0, none⟩) 1 1) (replyS s) (.inr ⟨b176, 0, 1, bc (replyS s), 5, (0, 0), true, rfl, Nat.le_refl _, mem_, rfl⟩)) (Sp.p sp_) ?_
                    rintro xk Hk ⟨w7, D7, rfl, hF7, rfl⟩
                    rw [hkeep] at hF7 ⊢
                    dsimp only at hF7 ⊢
                    obtain ⟨w7o, w7c, rfl⟩ := hF7.form
                    refine WA.y (i := 14) (NoPanic.then (NoPanic.body)) rfl kr_ kr_ kr_ rfl (Yd.move rfl) ?_
                    refine WA.y (i := 15) (NoPanic.then (NoPanic.body)) rfl kr_ kr_ kr_ rfl (Yd.extract rfl rfl) ?_
                    refine WA.y (i := 16) (NoPanic.then (NoPanic.body)) rfl kr_ kr_ kr_ rfl (Yd.extract rfl rfl) ?_
                    refine WA.one (i := 18) kr_ ?_
                    refine WO.s rfl Wt.none (Hd.storeAll (n := 2) kr_ rfl rfl (by rfl) one_ fr_ (by rfl) ⟨rfl, ?_⟩)
                    refine WA.y (i := 19) (NoPanic.then (NoPanic.body)) rfl kr_ kr_ kr_ rfl (Yd.assign rfl) ?_
                    refine WA.done kr_ ?_
                    exact DN.reachS ((b11, (w7o, w7c), D7)) (hF7) (Sx.put rfl (Sx.put rfl (sx_))) sp_
                  · refine WO.h rfl Wt.none rfl (Hd.build1 (e := 5) (z := .int .u8 0) kr_ kr_ kr_ rfl (by rfl) fun b176 => ⟨_, rfl, ?_⟩)
                    refine WA.one (i := 4) kr_ ?_
                    refine WO.h rfl Wt.none rfl (Hd.loadAll (n := 11) kr_ rfl mem_ (by rfl) ⟨_, rfl, ?_⟩)
                    refine WA.one (i := 13) kr_ ?_
                    refine WO.c rfl Wt.none rfl (Ent.func Try.call15 rfl) (keep_tells s.e _ s.ks (row b176 (bc (replyS s)) 5 :: (CF ++ H)) (hF.kv.mono gr_) (by omega) (noteOf c) (.slice none 0 0) (.slice vo9 c.data.length vc9) (Bs_nil _) (hvc.mono gr_) cd9 (.slice (some ⟨b176, 0, none⟩) 1 1) (replyS s) (.inr ⟨b176, 0, 1, bc (replyS s), 5, (0, 0), true, rfl, Nat.le_refl _, mem_, rfl⟩)) (Sp.p sp_) ?_
                    rintro xk Hk ⟨w7, D7, rfl, hF7, rfl⟩
                    rw [hkeep] at hF7 ⊢
                    dsimp only at hF7 ⊢
                    obtain ⟨w7o, w7c, rfl⟩ := hF7.form
                    refine WA.y (i := 14) (NoPanic.then (NoPanic.body)) rfl kr_ kr_ kr_ rfl (Yd.move rfl) ?_
                    refine WA.y (i := 15) (NoPanic.then (NoPanic.body)) rfl kr_ kr_ kr_ rfl (Yd.extract rfl rfl) ?_
                    refine WA.y (i := 16) (NoPanic.then (NoPanic.body)) rfl kr_ kr_ kr_ rfl (Yd.extract rfl rfl) ?_
                    refine WA.one (i := 18) kr_ ?_
                    refine WO.s rfl Wt.none (Hd.storeAll (n := 2) kr_ rfl rfl (by rfl) one_ fr_ (by rfl) ⟨rfl, ?_⟩)
                    refine WA.y (i := 19) (NoPanic.then (NoPanic.body)) rfl kr_ kr_ kr_ rfl (Yd.assign rfl) ?_
                    refine WA.done kr_ ?_
                    exact DN.reachS ((b11, (w7o, w7c), D7)) (hF7) (Sx.put rfl (Sx.put rfl (sx_))) sp_
                · change WO _ _ _ _ _ _ 8 _ 12 ([(168, _)] ++ _) _
                  refine WO.h rfl Wt.none rfl (Hd.build1 (e := 5) (z := .int .u8 0) kr_ kr_ kr_ rfl (by rfl) fun b176 => ⟨_, rfl, ?_⟩)
                  refine WA.two (i := 3) (j := 17) kr_ ?_ ?_
                  · refine WO.h rfl Wt.none rfl (Hd.loadA (n := 2) (vs := [_, _]) kr_ rfl mem_ (by rfl) (by rfl) ⟨_, rfl, ?_⟩)
                    refine WA.two (i := 13) (j := 17) kr_ ?_ ?_
                    · refine WO.c rfl Wt.none rfl (Ent.func Try.call15 rfl) (keep_tells s.e _ s.ks (row b176 (bc (replyS s)) 5 :: (CF ++ H)) (hF.kv.mono gr_) (by omega) (noteOf c) (.slice none 0 0) (.slice vo9 c.data.length vc9) (Bs_nil _) (hvc.mono gr_) cd9 (.slice (some ⟨b176, 0, none⟩) 1 1) (replyS s) (.inr ⟨b176, 0, 1, bc (replyS s), 5, (0, 0), true, rfl, Nat.le_refl _, mem_, rfl⟩)) (Sp.p sp_) ?_
                      rintro xk Hk ⟨w7, D7, rfl, hF7, rfl⟩
                      rw [hkeep] at hF7 ⊢
                      dsimp only at hF7 ⊢
                      obtain ⟨w7o, w7c, rfl⟩ := hF7.form
                      refine WA.y (i := 14) (NoPanic.then (NoPanic.body)) rfl kr_ kr_ kr_ rfl (Yd.move rfl) ?_
                      refine WA.y (i := 15) (NoPanic.then (NoPanic.body)) rfl kr_ kr_ kr_ rfl (Yd.extract rfl rfl) ?_
                      refine WA.y (i := 16) (NoPanic.then (NoPanic.body)) rfl kr_ kr_ kr_ rfl (Yd.extract rfl rfl) ?_
                      refine WA.one (i := 17) kr_ ?_
                      refine WO.h rfl Wt.none rfl (Hd.alloc (zs := [.int .u32 0, .slice none 0 0]) kr_ fun b11 => ⟨_, rfl, ?_⟩)
                      refine WA.one (i := 18) kr_ ?_
                      refine WO.s rfl Wt.none (Hd.storeAll (n := 2) kr_ rfl rfl (by rfl) one_ fr_ (by rfl) ⟨rfl, ?_⟩)
                      refine WA.y (i := 19) (NoPanic.then (NoPanic.body)) rfl kr_ kr_ kr_ rfl (Yd.assign rfl) ?_
                      refine WA.done kr_ ?_
                      exact DN.reachS ((b11, (w7o, w7c), D7)) (hF7) (Sx.put rfl (Sx.put rfl (sx_))) sp_
                    · refine WO.h rfl Wt.none rfl (Hd.alloc (zs := [.int .u32 0, .slice none 0 0]) kr_ fun b11 => ⟨_, rfl, ?_⟩)
                      refine WA.one (i := 13) kr_ ?_
                      refine WO.c rfl Wt.none rfl (Ent.func Try.call15 rfl) (keep_tells s.e _ s.ks (row b176 (bc (replyS s)) 5 :: (CF ++ H)) (hF.kv.mono gr_) (by omega) (noteOf c) (.slice none 0 0) (.slice vo9 c.data.length vc9) (Bs_nil _) (hvc.mono gr_) cd9 (.slice (some ⟨b176, 0, none⟩) 1 1) (replyS s) (.inr ⟨b176, 0, 1, bc (replyS s), 5, (0, 0), true, rfl, Nat.le_refl _, mem_, rfl⟩)) (Sp.p sp_) ?_
                      rintro xk Hk ⟨w7, D7, rfl, hF7, rfl⟩
                      rw [hkeep] at hF7 ⊢
                      dsimp only at hF7 ⊢
                      obtain ⟨w7o, w7c, rfl⟩ := hF7.form
                      refine WA.y (i := 14) (NoPanic.then (NoPanic.body)) rfl kr_ kr_ kr_ rfl (Yd.move rfl) ?_
                      refine WA.y (i := 15) (NoPanic.then (NoPanic.body)) rfl kr_ kr_ kr_ rfl (Yd.extract rfl rfl) ?_
                      refine WA.y (i := 16) (NoPanic.then (NoPanic.body)) rfl kr_ kr_ kr_ rfl (Yd.extract rfl rfl) ?_
                      refine WA.one (i := 18) kr_ ?_
                      refine WO.s rfl Wt.none (Hd.storeAll (n := 2) kr_ rfl rfl (by rfl) one_ fr_ (by rfl) ⟨rfl, ?_⟩)
                      refine WA.y (i := 19) (NoPanic.then (NoPanic.body)) rfl kr_ kr_ kr_ rfl (Yd.assign rfl) ?_
                      refine WA.done kr_ ?_
                      exact DN.reachS ((b11, (w7o, w7c), D7)) (hF7) (Sx.put rfl (Sx.put rfl (sx_))) sp_
                  · refine WO.h rfl Wt.none rfl (Hd.alloc (zs := [.int .u32 0, .slice none 0 0]) kr_ fun b11 => ⟨_, rfl, ?_⟩)
                    refine WA.one (i := 3) kr_ ?_
                    refine WO.h rfl Wt.none rfl (Hd.loadA (n := 2) (vs := [_, _]) kr_ rfl mem_ (by rfl) (by rfl) ⟨_, rfl, ?_⟩)
                    refine WA.one (i := 13) kr_ ?_
                    refine WO.c rfl Wt.none rfl (Ent.func Try.call15 rfl) (keep_tells s.e _ s.ks (row b176 (bc (replyS s)) 5 :: (CF ++ H)) (hF.kv.mono gr_) (by omega) (noteOf c) (.slice none 0 0) (.slice vo9 c.data.length vc9) (Bs_nil _) (hvc.mono gr_) cd9 (.slice (some ⟨b176, 0, none⟩) 1 1) (replyS s) (.inr ⟨b176, 0, 1, bc (replyS s), 5, (0, 0), true, rfl, Nat.le_refl _, mem_, rfl⟩)) (Sp.p sp_) ?_
                    rintro xk Hk ⟨w7, D7, rfl, hF7, rfl⟩
                    rw [hkeep] at hF7 ⊢
                    dsimp only at hF7 ⊢
                    obtain ⟨w7o, w7c, rfl⟩ := hF7.form
                    refine WA.y (i := 14) (NoPanic.then (NoPanic.body)) rfl kr_ kr_ kr_ rfl (Yd.move rfl) ?_
                    refine WA.y (i := 15) (NoPanic.then (NoPanic.body)) rfl kr_ kr_ kr_ rfl (Yd.extract rfl rfl) ?_
                    refine WA.y (i := 16) (NoPanic.then (NoPanic.body)) rfl kr_ kr_ kr_ rfl (Yd.extract rfl rfl) ?_
                    refine WA.one (i := 18) kr_ ?_
                    refine WO.s rfl Wt.none (Hd.storeAll (n := 2) kr_ rfl rfl (by rfl) one_ fr_ (by rfl) ⟨rfl, ?_⟩)
                    refine WA.y (i := 19) (NoPanic.then (NoPanic.body)) rfl kr_ kr_ kr_ rfl (Yd.assign rfl) ?_
                    refine WA.done kr_ ?_
                    exact DN.reachS ((b11, (w7o, w7c), D7)) (hF7) (Sx.put rfl (Sx.put rfl (sx_))) sp_
                · change WO _ _ _ _ _ _ 8 _ 17 ([(168, _)] ++ _) _
                  refine WO.h rfl Wt.none rfl (Hd.alloc (zs := [.int .u32 0, .slice none 0 0]) kr_ fun b11 => ⟨_, rfl, ?_⟩)
                  refine WA.two (i := 3) (j := 12) kr_ ?_ ?_
                  · refine WO.h rfl Wt.none rfl (Hd.loadA (n := 2) (vs := [_, _]) kr_ rfl mem_ (by rfl) (by rfl) ⟨_, rfl, ?_⟩)
                    refine WA.one (i := 12) kr_ ?_
                    refine WO.h rfl Wt.none rfl (Hd.build1 (e := 5) (z := .int .u8 0) kr_ kr_ kr_ rfl (by rfl) fun b176 => ⟨_, rfl, ?_⟩)
                    refine WA.one (i := 13) kr_ ?_
                    refine WO.c rfl Wt.none rfl (Ent.func Try.call15 rfl) (keep_tells s.e _ s.ks (row b176 (bc (replyS s)) 5 :: (CF ++ H)) (hF.kv.mono gr_) (by omega) (noteOf c) (.slice none 0 0) (.slice vo9 c.data.length vc9) (Bs_nil _) (hvc.mono gr_) cd9 (.slice (some ⟨b176, 0, none⟩) 1 1) (replyS s) (.inr ⟨b176, 0, 1, bc (replyS s), 5, (0, 0), true, rfl, Nat.le_refl _, mem_, rfl⟩)) (Sp.p sp_) ?_
                    rintro xk Hk ⟨w7, D7, rfl, hF7, rfl⟩
                    rw [hkeep] at hF7 ⊢
                    dsimp only at hF7 ⊢
                    obtain ⟨w7o, w7c, rfl⟩ := hF7.form
                    refine WA.y (i := 14) (NoPanic.then (NoPanic.body)) rfl kr_ kr_ kr_ rfl (Yd.move rfl) ?_
                    refine WA.y (i := 15) (NoPanic.then (NoPanic.body)) rfl kr_ kr_ kr_ rfl (Yd.extract rfl rfl) ?_
                    refine WA.y (i := 16) (NoPanic.then (NoPanic.body)) rfl kr_ kr_ kr_ rfl (Yd.extract rfl rfl) ?_
                    refine WA.one (i := 18) kr_ ?_
                    refine WO.s rfl Wt.none (Hd.storeAll (n := 2) kr_ rfl rfl (by rfl) one_ fr_ (by rfl) ⟨rfl, ?_⟩)
                    refine WA.y (i := 19) (NoPanic.then (NoPanic.body)) rfl kr_ kr_ kr_ rfl (Yd.assign rfl) ?_
                    refine WA.done kr_ ?_
                    exact DN.reachS ((b11, (w7o, w7c), D7)) (hF7) (Sx.put rfl (Sx.put rfl (sx_))) sp_
                  · refine WO.h rfl Wt.none rfl (Hd.build1 (e := 5) (z := .int .u8 0) kr_ kr_ kr_ rfl (by rfl) fun b176 => ⟨_, rfl, ?_⟩)
                    refine WA.one (i := 3) kr_ ?_
                    refine WO.h rfl Wt.none rfl (Hd.loadA (n := 2) (vs := [_, _]) kr_ rfl mem_ (by rfl) (by rfl) ⟨_, rfl, ?_⟩)
                    refine WA.one (i := 13) kr_ ?_
                    refine WO.c rfl Wt.none rfl (Ent.func Try.call15 rfl) (keep_tells s.e _ s.ks (row b176 (bc (replyS s)) 5 :: (CF ++ H)) (hF.kv.mono gr_) (by omega) (noteOf c) (.slice none 0 0) (.slice vo9 c.data.length vc9) (Bs_nil _) (hvc.mono gr_) cd9 (.slice (some ⟨b176, 0, none⟩) 1 1) (replyS s) (.inr ⟨b176, 0, 1, bc (replyS s), 5, (0, 0), true, rfl, Nat.le_refl _, mem_, rfl⟩)) (Sp.p sp_) ?_
                    rintro xk Hk ⟨w7, D7, rfl, hF7, rfl⟩
                    rw [hkeep] at hF7 ⊢
                    dsimp only at hF7 ⊢
                    obtain ⟨w7o, w7c, rfl⟩ := hF7.form
                    refine WA.y (i := 14) (NoPanic.then (NoPanic.body)) rfl kr_ kr_ kr_ rfl (Yd.move rfl) ?_
                    refine WA.y (i := 15) (NoPanic.then (NoPanic.body)) rfl kr_ kr_ kr_ rfl (Yd.extract rfl rfl) ?_
                    refine WA.y (i := 16) (NoPanic.then (NoPanic.body)) rfl kr_ kr_ kr_ rfl (Yd.extract rfl rfl) ?_
                    refine WA.one (i := 18) kr_ ?_
                    refine WO.s rfl Wt.none (Hd.storeAll (n := 2) kr_ rfl rfl (by rfl) one_ fr_ (by rfl) ⟨rfl, ?_⟩)
                    refine WA.y (i := 19) (NoPanic.then (NoPanic.body)) rfl kr_ kr_ kr_ rfl (Yd.assign rfl) ?_
                    refine WA.done kr_ ?_
                    exact DN.reachS ((b11, (w7o, w7c), D7)) (hF7) (Sx.put rfl (Sx.put rfl (sx_))) sp_
                · change WA _ _ _ _ _ _ 8 _ ([(167, _), (168, _)] ++ _) _
                  refine WA.two (i := 12) (j := 17) kr_ ?_ ?_
                  · refine WO.h rfl Wt.none rfl (Hd.build1 (e := 5) (z := .int .u8 0) kr_ kr_ kr_ rfl (by rfl) fun b176 => ⟨_, rfl, ?_⟩)
                    refine WA.two (i := 13) (j := 17) kr_ ?_ ?_
                    · refine WO.c rfl Wt.none rfl (Ent.func Try.call15 rfl) (keep_tells s.e _ s.ks (row b176 (bc (replyS s)) 5 :: (CF ++ H)) (hF.kv.mono gr_) (by omega) (noteOf c) (.slice none 0 0) (.slice vo9 c.data.length vc9) (Bs_nil _) (hvc.mono gr_) cd9 (.slice (some ⟨b176, 0, none⟩) 1 1) (replyS s) (.inr ⟨b176, 0, 1, bc (replyS s), 5, (0, 0), true, rfl, Nat.le_refl _, mem_, rfl⟩)) (Sp.p sp_) ?_
                      rintro xk Hk ⟨w7, D7, rfl, hF7, rfl⟩
                      rw [hkeep] at hF7 ⊢
                      dsimp only at hF7 ⊢
                      obtain ⟨w7o, w7c, rfl⟩ := hF7.form
                      refine WA.y (i := 14) (NoPanic.then (NoPanic.body)) rfl kr_ kr_ kr_ rfl (Yd.move rfl) ?_
                      refine WA.y (i := 15) (NoPanic.then (NoPanic.body)) rfl kr_ kr_ kr_ rfl (Yd.extract rfl rfl) ?_
                      refine WA.y (i := 16) (NoPanic.then (NoPanic.body)) rfl kr_ kr_ kr_ rfl (Yd.extract rfl rfl) ?_
                      refine WA.one (i := 17) kr_ ?_
                      refine WO.h rfl Wt.none rfl (Hd.alloc (zs := [.int .u32 0, .slice none 0 0]) kr_ fun b11 => ⟨_, rfl, ?_⟩)
                      refine WA.one (i := 18) kr_ ?_
                      refine WO.s rfl Wt.none (Hd.storeAll (n := 2) kr_ rfl rfl (by rfl) one_ fr_ (by rfl) ⟨rfl, ?_⟩)
                      refine WA.y (i := 19) (NoPanic.then (NoPanic.body)) rfl kr_ kr_ kr_ rfl (Yd.assign rfl) ?_
                      refine WA.done kr_ ?_
                      exact DN.reachS ((b11, (w7o, w7c), D7)) (hF7) (Sx.put rfl (Sx.put rfl (sx_))) sp_
                    · refine WO.h rfl Wt.none rfl (Hd.alloc (zs := [.int .u32 0, .slice none 0 0]) kr_ fun b11 => ⟨_, rfl, ?_⟩)
                      refine WA.one (i := 13) kr_ ?_
                      refine WO.c rfl Wt.none rfl (Ent.func Try.call15 rfl) (keep_tells s.e _ s.ks (row b176 (bc (replyS s)) 5 :: (CF ++ H)) (hF.kv.mono gr_) (by omega) (noteOf c) (.slice none 0 0) (.slice vo9 c.data.length vc9) (Bs_nil _) (hvc.mono gr_) cd9 (.slice (some ⟨b176, 0, none⟩) 1 1) (replyS s) (.inr ⟨b176, 0, 1, bc (replyS s), 5, (0, 0), true, rfl, Nat.le_refl _, mem_, rfl⟩)) (Sp.p sp_) ?_
                      rintro xk Hk ⟨w7, D7, rfl, hF7, rfl⟩
                      rw [hkeep] at hF7 ⊢
                      dsimp only at hF7 ⊢
                      obtain ⟨w7o, w7c, rfl⟩ := hF7.form
                      refine WA.y (i := 14) (NoPanic.then (NoPanic.body)) rfl kr_ kr_ kr_ rfl (Yd.move rfl) ?_
                      refine WA.y (i := 15) (NoPanic.then (NoPanic.body)) rfl kr_ kr_ kr_ rfl (Yd.extract rfl rfl) ?_
                      refine WA.y (i := 16) (NoPanic.then (NoPanic.body)) rfl kr_ kr_ kr_ rfl (Yd.extract rfl rfl) ?_
                      refine WA.one (i := 18) kr_ ?_
                      refine WO.s rfl Wt.none (Hd.storeAll (n := 2) kr_ rfl rfl (by rfl) one_ fr_ (by rfl) ⟨rfl, ?_⟩)
                      refine WA.y (i := 19) (NoPanic.then (NoPanic.body)) rfl kr_ kr_ kr_ rfl (Yd.assign rfl) ?_
                      refine WA.done kr_ ?_
                      exact DN.reachS ((b11, (w7o, w7c), D7)) (hF7) (Sx.put rfl (Sx.put rfl (sx_))) sp_
                  · refine WO.h rfl Wt.none rfl (Hd.alloc (zs := [.int .u32 0, .slice none 0 0]) kr_ fun b11 => ⟨_, rfl, ?_⟩)
                    refine WA.one (i := 12) kr_ ?_
                    refine WO.h rfl Wt.none rfl (Hd.build1 (e := 5) (z := .int .u8 0) kr_ kr_ kr_ rfl (by rfl) fun b176 => ⟨_, rfl, ?_⟩)
                    refine WA.one (i := 13) kr_ ?_
                    refine WO.c rfl Wt.none rfl (Ent.func Try.call15 rfl) (keep_tells s.e _ s.ks (row b176 (bc (replyS s)) 5 :: (CF ++ H)) (hF.kv.mono gr_) (by omega) (noteOf c) (.slice none 0 0) (.slice vo9 c.data.length vc9) (Bs_nil _) (hvc.mono gr_) cd9 (.slice (some ⟨b176, 0, none⟩) 1 1) (replyS s) (.inr ⟨b176, 0, 1, bc (replyS s), 5, (0, 0), true, rfl, Nat.le_refl _, mem_, rfl⟩)) (Sp.p sp_) ?_
                    rintro xk Hk ⟨w7, D7, rfl, hF7, rfl⟩
                    rw [hkeep] at hF7 ⊢
                    dsimp only at hF7 ⊢
                    obtain ⟨w7o, w7c, rfl⟩ := hF7.form
                    refine WA.y (i := 14) (NoPanic.then (NoPanic.body)) rfl kr_ kr_ kr_ rfl (Yd.move rfl) ?_
                    refine WA.y (i := 15) (NoPanic.then (NoPanic.body)) rfl kr_ kr_ kr_ rfl (Yd.extract rfl rfl) ?_
                    refine WA.y (i := 16) (NoPanic.then (NoPanic.body)) rfl kr_ kr_ kr_ rfl (Yd.extract rfl rfl) ?_
                    refine WA.one (i := 18) kr_ ?_
                    refine WO.s rfl Wt.none (Hd.storeAll (n := 2) kr_ rfl rfl (by rfl) one_ fr_ (by rfl) ⟨rfl, ?_⟩)
                    refine WA.y (i := 19) (NoPanic.then (NoPanic.body)) rfl kr_ kr_ kr_ rfl (Yd.assign rfl) ?_
                    refine WA.done kr_ ?_
                    exact DN.reachS ((b11, (w7o, w7c), D7)) (hF7) (Sx.put rfl (Sx.put rfl (sx_))) sp_
              · change WO _ _ _ _ _ _ 11 _ 17 ([(173, _)] ++ _) _
                refine WO.h rfl Wt.none rfl (Hd.alloc (zs := [.int .u32 0, .slice none 0 0]) kr_ fun b11 => ⟨_, rfl, ?_⟩)
                refine WA.y (i := 10) (NoPanic.then (NoPanic.body)) rfl kr_ kr_ kr_ rfl (Yd.len (e := 43) kr_ rfl) ?_
                refine WA.y (i := 11) (NoPanic.then (NoPanic.body)) rfl kr_ kr_ kr_ rfl (Yd.to8 _ kr_ kr_ rfl rfl) ?_
                refine WA.reads [(3, 167, _), (4, 168, _)] [3, 4] [([], 12), ([3], 12), ([4], 12)] 7 rfl rfl (List.forall_mem_cons.2 ⟨ReadAt.mk rfl Wt.none rfl (Rd.loadA (n := 2) (vs := [_, _]) kr_ rfl mem_ (by rfl) (by rfl)), List.forall_mem_cons.2 ⟨ReadAt.mk rfl Wt.none rfl (Rd.loadAll (n := 11) kr_ rfl mem_ (by rfl)), fun _ h => absurd h List.not_mem_nil⟩⟩) (by decide) (by simp) (List.forall_mem_cons.2 ⟨rfl, List.forall_mem_cons.2 ⟨rfl, fun _ h => absurd h List.not_mem_nil⟩⟩) kr_ (List.forall_mem_cons.2 ⟨?_, List.forall_mem_cons.2 ⟨?_, List.forall_mem_cons.2 ⟨?_, fun _ h => absurd h List.not_mem_nil⟩⟩⟩) ?_
                · change WO _ _ _ _ _ _ 8 _ 12 ([] ++ _) _
                  refine WO.h rfl Wt.none rfl (Hd.build1 (e := 5) (z := .int .u8 0) kr_ kr_ kr_ rfl (by rfl) fun b176 => ⟨_, rfl, ?_⟩)
                  refine WA.reads [(3, 167, _), (4, 168, _)] [3, 4] [] 6 rfl rfl (List.forall_mem_cons.2 ⟨ReadAt.mk rfl Wt.none rfl (Rd.loadA (n := 2) (vs := [_, _]) kr_ rfl mem_ (by rfl) (by rfl)), List.forall_mem_cons.2 ⟨ReadAt.mk rfl Wt.none rfl (Rd.loadAll (n := 11) kr_ rfl mem_ (by rfl)), fun _ h => absurd h List.not_mem_nil⟩⟩) (by decide) (by simp) (List.forall_mem_cons.2 ⟨rfl, List.forall_mem_cons.2 ⟨rfl, fun _ h => absurd h List.not_mem_nil⟩⟩) kr_ (fun _ h => absurd h List.not_mem_nil) ?_
                  · change WA _ _ _ _ _ _ 6 _ ([(167, _), (168, _)] ++ _) _
                    refine WA.one (i := 13) kr_ ?_
                    refine WO.c rfl Wt.none rfl (Ent.func Try.call15 rfl) (keep_tells s.e _ s.ks (row b176 (bc (replyS s)) 5 :: (CF ++ H)) (hF.kv.mono gr_) (by omega) (noteOf c) (.slice none 0 0) (.slice vo9 c.data.length vc9) (Bs_nil _) (hvc.mono gr_) cd9 (.slice (some ⟨b176, 0, none⟩) 1 1) (replyS s) (.inr ⟨b176, 0, 1, bc (replyS s), 5, (0, 0), true, rfl, Nat.le_refl _, mem_, rfl⟩)) (Sp.p sp_) ?_
                    rintro xk Hk ⟨w7, D7, rfl, hF7, rfl⟩
                    rw [hkeep] at hF7 ⊢
                    dsimp only at hF7 ⊢
                    obtain ⟨w7o, w7c, rfl⟩ := hF7.form
                    refine WA.y (i := 14) (NoPanic.then (NoPanic.body)) rfl kr_ kr_ kr_ rfl (Yd.move rfl) ?_
                    refine WA.y (i := 15) (NoPanic.then (NoPanic.body)) rfl kr_ kr_ kr_ rfl (Yd.extract rfl rfl) ?_
                    refine WA.y (i := 16) (NoPanic.then (NoPanic.body)) rfl kr_ kr_ kr_ rfl (Yd.extract rfl rfl) ?_
                    refine WA.one (i := 18) kr_ ?_
                    refine WO.s rfl Wt.none (Hd.storeAll (n := 2) kr_ rfl rfl (by rfl) one_ fr_ (by rfl) ⟨rfl, ?_⟩)
                    refine WA.y (i := 19) (NoPanic.then (NoPanic.body)) rfl kr_ kr_ kr_ rfl (Yd.assign rfl) ?_
                    refine WA.done kr_ ?_
                    exact DN.reachS ((b11, (w7o, w7c), D7)) (hF7) (Sx.put rfl (Sx.put rfl (sx_))) sp_
                · change WO _ _ _ _ _ _ 7 _ 12 ([(167, _)] ++ _) _
                  refine WO.h rfl Wt.none rfl (Hd.build1 (e := 5) (z := .int .u8 0) kr_ kr_ kr_ rfl (by rfl) fun b176 => ⟨_, rfl, ?_⟩)
                  refine WA.one (i := 4) kr_ ?_
                  refine WO.h rfl Wt.none rfl (Hd.loadAll (n := 11) kr_ rfl mem_ (by rfl) ⟨_, rfl, ?_⟩)
                  refine WA.one (i := 13) kr_ ?_
                  refine WO.c rfl Wt.none rfl (Ent.func Try.call15 rfl) (keep_tells s.e _ s.ks (row b176 (bc (replyS s)) 5 :: (CF ++ H)) (hF.kv.mono gr_) (by omega) (noteOf c) (.slice none 0 0) (.slice vo9 c.data.length vc9) (Bs_nil _) (hvc.mono gr_) cd9 (.slice (some ⟨b176, 0, none⟩) 1 1) (replyS s) (.inr ⟨b176, 0, 1, bc (replyS s), 5, (0, 0), true, rfl, Nat.le_refl _, mem_, rfl⟩)) (Sp.p sp_) ?_
                  rintro xk Hk ⟨w7, D7, rfl, hF7, rfl⟩
                  rw [hkeep] at hF7 ⊢
                  dsimp only at hF7 ⊢
                  obtain ⟨w7o, w7c, rfl⟩ := hF7.form
                  refine WA.y (i := 14) (NoPanic.then (NoPanic.body)) rfl kr_ kr_ kr_ rfl (Yd.move rfl) ?_
                  refine WA.y (i := 15) (NoPanic.then (NoPanic.body)) rfl kr_ kr_ kr_ rfl (Yd.extract rfl rfl) ?_
                  refine WA.y (i := 16) (NoPanic.then (NoPanic.body)) rfl kr_ kr_ kr_ rfl (Yd.extract rfl rfl) ?_
                  refine WA.one (i := 18) kr_ ?_
                  refine WO.s rfl Wt.none (Hd.storeAll (n := 2) kr_ rfl rfl (by rfl) one_ fr_ (by rfl) ⟨rfl, ?_⟩)
                  refine WA.y (i := 19) (NoPanic.then (NoPanic.body)) rfl kr_ kr_ kr_ rfl (Yd.assign rfl) ?_
                  refine WA.done kr_ ?_
                  exact DN.reachS ((b11, (w7o, w7c), D7)) (hF7) (Sx.put rfl (Sx.put rfl (sx_))) sp_
                · change WO _ _ _ _ _ _ 7 _ 12 ([(168, _)] ++ _) _
                  refine WO.h rfl Wt.none rfl (Hd.build1 (e := 5) (z := .int .u8 0) kr_ kr_ kr_ rfl (by rfl) fun b176 => ⟨_, rfl, ?_⟩)
                  refine WA.one (i := 3) kr_ ?_
                  refine WO.h rfl Wt.none rfl (Hd.loadA (n := 2) (vs := [_, _]) kr_ rfl mem_ (by rfl) (by rfl) ⟨_, rfl, ?_⟩)
                  refine WA.one (i := 13) kr_ ?_
                  refine WO.c rfl Wt.none rfl (Ent.func Try.call15 rfl) (keep_tells s.e _ s.ks (row b176 (bc (replyS s)) 5 :: (CF ++ H)) (hF.kv.mono gr_) (by omega) (noteOf c) (.slice none 0 0) (.slice vo9 c.data.length vc9) (Bs_nil _) (hvc.mono gr_) cd9 (.slice (some ⟨b176, 0, none⟩) 1 1) (replyS s) (.inr ⟨b176, 0, 1, bc (replyS s), 5, (0, 0), true, rfl, Nat.le_refl _, mem_, rfl⟩)) (Sp.p sp_) ?_
                  rintro xk Hk ⟨w7, D7, rfl, hF7, rfl⟩
                  rw [hkeep] at hF7 ⊢
                  dsimp only at hF7 ⊢
                  obtain ⟨w7o, w7c, rfl⟩ := hF7.form
                  refine WA.y (i := 14) (NoPanic.then (NoPanic.body)) rfl kr_ kr_ kr_ rfl (Yd.move rfl) ?_
                  refine WA.y (i := 15) (NoPanic.then (NoPanic.body)) rfl kr_ kr_ kr_ rfl (Yd.extract rfl rfl) ?_
                  refine WA.y (i := 16) (NoPanic.then (NoPanic.body)) rfl kr_ kr_ kr_ rfl (Yd.extract rfl rfl) ?_
                  refine WA.one (i := 18) kr_ ?_
                  refine WO.s rfl Wt.none (Hd.storeAll (n := 2) kr_ rfl rfl (by rfl) one_ fr_ (by rfl) ⟨rfl, ?_⟩)
                  refine WA.y (i := 19) (NoPanic.then (NoPanic.body)) rfl kr_ kr_ kr_ rfl (Yd.assign rfl) ?_
                  refine WA.done kr_ ?_
                  exact DN.reachS ((b11, (w7o, w7c), D7)) (hF7) (Sx.put rfl (Sx.put rfl (sx_))) sp_
                · change WA _ _ _ _ _ _ 7 _ ([(167, _), (168, _)] ++ _) _
                  refine WA.one (i := 12) kr_ ?_
                  refine WO.h rfl Wt.none rfl (Hd.build1 (e := 5) (z := .int .u8 0) kr_ kr_ kr_ rfl (by rfl) fun b176 => ⟨_, rfl, ?_⟩)
                  refine WA.one (i := 13) kr_ ?_
                  refine WO.c rfl Wt.none rfl (Ent.func Try.call15 rfl) (keep_tells s.e _ s.ks (row b176 (bc (replyS s)) 5 :: (CF ++ H)) (hF.kv.mono gr_) (by omega) (noteOf c) (.slice none 0 0) (.slice vo9 c.data.length vc9) (Bs_nil _) (hvc.mono gr_) cd9 (.slice (some ⟨b176, 0, none⟩) 1 1) (replyS s) (.inr ⟨b176, 0, 1, bc (replyS s), 5, (0, 0), true, rfl, Nat.le_refl _, mem_, rfl⟩)) (Sp.p sp_) ?_
                  rintro xk Hk ⟨w7, D7, rfl, hF7, rfl⟩
                  rw [hkeep] at hF7 ⊢
                  dsimp only at hF7 ⊢
                  obtain ⟨w7o, w7c, rfl⟩ := hF7.form
                  refine WA.y (i := 14) (NoPanic.then (NoPanic.body)) rfl kr_ kr_ kr_ rfl (Yd.move rfl) ?_
                  refine WA.y (i := 15) (NoPanic.then (NoPanic.body)) rfl kr_ kr_ kr_ rfl (Yd.extract rfl rfl) ?_
                  refine WA.y (i := 16) (NoPanic.then (NoPanic.body)) rfl kr_ kr_ kr_ rfl (Yd.extract rfl rfl) ?_
                  refine WA.one (i := 18) kr_ ?_
                  refine WO.s rfl Wt.none (Hd.storeAll (n := 2) kr_ rfl rfl (by rfl) one_ fr_ (by rfl) ⟨rfl, ?_⟩)
                  refine WA.y (i := 19) (NoPanic.then (NoPanic.body)) rfl kr_ kr_ kr_ rfl (Yd.assign rfl) ?_
                  refine WA.done kr_ ?_
                  exact DN.reachS ((b11, (w7o, w7c), D7)) (hF7) (Sx.put rfl (Sx.put rfl (sx_))) sp_
              · change WO _ _ _ _ _ _ 10 _ 17 ([(167, _), (168, _)] ++ _) _
                refine WO.h rfl Wt.none rfl (Hd.alloc (zs := [.int .u32 0, .slice none 0 0]) kr_ fun b11 => ⟨_, rfl, ?_⟩)
                refine WA.one (i := 9) kr_ ?_
                refine WO.h rfl Wt.none rfl (Hd.load1 kr_ rfl mem_ (by rfl) ⟨_, rfl, ?_⟩)
                refine WA.y (i := 10) (NoPanic.then (NoPanic.body)) rfl kr_ kr_ kr_ rfl (Yd.len (e := 43) kr_ rfl) ?_
                refine WA.y (i := 11) (NoPanic.then (NoPanic.body)) rfl kr_ kr_ kr_ rfl (Yd.to8 _ kr_ kr_ rfl rfl) ?_
                refine WA.one (i := 12) kr_ ?_
                refine WO.h rfl Wt.none rfl (Hd.build1 (e := 5) (z := .int .u8 0) kr_ kr_ kr_ rfl (by rfl) fun b176 => ⟨_, rfl, ?_⟩)
                refine WA.one (i := 13) kr_ ?_
                refine WO.c rfl Wt.none rfl (Ent.func Try.call15 rfl) (keep_tells s.e _ s.ks (row b176 (bc (replyS s)) 5 :: (CF ++ H)) (hF.kv.mono gr_) (by omega) (noteOf c) (.slice none 0 0) (.slice vo9 c.data.length vc9) (Bs_nil _) (hvc.mono gr_) cd9 (.slice (some ⟨b176, 0, none⟩) 1 1) (replyS s) (.inr ⟨b176, 0, 1, bc (replyS s), 5, (0, 0), true, rfl, Nat.le_refl _, mem_, rfl⟩)) (Sp.p sp_) ?_
                rintro xk Hk ⟨w7, D7, rfl, hF7, rfl⟩
                rw [hkeep] at hF7 ⊢
                dsimp only at hF7 ⊢
                obtain ⟨w7o, w7c, rfl⟩ := hF7.form
                refine WA.y (i := 14) (NoPanic.then (NoPanic.body)) rfl kr_ kr_ kr_ rfl (Yd.move rfl) ?_
                refine WA.y (i := 15) (NoPanic.then (NoPanic.body)) rfl kr_ kr_ kr_ rfl (Yd.extract rfl rfl) ?_
                refine WA.y (i := 16) (NoPanic.then (NoPanic.body)) rfl kr_ kr_ kr_ rfl (Yd.extract rfl rfl) ?_
                refine WA.one (i := 18) kr_ ?_
                refine WO.s rfl Wt.none (Hd.storeAll (n := 2) kr_ rfl rfl (by rfl) one_ fr_ (by rfl) ⟨rfl, ?_⟩)
                refine WA.y (i := 19) (NoPanic.then (NoPanic.body)) rfl kr_ kr_ kr_ rfl (Yd.assign rfl) ?_
                refine WA.done kr_ ?_
                exact DN.reachS ((b11, (w7o, w7c), D7)) (hF7) (Sx.put rfl (Sx.put rfl (sx_))) sp_
              · change WO _ _ _ _ _ _ 10 _ 10 ([(167, _), (173, _)] ++ _) _
                refine WO.y rfl Wt.none rfl (Yd.len (e := 43) kr_ rfl) ?_
                refine WA.y (i := 11) (NoPanic.then (NoPanic.body)) rfl kr_ kr_ kr_ rfl (Yd.to8 _ kr_ kr_ rfl rfl) ?_
                refine WA.three (i := 4) (j := 12) (k := 17) kr_ ?_ ?_ ?_
                · refine WO.h rfl Wt.none rfl (Hd.loadAll (n := 11) kr_ rfl mem_ (by rfl) ⟨_, rfl, ?_⟩)
                  refine WA.two (i := 12) (j := 17) kr_ ?_ ?_
                  · refine WO.h rfl Wt.none rfl (Hd.build1 (e := 5) (z := .int .u8 0) kr_ kr_ kr_ rfl (by rfl) fun b176 => ⟨_, rfl, ?_⟩)
                    refine WA.two (i := 13) (j := 17) kr_ ?_ ?_
                    · refine WO.c rfl Wt.none rfl (Ent.func Try.call15 rfl) (keep_tells s.e _ s.ks (row b176 (bc (replyS s)) 5 :: (CF ++ H)) (hF.kv.mono gr_) (by omega) (noteOf c) (.slice none 0 0) (.slice vo9 c.data.length vc9) (Bs_nil _) (hvc.mono gr_) cd9 (.slice (some ⟨b176, 0, none⟩) 1 1) (replyS s) (.inr ⟨b176, 0, 1, bc (replyS s), 5, (0, 0), true, rfl, Nat.le_refl _, mem_, rfl⟩)) (Sp.p sp_) ?_
                      rintro xk Hk ⟨w7, D7, rfl, hF7, rfl⟩
                      rw [hkeep] at hF7 ⊢
                      dsimp only at hF7 ⊢
                      obtain ⟨w7o, w7c, rfl⟩ := hF7.form
                      refine WA.y (i := 14) (NoPanic.then (NoPanic.body)) rfl kr_ kr_ kr_ rfl (Yd.move rfl) ?_
                      refine WA.y (i := 15) (NoPanic.then (NoPanic.body)) rfl kr_ kr_ kr_ rfl (Yd.extract rfl rfl) ?_
                      refine WA.y (i := 16) (NoPanic.then (NoPanic.body)) rfl kr_ kr_ kr_ rfl (Yd.extract rfl rfl) ?_
                      refine WA.one (i := 17) kr_ ?_
                      refine WO.h rfl Wt.none rfl (Hd.alloc (zs := [.int .u32 0, .slice none 0 0]) kr_ fun b11 => ⟨_, rfl, ?_⟩)
                      refine WA.one (i := 18) kr_ ?_
                      refine WO.s rfl Wt.none (Hd.storeAll (n := 2) kr_ rfl rfl (by rfl) one_ fr_ (by rfl) ⟨rfl, ?_⟩)
                      refine WA.y (i := 19) (NoPanic.then (NoPanic.body)) rfl kr_ kr_ kr_ rfl (Yd.assign rfl) ?_
                      refine WA.done kr_ ?_
                      exact DN.reachS ((b11, (w7o, w7c), D7)) (hF7) (Sx.put rfl (Sx.put rfl (sx_))) sp_
                    · refine WO.h rfl Wt.none rfl (Hd.alloc (zs := [.int .u32 0, .slice none 0 0]) kr_ fun b11 => ⟨_, rfl, ?_⟩)
                      refine WA.one (i := 13) kr_ ?_
                      refine WO.c rfl Wt.none rfl (Ent.func Try.call15 rfl) (keep_tells s.e _ s.ks (row b176 (bc (replyS s)) 5 :: (CF ++ H)) (hF.kv.mono gr_) (by omega) (noteOf c) (.slice none 0 0) (.slice vo9 c.data.length vc9) (Bs_nil _) (hvc.mono gr_) cd9 (.slice (some ⟨b176, 0, none⟩) 1 1) (replyS s) (.inr ⟨b176, 0, 1, bc (replyS s), 5, (0, 0), true, rfl, Nat.le_refl _, mem_, rfl⟩)) (Sp.p sp_) ?_
                      rintro xk Hk ⟨w7, D7, rfl, hF7, rfl⟩
                      rw [hkeep] at hF7 ⊢
                      dsimp only at hF7 ⊢
                      obtain ⟨w7o, w7c, rfl⟩ := hF7.form
                      refine WA.y (i := 14) (NoPanic.then (NoPanic.body)) rfl kr_ kr_ kr_ rfl (Yd.move rfl) ?_
                      refine WA.y (i := 15) (NoPanic.then (NoPanic.body)) rfl kr_ kr_ kr_ rfl (Yd.extract rfl rfl) ?_
                      refine WA.y (i := 16) (NoPanic.then (NoPanic.body)) rfl kr_ kr_ kr_ rfl (Yd.extract rfl rfl) ?_
                      refine WA.one (i := 18) kr_ ?_
                      refine WO.s rfl Wt.none (Hd.storeAll (n := 2) kr_ rfl rfl (by rfl) one_ fr_ (by rfl) ⟨rfl, ?_⟩)
                      refine WA.y (i := 19) (NoPanic.then (NoPanic.body)) rfl kr_ kr_ kr_ rfl (Yd.assign rfl) ?_
                      refine WA.done kr_ ?_
                      exact DN.reachS ((b11, (w7o, w7c), D7)) (hF7) (Sx.put rfl (Sx.put rfl (sx_))) sp_
                  · refine WO.h rfl Wt.none rfl (Hd.alloc (zs := [.int .u32 0, .slice none 0 0]) kr_ fun b11 => ⟨_, rfl, ?_⟩)
                    refine WA.one (i := 12) kr_ ?_
                    refine WO.h rfl Wt.none rfl (Hd.build1 (e := 5) (z := .int .u8 0) kr_ kr_ kr_ rfl (by rfl) fun b176 => ⟨_, rfl, ?_⟩)
                    refine WA.one (i := 13) kr_ ?_
                    refine WO.c rfl Wt.none rfl (Ent.func Try.call15 rfl) (keep_tells s.e _ s.ks (row b176 (bc (replyS s)) 5 :: (CF ++ H)) (hF.kv.mono gr_) (by omega) (noteOf c) (.slice none 0 0) (.slice vo9 c.data.length vc9) (Bs_nil _) (hvc.mono gr_) cd9 (.slice (some ⟨b176, 0, none⟩) 1 1) (replyS s) (.inr ⟨b176, 0, 1, bc (replyS s), 5, (0, 0), true, rfl, Nat.le_refl _, mem_, rfl⟩)) (Sp.p sp_) ?_
                    rintro xk Hk ⟨w7, D7, rfl, hF7, rfl⟩
                    rw [hkeep] at hF7 ⊢
                    dsimp only at hF7 ⊢
                    obtain ⟨w7o, w7c, rfl⟩ := hF7.form
                    refine WA.y (i := 14) (NoPanic.then (NoPanic.body)) rfl kr_ kr_ kr_ rfl (Yd.move rfl) ?_
                    refine WA.y (i := 15) (NoPanic.then (NoPanic.body)) rfl kr_ kr_ kr_ rfl (Yd.extract rfl rfl) ?_
                    refine WA.y (i := 16) (NoPanic.then (NoPanic.body)) rfl kr_ kr_ kr_ rfl (Yd.extract rfl rfl) ?_
                    refine WA.one (i := 18) kr_ ?_
                    refine WO.s rfl Wt.none (Hd.storeAll (n := 2) kr_ rfl rfl (by rfl) one_ fr_ (by rfl) ⟨rfl, ?_⟩)
                    refine WA.y (i := 19) (NoPanic.then (NoPanic.body)) rfl kr_ kr_ kr_ rfl (Yd.assign rfl) ?_
                    refine WA.done kr_ ?_
                    exact DN.reachS ((b11, (w7o, w7c), D7)) (hF7) (Sx.put rfl (Sx.put rfl (sx_))) sp_
                · refine WO.h rfl Wt.none rfl (Hd.build1 (e := 5) (z := .int .u8 0) kr_ kr_ kr_ rfl (by rfl) fun b176 => ⟨_, rfl, ?_⟩)
                  refine WA.two (i := 4) (j := 17) kr_ ?_ ?_
                  · refine WO.h rfl Wt.none rfl (Hd.loadAll (n := 11) kr_ rfl mem_ (by rfl) ⟨_, rfl, ?_⟩)
                    refine WA.two (i := 13) (j := 17) kr_ ?_ ?_
                    · refine WO.c rfl Wt.none rfl (Ent.func Try.call15 rfl) (keep_tells s.e _ s.ks (row b176 (bc (replyS s)) 5 :: (CF ++ H)) (hF.kv.mono gr_) (by omega) (noteOf c) (.slice none 0 0) (.slice vo9 c.data.length vc9) (Bs_nil _) (hvc.mono gr_) cd9 (.slice (some ⟨b176, 0, none⟩) 1 1) (replyS s) (.inr ⟨b176, 0, 1, bc (replyS s), 5, (0, 0), true, rfl, Nat.le_refl _, mem_, rfl⟩)) (Sp.p sp_) ?_
                      rintro xk Hk ⟨w7, D7, rfl, hF7, rfl⟩
                      rw [hkeep] at hF7 ⊢
                      dsimp only at hF7 ⊢
                      obtain ⟨w7o, w7c, rfl⟩ := hF7.form
                      refine WA.y (i := 14) (NoPanic.then (NoPanic.body)) rfl kr_ kr_ kr_ rfl (Yd.move rfl) ?_
                      refine WA.y (i := 15) (NoPanic.then (NoPanic.body)) rfl kr_ kr_ kr_ rfl (Yd.extract rfl rfl) ?_
                      refine WA.y (i := 16) (NoPanic.then (NoPanic.body)) rfl kr_ kr_ kr_ rfl (Yd.extract rfl rfl) ?_
                      refine WA.one (i := 17) kr_ ?_
                      refine WO.h rfl Wt.none rfl (Hd.alloc (zs := [.int .u32 0, .slice none 0 0]) kr_ fun b11 => ⟨_, rfl, ?_⟩)
                      refine WA.one (i := 18) kr_ ?_
                      refine WO.s rfl Wt.none (Hd.storeAll (n := 2) kr_ rfl rfl (by rfl) one_ fr_ (by rfl) ⟨rfl, ?_⟩)
                      refine WA.y (i := 19) (NoPanic.then (NoPanic.body)) rfl kr_ kr_ kr_ rfl (Yd.assign rfl) ?_
                      refine WA.done kr_ ?_
                      exact DN.reachS ((b11, (w7o, w7c), D7)) (hF7) (Sx.put rfl (Sx.put rfl (sx_))) sp_
                    · refine WO.h rfl Wt.none rfl (Hd.alloc (zs := [.int .u32 0, .slice none 0 0]) kr_ fun b11 => ⟨_, rfl, ?_⟩)
                      refine WA.one (i := 13) kr_ ?_
                      refine WO.c rfl Wt.none rfl (Ent.func Try.call15 rfl) (keep_tells s.e _ s.ks (row b176 (bc (replyS s)) 5 :: (CF ++ H)) (hF.kv.mono gr_) (by omega) (noteOf c) (.slice none 0 0) (.slice vo9 c.data.length vc9) (Bs_nil _) (hvc.mono gr_) cd9 (.slice (some ⟨b176, 0, none⟩) 1 1) (replyS s) (.inr ⟨b176, 0, 1, bc (replyS s), 5, (0, 0), true, rfl, Nat.le_refl _, mem_, rfl⟩)) (Sp.p sp_) ?_
                      rintro xk Hk ⟨w7, D7, rfl, hF7, rfl⟩
                      rw [hkeep] at hF7 ⊢
                      dsimp only at hF7 ⊢
                      obtain ⟨w7o, w7c, rfl⟩ := hF7.form
                      refine WA.y (i := 14) (NoPanic.then (NoPanic.body)) rfl kr_ kr_ kr_ rfl (Yd.move rfl) ?_
                      refine WA.y (i := 15) (NoPanic.then (NoPanic.body)) rfl kr_ kr_ kr_ rfl (Yd.extract rfl rfl) ?_
                      refine WA.y (i := 16) (NoPanic.then (NoPanic.body)) rfl kr_ kr_ kr_ rfl (Yd.extract rfl rfl) ?_
                      refine WA.one (i := 18) kr_ ?_
                      refine WO.s rfl Wt.none (Hd.storeAll (n := 2) kr_ rfl rfl (by rfl) one_ fr_ (by rfl) ⟨rfl, ?_⟩)
                      refine WA.y (i := 19) (NoPanic.then (NoPanic.body)) rfl kr_ kr_ kr_ rfl (Yd.assign rfl) ?_
                      refine WA.done kr_ ?_
                      exact DN.reachS ((b11, (w7o, w7c), D7)) (hF7) (Sx.put rfl (Sx.put rfl (sx_))) sp_
                  · refine WO.h rfl Wt.none rfl (Hd.alloc (zs := [.int .u32 0, .slice none 0 0]) kr_ fun b11 => ⟨_, rfl, ?_⟩)
                    refine WA.one (i := 4) kr_ ?_
                    refine WO.h rfl Wt.none rfl (Hd.loadAll (n := 11) kr_ rfl mem_ (by rfl) ⟨_, rfl, ?_⟩)
                    refine WA.one (i := 13) kr_ ?_
                    refine WO.c rfl Wt.none rfl (Ent.func Try.call15 rfl) (keep_tells s.e _ s.ks (row b176 (bc (replyS s)) 5 :: (CF ++ H)) (hF.kv.mono gr_) (by omega) (noteOf c) (.slice none 0 0) (.slice vo9 c.data.length vc9) (Bs_nil _) (hvc.mono gr_) cd9 (.slice (some ⟨b176, 0, none⟩) 1 1) (replyS s) (.inr ⟨b176, 0, 1, bc (replyS s), 5, (0, 0), true, rfl, Nat.le_refl _, mem_, rfl⟩)) (Sp.p sp_) ?_
                    rintro xk Hk ⟨w7, D7, rfl, hF7, rfl⟩
                    rw [hkeep] at hF7 ⊢
                    dsimp only at hF7 ⊢
                    obtain ⟨w7o, w7c, rfl⟩ := hF7.form
                    refine WA.y (i := 14) (NoPanic.then (NoPanic.body)) rfl kr_ kr_ kr_ rfl (Yd.move rfl) ?_
                    refine WA.y (i := 15) (NoPanic.then (NoPanic.body)) rfl kr_ kr_ kr_ rfl (Yd.extract rfl rfl) ?_
                    refine WA.y (i := 16) (NoPanic.then (NoPanic.body)) rfl kr_ kr_ kr_ rfl (Yd.extract rfl rfl) ?_
                    refine WA.one (i := 18) kr_ ?_
                    refine WO.s rfl Wt.none (Hd.storeAll (n := 2) kr_ rfl rfl (by rfl) one_ fr_ (by rfl) ⟨rfl, ?_⟩)
                    refine WA.y (i := 19) (NoPanic.then (NoPanic.body)) rfl kr_ kr_ kr_ rfl (Yd.assign rfl) ?_
                    refine WA.done kr_ ?_
                    exact DN.reachS ((b11, (w7o, w7c), D7)) (hF7) (Sx.put rfl (Sx.put rfl (sx_))) sp_
                · refine WO.h rfl Wt.none rfl (Hd.alloc (zs := [.int .u32 0, .slice none 0 0]) kr_ fun b11 => ⟨_, rfl, ?_⟩)
                  refine WA.two (i := 4) (j := 12) kr_ ?_ ?_
                  · refine WO.h rfl Wt.none rfl (Hd.loadAll (n := 11) kr_ rfl mem_ (by rfl) ⟨_, rfl, ?_⟩)
                    refine WA.one (i := 12) kr_ ?_
                    refine WO.h rfl Wt.none rfl (Hd.build1 (e := 5) (z := .int .u8 0) kr_ kr_ kr_ rfl (by rfl) fun b176 => ⟨_, rfl, ?_⟩)
                    refine WA.one (i := 13) kr_ ?_
                    refine WO.c rfl Wt.none rfl (Ent.func Try.call15 rfl) (keep_tells s.e _ s.ks (row b176 (bc (replyS s)) 5 :: (CF ++ H)) (hF.kv.mono gr_) (by omega) (noteOf c) (.slice none 0 0) (.slice vo9 c.data.length vc9) (Bs_nil _) (hvc.mono gr_) cd9 (.slice (some ⟨b176, 0, none⟩) 1 1) (replyS s) (.inr ⟨b176, 0, 1, bc (replyS s), 5, (0, 0), true, rfl, Nat.le_refl _, mem_, rfl⟩)) (Sp.p sp_) ?_
                    rintro xk Hk ⟨w7, D7, rfl, hF7, rfl⟩
                    rw [hkeep] at hF7 ⊢
                    dsimp only at hF7 ⊢
                    obtain ⟨w7o, w7c, rfl⟩ := hF7.form
                    refine WA.y (i := 14) (NoPanic.then (NoPanic.body)) rfl kr_ kr_ kr_ rfl (Yd.move rfl) ?_
                    refine WA.y (i := 15) (NoPanic.then (NoPanic.body)) rfl kr_ kr_ kr_ rfl (Yd.extract rfl rfl) ?_
                    refine WA.y (i := 16) (NoPanic.then (NoPanic.body)) rfl kr_ kr_ kr_ rfl (Yd.extract rfl rfl) ?_
                    refine WA.one (i := 18) kr_ ?_
                    refine WO.s rfl Wt.none (Hd.storeAll (n := 2) kr_ rfl rfl (by rfl) one_ fr_ (by rfl) ⟨rfl, ?_⟩)
                    refine WA.y (i := 19) (NoPanic.then (NoPanic.body)) rfl kr_ kr_ kr_ rfl (Yd.assign rfl) ?_
                    refine WA.done kr_ ?_
                    exact DN.reachS ((b11, (w7o, w7c), D7)) (hF7) (Sx.put rfl (Sx.put rfl (sx_))) sp_
                  · refine WO.h rfl Wt.none rfl (Hd.build1 (e := 5) (z := .int .u8 0) kr_ kr_ kr_ rfl (by rfl) fun b176 => ⟨_, rfl, ?_⟩)
                    refine WA.one (i := 4) kr_ ?_
                    refine WO.h rfl Wt.none rfl (Hd.loadAll (n := 11) kr_ rfl mem_ (by rfl) ⟨_, rfl, ?_⟩)
                    refine WA.one (i := 13) kr_ ?_
                    refine WO.c rfl Wt.none rfl (Ent.func Try.call15 rfl) (keep_tells s.e _ s.ks (row b176 (bc (replyS s)) 5 :: (CF ++ H)) (hF.kv.mono gr_) (by omega) (noteOf c) (.slice none 0 0) (.slice vo9 c.data.length vc9) (Bs_nil _) (hvc.mono gr_) cd9 (.slice (some ⟨b176, 0, none⟩) 1 1) (replyS s) (.inr ⟨b176, 0, 1, bc (replyS s), 5, (0, 0), true, rfl, Nat.le_refl _, mem_, rfl⟩)) (Sp.p sp_) ?_
                    rintro xk Hk ⟨w7, D7, rfl, hF7, rfl⟩
                    rw [hkeep] at hF7 ⊢
                    dsimp only at hF7 ⊢
                    obtain ⟨w7o, w7c, rfl⟩ := hF7.form
                    refine WA.y (i := 14) (NoPanic.then (NoPanic.body)) rfl kr_ kr_ kr_ rfl (Yd.move rfl) ?_
                    refine WA.y (i := 15) (NoPanic.then (NoPanic.body)) rfl kr_ kr_ kr_ rfl (Yd.extract rfl rfl) ?_
                    refine WA.y (i := 16) (NoPanic.then (NoPanic.body)) rfl kr_ kr_ kr_ rfl (Yd.extract rfl rfl) ?_
                    refine WA.one (i := 18) kr_ ?_
                    refine WO.s rfl Wt.none (Hd.storeAll (n := 2) kr_ rfl rfl (by rfl) one_ fr_ (by rfl) ⟨rfl, ?_⟩)
                    refine WA.y (i := 19) (NoPanic.then (NoPanic.body)) rfl kr_ kr_ kr_ rfl (Yd.assign rfl) ?_
                    refine WA.done kr_ ?_
                    exact DN.reachS ((b11, (w7o, w7c), D7)) (hF7) (Sx.put rfl (Sx.put rfl (sx_))) sp_
              · change WO _ _ _ _ _ _ 10 _ 17 ([(167, _), (173, _)] ++ _) _
                refine WO.h rfl Wt.none rfl (Hd.alloc (zs := [.int .u32 0, .slice none 0 0]) kr_ fun b11 => ⟨_, rfl, ?_⟩)
                refine WA.y (i := 10) (NoPanic.then (NoPanic.body)) rfl kr_ kr_ kr_ rfl (Yd.len (e := 43) kr_ rfl) ?_
                refine WA.y (i := 11) (NoPanic.then (NoPanic.body)) rfl kr_ kr_ kr_ rfl (Yd.to8 _ kr_ kr_ rfl rfl) ?_
                refine WA.two (i := 4) (j := 12) kr_ ?_ ?_
                · refine WO.h rfl Wt.none rfl (Hd.loadAll (n := 11) kr_ rfl mem_ (by rfl) ⟨_, rfl, ?_⟩)
                  refine WA.one (i := 12) kr_ ?_
                  refine WO.h rfl Wt.none rfl (Hd.build1 (e := 5) (z := .int .u8 0) kr_ kr_ kr_ rfl (by rfl) fun b176 => ⟨_, rfl, ?_⟩)
                  refine WA.one (i := 13) kr_ ?_
                  refine WO.c rfl Wt.none rfl (Ent.func Try.call15 rfl) (keep_tells s.e _ s.ks (row b176 (bc (replyS s)) 5 :: (CF ++ H)) (hF.kv.mono gr_) (by omega) (noteOf c) (.slice none 0 0) (.slice vo9 c.data.length vc9) (Bs_nil _) (hvc.mono gr_) cd9 (.slice (some ⟨b176, 0, none⟩) 1 1) (replyS s) (.inr ⟨b176, 0, 1, bc (replyS s), 5, (0, 0), true, rfl, Nat.le_refl _, mem_, rfl⟩)) (Sp.p sp_) ?_
                  rintro xk Hk ⟨w7, D7, rfl, hF7, rfl⟩
                  rw [hkeep] at hF7 ⊢
                  dsimp only at hF7 ⊢
                  obtain ⟨w7o, w7c, rfl⟩ := hF7.form
                  refine WA.y (i := 14) (NoPanic.then (NoPanic.body)) rfl kr_ kr_ kr_ rfl (Yd.move rfl) ?_
                  refine WA.y (i := 15) (NoPanic.then (NoPanic.body)) rfl kr_ kr_ kr_ rfl (Yd.extract rfl rfl) ?_
                  refine WA.y (i := 16) (NoPanic.then (NoPanic.body)) rfl kr_ kr_ kr_ rfl (Yd.extract rfl rfl) ?_
                  refine WA.one (i := 18) kr_ ?_
                  refine WO.s rfl Wt.none (Hd.storeAll (n := 2) kr_ rfl rfl (by rfl) one_ fr_ (by rfl) ⟨rfl, ?_⟩)
                  refine WA.y (i := 19) (NoPanic.then (NoPanic.body)) rfl kr_ kr_ kr_ rfl (Yd.assign rfl) ?_
                  refine WA.done kr_ ?_
                  exact DN.reachS ((b11, (w7o, w7c), D7)) (hF7) (Sx.put rfl (Sx.put rfl (sx_))) sp_
                · refine WO.h rfl Wt.none rfl (Hd.build1 (e := 5) (z := .int .u8 0) kr_ kr_ kr_ rfl (by rfl) fun b176 => ⟨_, rfl, ?_⟩)
                  refine WA.one (i := 4) kr_ ?_
                  refine WO.h rfl Wt.none rfl (Hd.loadAll (n := 11) kr_ rfl mem_ (by rfl) ⟨_, rfl, ?_⟩)
                  refine WA.one (i := 13) kr_ ?_
                  refine WO.c rfl Wt.none rfl (Ent.func Try.call15 rfl) (keep_tells s.e _ s.ks (row b176 (bc (replyS s)) 5 :: (CF ++ H)) (hF.kv.mono gr_) (by omega) (noteOf c) (.slice none 0 0) (.slice vo9 c.data.length vc9) (Bs_nil _) (hvc.mono gr_) cd9 (.slice (some ⟨b176, 0, none⟩) 1 1) (replyS s) (.inr ⟨b176, 0, 1, bc (replyS s), 5, (0, 0), true, rfl, Nat.le_refl _, mem_, rfl⟩)) (Sp.p sp_) ?_
                  rintro xk Hk ⟨w7, D7, rfl, hF7, rfl⟩
                  rw [hkeep] at hF7 ⊢
                  dsimp only at hF7 ⊢
                  obtain ⟨w7o, w7c, rfl⟩ := hF7.form
                  refine WA.y (i := 14) (NoPanic.then (NoPanic.body)) rfl kr_ kr_ kr_ rfl (Yd.move rfl) ?_
                  refine WA.y (i := 15) (NoPanic.then (NoPanic.body)) rfl kr_ kr_ kr_ rfl (Yd.extract rfl rfl) ?_
                  refine WA.y (i := 16) (NoPanic.then (NoPanic.body)) rfl kr_ kr_ kr_ rfl (Yd.extract rfl rfl) ?_
                  refine WA.one (i := 18) kr_ ?_
                  refine WO.s rfl Wt.none (Hd.storeAll (n := 2) kr_ rfl rfl (by rfl) one_ fr_ (by rfl) ⟨rfl, ?_⟩)
                  refine WA.y (i := 19) (NoPanic.then (NoPanic.body)) rfl kr_ kr_ kr_ rfl (Yd.assign rfl) ?_
                  refine WA.done kr_ ?_
                  exact DN.reachS ((b11, (w7o, w7c), D7)) (hF7) (Sx.put rfl (Sx.put rfl (sx_))) sp_
              · change WO _ _ _ _ _ _ 10 _ 10 ([(168, _), (173, _)] ++ _) _
                refine WO.y rfl Wt.none rfl (Yd.len (e := 43) kr_ rfl) ?_
                refine WA.y (i := 11) (NoPanic.then (NoPanic.body)) rfl kr_ kr_ kr_ rfl (Yd.to8 _ kr_ kr_ rfl rfl) ?_
                refine WA.three (i := 3) (j := 12) (k := 17) kr_ ?_ ?_ ?_
                · refine WO.h rfl Wt.none rfl (Hd.loadA (n := 2) (vs := [_, _]) kr_ rfl mem_ (by rfl) (by rfl) ⟨_, rfl, ?_⟩)
                  refine WA.two (i := 12) (j := 17) kr_ ?_ ?_
                  · refine WO.h rfl Wt.none rfl (Hd.build1 (e := 5) (z := .int .u8 0) kr_ kr_ kr_ rfl (by rfl) fun b176 => ⟨_, rfl, ?_⟩)
                    refine WA.two (i := 13) (j := 17) kr_ ?_ ?_
                    · refine WO.c rfl Wt.none rfl (Ent.func Try.call15 rfl) (keep_tells s.e _ s.ks (row b176 (bc (replyS s)) 5 :: (CF ++ H)) (hF.kv.mono gr_) (by omega) (noteOf c) (.slice none 0 0) (.slice vo9 c.data.length vc9) (Bs_nil _) (hvc.mono gr_) cd9 (.slice (some ⟨b176, 0, none⟩) 1 1) (replyS s) (.inr ⟨b176, 0, 1, bc (replyS s), 5, (0, 0), true, rfl, Nat.le_refl _, mem_, rfl⟩)) (Sp.p sp_) ?_
                      rintro xk Hk ⟨w7, D7, rfl, hF7, rfl⟩
                      rw [hkeep] at hF7 ⊢
                      dsimp only at hF7 ⊢
                      obtain ⟨w7o, w7c, rfl⟩ := hF7.form
                      refine WA.y (i := 14) (NoPanic.then (NoPanic.body)) rfl kr_ kr_ kr_ rfl (Yd.move rfl) ?_
                      refine WA.y (i := 15) (NoPanic.then (NoPanic.body)) rfl kr_ kr_ kr_ rfl (Yd.extract rfl rfl) ?_
                      refine WA.y (i := 16) (NoPanic.then (NoPanic.body)) rfl kr_ kr_ kr_ rfl (Yd.extract rfl rfl) ?_
                      refine WA.one (i := 17) kr_ ?_
                      refine WO.h rfl Wt.none rfl (Hd.alloc (zs := [.int .u32 0, .slice none 0 0]) kr_ fun b11 => ⟨_, rfl, ?_⟩)
                      refine WA.one (i := 18) kr_ ?_
                      refine WO.s rfl Wt.none (Hd.storeAll (n := 2) kr_ rfl rfl (by rfl) one_ fr_ (by rfl) ⟨rfl, ?_⟩)
                      refine WA.y (i := 19) (NoPanic.then (NoPanic.body)) rfl kr_ kr_ kr_ rfl (Yd.assign rfl) ?_
                      refine WA.done kr_ ?_
                      exact DN.reachS ((b11, (w7o, w7c), D7)) (hF7) (Sx.put rfl (Sx.put rfl (sx_))) sp_
                    · refine WO.h rfl Wt.none rfl (Hd.alloc (zs := [.int .u32 0, .slice none 0 0]) kr_ fun b11 => ⟨_, rfl, ?_⟩)
                      refine WA.one (i := 13) kr_ ?_
                      refine WO.c rfl Wt.none rfl (Ent.func Try.call15 rfl) (keep_tells s.e _ s.ks (row b176 (bc (replyS s)) 5 :: (CF ++ H)) (hF.kv.mono gr_) (by omega) (noteOf c) (.slice none 0 0) (.slice vo9 c.data.length vc9) (Bs_nil _) (hvc.mono gr_) cd9 (.slice (some ⟨b176, 0, none⟩) 1 1) (replyS s) (.inr ⟨b176, 0, 1, bc (replyS s), 5, (0, 0), true, rfl, Nat.le_refl _, mem_, rfl⟩)) (Sp.p sp_) ?_
                      rintro xk Hk ⟨w7, D7, rfl, hF7, rfl⟩
                      rw [hkeep] at hF7 ⊢
                      dsimp only at hF7 ⊢
                      obtain ⟨w7o, w7c, rfl⟩ := hF7.form
                      refine WA.y (i := 14) (NoPanic.then (NoPanic.body)) rfl kr_ kr_ kr_ rfl (Yd.move rfl) ?_
                      refine WA.y (i := 15) (NoPanic.then (NoPanic.body)) rfl kr_ kr_ kr_ rfl (Yd.extract rfl rfl) ?_
                      refine WA.y (i := 16) (NoPanic.then (NoPanic.body)) rfl kr_ kr_ kr_ rfl (Yd.extract rfl rfl) ?_
                      refine WA.one (i := 18) kr_ ?_
                      refine WO.s rfl Wt.none (Hd.storeAll (n := 2) kr_ rfl rfl (by rfl) one_ fr_ (by rfl) ⟨rfl, ?_⟩)
                      refine WA.y (i := 19) (NoPanic.then (NoPanic.body)) rfl kr_ kr_ kr_ rfl (Yd.assign rfl) ?_
                      refine WA.done kr_ ?_
                      exact DN.reachS ((b11, (w7o, w7c), D7)) (hF7) (Sx.put rfl (Sx.put rfl (sx_))) sp_
                  · refine WO.h rfl Wt.none rfl (Hd.alloc (zs := [.int .u32 0, .slice none 0 0]) kr_ fun b11 => ⟨_, rfl, ?_⟩)
                    refine WA.one (i := 12) kr_ ?_
                    refine WO.h rfl Wt.none rfl (Hd.build1 (e := 5) (z := .int .u8 0) kr_ kr_ kr_ rfl (by rfl) fun b176 => ⟨_, rfl, ?_⟩)
                    refine WA.one (i := 13) kr_ ?_
                    refine WO.c rfl Wt.none rfl (Ent.func Try.call15 rfl) (keep_tells s.e _ s.ks (row b176 (bc (replyS s)) 5 :: (CF ++ H)) (hF.kv.mono gr_) (by omega) (noteOf c) (.slice none 0 0) (.slice vo9 c.data.length vc9) (Bs_nil _) (hvc.mono gr_) cd9 (.slice (some ⟨b176, 0, none⟩) 1 1) (replyS s) (.inr ⟨b176, 0, 1, bc (replyS s), 5, (0, 0), true, rfl, Nat.le_refl _, mem_, rfl⟩)) (Sp.p sp_) ?_
                    rintro xk Hk ⟨w7, D7, rfl, hF7, rfl⟩
                    rw [hkeep] at hF7 ⊢
                    dsimp only at hF7 ⊢
                    obtain ⟨w7o, w7c, rfl⟩ := hF7.form
                    refine WA.y (i := 14) (NoPanic.then (NoPanic.body)) rfl kr_ kr_ kr_ rfl (Yd.move rfl) ?_
                    refine WA.y (i := 15) (NoPanic.then (NoPanic.body)) rfl kr_ kr_ kr_ rfl (Yd.extract rfl rfl) ?_
                    refine WA.y (i := 16) (NoPanic.then (NoPanic.body)) rfl kr_ kr_ kr_ rfl (Yd.extract rfl rfl) ?_
                    refine WA.one (i := 18) kr_ ?_
                    refine WO.s rfl Wt.none (Hd.storeAll (n := 2) kr_ rfl rfl (by rfl) one_ fr_ (by rfl) ⟨rfl, ?_⟩)
                    refine WA.y (i := 19) (NoPanic.then (NoPanic.body)) rfl kr_ kr_ kr_ rfl (Yd.assign rfl) ?_
                    refine WA.done kr_ ?_
                    exact DN.reachS ((b11, (w7o, w7c), D7)) (hF7) (Sx.put rfl (Sx.put rfl (sx_))) sp_
                · refine WO.h rfl Wt.none rfl (Hd.build1 (e := 5) (z := .int .u8 0) kr_ kr_ kr_ rfl (by rfl) fun b176 => ⟨_, rfl, ?_⟩)
                  refine WA.two (i := 3) (j := 17) kr_ ?_ ?_
                  · refine WO.h rfl Wt.none rfl (Hd.loadA (n := 2) (vs := [_, _]) kr_ rfl mem_ (by rfl) (by rfl) ⟨_, rfl, ?_⟩)
                    refine WA.two (i := 13) (j := 17) kr_ ?_ ?_
                    · refine WO.c rfl Wt.none rfl (Ent.func Try.call15 rfl) (keep_tells s.e _ s.ks (row b176 (bc (replyS s)) 5 :: (CF ++ H)) (hF.kv.mono gr_) (by omega) (noteOf c) (.slice none 0 0) (.slice vo9 c.data.length vc9) (Bs_nil _) (hvc.mono gr_) cd9 (.slice (some ⟨b176, 0, none⟩) 1 1) (replyS s) (.inr ⟨b176, 0, 1, bc (replyS s), 5, (0, 0), true, rfl, Nat.le_refl _, mem_, rfl⟩)) (Sp.p sp_) ?_
                      rintro xk Hk ⟨w7, D7, rfl, hF7, rfl⟩
                      rw [hkeep] at hF7 ⊢
                      dsimp only at hF7 ⊢
                      obtain ⟨w7o, w7c, rfl⟩ := hF7.form
                      refine WA.y (i := 14) (NoPanic.then (NoPanic.body)) rfl kr_ kr_ kr_ rfl (Yd.move rfl) ?_
                      refine WA.y (i := 15) (NoPanic.then (NoPanic.body)) rfl kr_ kr_ kr_ rfl (Yd.extract rfl rfl) ?_
                      refine WA.y (i := 16) (NoPanic.then (NoPanic.body)) rfl kr_ kr_ kr_ rfl (Yd.extract rfl rfl) ?_
                      refine WA.one (i := 17) kr_ ?_
                      refine WO.h rfl Wt.none rfl (Hd.alloc (zs := [.int .u32 0, .slice none 0 0]) kr_ fun b11 => ⟨_, rfl, ?_⟩)
                      refine WA.one (i := 18) kr_ ?_
                      refine WO.s rfl Wt.none (Hd.storeAll (n := 2) kr_ rfl rfl (by rfl) one_ fr_ (by rfl) ⟨rfl, ?_⟩)
                      refine WA.y (i := 19) (NoPanic.then (NoPanic.body)) rfl kr_ kr_ kr_ rfl (Yd.assign rfl) ?_
                      refine WA.done kr_ ?_
                      exact DN.reachS ((b11, (w7o, w7c), D7)) (hF7) (Sx.put rfl (Sx.put rfl (sx_))) sp_
                    · refine WO.h rfl Wt.none rfl (Hd.alloc (zs := [.int .u32 0, .slice none 0 0]) kr_ fun b11 => ⟨_, rfl, ?_⟩)
                      refine WA.one (i := 13) kr_ ?_
                      refine WO.c rfl Wt.none rfl (Ent.func Try.call15 rfl) (keep_tells s.e _ s.ks (row b176 (bc (replyS s)) 5 :: (CF ++ H)) (hF.kv.mono gr_) (by omega) (noteOf c) (.slice none 0 0) (.slice vo9 c.data.length vc9) (Bs_nil _) (hvc.mono gr_) cd9 (.slice (some ⟨b176, 0, none⟩) 1 1) (replyS s) (.inr ⟨b176, 0, 1, bc (replyS s), 5, (0, 0), true, rfl, Nat.le_refl _, mem_, rfl⟩)) (Sp.p sp_) ?_
                      rintro xk Hk ⟨w7, D7, rfl, hF7, rfl⟩
                      rw [hkeep] at hF7 ⊢
                      dsimp only at hF7 ⊢
                      obtain ⟨w7o, w7c, rfl⟩ := hF7.form
                      refine WA.y (i := 14) (NoPanic.then (NoPanic.body)) rfl kr_ kr_ kr_ rfl (Yd.move rfl) ?_
                      refine WA.y (i := 15) (NoPanic.then (NoPanic.body)) rfl kr_ kr_ kr_ rfl (Yd.extract rfl rfl) ?_
                      refine WA.y (i := 16) (NoPanic.then (NoPanic.body)) rfl kr_ kr_ kr_ rfl (Yd.extract rfl rfl) ?_
                      refine WA.one (i := 18) kr_ ?_
                      refine WO.s rfl Wt.none (Hd.storeAll (n := 2) kr_ rfl rfl (by rfl) one_ fr_ (by rfl) ⟨rfl, ?_⟩)
                      refine WA.y (i := 19) (NoPanic.then (NoPanic.body)) rfl kr_ kr_ kr_ rfl (Yd.assign rfl) ?_
                      refine WA.done kr_ ?_
                      exact DN.reachS ((b11, (w7o, w7c), D7)) (hF7) (Sx.put rfl (Sx.put rfl (sx_))) sp_
                  · refine WO.h rfl Wt.none rfl (Hd.alloc (zs := [.int .u32 0, .slice none 0 0]) kr_ fun b11 => ⟨_, rfl, ?_⟩)
                    refine WA.one (i := 3) kr_ ?_
                    refine WO.h rfl Wt.none rfl (Hd.loadA (n := 2) (vs := [_, _]) kr_ rfl mem_ (by rfl) (by rfl) ⟨_, rfl, ?_⟩)
                    refine WA.one (i := 13) kr_ ?_
                    refine WO.c rfl Wt.none rfl (Ent.func Try.call15 rfl) (keep_tells s.e _ s.ks (row b176 (bc (replyS s)) 5 :: (CF ++ H)) (hF.kv.mono gr_) (by omega) (noteOf c) (.slice none 0 0) (.slice vo9 c.data.length vc9) (Bs_nil _) (hvc.mono gr_) cd9 (.slice (some ⟨b176, 0, none⟩) 1 1) (replyS s) (.inr ⟨b176, 0, 1, bc (replyS s), 5, (0, 0), true, rfl, Nat.le_refl _, mem_, rfl⟩)) (Sp.p sp_) ?_
                    rintro xk Hk ⟨w7, D7, rfl, hF7, rfl⟩
                    rw [hkeep] at hF7 ⊢
                    dsimp only at hF7 ⊢
                    obtain ⟨w7o, w7c, rfl⟩ := hF7.form
                    refine WA.y (i := 14) (NoPanic.then (NoPanic.body)) rfl kr_ kr_ kr_ rfl (Yd.move rfl) ?_
                    refine WA.y (i := 15) (NoPanic.then (NoPanic.body)) rfl kr_ kr_ kr_ rfl (Yd.extract rfl rfl) ?_
                    refine WA.y (i := 16) (NoPanic.then (NoPanic.body)) rfl kr_ kr_ kr_ rfl (Yd.extract rfl rfl) ?_
                    refine WA.one (i := 18) kr_ ?_
                    refine WO.s rfl Wt.none (Hd.storeAll (n := 2) kr_ rfl rfl (by rfl) one_ fr_ (by rfl) ⟨rfl, ?_⟩)
                    refine WA.y (i := 19) (NoPanic.then (NoPanic.body)) rfl kr_ kr_ kr_ rfl (Yd.assign rfl) ?_
                    refine WA.done kr_ ?_
                    exact DN.reachS ((b11, (w7o, w7c), D7)) (hF7) (Sx.put rfl (Sx.put rfl (sx_))) sp_
                · refine WO.h rfl Wt.none rfl (Hd.alloc (zs := [.int .u32 0, .slice none 0 0]) kr_ fun b11 => ⟨_, rfl, ?_⟩)
                  refine WA.two (i := 3) (j := 12) kr_ ?_ ?_
                  · refine WO.h rfl Wt.none rfl (Hd.loadA (n := 2) (vs := [_, _]) kr_ rfl mem_ (by rfl) (by rfl) ⟨_, rfl, ?_⟩)
                    refine WA.one (i := 12) kr_ ?_
                    refine WO.h rfl Wt.none rfl (Hd.build1 (e := 5) (z := .int .u8 0) kr_ kr_ kr_ rfl (by rfl) fun b176 => ⟨_, rfl, ?_⟩)
                    refine WA.one (i := 13) kr_ ?_
                    refine WO.c rfl Wt.none rfl (Ent.func Try.call15 rfl) (keep_tells s.e _ s.ks (row b176 (bc (replyS s)) 5 :: (CF ++ H)) (hF.kv.mono gr_) (by omega) (noteOf c) (.slice none 0 0) (.slice vo9 c.data.length vc9) (Bs_nil _) (hvc.mono gr_) cd9 (.slice (some ⟨b176, 0, none⟩) 1 1) (replyS s) (.inr ⟨b176, 0, 1, bc (replyS s), 5, (0, 0), true, rfl, Nat.le_refl _, mem_, rfl⟩)) (Sp.p sp_) ?_
                    rintro xk Hk ⟨w7, D7, rfl, hF7, rfl⟩
                    rw [hkeep] at hF7 ⊢
                    dsimp only at hF7 ⊢
                    obtain ⟨w7o, w7c, rfl⟩ := hF7.form
                    refine WA.y (i := 14) (NoPanic.then (NoPanic.body)) rfl kr_ kr_ kr_ rfl (Yd.move rfl) ?_
                    refine WA.y (i := 15) (NoPanic.then (NoPanic.body)) rfl kr_ kr_ kr_ rfl (Yd.extract rfl rfl) ?_
                    refine WA.y (i := 16) (NoPanic.then (NoPanic.body)) rfl kr_ kr_ kr_ rfl (Yd.extract rfl rfl) ?_
                    refine WA.one (i := 18) kr_ ?_
                    refine WO.s rfl Wt.none (Hd.storeAll (n := 2) kr_ rfl rfl (by rfl) one_ fr_ (by rfl) ⟨rfl, ?_⟩)
                    refine WA.y (i := 19) (NoPanic.then (NoPanic.body)) rfl kr_ kr_ kr_ rfl (Yd.assign rfl) ?_
                    refine WA.done kr_ ?_
                    exact DN.reachS ((b11, (w7o, w7c), D7)) (hF7) (Sx.put rfl (Sx.put rfl (sx_))) sp_
                  · refine WO.h rfl Wt.none rfl (Hd.build1 (e := 5) (z := .int .u8 0) kr_ kr_ kr_ rfl (by rfl) fun b176 => ⟨_, rfl, ?_⟩)
                    refine WA.one (i := 3) kr_ ?_
                    refine WO.h rfl Wt.none rfl (Hd.loadA (n := 2) (vs := [_, _]) kr_ rfl mem_ (by rfl) (by rfl) ⟨_, rfl, ?_⟩)
                    refine WA.one (i := 13) kr_ ?_
                    refine WO.c rfl Wt.none rfl (Ent.func Try.call15 rfl) (keep_tells s.e _ s.ks (row b176 (bc (replyS s)) 5 :: (CF ++ H)) (hF.kv.mono gr_) (by omega) (noteOf c) (.slice none 0 0) (.slice vo9 c.data.length vc9) (Bs_nil _) (hvc.mono gr_) cd9 (.slice (some ⟨b176, 0, none⟩) 1 1) (replyS s) (.inr ⟨b176, 0, 1, bc (replyS s), 5, (0, 0), true, rfl, Nat.le_refl _, mem_, rfl⟩)) (Sp.p sp_) ?_
                    rintro xk Hk ⟨w7, D7, rfl, hF7, rfl⟩
                    rw [hkeep] at hF7 ⊢
                    dsimp only at hF7 ⊢
                    obtain ⟨w7o, w7c, rfl⟩ := hF7.form
                    refine WA.y (i := 14) (NoPanic.then (NoPanic.body)) rfl kr_ kr_ kr_ rfl (Yd.move rfl) ?_
                    refine WA.y (i := 15) (NoPanic.then (NoPanic.body)) rfl kr_ kr_ kr_ rfl (Yd.extract rfl rfl) ?_
                    refine WA.y (i := 16) (NoPanic.then (NoPanic.body)) rfl kr_ kr_ kr_ rfl (Yd.extract rfl rfl) ?_
                    refine WA.one (i := 18) kr_ ?_
                    refine WO.s rfl Wt.none (Hd.storeAll (n := 2) kr_ rfl rfl (by rfl) one_ fr_ (by rfl) ⟨rfl, ?_⟩)
                    refine WA.y (i := 19) (NoPanic.then (NoPanic.body)) rfl kr_ kr_ kr_ rfl (Yd.assign rfl) ?_
                    refine WA.done kr_ ?_
                    exact DN.reachS ((b11, (w7o, w7c), D7)) (hF7) (Sx.put rfl (Sx.put rfl (sx_))) sp_
              · change WO _ _ _ _ _ _ 10 _ 17 ([(168, _), (173, _)] ++ _) _
                refine WO.h rfl Wt.none rfl (Hd.alloc (zs := [.int .u32 0, .slice none 0 0]) kr_ fun b11 => ⟨_, rfl, ?_⟩)
                refine WA.y (i := 10) (NoPanic.then (NoPanic.body)) rfl kr_ kr_ kr_ rfl (Yd.len (e := 43) kr_ rfl) ?_
                refine WA.y (i := 11) (NoPanic.then (NoPanic.body)) rfl kr_ kr_ kr_ rfl (Yd.to8 _ kr_ kr_ rfl rfl) ?_
                refine WA.two (i := 3) (j := 12) kr_ ?_ ?_
                · refine WO.h rfl Wt.none rfl (Hd.loadA (n := 2) (vs := [_, _]) kr_ rfl mem_ (by rfl) (by rfl) ⟨_, rfl, ?_⟩)
                  refine WA.one (i := 12) kr_ ?_
                  refine WO.h rfl Wt.none rfl (Hd.build1 (e := 5) (z := .int .u8 0) kr_ kr_ kr_ rfl (by rfl) fun b176 => ⟨_, rfl, ?_⟩)
                  refine WA.one (i := 13) kr_ ?_
                  refine WO.c rfl Wt.none rfl (Ent.func Try.call15 rfl) (keep_tells s.e _ s.ks (row b176 (bc (replyS s)) 5 :: (CF ++ H)) (hF.kv.mono gr_) (by omega) (noteOf c) (.slice none 0 0) (.slice vo9 c.data.length vc9) (Bs_nil _) (hvc.mono gr_) cd9 (.slice (some ⟨b176, 0, none⟩) 1 1) (replyS s) (.inr ⟨b176, 0, 1, bc (replyS s), 5, (0, 0), true, rfl, Nat.le_refl _, mem_, rfl⟩)) (Sp.p sp_) ?_
                  rintro xk Hk ⟨w7, D7, rfl, hF7, rfl⟩
                  rw [hkeep] at hF7 ⊢
                  dsimp only at hF7 ⊢
                  obtain ⟨w7o, w7c, rfl⟩ := hF7.form
                  refine WA.y (i := 14) (NoPanic.then (NoPanic.body)) rfl kr_ kr_ kr_ rfl (Yd.move rfl) ?_
                  refine WA.y (i := 15) (NoPanic.then (NoPanic.body)) rfl kr_ kr_ kr_ rfl (Yd.extract rfl rfl) ?_
                  refine WA.y (i := 16) (NoPanic.then (NoPanic.body)) rfl kr_ kr_ kr_ rfl (Yd.extract rfl rfl) ?_
                  refine WA.one (i := 18) kr_ ?_
                  refine WO.s rfl Wt.none (Hd.storeAll (n := 2) kr_ rfl rfl (by rfl) one_ fr_ (by rfl) ⟨rfl, ?_⟩)
                  refine WA.y (i := 19) (NoPanic.then (NoPanic.body)) rfl kr_ kr_ kr_ rfl (Yd.assign rfl) ?_
                  refine WA.done kr_ ?_
                  exact DN.reachS ((b11, (w7o, w7c), D7)) (hF7) (Sx.put rfl (Sx.put rfl (sx_))) sp_
                · refine WO.h rfl Wt.none rfl (Hd.build1 (e := 5) (z := .int .u8 0) kr_ kr_ kr_ rfl (by rfl) fun b176 => ⟨_, rfl, ?_⟩)
                  refine WA.one (i := 3) kr_ ?_
                  refine WO.h rfl Wt.none rfl (Hd.loadA (n := 2) (vs := [_, _]) kr_ rfl mem_ (by rfl) (by rfl) ⟨_, rfl, ?_⟩)
                  refine WA.one (i := 13) kr_ ?_
                  refine WO.c rfl Wt.none rfl (Ent.func Try.call15 rfl) (keep_tells s.e _ s.ks (row b176 (bc (replyS s)) 5 :: (CF ++ H)) (hF.kv.mono gr_) (by omega) (noteOf c) (.slice none 0 0) (.slice vo9 c.data.length vc9) (Bs_nil _) (hvc.mono gr_) cd9 (.slice (some ⟨b176, 0, none⟩) 1 1) (replyS s) (.inr ⟨b176, 0, 1, bc (replyS s), 5, (0, 0), true, rfl, Nat.le_refl _, mem_, rfl⟩)) (Sp.p sp_) ?_
                  rintro xk Hk ⟨w7, D7, rfl, hF7, rfl⟩
                  rw [hkeep] at hF7 ⊢
                  dsimp only at hF7 ⊢
                  obtain ⟨w7o, w7c, rfl⟩ := hF7.form
                  refine WA.y (i := 14) (NoPanic.then (NoPanic.body)) rfl kr_ kr_ kr_ rfl (Yd.move rfl) ?_
                  refine WA.y (i := 15) (NoPanic.then (NoPanic.body)) rfl kr_ kr_ kr_ rfl (Yd.extract rfl rfl) ?_
                  refine WA.y (i := 16) (NoPanic.then (NoPanic.body)) rfl kr_ kr_ kr_ rfl (Yd.extract rfl rfl) ?_
                  refine WA.one (i := 18) kr_ ?_
                  refine WO.s rfl Wt.none (Hd.storeAll (n := 2) kr_ rfl rfl (by rfl) one_ fr_ (by rfl) ⟨rfl, ?_⟩)
                  refine WA.y (i := 19) (NoPanic.then (NoPanic.body)) rfl kr_ kr_ kr_ rfl (Yd.assign rfl) ?_
                  refine WA.done kr_ ?_
                  exact DN.reachS ((b11, (w7o, w7c), D7)) (hF7) (Sx.put rfl (Sx.put rfl (sx_))) sp_
              · change WA _ _ _ _ _ _ 10 _ ([(167, _), (168, _), (173, _)] ++ _) _
                refine WA.y (i := 10) (NoPanic.then (NoPanic.body)) rfl kr_ kr_ kr_ rfl (Yd.len (e := 43) kr_ rfl) ?_
                refine WA.y (i := 11) (NoPanic.then (NoPanic.body)) rfl kr_ kr_ kr_ rfl (Yd.to8 _ kr_ kr_ rfl rfl) ?_
                refine WA.two (i := 12) (j := 17) kr_ ?_ ?_
                · refine WO.h rfl Wt.none rfl (Hd.build1 (e := 5) (z := .int .u8 0) kr_ kr_ kr_ rfl (by rfl) fun b176 => ⟨_, rfl, ?_⟩)
                  refine WA.two (i := 13) (j := 17) kr_ ?_ ?_
                  · refine WO.c rfl Wt.none rfl (Ent.func Try.call15 rfl) (keep_tells s.e _ s.ks (row b176 (bc (replyS s)) 5 :: (CF ++ H)) (hF.kv.mono gr_) (by omega) (noteOf c) (.slice none 0 0) (.slice vo9 c.data.length vc9) (Bs_nil _) (hvc.mono gr_) cd9 (.slice (some ⟨b176, 0, none⟩) 1 1) (replyS s) (.inr ⟨b176, 0, 1, bc (replyS s), 5, (0, 0), true, rfl, Nat.le_refl _, mem_, rfl⟩)) (Sp.p sp_) ?_
                    rintro xk Hk ⟨w7, D7, rfl, hF7, rfl⟩
                    rw [hkeep] at hF7 ⊢
                    dsimp only at hF7 ⊢
                    obtain ⟨w7o, w7c, rfl⟩ := hF7.form
                    refine WA.y (i := 14) (NoPanic.then (NoPanic.body)) rfl kr_ kr_ kr_ rfl (Yd.move rfl) ?_
                    refine WA.y (i := 15) (NoPanic.then (NoPanic.body)) rfl kr_ kr_ kr_ rfl (Yd.extract rfl rfl) ?_
                    refine WA.y (i := 16) (NoPanic.then (NoPanic.body)) rfl kr_ kr_ kr_ rfl (Yd.extract rfl rfl) ?_
                    refine WA.one (i := 17) kr_ ?_
                    refine WO.h rfl Wt.none rfl (Hd.alloc (zs := [.int .u32 0, .slice none 0 0]) kr_ fun b11 => ⟨_, rfl, ?_⟩)
                    refine WA.one (i := 18) kr_ ?_
                    refine WO.s rfl Wt.none (Hd.storeAll (n := 2) kr_ rfl rfl (by rfl) one_ fr_ (by rfl) ⟨rfl, ?_⟩)
                    refine WA.y (i := 19) (NoPanic.then (NoPanic.body)) rfl kr_ kr_ kr_ rfl (Yd.assign rfl) ?_
                    refine WA.done kr_ ?_
                    exact DN.reachS ((b11, (w7o, w7c), D7)) (hF7) (Sx.put rfl (Sx.put rfl (sx_))) sp_
                  · refine WO.h rfl Wt.none rfl (Hd.alloc (zs := [.int .u32 0, .slice none 0 0]) kr_ fun b11 => ⟨_, rfl, ?_⟩)
                    refine WA.one (i := 13) kr_ ?_
                    refine WO.c rfl Wt.none rfl (Ent.func Try.call15 rfl) (keep_tells s.e _ s.ks (row b176 (bc (replyS s)) 5 :: (CF ++ H)) (hF.kv.mono gr_) (by omega) (noteOf c) (.slice none 0 0) (.slice vo9 c.data.length vc9) (Bs_nil _) (hvc.mono gr_) cd9 (.slice (some ⟨b176, 0, none⟩) 1 1) (replyS s) (.inr ⟨b176, 0, 1, bc (replyS s), 5, (0, 0), true, rfl, Nat.le_refl _, mem_, rfl⟩)) (Sp.p sp_) ?_
                    rintro xk Hk ⟨w7, D7, rfl, hF7, rfl⟩
                    rw [hkeep] at hF7 ⊢
                    dsimp only at hF7 ⊢
                    obtain ⟨w7o, w7c, rfl⟩ := hF7.form
                    refine WA.y (i := 14) (NoPanic.then (NoPanic.body)) rfl kr_ kr_ kr_ rfl (Yd.move rfl) ?_
                    refine WA.y (i := 15) (NoPanic.then (NoPanic.body)) rfl kr_ kr_ kr_ rfl (Yd.extract rfl rfl) ?_
                    refine WA.y (i := 16) (NoPanic.then (NoPanic.body)) rfl kr_ kr_ kr_ rfl (Yd.extract rfl rfl) ?_
                    refine WA.one (i := 18) kr_ ?_
                    refine WO.s rfl Wt.none (Hd.storeAll (n := 2) kr_ rfl rfl (by rfl) one_ fr_ (by rfl) ⟨rfl, ?_⟩)
                    refine WA.y (i := 19) (NoPanic.then (NoPanic.body)) rfl kr_ kr_ kr_ rfl (Yd.assign rfl) ?_
                    refine WA.done kr_ ?_
                    exact DN.reachS ((b11, (w7o, w7c), D7)) (hF7) (Sx.put rfl (Sx.put rfl (sx_))) sp_
                · refine WO.h rfl Wt.none rfl (Hd.alloc (zs := [.int .u32 0, .slice none 0 0]) kr_ fun b11 => ⟨_, rfl, ?_⟩)
                  refine WA.one (i := 12) kr_ ?_
                  refine WO.h rfl Wt.none rfl (Hd.build1 (e := 5) (z := .int .u8 0) kr_ kr_ kr_ rfl (by rfl) fun b176 => ⟨_, rfl, ?_⟩)
                  refine WA.one (i := 13) kr_ ?_
                  refine WO.c rfl Wt.none rfl (Ent.func Try.call15 rfl) (keep_tells s.e _ s.ks (row b176 (bc (replyS s)) 5 :: (CF ++ H)) (hF.kv.mono gr_) (by omega) (noteOf c) (.slice none 0 0) (.slice vo9 c.data.length vc9) (Bs_nil _) (hvc.mono gr_) cd9 (.slice (some ⟨b176, 0, none⟩) 1 1) (replyS s) (.inr ⟨b176, 0, 1, bc (replyS s), 5, (0, 0), true, rfl, Nat.le_refl _, mem_, rfl⟩)) (Sp.p sp_) ?_
                  rintro xk Hk ⟨w7, D7, rfl, hF7, rfl⟩
                  rw [hkeep] at hF7 ⊢
                  dsimp only at hF7 ⊢
                  obtain ⟨w7o, w7c, rfl⟩ := hF7.form
                  refine WA.y (i := 14) (NoPanic.then (NoPanic.body)) rfl kr_ kr_ kr_ rfl (Yd.move rfl) ?_
                  refine WA.y (i := 15) (NoPanic.then (NoPanic.body)) rfl kr_ kr_ kr_ rfl (Yd.extract rfl rfl) ?_
                  refine WA.y (i := 16) (NoPanic.then (NoPanic.body)) rfl kr_ kr_ kr_ rfl (Yd.extract rfl rfl) ?_
                  refine WA.one (i := 18) kr_ ?_
                  refine WO.s rfl Wt.none (Hd.storeAll (n := 2) kr_ rfl rfl (by rfl) one_ fr_ (by rfl) ⟨rfl, ?_⟩)
                  refine WA.y (i := 19) (NoPanic.then (NoPanic.body)) rfl kr_ kr_ kr_ rfl (Yd.assign rfl) ?_
                  refine WA.done kr_ ?_
                  exact DN.reachS ((b11, (w7o, w7c), D7)) (hF7) (Sx.put rfl (Sx.put rfl (sx_))) sp_
            · rintro ⟨b11, ⟨w8, x8⟩, D8⟩ hF8
              dsimp only at hF8 ⊢
              refine WC.seq ?_
              refine WC.seq ?_
              refine WC.region ?_
              refine WL.y rfl (Yd.move rfl) ?_
              refine WL.y rfl (Yd.neq rfl rfl) ?_
              refine WL.y rfl (Yd.move rfl) ?_
              refine WL.renamed (t := 182) (v := .bool false) rfl (congrArg Value.bool (by decide)) ?_
              refine WL.gy (dj := 182) rfl rfl rfl (Yd.fieldAddr (k := 0) kr_ rfl) ?_
              refine WL.gh (dj := 182) rfl rfl rfl (Hd.load1 kr_ rfl mem_ (by rfl) ⟨_, rfl, ?_⟩)
              refine WL.gy (dj := 182) rfl rfl rfl (Yd.fieldAddr (k := 1) kr_ rfl) ?_
              refine WL.gh (dj := 182) rfl rfl rfl (Hd.load1 kr_ rfl mem_ (by rfl) ⟨_, rfl, ?_⟩)
              refine WL.gy (dj := 182) rfl rfl rfl (Yd.neq32 _ _ rfl rfl rfl rfl) ?_
              refine WL.y rfl (Yd.pickF rfl rfl) ?_
              refine WL.y rfl (Yd.move rfl) ?_
              refine WL.renamed (t := 189) (v := .bool false) rfl (congrArg Value.bool (decide_eq_false (fun h => h rfl))) ?_
              refine WL.gy (dj := 189) rfl rfl rfl (Yd.fieldAddr (k := 0) kr_ rfl) ?_
              refine WL.gh (dj := 189) rfl rfl rfl (Hd.load1 kr_ rfl mem_ (by rfl) ⟨_, rfl, ?_⟩)
              refine WL.gy (dj := 189) rfl rfl rfl (Yd.move rfl) ?_
              refine WL.gy (dj := 189) rfl rfl rfl (Yd.lss rfl rfl) ?_
              refine WL.y rfl (Yd.pickF rfl rfl) ?_
              refine WL.renamed (t := 194) (v := .bool false) rfl (congrArg Value.bool (decide_eq_false (by omega))) ?_
              refine WL.nil ?_
              refine DN.then_normal ?_
              refine WC.no rfl ?_
              refine WC.skip ?_
              refine DN.then_normal ?_
              refine WC.seq ?_
              refine WC.region ?_
              refine WL.y rfl (Yd.move rfl) ?_
              refine WL.h rfl (Hd.loadAll (n := 2) kr_ rfl mem_ (by rfl) ⟨_, rfl, ?_⟩)
              refine WL.y rfl (Yd.notNil rfl) ?_
              refine WL.y rfl (Yd.fieldAddr (k := 0) kr_ rfl) ?_
              refine WL.s (Hd.storeP (n := 2) kr_ rfl rfl (by rfl) one_ fr_ (by show 0 + 0 + 2 ≤ 6; decide) (by rfl) ⟨rfl, ?_⟩)
              refine WL.nil ?_
              refine DN.then_normal ?_
              refine WC.seq ?_
              refine WC.region ?_
              refine WL.h rfl (Hd.loadAll (n := 2) kr_ rfl mem_ (by rfl) ⟨_, rfl, ?_⟩)
              refine WL.y rfl (Yd.fieldAddr (k := 5) kr_ rfl) ?_
              refine WL.h rfl (Hd.load1 kr_ rfl mem_ (by rfl) ⟨_, rfl, ?_⟩)
              refine WL.y rfl (Yd.fieldAddr (k := 6) kr_ rfl) ?_
              refine WL.h rfl (Hd.load1 kr_ rfl mem_ (by rfl) ⟨_, rfl, ?_⟩)
              refine WL.y rfl (Yd.fieldAddr (k := 7) kr_ rfl) ?_
              refine WL.h rfl (Hd.load1 kr_ rfl mem_ (by rfl) ⟨_, rfl, ?_⟩)
              refine WL.c rfl (Ent.func Try.call26 rfl) (find2_tells (epN c) _ L2 D8 hF8.kv (by omega) (orN c) (stp c.step) c.undo) (Sp.p sp_) ?_
              rintro xf Hf ⟨w9, r9, A9, B9, rfl, hA9, hB9, rfl⟩
              rw [hfind] at hA9 hB9 ⊢
              simp only [Option.getD_some, Option.isSome_some] at hA9 hB9 ⊢
              obtain ⟨o9, c9, rfl, _⟩ := hA9.form
              obtain ⟨p9, q9, rfl, _⟩ := hB9.form
              refine WL.y rfl (Yd.move rfl) ?_
              refine WL.y rfl (Yd.extract rfl rfl) ?_
              refine WL.y rfl (Yd.extract rfl rfl) ?_
              refine WL.h rfl (Hd.alloc (zs := [.int .u32 0, .int .i64 0, .bool false, .slice none 0 0, .int .i64 0, .slice none 0 0]) kr_ fun b13 => ⟨_, rfl, ?_⟩)
              refine WL.s (Hd.storeAll (n := 6) kr_ rfl rfl (by rfl) (kc_one rfl rfl) fr_ (by rfl) ⟨rfl, ?_⟩)
              refine WL.y rfl (Yd.assign rfl) ?_
              refine WL.nil ?_
              refine DN.then_normal ?_
              refine WC.seq ?_
              refine WC.region ?_
              refine WL.y rfl (Yd.move rfl) ?_
              refine WL.y rfl (Yd.move rfl) ?_
              refine WL.y rfl (Yd.notNil rfl) ?_
              refine WL.y rfl (Yd.fieldAddr (k := 5) kr_ rfl) ?_
              refine WL.h rfl (Hd.load1 kr_ rfl mem_ (by rfl) ⟨_, rfl, ?_⟩)
              refine WL.y rfl (Yd.move rfl) ?_
              refine WL.renamed (t := 218) (v := .bool false) rfl (congrArg Value.bool (rfl)) ?_
              refine WL.gy (dj := 218) rfl rfl rfl (Yd.move rfl) ?_
              refine WL.gy (dj := 218) rfl rfl rfl (Yd.notB rfl) ?_
              refine WL.y rfl (Yd.pickF rfl rfl) ?_
              refine WL.y rfl (Yd.move rfl) ?_
              refine WL.renamed (t := 222) (v := .bool false) rfl (congrArg Value.bool (by rfl)) ?_
              refine WL.gy (dj := 222) rfl rfl rfl (Yd.fieldAddr (k := 4) kr_ rfl) ?_
              refine WL.gh (dj := 222) rfl rfl rfl (Hd.load1 kr_ rfl mem_ (by rfl) ⟨_, rfl, ?_⟩)
              refine WL.gy (dj := 222) rfl rfl rfl (Yd.move rfl) ?_
              refine WL.gy (dj := 222) rfl rfl rfl (Yd.neq rfl rfl) ?_
              refine WL.y rfl (Yd.pickF rfl rfl) ?_
              refine WL.renamed (t := 227) (v := .bool false) rfl (congrArg Value.bool (decide_eq_false (fun h => h hcode))) ?_
              refine WL.y rfl (Yd.notNil rfl) ?_
              refine WL.y rfl (Yd.fieldAddr (k := 5) kr_ rfl) ?_
              refine WL.s (Hd.store1s kr_ rfl rfl (by rfl) fr_ (by rfl) (by first | (simp only [List.set_cons_zero, List.set_cons_succ, Nat.zero_add, Nat.add_zero, Nat.reduceAdd]; rfl) | rfl) ⟨rfl, ?_⟩)
              refine WL.nil ?_
              refine DN.then_normal ?_
              refine WC.cutK (fun z : (Option Addr × Nat) × List Ck => Own (.slice z.1.1 (s.told.length + 1) z.1.2) (s.told.length + 1) (ct ++ (kc (keptS s c) (.slice o9 (keptS s c).asked.length c9) (.slice p9 (keptS s c).reply.length q9))) 43 6 z.2) (fun z : (Option Addr × Nat) × List Ck => []) (fun z : (Option Addr × Nat) × List Ck => row b13 (kc (keptS s c) (.slice o9 (keptS s c).asked.length c9) (.slice p9 (keptS s c).reply.length q9)) 43 :: (A9 ++ (B9 ++ (row b4 (ntc (noteOf c) (.slice none 0 0) (.slice vo9 c.data.length vc9)) 29 :: row b3 (clc c (.slice vo9 c.data.length vc9)) 70 :: row p [.int .u32 (epN c).toNat, .slice w8 L2.length x8, .slice d4 dn.length e4, .slice z.1.1 (s.told.length + 1) z.1.2, .slice oo s.over.length oc, .bool false] 50 :: (D8 ++ (C4 ++ (z.2 ++ (Dt ++ (Co ++ H))))))))) ?_ ?_
              · refine WC.draw 11 kr_ rfl ?_
                refine WA.y (i := 0) (NoPanic.then (NoPanic.body)) rfl kr_ kr_ kr_ rfl (Yd.move rfl) ?_
                refine WA.y (i := 1) (NoPanic.then (NoPanic.body)) rfl kr_ kr_ kr_ rfl (Yd.move rfl) ?_
                refine WA.y (i := 2) (NoPanic.then (NoPanic.body)) rfl kr_ kr_ kr_ rfl (Yd.notNil rfl) ?_
                refine WA.y (i := 3) (NoPanic.then (NoPanic.body)) rfl kr_ kr_ kr_ rfl (Yd.fieldAddr (k := 3) kr_ rfl) ?_
                refine WA.reads [(4, 234, _), (5, 235, _)] [4, 5] [([5], 6)] 5 rfl rfl (List.forall_mem_cons.2 ⟨ReadAt.mk rfl Wt.none rfl (Rd.load1 kr_ rfl mem_ (by rfl)), List.forall_mem_cons.2 ⟨ReadAt.mk rfl Wt.none rfl (Rd.loadAll (n := 6) kr_ rfl mem_ (by rfl)), fun _ h => absurd h List.not_mem_nil⟩⟩) (by decide) (by simp) (List.forall_mem_cons.2 ⟨rfl, List.forall_mem_cons.2 ⟨rfl, fun _ h => absurd h List.not_mem_nil⟩⟩) kr_ (List.forall_mem_cons.2 ⟨?_, fun _ h => absurd h List.not_mem_nil⟩) ?_
                · change WO _ _ _ _ _ _ 5 _ 6 ([(235, _)] ++ _) _
                  refine WO.h rfl Wt.none rfl (Hd.buildA (e := 43) (sz := 6) (zs := [.int .u32 0, .int .i64 0, .bool false, .slice none 0 0, .int .i64 0, .slice none 0 0]) kr_ kr_ kr_ rfl rfl (by rfl) kr_ fun b236 => ⟨_, rfl, ?_⟩)
                  refine WA.one (i := 4) kr_ ?_
                  refine WO.h rfl Wt.none rfl (Hd.load1 kr_ rfl mem_ (by rfl) ⟨_, rfl, ?_⟩)
                  refine WA.one (i := 7) kr_ ?_
                  refine WO.h rfl Wt.none rfl (Hd.appendRow (e := 43) (sz := 6) (bytes := 80) (zs := [.int .u32 0, .int .i64 0, .bool false, .slice none 0 0, .int .i64 0, .slice none 0 0]) kr_ kr_ rfl (by omega) rfl rfl (hOt) sp_ mem_ (by rfl) (kc_one rfl rfl) (by simp only [maxLen]; omega) (by omega) fun v2 C27 h27 => ⟨_, rfl, ?_⟩)
                  obtain ⟨d6, e6, rfl, _⟩ := h27.form
                  refine WA.y (i := 8) (NoPanic.then (NoPanic.body)) rfl kr_ kr_ kr_ rfl (Yd.notNil rfl) ?_
                  refine WA.y (i := 9) (NoPanic.then (NoPanic.body)) rfl kr_ kr_ kr_ rfl (Yd.fieldAddr (k := 3) kr_ rfl) ?_
                  refine WA.one (i := 10) kr_ ?_
                  refine WO.s rfl Wt.none (Hd.store1s kr_ rfl rfl (by rfl) fr_ (by rfl) (by first | (simp only [List.set_cons_zero, List.set_cons_succ, Nat.zero_add, Nat.add_zero, Nat.reduceAdd]; rfl) | rfl) ⟨rfl, ?_⟩)
                  refine WA.done kr_ ?_
                  exact DN.reachS (((d6, e6), C27)) (h27) (sx_) sp_
                · change WA _ _ _ _ _ _ 5 _ ([(234, _), (235, _)] ++ _) _
                  refine WA.one (i := 6) kr_ ?_
                  refine WO.h rfl Wt.none rfl (Hd.buildA (e := 43) (sz := 6) (zs := [.int .u32 0, .int .i64 0, .bool false, .slice none 0 0, .int .i64 0, .slice none 0 0]) kr_ kr_ kr_ rfl rfl (by rfl) kr_ fun b236 => ⟨_, rfl, ?_⟩)
                  refine WA.one (i := 7) kr_ ?_
                  refine WO.h rfl Wt.none rfl (Hd.appendRow (e := 43) (sz := 6) (bytes := 80) (zs := [.int .u32 0, .int .i64 0, .bool false, .slice none 0 0, .int .i64 0, .slice none 0 0]) kr_ kr_ rfl (by omega) rfl rfl (hOt) sp_ mem_ (by rfl) (kc_one rfl rfl) (by simp only [maxLen]; omega) (by omega) fun v2 C27 h27 => ⟨_, rfl, ?_⟩)
                  obtain ⟨d6, e6, rfl, _⟩ := h27.form
                  refine WA.y (i := 8) (NoPanic.then (NoPanic.body)) rfl kr_ kr_ kr_ rfl (Yd.notNil rfl) ?_
                  refine WA.y (i := 9) (NoPanic.then (NoPanic.body)) rfl kr_ kr_ kr_ rfl (Yd.fieldAddr (k := 3) kr_ rfl) ?_
                  refine WA.one (i := 10) kr_ ?_
                  refine WO.s rfl Wt.none (Hd.store1s kr_ rfl rfl (by rfl) fr_ (by rfl) (by first | (simp only [List.set_cons_zero, List.set_cons_succ, Nat.zero_add, Nat.add_zero, Nat.reduceAdd]; rfl) | rfl) ⟨rfl, ?_⟩)
                  refine WA.done kr_ ?_
                  exact DN.reachS (((d6, e6), C27)) (h27) (sx_) sp_
              · rintro ⟨⟨t27, e27⟩, C27⟩ h27
                dsimp only at h27 ⊢
                refine WC.seq ?_
                refine WC.region ?_
                refine WL.y rfl (Yd.fieldAddr (k := 7) kr_ rfl) ?_
                refine WL.h rfl (Hd.load1 kr_ rfl mem_ (by rfl) ⟨_, rfl, ?_⟩)
                refine WL.nil ?_
                refine DN.then_normal ?_
                refine WC.cond rfl (fun h241 => ?_) (fun h241 => ?_)
                · replace h241 : c.undo = true := h241
                  refine WC.draw 11 kr_ rfl ?_
                  refine WA.y (i := 0) (NoPanic.body) rfl kr_ kr_ kr_ rfl (Yd.move rfl) ?_
                  refine WA.y (i := 1) (NoPanic.body) rfl kr_ kr_ kr_ rfl (Yd.move rfl) ?_
                  refine WA.y (i := 2) (NoPanic.body) rfl kr_ kr_ kr_ rfl (Yd.notNil rfl) ?_
                  refine WA.y (i := 3) (NoPanic.body) rfl kr_ kr_ kr_ rfl (Yd.fieldAddr (k := 4) kr_ rfl) ?_
                  refine WA.reads [(4, 246, _), (5, 247, _)] [4, 5] [([5], 6)] 5 rfl rfl (List.forall_mem_cons.2 ⟨ReadAt.mk rfl Wt.none rfl (Rd.load1 kr_ rfl mem_ (by rfl)), List.forall_mem_cons.2 ⟨ReadAt.mk rfl Wt.none rfl (Rd.loadAll (n := 6) kr_ rfl mem_ (by rfl)), fun _ h => absurd h List.not_mem_nil⟩⟩) (by decide) (by simp) (List.forall_mem_cons.2 ⟨rfl, List.forall_mem_cons.2 ⟨rfl, fun _ h => absurd h List.not_mem_nil⟩⟩) kr_ (List.forall_mem_cons.2 ⟨?_, fun _ h => absurd h List.not_mem_nil⟩) ?_
                  · change WO _ _ _ _ _ _ 5 _ 6 ([(247, _)] ++ _) _
                    refine WO.h rfl Wt.none rfl (Hd.buildA (e := 43) (sz := 6) (zs := [.int .u32 0, .int .i64 0, .bool false, .slice none 0 0, .int .i64 0, .slice none 0 0]) kr_ kr_ kr_ rfl rfl (by rfl) kr_ fun b248 => ⟨_, rfl, ?_⟩)
                    refine WA.one (i := 4) kr_ ?_
                    refine WO.h rfl Wt.none rfl (Hd.load1 kr_ rfl mem_ (by rfl) ⟨_, rfl, ?_⟩)
                    refine WA.one (i := 7) kr_ ?_
                    refine WO.h rfl Wt.none rfl (Hd.appendRow (e := 43) (sz := 6) (bytes := 80) (zs := [.int .u32 0, .int .i64 0, .bool false, .slice none 0 0, .int .i64 0, .slice none 0 0]) kr_ kr_ rfl (by omega) rfl rfl (hOo) sp_ mem_ (by rfl) (kc_one rfl rfl) (by simp only [maxLen]; omega) (by omega) fun v2 C29 h29 => ⟨_, rfl, ?_⟩)
                    obtain ⟨d7, e7, rfl, _⟩ := h29.form
                    refine WA.y (i := 8) (NoPanic.body) rfl kr_ kr_ kr_ rfl (Yd.notNil rfl) ?_
                    refine WA.y (i := 9) (NoPanic.body) rfl kr_ kr_ kr_ rfl (Yd.fieldAddr (k := 4) kr_ rfl) ?_
                    refine WA.one (i := 10) kr_ ?_
                    refine WO.s rfl Wt.none (Hd.store1s kr_ rfl rfl (by rfl) fr_ (by rfl) (by first | (simp only [List.set_cons_zero, List.set_cons_succ, Nat.zero_add, Nat.add_zero, Nat.reduceAdd]; rfl) | rfl) ⟨rfl, ?_⟩)
                    refine WA.done kr_ ?_
                    first
                    | refine DN.fit (C := (row p [.int .u32 (epN c).toNat, .slice w8 L2.length x8, .slice d4 dn.length e4, .slice t27 (s.told.length + 1) e27, .slice d7 (s.over.length + 1) e7, .bool false] 50 :: (D8 ++ (C4 ++ (C27 ++ ((Dt ++ (A9 ++ B9)) ++ C29))))) ++ H) sp_ ?_
                    | refine DN.fit (C := (row p [.int .u32 (epN c).toNat, .slice w8 L2.length x8, .slice d4 dn.length e4, .slice t27 (s.told.length + 1) e27, .slice oo s.over.length oc, .bool false] 50 :: (D8 ++ (C4 ++ (C27 ++ ((Dt ++ (A9 ++ B9)) ++ Co))))) ++ H) sp_ ?_
                    | refine DN.fit (C := (row p [.int .u32 (s.e).toNat, .slice lo s.ks.length lc, .slice do_ s.done.length dc, .slice t2 (s.told.length + 1) e2, .slice oo s.over.length oc, .bool false] 50 :: (CF ++ (Cd ++ (C2 ++ ((Dt ++ (A ++ B)) ++ Co))))) ++ H) sp_ ?_
                    | refine DN.fit (C := (row p [.int .u32 (s.e).toNat, .slice lo s.ks.length lc, .slice do_ s.done.length dc, .slice to_ s.told.length tc, .slice oo s.over.length oc, .bool false] 50 :: (CF ++ (Cd ++ (Ct ++ (Dt ++ Co))))) ++ H) sp_ ?_
                    refine DN.end0 Try.results45 ?_
                    first
                    | (have e9 : callS s c = ⟨epN c, L2, dn, s.told ++ [keptS s c], if c.undo then s.over ++ [keptS s c] else s.over⟩ := by
                         unfold callS
                         rw [← hq]
                         dsimp only
                         exact (if_neg (fun h => h hE0)).trans ((if_neg hne).trans (by rw [hL2, hdn, hcd9]))
                       rw [e9]
                       first
                       | (rw [if_pos h241]
                          exact ⟨_, ⟨_, D8, _, cd4, C4, _, _, C27, Dt ++ (A9 ++ B9), _, _, C29, rfl, hF8, h4, hK4, by rw [List.length_append]; exact h27, hKt.append (Kts.one' hA9 hB9), by rw [List.length_append]; exact h29, hKo.append (KW.one' rfl rfl)⟩, by simp only [List.cons_append, List.append_assoc, List.length_append, List.length_singleton]⟩)
                       | (rw [if_neg (by rw [h241]; decide)]
                          exact ⟨_, ⟨_, D8, _, cd4, C4, _, _, C27, Dt ++ (A9 ++ B9), _, co, Co, rfl, hF8, h4, hK4, by rw [List.length_append]; exact h27, hKt.append (Kts.one' hA9 hB9), hOo, hKo⟩, by simp only [List.cons_append, List.append_assoc, List.length_append, List.length_singleton]⟩))
                    | (rw [show callS s c = { s with told := s.told ++ [kk] } by unfold callS; rw [← hq, if_neg (fun h => h hE0), if_pos h87]]
                       exact ⟨_, ⟨_, CF, _, cd, Cd, _, _, C2, Dt ++ (A ++ B), _, co, Co, rfl, hF, hOd, hKd, by rw [List.length_append]; exact h2, hKt.append (Kts.one' hA hB), hOo, hKo⟩, by simp only [List.cons_append, List.append_assoc, List.length_append, List.length_singleton]⟩)
                    | (rw [show callS s c = s from if_pos (by rw [← hq]; first | exact h64 | exact fun h => by have h : er = 0 := h; omega)]
                       exact ⟨_, ⟨_, CF, _, cd, Cd, _, ct, Ct, Dt, _, co, Co, rfl, hF, hOd, hKd, hOt, hKt, hOo, hKo⟩, by simp only [List.cons_append, List.append_assoc]⟩)
                  · change WA _ _ _ _ _ _ 5 _ ([(246, _), (247, _)] ++ _) _
                    refine WA.one (i := 6) kr_ ?_
                    refine WO.h rfl Wt.none rfl (Hd.buildA (e := 43) (sz := 6) (zs := [.int .u32 0, .int .i64 0, .bool false, .slice none 0 0, .int .i64 0, .slice none 0 0]) kr_ kr_ kr_ rfl rfl (by rfl) kr_ fun b248 => ⟨_, rfl, ?_⟩)
                    refine WA.one (i := 7) kr_ ?_
                    refine WO.h rfl Wt.none rfl (Hd.appendRow (e := 43) (sz := 6) (bytes := 80) (zs := [.int .u32 0, .int .i64 0, .bool false, .slice none 0 0, .int .i64 0, .slice none 0 0]) kr_ kr_ rfl (by omega) rfl rfl (hOo) sp_ mem_ (by rfl) (kc_one rfl rfl) (by simp only [maxLen]; omega) (by omega) fun v2 C29 h29 => ⟨_, rfl, ?_⟩)
                    obtain ⟨d7, e7, rfl, _⟩ := h29.form
                    refine WA.y (i := 8) (NoPanic.body) rfl kr_ kr_ kr_ rfl (Yd.notNil rfl) ?_
                    refine WA.y (i := 9) (NoPanic.body) rfl kr_ kr_ kr_ rfl (Yd.fieldAddr (k := 4) kr_ rfl) ?_
                    refine WA.one (i := 10) kr_ ?_
                    refine WO.s rfl Wt.none (Hd.store1s kr_ rfl rfl (by rfl) fr_ (by rfl) (by first | (simp only [List.set_cons_zero, List.set_cons_succ, Nat.zero_add, Nat.add_zero, Nat.reduceAdd]; rfl) | rfl) ⟨rfl, ?_⟩)
                    refine WA.done kr_ ?_
                    first
                    | refine DN.fit (C := (row p [.int .u32 (epN c).toNat, .slice w8 L2.length x8, .slice d4 dn.length e4, .slice t27 (s.told.length + 1) e27, .slice d7 (s.over.length + 1) e7, .bool false] 50 :: (D8 ++ (C4 ++ (C27 ++ ((Dt ++ (A9 ++ B9)) ++ C29))))) ++ H) sp_ ?_
                    | refine DN.fit (C := (row p [.int .u32 (epN c).toNat, .slice w8 L2.length x8, .slice d4 dn.length e4, .slice t27 (s.told.length + 1) e27, .slice oo s.over.length oc, .bool false] 50 :: (D8 ++ (C4 ++ (C27 ++ ((Dt ++ (A9 ++ B9)) ++ Co))))) ++ H) sp_ ?_
                    | refine DN.fit (C := (row p [.int .u32 (s.e).toNat, .slice lo s.ks.length lc, .slice do_ s.done.length dc, .slice t2 (s.told.length + 1) e2, .slice oo s.over.length oc, .bool false] 50 :: (CF ++ (Cd ++ (C2 ++ ((Dt ++ (A ++ B)) ++ Co))))) ++ H) sp_ ?_
                    | refine DN.fit (C := (row p [.int .u32 (s.e).toNat, .slice lo s.ks.length lc, .slice do_ s.done.length dc, .slice to_ s.told.length tc, .slice oo s.over.length oc, .bool false] 50 :: (CF ++ (Cd ++ (Ct ++ (Dt ++ Co))))) ++ H) sp_ ?_
                    refine DN.end0 Try.results45 ?_
                    first
                    | (have e9 : callS s c = ⟨epN c, L2, dn, s.told ++ [keptS s c], if c.undo then s.over ++ [keptS s c] else s.over⟩ := by
                         unfold callS
                         rw [← hq]
                         dsimp only
                         exact (if_neg (fun h => h hE0)).trans ((if_neg hne).trans (by rw [hL2, hdn, hcd9]))
                       rw [e9]
                       first
                       | (rw [if_pos h241]
                          exact ⟨_, ⟨_, D8, _, cd4, C4, _, _, C27, Dt ++ (A9 ++ B9), _, _, C29, rfl, hF8, h4, hK4, by rw [List.length_append]; exact h27, hKt.append (Kts.one' hA9 hB9), by rw [List.length_append]; exact h29, hKo.append (KW.one' rfl rfl)⟩, by simp only [List.cons_append, List.append_assoc, List.length_append, List.length_singleton]⟩)
                       | (rw [if_neg (by rw [h241]; decide)]
                          exact ⟨_, ⟨_, D8, _, cd4, C4, _, _, C27, Dt ++ (A9 ++ B9), _, co, Co, rfl, hF8, h4, hK4, by rw [List.length_append]; exact h27, hKt.append (Kts.one' hA9 hB9), hOo, hKo⟩, by simp only [List.cons_append, List.append_assoc, List.length_append, List.length_singleton]⟩))
                    | (rw [show callS s c = { s with told := s.told ++ [kk] } by unfold callS; rw [← hq, if_neg (fun h => h hE0), if_pos h87]]
                       exact ⟨_, ⟨_, CF, _, cd, Cd, _, _, C2, Dt ++ (A ++ B), _, co, Co, rfl, hF, hOd, hKd, by rw [List.length_append]; exact h2, hKt.append (Kts.one' hA hB), hOo, hKo⟩, by simp only [List.cons_append, List.append_assoc, List.length_append, List.length_singleton]⟩)
                    | (rw [show callS s c = s from if_pos (by rw [← hq]; first | exact h64 | exact fun h => by have h : er = 0 := h; omega)]
                       exact ⟨_, ⟨_, CF, _, cd, Cd, _, ct, Ct, Dt, _, co, Co, rfl, hF, hOd, hKd, hOt, hKt, hOo, hKo⟩, by simp only [List.cons_append, List.append_assoc]⟩)
                · replace h241 : c.undo = false := h241
                  refine WC.skip ?_
                  first
                  | refine DN.fit (C := (row p [.int .u32 (epN c).toNat, .slice w8 L2.length x8, .slice d4 dn.length e4, .slice t27 (s.told.length + 1) e27, .slice d7 (s.over.length + 1) e7, .bool false] 50 :: (D8 ++ (C4 ++ (C27 ++ ((Dt ++ (A9 ++ B9)) ++ C29))))) ++ H) sp_ ?_
                  | refine DN.fit (C := (row p [.int .u32 (epN c).toNat, .slice w8 L2.length x8, .slice d4 dn.length e4, .slice t27 (s.told.length + 1) e27, .slice oo s.over.length oc, .bool false] 50 :: (D8 ++ (C4 ++ (C27 ++ ((Dt ++ (A9 ++ B9)) ++ Co))))) ++ H) sp_ ?_
                  | refine DN.fit (C := (row p [.int .u32 (s.e).toNat, .slice lo s.ks.length lc, .slice do_ s.done.length dc, .slice t2 (s.told.length + 1) e2, .slice oo s.over.length oc, .bool false] 50 :: (CF ++ (Cd ++ (C2 ++ ((Dt ++ (A ++ B)) ++ Co))))) ++ H) sp_ ?_
                  | refine DN.fit (C := (row p [.int .u32 (s.e).toNat, .slice lo s.ks.length lc, .slice do_ s.done.length dc, .slice to_ s.told.length tc, .slice oo s.over.length oc, .bool false] 50 :: (CF ++ (Cd ++ (Ct ++ (Dt ++ Co))))) ++ H) sp_ ?_
                  refine DN.end0 Try.results45 ?_
                  first
                  | (have e9 : callS s c = ⟨epN c, L2, dn, s.told ++ [keptS s c], if c.undo then s.over ++ [keptS s c] else s.over⟩ := by
                       unfold callS
                       rw [← hq]
                       dsimp only
                       exact (if_neg (fun h => h hE0)).trans ((if_neg hne).trans (by rw [hL2, hdn, hcd9]))
                     rw [e9]
                     first
                     | (rw [if_pos h241]
                        exact ⟨_, ⟨_, D8, _, cd4, C4, _, _, C27, Dt ++ (A9 ++ B9), _, _, C29, rfl, hF8, h4, hK4, by rw [List.length_append]; exact h27, hKt.append (Kts.one' hA9 hB9), by rw [List.length_append]; exact h29, hKo.append (KW.one' rfl rfl)⟩, by simp only [List.cons_append, List.append_assoc, List.length_append, List.length_singleton]⟩)
                     | (rw [if_neg (by rw [h241]; decide)]
                        exact ⟨_, ⟨_, D8, _, cd4, C4, _, _, C27, Dt ++ (A9 ++ B9), _, co, Co, rfl, hF8, h4, hK4, by rw [List.length_append]; exact h27, hKt.append (Kts.one' hA9 hB9), hOo, hKo⟩, by simp only [List.cons_append, List.append_assoc, List.length_append, List.length_singleton]⟩))
                  | (rw [show callS s c = { s with told := s.told ++ [kk] } by unfold callS; rw [← hq, if_neg (fun h => h hE0), if_pos h87]]
                     exact ⟨_, ⟨_, CF, _, cd, Cd, _, _, C2, Dt ++ (A ++ B), _, co, Co, rfl, hF, hOd, hKd, by rw [List.length_append]; exact h2, hKt.append (Kts.one' hA hB), hOo, hKo⟩, by simp only [List.cons_append, List.append_assoc, List.length_append, List.length_singleton]⟩)
                  | (rw [show callS s c = s from if_pos (by rw [← hq]; first | exact h64 | exact fun h => by have h : er = 0 := h; omega)]
                     exact ⟨_, ⟨_, CF, _, cd, Cd, _, ct, Ct, Dt, _, co, Co, rfl, hF, hOd, hKd, hOt, hKt, hOo, hKo⟩, by simp only [List.cons_append, List.append_assoc]⟩)

end Go.Proofs.Ytonnkgblligdkaa
