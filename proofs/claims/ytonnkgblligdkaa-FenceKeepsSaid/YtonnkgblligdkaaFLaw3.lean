/-
  FenceKeeps: any fence with any note answered by any verdict.
-/
import Derived.Test.YtonnkgblligdkaaFLaw1
set_option linter.unusedVariables false
set_option linter.unusedSimpArgs false
set_option maxHeartbeats 8000000
namespace Go.Proofs.Ytonnkgblligdkaa
open Go.SL


/-- drayage/drayagelaw08.FenceKeeps -/
theorem law_FenceKeeps (e : BitVec 32) (v : Value) (ks : List Kp) (H : List Ck) (hv : KV v ks H) (hl : ks.length ≤ maxLen) (n : Nt) (vk vd : Value) (hvk : Bs vk n.key H) (hvd : Bs vd n.data H) (hd : n.data.length ≤ maxLen) (code : Int) (vr : Value) (reply : List (BitVec 8)) (hvr : Bs vr reply H) (hlr : reply.length ≤ maxLen) : Reads Try.prog 3 [.agg #[.int .u32 e.toNat, v], .agg (ntc n vk vd).toArray, .int .i64 code, vr] H (.bool true) := by
  refine Tells.enter Try.func3 rfl Try.ntmps3 rfl ?_
  intro w0 R
  obtain ⟨ao, c, rfl, hc⟩ := hv.form
  obtain ⟨ko, kcap, rfl, hkc⟩ := hvk.form
  obtain ⟨do_, dc, rfl, hdc⟩ := hvd.form
  obtain ⟨ro, rc, rfl, hrc⟩ := hvr.form
  refine WC.seq ?_
  refine WC.region ?_
  refine WL.h rfl (Hd.boxA rfl fun b4 => ⟨_, rfl, ?_⟩)
  refine WL.h rfl (Hd.boxA rfl fun b5 => ⟨_, rfl, ?_⟩)
  refine WL.y rfl (Yd.assign rfl) ?_
  refine WL.nil ?_
  refine DN.then_normal ?_
  refine WC.seq ?_
  refine WC.seq ?_
  refine WC.region ?_
  refine WL.h rfl (Hd.loadAll (n := 2) kr_ rfl mem_ (by rfl) ⟨_, rfl, ?_⟩)
  refine WL.h rfl (Hd.loadAll (n := 11) kr_ rfl mem_ (by rfl) ⟨_, rfl, ?_⟩)
  refine WL.c rfl (Ent.func Try.call11 rfl) (many_tells e _ ks H hv hl n _ _ hvk hvd hd) (Sp.p sp_) ?_
  rintro x H9 ⟨b25, rfl, hfew, hH9⟩
  rw [hH9]
  clear hH9 H9
  refine WL.y rfl (Yd.move rfl) ?_
  refine WL.part (t := 21) rfl (fun hg21 => ?_) (fun hg21 => ?_)
  · refine WL.gn (dj := 21) rfl rfl rfl rfl ?_
    refine WL.gn (dj := 21) rfl rfl rfl rfl ?_
    refine WL.gn (dj := 21) rfl rfl rfl rfl ?_
    refine WL.y rfl (Yd.pickT rfl rfl) ?_
    refine WL.nil ?_
    refine DN.then_normal ?_
    refine WC.yes rfl ?_
    refine WC.seq ?_
    refine WC.region ?_
    refine WL.rf rfl (Ent.func Try.call12 rfl) (known_reads) sp_ ?_
    refine WL.y rfl (Yd.assign rfl) ?_
    refine WL.nil ?_
    refine DN.then_normal ?_
    refine WC.ret ?_
    refine DN.then_ret ?_
    refine DN.fit (C := H) sp_ ?_
    refine DN.ret1 Try.results3 rfl ?_
    exact ⟨rfl, rfl⟩
  · refine WL.gy (dj := 21) rfl rfl rfl (Yd.move rfl) ?_
    refine WL.gy (dj := 21) rfl rfl rfl (Yd.len (e := 5) kr_ rfl) ?_
    refine WL.gy (dj := 21) rfl rfl rfl (Yd.gtr rfl rfl) ?_
    refine WL.y rfl (Yd.pickF rfl rfl) ?_
    refine WL.nil ?_
    refine DN.then_normal ?_
    first | refine WC.ite rfl (fun h25 => ?_) (fun h25 => ?_)
    · refine WC.seq ?_
      refine WC.region ?_
      refine WL.rf rfl (Ent.func Try.call12 rfl) (known_reads) sp_ ?_
      refine WL.y rfl (Yd.assign rfl) ?_
      refine WL.nil ?_
      refine DN.then_normal ?_
      refine WC.ret ?_
      refine DN.then_ret ?_
      refine DN.fit (C := H) sp_ ?_
      refine DN.ret1 Try.results3 rfl ?_
      exact ⟨rfl, rfl⟩
    · obtain ⟨hl3, hb3, hd3⟩ := hfew hg21
      have hb : ∀ k ∈ ks, k.asked.length ≤ 1000000 ∧ k.reply.length ≤ 1000000 := fun k hk => ⟨by have := (hb3 k hk).1; omega, by have := (hb3 k hk).2; omega⟩
      have hl1 : ks.length ≤ 1000 := by omega
      have hr1 : reply.length ≤ 1000000 := by omega
      refine WC.skip ?_
      refine DN.then_normal ?_
      refine WC.seq ?_
      refine WC.region ?_
      refine WL.h rfl (Hd.loadAll (n := 2) kr_ rfl mem_ (by rfl) ⟨_, rfl, ?_⟩)
      refine WL.c rfl (Ent.func Try.call13 rfl) (rcopy_tells e _ ks H hv hl1 hb) (Sp.p sp_) ?_
      rintro x H9 ⟨w, DX, rfl, hX, rfl⟩
      obtain ⟨xo, xc, rfl⟩ := hX.form
      refine WL.h rfl (Hd.alloc (zs := [.int .u32 0, .slice none 0 0]) kr_ fun b9 => ⟨_, rfl, ?_⟩)
      refine WL.s (Hd.storeAll (n := 2) kr_ rfl rfl (by rfl) one_ fr_ (by rfl) ⟨rfl, ?_⟩)
      refine WL.nil ?_
      refine DN.then_normal ?_
      refine WC.seq ?_
      refine WC.region ?_
      refine WL.h rfl (Hd.loadAll (n := 11) kr_ rfl mem_ (by rfl) ⟨_, rfl, ?_⟩)
      refine WL.h rfl (Hd.alloc (zs := [.int .i64 0, .int .u32 0, .int .u32 0, .int .u64 0, .int .u64 0, .int .u32 0, .int .i64 0, .bool false, .int .i64 0, .slice none 0 0, .slice none 0 0]) kr_ fun b10 => ⟨_, rfl, ?_⟩)
      refine WL.s (Hd.storeAll (n := 11) kr_ rfl rfl (by rfl) one_ fr_ (by rfl) ⟨rfl, ?_⟩)
      refine WL.nil ?_
      refine DN.then_normal ?_
      refine WC.seq ?_
      refine WC.region ?_
      refine WL.y rfl (Yd.fieldAddr (k := 10) kr_ rfl) ?_
      refine WL.h rfl (Hd.load1 kr_ rfl mem_ (by rfl) ⟨_, rfl, ?_⟩)
      refine WL.c rfl (Ent.func Try.call14 rfl) (lent_spec _ n.data H hvd (by omega)) (Sp.p sp_) ?_
      rintro x H9 ⟨mo, mc, CM, rfl, hCM, rfl⟩
      refine WL.y rfl (Yd.fieldAddr (k := 10) kr_ rfl) ?_
      refine WL.s (Hd.store1s kr_ rfl rfl (by rfl) fr_ (by rfl) (by first | (simp only [List.set_cons_zero, List.set_cons_succ, Nat.zero_add, Nat.add_zero, Nat.reduceAdd]; rfl) | rfl) ⟨rfl, ?_⟩)
      refine WL.nil ?_
      refine DN.then_normal ?_
      refine WC.seq ?_
      refine WC.region ?_
      refine WL.y rfl (Yd.move rfl) ?_
      refine WL.c rfl (Ent.func Try.call14 rfl) (lent_spec _ reply H hvr hr1) (Sp.p sp_) ?_
      rintro x H9 ⟨qo, qc, CR, rfl, hCR, rfl⟩
      refine WL.y rfl (Yd.assign rfl) ?_
      refine WL.nil ?_
      refine DN.then_normal ?_
      refine WC.seq ?_
      refine WC.region ?_
      refine WL.h rfl (Hd.loadAll (n := 2) kr_ rfl mem_ (by rfl) ⟨_, rfl, ?_⟩)
      refine WL.h rfl (Hd.loadAll (n := 11) kr_ rfl mem_ (by rfl) ⟨_, rfl, ?_⟩)
      refine WL.y rfl (Yd.move rfl) ?_
      refine WL.y rfl (Yd.move rfl) ?_
      refine WL.c rfl (Ent.func Try.call15 rfl) (keep_tells e _ ks (DX ++ (CM ++ (CR ++ H))) (hX.kv.mono gr_) (by omega) n _ _ (hvk.mono gr_) ((lent_bs hCM (by omega)).mono gr_) code _ reply ((lent_bs hCR (by omega)).mono gr_)) (Sp.p sp_) ?_
      rintro x H9 ⟨ws, DS, rfl, hS, rfl⟩
      obtain ⟨so, sc, rfl⟩ := hS.form
      refine WL.y rfl (Yd.move rfl) ?_
      refine WL.y rfl (Yd.extract rfl rfl) ?_
      refine WL.y rfl (Yd.extract rfl rfl) ?_
      refine WL.h rfl (Hd.alloc (zs := [.int .u32 0, .slice none 0 0]) kr_ fun b12 => ⟨_, rfl, ?_⟩)
      refine WL.s (Hd.storeAll (n := 2) kr_ rfl rfl (by rfl) one_ fr_ (by rfl) ⟨rfl, ?_⟩)
      refine WL.y rfl (Yd.assign rfl) ?_
      refine WL.nil ?_
      refine DN.then_normal ?_
      refine WC.seq ?_
      refine WC.region ?_
      refine WL.h rfl (Hd.loadAll (n := 2) kr_ rfl mem_ (by rfl) ⟨_, rfl, ?_⟩)
      refine WL.h rfl (Hd.loadAll (n := 11) kr_ rfl mem_ (by rfl) ⟨_, rfl, ?_⟩)
      refine WL.y rfl (Yd.move rfl) ?_
      refine WL.y rfl (Yd.move rfl) ?_
      refine WL.c rfl (Ent.func Try.call16 rfl) (rkeep_tells e _ ks H hv hl1 hb n _ _ hvk hvd code _ reply hvr) (Sp.p sp_) ?_
      rintro x H9 ⟨wt, DT, rfl, hT, rfl⟩
      obtain ⟨to_, tc, rfl⟩ := hT.form
      obtain ⟨cs, CS, DS0, hO0, hK0, rfl⟩ := id hS
      have hsl : (keepK e ks n code reply).2.1.length ≤ 1001 := keep_len hl1
      refine WL.y rfl (Yd.move rfl) ?_
      refine WL.y rfl (Yd.extract rfl rfl) ?_
      refine WL.y rfl (Yd.extract rfl rfl) ?_
      refine WL.h rfl (Hd.alloc (zs := [.int .u32 0, .slice none 0 0]) kr_ fun b14 => ⟨_, rfl, ?_⟩)
      refine WL.s (Hd.storeAll (n := 2) kr_ rfl rfl (by rfl) one_ fr_ (by rfl) ⟨rfl, ?_⟩)
      refine WL.y rfl (Yd.assign rfl) ?_
      refine WL.nil ?_
      refine DN.then_normal ?_
      refine WC.seq ?_
      refine WC.region ?_
      refine WL.y rfl (Yd.fieldAddr (k := 10) kr_ rfl) ?_
      refine WL.h rfl (Hd.load1 kr_ rfl mem_ (by rfl) ⟨_, rfl, ?_⟩)
      refine WL.y rfl (Yd.fieldAddr (k := 10) kr_ rfl) ?_
      refine WL.h rfl (Hd.load1 kr_ rfl mem_ (by rfl) ⟨_, rfl, ?_⟩)
      refine WL.r rfl (Ent.func Try.call17 rfl) (whole_reads mo mc _ n.data _ (hCM.bs.mono gr_) (hvd.mono gr_) (by omega)) ?_
      refine WL.renamed (t := 56) (v := .bool true) rfl (congrArg Value.bool (rfl)) ?_
      refine WL.y rfl (Yd.move rfl) ?_
      refine WL.gy (dj := 57) rfl rfl rfl (Yd.move rfl) ?_
      refine WL.gy (dj := 57) rfl rfl rfl (Yd.move rfl) ?_
      refine WL.gr (dj := 57) rfl rfl rfl (Ent.func Try.call17 rfl) (whole_reads qo qc _ reply _ (hCR.bs.mono gr_) (hvr.mono gr_) (by omega)) ?_
      refine WL.renamed (t := 60) (v := .bool true) rfl (congrArg Value.bool (rfl)) ?_
      refine WL.y rfl (Yd.pickT rfl rfl) ?_
      refine WL.y rfl (Yd.assign rfl) ?_
      refine WL.nil ?_
      refine DN.then_normal ?_
      refine WC.seq ?_
      refine WC.region ?_
      refine WL.y rfl (Yd.fieldAddr (k := 10) kr_ rfl) ?_
      refine WL.h rfl (Hd.load1 kr_ rfl mem_ (by rfl) ⟨_, rfl, ?_⟩)
      refine WL.c rfl (Ent.func Try.call18 rfl) (spoil_tells mo mc n.data.length 2 _ CM hCM (by simp) (by omega)) (Sp.p sp_) ?_
      intro x H9 hH9
      subst hH9
      rw [List.nil_append]
      refine WL.nil ?_
      refine DN.then_normal ?_
      refine WC.seq ?_
      refine WC.region ?_
      refine WL.y rfl (Yd.move rfl) ?_
      refine WL.c rfl (Ent.func Try.call18 rfl) (spoil_tells qo qc reply.length 2 _ CR hCR (by simp) (by omega)) (Sp.p sp_) ?_
      intro x H9 hH9
      subst hH9
      rw [List.nil_append]
      refine WL.nil ?_
      refine DN.then_normal ?_
      refine WC.seq ?_
      refine WC.seq ?_
      refine WC.region ?_
      refine WL.h rfl (Hd.loadAll (n := 2) kr_ rfl mem_ (by rfl) ⟨_, rfl, ?_⟩)
      refine WL.h rfl (Hd.loadAll (n := 2) kr_ rfl mem_ (by rfl) ⟨_, rfl, ?_⟩)
      refine WL.r rfl (Ent.func Try.call19 rfl) (rsame_reads _ _ _ _ (keepK e ks n code reply).2.1 (keepK e ks n code reply).2.1 _ (hS.kv.mono (Gr.both gr_ gr_)) (hT.kv.mono gr_) (by omega)) ?_
      refine WL.renamed (t := 69) (v := .bool true) rfl (congrArg Value.bool (decide_eq_true ⟨rfl, rfl⟩)) ?_
      refine WL.y rfl (Yd.notB rfl) ?_
      refine WL.y rfl (Yd.move rfl) ?_
      refine WL.gy (dj := 71) rfl rfl rfl (Yd.move rfl) ?_
      refine WL.gy (dj := 71) rfl rfl rfl (Yd.move rfl) ?_
      refine WL.gy (dj := 71) rfl rfl rfl (Yd.neq rfl rfl) ?_
      refine WL.renamed (t := 74) (v := .bool false) rfl (congrArg Value.bool (decide_eq_false (fun h => h rfl))) ?_
      refine WL.y rfl (Yd.pickF rfl rfl) ?_
      refine WL.y rfl (Yd.move rfl) ?_
      refine WL.gy (dj := 76) rfl rfl rfl (Yd.move rfl) ?_
      refine WL.gy (dj := 76) rfl rfl rfl (Yd.notB rfl) ?_
      refine WL.y rfl (Yd.pickF rfl rfl) ?_
      refine WL.nil ?_
      refine DN.then_normal ?_
      refine WC.no rfl ?_
      refine WC.skip ?_
      refine DN.then_normal ?_
      refine WC.seq ?_
      refine WC.seq ?_
      refine WC.region ?_
      refine WL.y rfl (Yd.assign rfl) ?_
      refine WL.nil ?_
      refine DN.then_normal ?_
      refine WC.block ?_
      refine WC.loopS (fun z : Nat × List Value × List Ck × List Ck => z.1 ≤ (keepK e ks n code reply).2.1.length ∧ Own (.slice so (keepK e ks n code reply).2.1.length sc) (keepK e ks n code reply).2.1.length z.2.1 43 6 z.2.2.1 ∧ Kts 5 (z.2.1.drop (z.1 * 6)) ((keepK e ks n code reply).2.1.drop z.1) z.2.2.2) (fun z : Nat × List Value × List Ck × List Ck => [(17, .int .i64 (z.1 : Int))]) (fun z : Nat × List Value × List Ck × List Ck => row b12 [.int .u32 (keepK e ks n code reply).1.toNat, .slice so (keepK e ks n code reply).2.1.length sc] 25 :: (z.2.2.1 ++ (z.2.2.2 ++ (row b9 [.int .u32 e.toNat, .slice xo ks.length xc] 25 :: (DX ++ (row b5 (ntc n (.slice ko n.key.length kcap) (.slice do_ n.data.length dc)) 29 :: row b4 [.int .u32 e.toNat, .slice ao ks.length c] 25 :: H)))))) (fun z : Nat × List Value × List Ck × List Ck => (keepK e ks n code reply).2.1.length - z.1) (⟨0, cs, CS, DS0⟩) (show 0 ≤ (keepK e ks n code reply).2.1.length ∧ Own (.slice so (keepK e ks n code reply).2.1.length sc) (keepK e ks n code reply).2.1.length cs 43 6 CS ∧ Kts 5 (cs.drop (0 * 6)) ((keepK e ks n code reply).2.1.drop 0) DS0 from ⟨Nat.zero_le _, hO0, by simpa using hK0⟩) (Sx.put rfl (sx_)) sp_ ?_
      rintro ⟨j, cs9, C9, D9⟩ hI
      replace hI : j ≤ (keepK e ks n code reply).2.1.length ∧ Own (.slice so (keepK e ks n code reply).2.1.length sc) (keepK e ks n code reply).2.1.length cs9 43 6 C9 ∧ Kts 5 (cs9.drop (j * 6)) ((keepK e ks n code reply).2.1.drop j) D9 := hI
      obtain ⟨hj, hOl, hKt⟩ := hI
      change WC _ _ _ _ _ _ ([(17, .int .i64 (j : Int))] ++ _) (row b12 [.int .u32 (keepK e ks n code reply).1.toNat, .slice so (keepK e ks n code reply).2.1.length sc] 25 :: (C9 ++ (D9 ++ (row b9 [.int .u32 e.toNat, .slice xo ks.length xc] 25 :: (DX ++ (row b5 (ntc n (.slice ko n.key.length kcap) (.slice do_ n.data.length dc)) 29 :: row b4 [.int .u32 e.toNat, .slice ao ks.length c] 25 :: H))))))
      refine WC.seq ?_
      refine WC.seq ?_
      refine WC.region ?_
      refine WL.y rfl (Yd.move rfl) ?_
      refine WL.y rfl (Yd.fieldAddr (k := 1) kr_ rfl) ?_
      refine WL.h rfl (Hd.load1 kr_ rfl mem_ (by rfl) ⟨_, rfl, ?_⟩)
      refine WL.y rfl (Yd.len (e := 43) kr_ rfl) ?_
      refine WL.y rfl (Yd.lss rfl rfl) ?_
      refine WL.nil ?_
      refine DN.then_normal ?_
      refine WC.ite rfl (fun h84 => ?_) (fun h84 => ?_)
      · have hlt : j < (keepK e ks n code reply).2.1.length := by omega
        obtain ⟨va, vr2, A9, B9, D9, hg, hA9, hB9, rfl, hK9⟩ := hKt.head hlt
        obtain ⟨ao9, ac9, rfl, _⟩ := hA9.form
        obtain ⟨ro9, rc9, rfl, _⟩ := hB9.form
        have hxl := hOl.len
        obtain ⟨bo, extra, eso, rfl, hset, ho2⟩ := hOl.put1 (by omega) ((j : Int).toNat * 6 + 4) (by omega) (.int .i64 9)
        refine WC.skip ?_
        refine DN.then_normal ?_
        refine WC.seq ?_
        refine WC.block ?_
        refine WC.seq ?_
        refine WC.region ?_
        refine WL.y rfl (Yd.fieldAddr (k := 1) kr_ rfl) ?_
        refine WL.h rfl (Hd.load1 kr_ rfl mem_ (by rfl) ⟨_, rfl, ?_⟩)
        refine WL.y rfl (Yd.move rfl) ?_
        refine WL.y rfl (Yd.indexAddr (e := 43) (s := 6) (b := bo) (o := 0) (n := (keepK e ks n code reply).2.1.length) (c := sc) kr_ kr_ (congrArg (fun z => some (Value.slice z (keepK e ks n code reply).2.1.length sc)) eso) rfl (by omega) (by omega)) ?_
        refine WL.y rfl (Yd.fieldAddr (k := 3) kr_ rfl) ?_
        refine WL.h rfl (Hd.load1 (v := .slice ao9 (keepK e ks n code reply).2.1[j].asked.length ac9) (b := bo) (o := 0 + (j : Int).toNat * 6 + 3) (cs := cs9 ++ extra) kr_ rfl mem_ (kc_cell (cs := cs9) (by simp) (by omega) hg rfl) ⟨_, rfl, ?_⟩)
        refine WL.c rfl (Ent.func Try.call18 rfl) (spoil_own ao9 ac9 (keepK e ks n code reply).2.1[j].asked A9 hA9 (keep_small hb (by omega) _ (List.getElem_mem hlt))) (Sp.p sp_) ?_
        intro x H9 hH9
        subst hH9
        rw [List.nil_append]
        refine WL.nil ?_
        refine DN.then_normal ?_
        refine WC.region ?_
        refine WL.y rfl (Yd.fieldAddr (k := 1) kr_ rfl) ?_
        refine WL.h rfl (Hd.load1 kr_ rfl mem_ (by rfl) ⟨_, rfl, ?_⟩)
        refine WL.y rfl (Yd.move rfl) ?_
        refine WL.y rfl (Yd.indexAddr (e := 43) (s := 6) (b := bo) (o := 0) (n := (keepK e ks n code reply).2.1.length) (c := sc) kr_ kr_ (congrArg (fun z => some (Value.slice z (keepK e ks n code reply).2.1.length sc)) eso) rfl (by omega) (by omega)) ?_
        refine WL.y rfl (Yd.fieldAddr (k := 4) kr_ rfl) ?_
        refine WL.s (Hd.store1q (b := bo) (cs := cs9 ++ extra) (T' := 43) kr_ rfl rfl rfl fr_ (by rw [List.length_append]; omega) ((congrArg (fun z => (cs9 ++ extra).set z (Value.int .i64 9)) (Nat.add_assoc 0 _ 4)).trans hset) ⟨rfl, ?_⟩)
        refine WL.nil ?_
        refine DN.block_normal ?_
        refine DN.then_normal ?_
        refine WC.region ?_
        refine WL.y rfl (Yd.move rfl) ?_
        refine WL.y rfl (Yd.add rfl rfl (by omega) (by omega)) ?_
        refine WL.y rfl (Yd.assign rfl) ?_
        refine WL.nil ?_
        exact DN.againS (⟨j + 1, cs9.set ((j : Int).toNat * 6 + 4) (.int .i64 9), [row bo (cs9.set ((j : Int).toNat * 6 + 4) (.int .i64 9) ++ extra) 43], D9⟩) (show (j + 1) ≤ (keepK e ks n code reply).2.1.length ∧ Own (.slice so (keepK e ks n code reply).2.1.length sc) (keepK e ks n code reply).2.1.length (cs9.set ((j : Int).toNat * 6 + 4) (.int .i64 9)) 43 6 ([row bo (cs9.set ((j : Int).toNat * 6 + 4) (.int .i64 9) ++ extra) 43]) ∧ Kts 5 ((cs9.set ((j : Int).toNat * 6 + 4) (.int .i64 9)).drop ((j + 1) * 6)) ((keepK e ks n code reply).2.1.drop (j + 1)) D9 from ⟨by omega, ho2, hK9.set (by omega)⟩) (show (keepK e ks n code reply).2.1.length - (j + 1) < (keepK e ks n code reply).2.1.length - j by omega) (Sx.put rfl (sx_)) sp_
      · refine WC.exit ?_
        refine DN.then_exit ?_
        refine DN.then_exit ?_
        refine DN.block_exit ?_
        refine DN.then_normal ?_
        refine WC.seq ?_
        refine WC.region ?_
        refine WL.h rfl (Hd.loadAll (n := 2) kr_ rfl mem_ (by rfl) ⟨_, rfl, ?_⟩)
        refine WL.h rfl (Hd.loadAll (n := 2) kr_ rfl mem_ (by rfl) ⟨_, rfl, ?_⟩)
        refine WL.r rfl (Ent.func Try.call19 rfl) (rsame_reads e e _ _ ks ks _ (hX.kv.mono gr_) (hv.mono gr_) (by omega)) ?_
        refine WL.renamed (t := 101) (v := .bool true) rfl (congrArg Value.bool (decide_eq_true ⟨rfl, rfl⟩)) ?_
        refine WL.y rfl (Yd.move rfl) ?_
        refine WL.grf (dj := 102) rfl rfl rfl (Ent.func Try.call12 rfl) (known_reads) sp_ ?_
        refine WL.y rfl (Yd.pickT rfl rfl) ?_
        refine WL.y rfl (Yd.assign rfl) ?_
        refine WL.nil ?_
        refine DN.then_normal ?_
        refine WC.ret ?_
        refine DN.fit (C := H) sp_ ?_
        refine DN.ret1 Try.results3 rfl ?_
        exact ⟨rfl, rfl⟩

end Go.Proofs.Ytonnkgblligdkaa
