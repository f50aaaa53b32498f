/-
  The walks of the document's fence (drayageref08): Copy, SameKept, Same, less, Check.
-/
import Derived.Test.YtonnkgblligdkaaRows
import Derived.Test.YtonnkgblligdkaaLists
import Derived.Test.YtonnkgblligdkaaFenceRef
import Derived.Test.YtonnkgblligdkaaSLFloat
set_option linter.unusedVariables false
set_option linter.unusedSimpArgs false
set_option maxHeartbeats 4000000
namespace Go.Proofs.Ytonnkgblligdkaa
open Go.SL


/-- drayage/drayageref08.Copy -/
theorem rcopy_tells (e : BitVec 32) (v : Value) (ks : List Kp) (H : List Ck) (hv : KV v ks H) (hl : ks.length ≤ 1000) (hb : ∀ k ∈ ks, k.asked.length ≤ 1000000 ∧ k.reply.length ≤ 1000000) : Tells Try.prog 13 [.agg #[.int .u32 e.toNat, v]] H fun r H' => ∃ w D, r = .agg #[.int .u32 e.toNat, w] ∧ FAt 5 43 w ks D ∧ H' = D ++ H := by
  refine Tells.enter Try.func13 rfl Try.ntmps13 rfl ?_
  intro w0 R
  obtain ⟨cs, hr, hk⟩ := hv
  obtain ⟨ao, c, rfl, hc⟩ := hr.form
  refine WC.seq ?_
  refine WC.region ?_
  refine WL.h rfl (Hd.boxA rfl fun b1 => ⟨_, rfl, ?_⟩)
  refine WL.h rfl (Hd.alloc (zs := [.int .u32 0, .slice none 0 0]) kr_ fun b2 => ⟨_, rfl, ?_⟩)
  refine WL.nil ?_
  refine DN.then_normal ?_
  refine WC.seq ?_
  refine WC.region ?_
  refine WL.y rfl (Yd.assign rfl) ?_
  refine WL.nil ?_
  refine DN.then_normal ?_
  refine WC.seq ?_
  refine WC.seq ?_
  refine WC.region ?_
  refine WL.y rfl (Yd.assign rfl) ?_
  refine WL.nil ?_
  refine DN.then_normal ?_
  refine WC.block ?_
  refine WC.loopS (fun z : Nat × Value × List Value × List Ck × List Ck => z.1 ≤ ks.length ∧ Own z.2.1 z.1 z.2.2.1 43 6 z.2.2.2.1 ∧ Kts 5 z.2.2.1 (ks.take z.1) z.2.2.2.2) (fun z : Nat × Value × List Value × List Ck × List Ck => [(4, .int .i64 (z.1 : Int)), (3, z.2.1)]) (fun z : Nat × Value × List Value × List Ck × List Ck => z.2.2.2.1 ++ (z.2.2.2.2 ++ (row b2 [.int .u32 0, .slice none 0 0] 25 :: row b1 [.int .u32 e.toNat, .slice ao ks.length c] 25 :: H))) (fun z : Nat × Value × List Value × List Ck × List Ck => ks.length - z.1) (⟨0, .slice none 0 0, [], [], []⟩) (show 0 ≤ ks.length ∧ Own (.slice none 0 0) 0 [] 43 6 [] ∧ Kts 5 [] (ks.take 0) [] from ⟨Nat.zero_le _, Own.nil _ _, by rw [List.take_zero]; exact .nil⟩) (Sx.put rfl (Sx.put rfl (sx_))) sp_ ?_
  rintro ⟨i, vl, cl, Cl, Dl⟩ hI
  replace hI : i ≤ ks.length ∧ Own vl i cl 43 6 Cl ∧ Kts 5 cl (ks.take i) Dl := hI
  obtain ⟨hi, hOl, hKt⟩ := hI
  change WC _ _ _ _ _ _ ([(4, .int .i64 (i : Int)), (3, vl)] ++ _) (Cl ++ (Dl ++ (row b2 [.int .u32 0, .slice none 0 0] 25 :: row b1 [.int .u32 e.toNat, .slice ao ks.length c] 25 :: H)))
  obtain ⟨lo, lc, rfl, hlc⟩ := hOl.form
  refine WC.seq ?_
  refine WC.seq ?_
  refine WC.region ?_
  refine WL.y rfl (Yd.move rfl) ?_
  refine WL.y rfl (Yd.fieldAddr (k := 1) kr_ rfl) ?_
  refine WL.h rfl (Hd.load1 kr_ rfl mem_ (by rfl) ⟨_, rfl, ?_⟩)
  refine WL.y rfl (Yd.len (e := 43) kr_ rfl) ?_
  refine WL.y rfl (Yd.lss rfl rfl) ?_
  refine WL.nil ?_
  refine DN.then_normal ?_
  refine WC.ite rfl (fun h10 => ?_) (fun h10 => ?_)
  · have hlt : i < ks.length := by omega
    obtain ⟨va, vr, hg, hva, hvr⟩ := hk.at i hlt
    have hrt := hb _ (List.getElem_mem hlt)
    obtain ⟨ao1, ac1, rfl, _⟩ := hva.form
    obtain ⟨ro1, rc1, rfl, _⟩ := hvr.form
    refine WC.skip ?_
    refine DN.then_normal ?_
    refine WC.seq ?_
    refine WC.block ?_
    refine WC.seq ?_
    refine WC.region ?_
    refine WL.y rfl (Yd.fieldAddr (k := 1) kr_ rfl) ?_
    refine WL.h rfl (Hd.load1 kr_ rfl mem_ (by rfl) ⟨_, rfl, ?_⟩)
    refine WL.y rfl (Yd.move rfl) ?_
    refine WL.elemA (e := 43) (s := 6) kr_ kr_ kr_ rfl rfl (rfl) (hr.mono gr_) (hg) (by rfl) (by omega) (hlt) rfl rfl ?_
    intro p16
    refine WL.h rfl (Hd.alloc (zs := [.int .u32 0, .int .i64 0, .bool false, .slice none 0 0, .int .i64 0, .slice none 0 0]) kr_ fun b5 => ⟨_, rfl, ?_⟩)
    refine WL.s (Hd.storeAll (n := 6) kr_ rfl rfl (by rfl) (kc_one rfl rfl) fr_ (by rfl) ⟨rfl, ?_⟩)
    refine WL.nil ?_
    refine DN.then_normal ?_
    refine WC.seq ?_
    refine WC.region ?_
    refine WL.y rfl (Yd.fieldAddr (k := 3) kr_ rfl) ?_
    refine WL.h rfl (Hd.load1 kr_ rfl mem_ (by rfl) ⟨_, rfl, ?_⟩)
    refine WL.c rfl (Ent.func Try.call37 rfl) (copy_spec _ ks[i].asked H hva hrt.1) (Sp.p sp_) ?_
    rintro x1 H1 ⟨C1, hC1, rfl⟩
    obtain ⟨o1, c1, rfl, hc1⟩ := hC1.form
    refine WL.y rfl (Yd.fieldAddr (k := 3) kr_ rfl) ?_
    refine WL.s (Hd.store1s kr_ rfl rfl (by rfl) fr_ (by rfl) (by first | (simp only [List.set_cons_zero, List.set_cons_succ, Nat.zero_add, Nat.add_zero, Nat.reduceAdd]; rfl) | rfl) ⟨rfl, ?_⟩)
    refine WL.nil ?_
    refine DN.then_normal ?_
    refine WC.seq ?_
    refine WC.region ?_
    refine WL.y rfl (Yd.fieldAddr (k := 5) kr_ rfl) ?_
    refine WL.h rfl (Hd.load1 kr_ rfl mem_ (by rfl) ⟨_, rfl, ?_⟩)
    refine WL.c rfl (Ent.func Try.call37 rfl) (copy_spec _ ks[i].reply H hvr hrt.2) (Sp.p sp_) ?_
    rintro x2 H2 ⟨C2, hC2, rfl⟩
    obtain ⟨o2, c2, rfl, hc2⟩ := hC2.form
    refine WL.y rfl (Yd.fieldAddr (k := 5) kr_ rfl) ?_
    refine WL.s (Hd.store1s kr_ rfl rfl (by rfl) fr_ (by rfl) (by first | (simp only [List.set_cons_zero, List.set_cons_succ, Nat.zero_add, Nat.add_zero, Nat.reduceAdd]; rfl) | rfl) ⟨rfl, ?_⟩)
    refine WL.nil ?_
    refine DN.then_normal ?_
    refine WC.region ?_
    refine WL.y rfl (Yd.move rfl) ?_
    refine WL.h rfl (Hd.loadAll (n := 6) kr_ rfl mem_ (by rfl) ⟨_, rfl, ?_⟩)
    refine WL.h rfl (Hd.buildA (e := 43) (sz := 6) (zs := [.int .u32 0, .int .i64 0, .bool false, .slice none 0 0, .int .i64 0, .slice none 0 0]) kr_ kr_ kr_ rfl rfl (by rfl) kr_ fun b28 => ⟨_, rfl, ?_⟩)
    refine WL.h rfl (Hd.appendRow (e := 43) (sz := 6) (bytes := 80) (zs := [.int .u32 0, .int .i64 0, .bool false, .slice none 0 0, .int .i64 0, .slice none 0 0]) kr_ kr_ rfl (by omega) rfl rfl (hOl) sp_ mem_ (by rfl) (kc_one (by rfl) (by rfl)) (by simp only [maxLen]; omega) (by omega) fun v2 C3 h2 => ⟨_, rfl, ?_⟩)
    refine WL.y rfl (Yd.assign rfl) ?_
    refine WL.nil ?_
    refine DN.block_normal ?_
    refine DN.then_normal ?_
    refine WC.region ?_
    refine WL.y rfl (Yd.move rfl) ?_
    refine WL.y rfl (Yd.add rfl rfl (by omega) (by omega)) ?_
    refine WL.y rfl (Yd.assign rfl) ?_
    refine WL.nil ?_
    exact DN.againS (⟨i + 1, v2, cl ++ kc ks[i] (.slice o1 ks[i].asked.length c1) (.slice o2 ks[i].reply.length c2), C3, Dl ++ (C1 ++ C2)⟩) (show (i + 1) ≤ ks.length ∧ Own v2 (i + 1) (cl ++ kc ks[i] (.slice o1 ks[i].asked.length c1) (.slice o2 ks[i].reply.length c2)) 43 6 C3 ∧ Kts 5 (cl ++ kc ks[i] (.slice o1 ks[i].asked.length c1) (.slice o2 ks[i].reply.length c2)) (ks.take (i + 1)) (Dl ++ (C1 ++ C2)) from ⟨by omega, h2, by rw [List.take_succ_eq_append_getElem hlt]; exact hKt.append (Kts.one' hC1 hC2)⟩) (show ks.length - (i + 1) < ks.length - i by omega) (Sx.put rfl (Sx.put rfl (sx_))) sp_
  · obtain rfl : i = ks.length := by omega
    rw [List.take_length] at hKt
    refine WC.exit ?_
    refine DN.then_exit ?_
    refine DN.then_exit ?_
    refine DN.block_exit ?_
    refine DN.then_normal ?_
    refine WC.seq ?_
    refine WC.region ?_
    refine WL.y rfl (Yd.fieldAddr (k := 0) kr_ rfl) ?_
    refine WL.h rfl (Hd.load1 kr_ rfl mem_ (by rfl) ⟨_, rfl, ?_⟩)
    refine WL.y rfl (Yd.move rfl) ?_
    refine WL.y rfl (Yd.buildL (pl := [(0, 1), (1, 1)]) (zs := [.int .u32 0, .slice none 0 0]) (parts := [(0, .tmp 31), (1, .tmp 32)]) (vs := [(0, _), (1, _)]) (cells := [_, _]) kr_ kr_ rfl rfl) ?_
    refine WL.s (Hd.storeAll (n := 2) kr_ rfl rfl (by rfl) one_ fr_ (by rfl) ⟨rfl, ?_⟩)
    refine WL.nil ?_
    refine DN.then_normal ?_
    refine WC.ret ?_
    refine DN.retCS (s := 2) (Cl ++ (Dl ++ H)) Try.results13 kr_ rfl mem_ (by rfl) sp_ ?_
    exact ⟨_, Cl ++ Dl, rfl, ⟨cl, Cl, Dl, hOl, hKt, rfl⟩, by rw [List.append_assoc]⟩

/-- drayage/drayageref08.SameKept -/
theorem rkept_reads (a b : Kp) (va vr wa wr : Value) (H : List Ck) (h1 : Bs va a.asked H) (h2 : Bs vr a.reply H) (h3 : Bs wa b.asked H) (h4 : Bs wr b.reply H) : Reads Try.prog 22 [.agg (kc a va vr).toArray, .agg (kc b wa wr).toArray] H (.bool (decide (a = b))) := by
  refine Tells.enter Try.func22 rfl Try.ntmps22 rfl ?_
  intro w0 R
  refine WC.seq ?_
  refine WC.region ?_
  refine WL.h rfl (Hd.boxA rfl fun b2 => ⟨_, rfl, ?_⟩)
  refine WL.h rfl (Hd.boxA rfl fun b3 => ⟨_, rfl, ?_⟩)
  refine WL.y rfl (Yd.assign rfl) ?_
  refine WL.nil ?_
  refine DN.then_normal ?_
  refine WC.seq ?_
  refine WC.region ?_
  refine WL.y rfl (Yd.fieldAddr (k := 0) kr_ rfl) ?_
  refine WL.h rfl (Hd.load1 kr_ rfl mem_ (by rfl) ⟨_, rfl, ?_⟩)
  refine WL.y rfl (Yd.fieldAddr (k := 0) kr_ rfl) ?_
  refine WL.h rfl (Hd.load1 kr_ rfl mem_ (by rfl) ⟨_, rfl, ?_⟩)
  refine WL.y rfl (Yd.eql32 _ _ rfl rfl rfl rfl) ?_
  refine WL.y rfl (Yd.move rfl) ?_
  refine WL.partP (t := 10) rfl (fun hg10 => ?_) (fun hg10 => ?_)
  · refine WL.gy (dj := 10) rfl rfl rfl (Yd.fieldAddr (k := 1) kr_ rfl) ?_
    refine WL.gh (dj := 10) rfl rfl rfl (Hd.load1 kr_ rfl mem_ (by rfl) ⟨_, rfl, ?_⟩)
    refine WL.gy (dj := 10) rfl rfl rfl (Yd.fieldAddr (k := 1) kr_ rfl) ?_
    refine WL.gh (dj := 10) rfl rfl rfl (Hd.load1 kr_ rfl mem_ (by rfl) ⟨_, rfl, ?_⟩)
    refine WL.gy (dj := 10) rfl rfl rfl (Yd.eql rfl rfl) ?_
    refine WL.y rfl (Yd.pickT rfl rfl) ?_
    refine WL.y rfl (Yd.move rfl) ?_
    refine WL.part (t := 17) rfl (fun hg17 => ?_) (fun hg17 => ?_)
    · refine WL.gy (dj := 17) rfl rfl rfl (Yd.fieldAddr (k := 2) kr_ rfl) ?_
      refine WL.gh (dj := 17) rfl rfl rfl (Hd.load1 kr_ rfl mem_ (by rfl) ⟨_, rfl, ?_⟩)
      refine WL.gy (dj := 17) rfl rfl rfl (Yd.fieldAddr (k := 2) kr_ rfl) ?_
      refine WL.gh (dj := 17) rfl rfl rfl (Hd.load1 kr_ rfl mem_ (by rfl) ⟨_, rfl, ?_⟩)
      refine WL.gy (dj := 17) rfl rfl rfl (Yd.eqlB Try.underlying4 rfl rfl) ?_
      refine WL.y rfl (Yd.pickT rfl rfl) ?_
      refine WL.y rfl (Yd.move rfl) ?_
      refine WL.part (t := 24) rfl (fun hg24 => ?_) (fun hg24 => ?_)
      · refine WL.gy (dj := 24) rfl rfl rfl (Yd.fieldAddr (k := 3) kr_ rfl) ?_
        refine WL.gh (dj := 24) rfl rfl rfl (Hd.load1 kr_ rfl mem_ (by rfl) ⟨_, rfl, ?_⟩)
        refine WL.gh (dj := 24) rfl rfl rfl (Hd.toStr (e := 5) (bs := a.asked) kr_ kr_ Try.underlying9 rfl (h1.mono gr_) ⟨_, rfl, ?_⟩)
        refine WL.gy (dj := 24) rfl rfl rfl (Yd.fieldAddr (k := 3) kr_ rfl) ?_
        refine WL.gh (dj := 24) rfl rfl rfl (Hd.load1 kr_ rfl mem_ (by rfl) ⟨_, rfl, ?_⟩)
        refine WL.gh (dj := 24) rfl rfl rfl (Hd.toStr (e := 5) (bs := b.asked) kr_ kr_ Try.underlying9 rfl (h3.mono gr_) ⟨_, rfl, ?_⟩)
        refine WL.gy (dj := 24) rfl rfl rfl (Yd.eqlS rfl rfl) ?_
        refine WL.y rfl (Yd.pickT rfl rfl) ?_
        refine WL.y rfl (Yd.move rfl) ?_
        refine WL.part (t := 33) rfl (fun hg33 => ?_) (fun hg33 => ?_)
        · refine WL.gy (dj := 33) rfl rfl rfl (Yd.fieldAddr (k := 4) kr_ rfl) ?_
          refine WL.gh (dj := 33) rfl rfl rfl (Hd.load1 kr_ rfl mem_ (by rfl) ⟨_, rfl, ?_⟩)
          refine WL.gy (dj := 33) rfl rfl rfl (Yd.fieldAddr (k := 4) kr_ rfl) ?_
          refine WL.gh (dj := 33) rfl rfl rfl (Hd.load1 kr_ rfl mem_ (by rfl) ⟨_, rfl, ?_⟩)
          refine WL.gy (dj := 33) rfl rfl rfl (Yd.eql rfl rfl) ?_
          refine WL.y rfl (Yd.pickT rfl rfl) ?_
          refine WL.y rfl (Yd.move rfl) ?_
          refine WL.part (t := 40) rfl (fun hg40 => ?_) (fun hg40 => ?_)
          · refine WL.gy (dj := 40) rfl rfl rfl (Yd.fieldAddr (k := 5) kr_ rfl) ?_
            refine WL.gh (dj := 40) rfl rfl rfl (Hd.load1 kr_ rfl mem_ (by rfl) ⟨_, rfl, ?_⟩)
            refine WL.gh (dj := 40) rfl rfl rfl (Hd.toStr (e := 5) (bs := a.reply) kr_ kr_ Try.underlying9 rfl (h2.mono gr_) ⟨_, rfl, ?_⟩)
            refine WL.gy (dj := 40) rfl rfl rfl (Yd.fieldAddr (k := 5) kr_ rfl) ?_
            refine WL.gh (dj := 40) rfl rfl rfl (Hd.load1 kr_ rfl mem_ (by rfl) ⟨_, rfl, ?_⟩)
            refine WL.gh (dj := 40) rfl rfl rfl (Hd.toStr (e := 5) (bs := b.reply) kr_ kr_ Try.underlying9 rfl (h4.mono gr_) ⟨_, rfl, ?_⟩)
            refine WL.gy (dj := 40) rfl rfl rfl (Yd.eqlS rfl rfl) ?_
            refine WL.y rfl (Yd.pickT rfl rfl) ?_
            refine WL.y rfl (Yd.assign rfl) ?_
            refine WL.nil ?_
            refine DN.then_normal ?_
            refine WC.ret ?_
            refine DN.fit (C := H) sp_ ?_
            refine DN.ret1 Try.results22 rfl ?_
            refine ⟨congrArg Value.bool ?_, rfl⟩
            obtain ⟨a1, a2, a3, a4, a5, a6⟩ := a
            obtain ⟨b1, b2, b3, b4, b5, b6⟩ := b
            rw [Bool.eq_iff_iff]
            clear h1 h2 h3 h4
            simp only [decide_eq_true_eq, decide_eq_false_iff_not, str_inj, Kp.mk.injEq, beq_iff_eq, beq_eq_false_iff_ne, ne_eq, Bool.false_eq_true, false_iff] at *
            simp [*]
          · refine WL.gn (dj := 40) rfl rfl rfl rfl ?_
            refine WL.gn (dj := 40) rfl rfl rfl rfl ?_
            refine WL.gn (dj := 40) rfl rfl rfl rfl ?_
            refine WL.gn (dj := 40) rfl rfl rfl rfl ?_
            refine WL.gn (dj := 40) rfl rfl rfl rfl ?_
            refine WL.gn (dj := 40) rfl rfl rfl rfl ?_
            refine WL.gn (dj := 40) rfl rfl rfl rfl ?_
            refine WL.y rfl (Yd.pickF rfl rfl) ?_
            refine WL.y rfl (Yd.assign rfl) ?_
            refine WL.nil ?_
            refine DN.then_normal ?_
            refine WC.ret ?_
            refine DN.fit (C := H) sp_ ?_
            refine DN.ret1 Try.results22 rfl ?_
            refine ⟨congrArg Value.bool ?_, rfl⟩
            obtain ⟨a1, a2, a3, a4, a5, a6⟩ := a
            obtain ⟨b1, b2, b3, b4, b5, b6⟩ := b
            rw [Bool.eq_iff_iff]
            clear h1 h2 h3 h4
            simp only [decide_eq_true_eq, decide_eq_false_iff_not, str_inj, Kp.mk.injEq, beq_iff_eq, beq_eq_false_iff_ne, ne_eq, Bool.false_eq_true, false_iff] at *
            simp [*]
        · refine WL.gn (dj := 33) rfl rfl rfl rfl ?_
          refine WL.gn (dj := 33) rfl rfl rfl rfl ?_
          refine WL.gn (dj := 33) rfl rfl rfl rfl ?_
          refine WL.gn (dj := 33) rfl rfl rfl rfl ?_
          refine WL.gn (dj := 33) rfl rfl rfl rfl ?_
          refine WL.y rfl (Yd.pickF rfl rfl) ?_
          refine WL.y rfl (Yd.move rfl) ?_
          refine WL.gn (dj := 40) rfl rfl rfl rfl ?_
          refine WL.gn (dj := 40) rfl rfl rfl rfl ?_
          refine WL.gn (dj := 40) rfl rfl rfl rfl ?_
          refine WL.gn (dj := 40) rfl rfl rfl rfl ?_
          refine WL.gn (dj := 40) rfl rfl rfl rfl ?_
          refine WL.gn (dj := 40) rfl rfl rfl rfl ?_
          refine WL.gn (dj := 40) rfl rfl rfl rfl ?_
          refine WL.y rfl (Yd.pickF rfl rfl) ?_
          refine WL.y rfl (Yd.assign rfl) ?_
          refine WL.nil ?_
          refine DN.then_normal ?_
          refine WC.ret ?_
          refine DN.fit (C := H) sp_ ?_
          refine DN.ret1 Try.results22 rfl ?_
          refine ⟨congrArg Value.bool ?_, rfl⟩
          obtain ⟨a1, a2, a3, a4, a5, a6⟩ := a
          obtain ⟨b1, b2, b3, b4, b5, b6⟩ := b
          rw [Bool.eq_iff_iff]
          clear h1 h2 h3 h4
          simp only [decide_eq_true_eq, decide_eq_false_iff_not, str_inj, Kp.mk.injEq, beq_iff_eq, beq_eq_false_iff_ne, ne_eq, Bool.false_eq_true, false_iff] at *
          simp [*]
      · refine WL.gn (dj := 24) rfl rfl rfl rfl ?_
        refine WL.gn (dj := 24) rfl rfl rfl rfl ?_
        refine WL.gn (dj := 24) rfl rfl rfl rfl ?_
        refine WL.gn (dj := 24) rfl rfl rfl rfl ?_
        refine WL.gn (dj := 24) rfl rfl rfl rfl ?_
        refine WL.gn (dj := 24) rfl rfl rfl rfl ?_
        refine WL.gn (dj := 24) rfl rfl rfl rfl ?_
        refine WL.y rfl (Yd.pickF rfl rfl) ?_
        refine WL.y rfl (Yd.move rfl) ?_
        refine WL.gn (dj := 33) rfl rfl rfl rfl ?_
        refine WL.gn (dj := 33) rfl rfl rfl rfl ?_
        refine WL.gn (dj := 33) rfl rfl rfl rfl ?_
        refine WL.gn (dj := 33) rfl rfl rfl rfl ?_
        refine WL.gn (dj := 33) rfl rfl rfl rfl ?_
        refine WL.y rfl (Yd.pickF rfl rfl) ?_
        refine WL.y rfl (Yd.move rfl) ?_
        refine WL.gn (dj := 40) rfl rfl rfl rfl ?_
        refine WL.gn (dj := 40) rfl rfl rfl rfl ?_
        refine WL.gn (dj := 40) rfl rfl rfl rfl ?_
        refine WL.gn (dj := 40) rfl rfl rfl rfl ?_
        refine WL.gn (dj := 40) rfl rfl rfl rfl ?_
        refine WL.gn (dj := 40) rfl rfl rfl rfl ?_
        refine WL.gn (dj := 40) rfl rfl rfl rfl ?_
        refine WL.y rfl (Yd.pickF rfl rfl) ?_
        refine WL.y rfl (Yd.assign rfl) ?_
        refine WL.nil ?_
        refine DN.then_normal ?_
        refine WC.ret ?_
        refine DN.fit (C := H) sp_ ?_
        refine DN.ret1 Try.results22 rfl ?_
        refine ⟨congrArg Value.bool ?_, rfl⟩
        obtain ⟨a1, a2, a3, a4, a5, a6⟩ := a
        obtain ⟨b1, b2, b3, b4, b5, b6⟩ := b
        rw [Bool.eq_iff_iff]
        clear h1 h2 h3 h4
        simp only [decide_eq_true_eq, decide_eq_false_iff_not, str_inj, Kp.mk.injEq, beq_iff_eq, beq_eq_false_iff_ne, ne_eq, Bool.false_eq_true, false_iff] at *
        simp [*]
    · refine WL.gn (dj := 17) rfl rfl rfl rfl ?_
      refine WL.gn (dj := 17) rfl rfl rfl rfl ?_
      refine WL.gn (dj := 17) rfl rfl rfl rfl ?_
      refine WL.gn (dj := 17) rfl rfl rfl rfl ?_
      refine WL.gn (dj := 17) rfl rfl rfl rfl ?_
      refine WL.y rfl (Yd.pickF rfl rfl) ?_
      refine WL.y rfl (Yd.move rfl) ?_
      refine WL.gn (dj := 24) rfl rfl rfl rfl ?_
      refine WL.gn (dj := 24) rfl rfl rfl rfl ?_
      refine WL.gn (dj := 24) rfl rfl rfl rfl ?_
      refine WL.gn (dj := 24) rfl rfl rfl rfl ?_
      refine WL.gn (dj := 24) rfl rfl rfl rfl ?_
      refine WL.gn (dj := 24) rfl rfl rfl rfl ?_
      refine WL.gn (dj := 24) rfl rfl rfl rfl ?_
      refine WL.y rfl (Yd.pickF rfl rfl) ?_
      refine WL.y rfl (Yd.move rfl) ?_
      refine WL.gn (dj := 33) rfl rfl rfl rfl ?_
      refine WL.gn (dj := 33) rfl rfl rfl rfl ?_
      refine WL.gn (dj := 33) rfl rfl rfl rfl ?_
      refine WL.gn (dj := 33) rfl rfl rfl rfl ?_
      refine WL.gn (dj := 33) rfl rfl rfl rfl ?_
      refine WL.y rfl (Yd.pickF rfl rfl) ?_
      refine WL.y rfl (Yd.move rfl) ?_
      refine WL.gn (dj := 40) rfl rfl rfl rfl ?_
      refine WL.gn (dj := 40) rfl rfl rfl rfl ?_
      refine WL.gn (dj := 40) rfl rfl rfl rfl ?_
      refine WL.gn (dj := 40) rfl rfl rfl rfl ?_
      refine WL.gn (dj := 40) rfl rfl rfl rfl ?_
      refine WL.gn (dj := 40) rfl rfl rfl rfl ?_
      refine WL.gn (dj := 40) rfl rfl rfl rfl ?_
      refine WL.y rfl (Yd.pickF rfl rfl) ?_
      refine WL.y rfl (Yd.assign rfl) ?_
      refine WL.nil ?_
      refine DN.then_normal ?_
      refine WC.ret ?_
      refine DN.fit (C := H) sp_ ?_
      refine DN.ret1 Try.results22 rfl ?_
      refine ⟨congrArg Value.bool ?_, rfl⟩
      obtain ⟨a1, a2, a3, a4, a5, a6⟩ := a
      obtain ⟨b1, b2, b3, b4, b5, b6⟩ := b
      rw [Bool.eq_iff_iff]
      clear h1 h2 h3 h4
      simp only [decide_eq_true_eq, decide_eq_false_iff_not, str_inj, Kp.mk.injEq, beq_iff_eq, beq_eq_false_iff_ne, ne_eq, Bool.false_eq_true, false_iff] at *
      simp [*]
  · refine WL.gn (dj := 10) rfl rfl rfl rfl ?_
    refine WL.gn (dj := 10) rfl rfl rfl rfl ?_
    refine WL.gn (dj := 10) rfl rfl rfl rfl ?_
    refine WL.gn (dj := 10) rfl rfl rfl rfl ?_
    refine WL.gn (dj := 10) rfl rfl rfl rfl ?_
    refine WL.y rfl (Yd.pickF rfl rfl) ?_
    refine WL.y rfl (Yd.move rfl) ?_
    refine WL.gn (dj := 17) rfl rfl rfl rfl ?_
    refine WL.gn (dj := 17) rfl rfl rfl rfl ?_
    refine WL.gn (dj := 17) rfl rfl rfl rfl ?_
    refine WL.gn (dj := 17) rfl rfl rfl rfl ?_
    refine WL.gn (dj := 17) rfl rfl rfl rfl ?_
    refine WL.y rfl (Yd.pickF rfl rfl) ?_
    refine WL.y rfl (Yd.move rfl) ?_
    refine WL.gn (dj := 24) rfl rfl rfl rfl ?_
    refine WL.gn (dj := 24) rfl rfl rfl rfl ?_
    refine WL.gn (dj := 24) rfl rfl rfl rfl ?_
    refine WL.gn (dj := 24) rfl rfl rfl rfl ?_
    refine WL.gn (dj := 24) rfl rfl rfl rfl ?_
    refine WL.gn (dj := 24) rfl rfl rfl rfl ?_
    refine WL.gn (dj := 24) rfl rfl rfl rfl ?_
    refine WL.y rfl (Yd.pickF rfl rfl) ?_
    refine WL.y rfl (Yd.move rfl) ?_
    refine WL.gn (dj := 33) rfl rfl rfl rfl ?_
    refine WL.gn (dj := 33) rfl rfl rfl rfl ?_
    refine WL.gn (dj := 33) rfl rfl rfl rfl ?_
    refine WL.gn (dj := 33) rfl rfl rfl rfl ?_
    refine WL.gn (dj := 33) rfl rfl rfl rfl ?_
    refine WL.y rfl (Yd.pickF rfl rfl) ?_
    refine WL.y rfl (Yd.move rfl) ?_
    refine WL.gn (dj := 40) rfl rfl rfl rfl ?_
    refine WL.gn (dj := 40) rfl rfl rfl rfl ?_
    refine WL.gn (dj := 40) rfl rfl rfl rfl ?_
    refine WL.gn (dj := 40) rfl rfl rfl rfl ?_
    refine WL.gn (dj := 40) rfl rfl rfl rfl ?_
    refine WL.gn (dj := 40) rfl rfl rfl rfl ?_
    refine WL.gn (dj := 40) rfl rfl rfl rfl ?_
    refine WL.y rfl (Yd.pickF rfl rfl) ?_
    refine WL.y rfl (Yd.assign rfl) ?_
    refine WL.nil ?_
    refine DN.then_normal ?_
    refine WC.ret ?_
    refine DN.fit (C := H) sp_ ?_
    refine DN.ret1 Try.results22 rfl ?_
    refine ⟨congrArg Value.bool ?_, rfl⟩
    obtain ⟨a1, a2, a3, a4, a5, a6⟩ := a
    obtain ⟨b1, b2, b3, b4, b5, b6⟩ := b
    rw [Bool.eq_iff_iff]
    clear h1 h2 h3 h4
    simp only [decide_eq_true_eq, decide_eq_false_iff_not, str_inj, Kp.mk.injEq, beq_iff_eq, beq_eq_false_iff_ne, ne_eq, Bool.false_eq_true, false_iff] at *
    simp [*]

/-- drayage/drayageref08.Same -/
theorem rsame_reads (e1 e2 : BitVec 32) (v w : Value) (ks ls : List Kp) (H : List Ck) (hv : KV v ks H) (hw : KV w ls H) (hl : ks.length ≤ 9223372036854775807) : Reads Try.prog 19 [.agg #[.int .u32 e1.toNat, v], .agg #[.int .u32 e2.toNat, w]] H (.bool (decide (e1 = e2 ∧ ks = ls))) := by
  refine Tells.enter Try.func19 rfl Try.ntmps19 rfl ?_
  intro w0 R
  obtain ⟨cs, hr, hk⟩ := hv
  obtain ⟨ao, c, rfl, hc⟩ := hr.form
  obtain ⟨cs2, hr2, hk2⟩ := hw
  obtain ⟨ao2, c2, rfl, hc2⟩ := hr2.form
  refine WC.seq ?_
  refine WC.region ?_
  refine WL.h rfl (Hd.boxA rfl fun b2 => ⟨_, rfl, ?_⟩)
  refine WL.h rfl (Hd.boxA rfl fun b3 => ⟨_, rfl, ?_⟩)
  refine WL.y rfl (Yd.assign rfl) ?_
  refine WL.nil ?_
  refine DN.then_normal ?_
  refine WC.seq ?_
  refine WC.seq ?_
  refine WC.region ?_
  refine WL.y rfl (Yd.fieldAddr (k := 0) kr_ rfl) ?_
  refine WL.h rfl (Hd.load1 kr_ rfl mem_ (by rfl) ⟨_, rfl, ?_⟩)
  refine WL.y rfl (Yd.fieldAddr (k := 0) kr_ rfl) ?_
  refine WL.h rfl (Hd.load1 kr_ rfl mem_ (by rfl) ⟨_, rfl, ?_⟩)
  refine WL.y rfl (Yd.neq32 _ _ rfl rfl rfl rfl) ?_
  refine WL.y rfl (Yd.move rfl) ?_
  refine WL.partP (t := 11) rfl (fun hg11 => ?_) (fun hg11 => ?_)
  · refine WL.gn (dj := 11) rfl rfl rfl rfl ?_
    refine WL.gn (dj := 11) rfl rfl rfl rfl ?_
    refine WL.gn (dj := 11) rfl rfl rfl rfl ?_
    refine WL.gn (dj := 11) rfl rfl rfl rfl ?_
    refine WL.gn (dj := 11) rfl rfl rfl rfl ?_
    refine WL.gn (dj := 11) rfl rfl rfl rfl ?_
    refine WL.gn (dj := 11) rfl rfl rfl rfl ?_
    refine WL.y rfl (Yd.pickT rfl rfl) ?_
    refine WL.nil ?_
    refine DN.then_normal ?_
    refine WC.yes rfl ?_
    refine WC.seq ?_
    refine WC.region ?_
    refine WL.y rfl (Yd.assign rfl) ?_
    refine WL.nil ?_
    refine DN.then_normal ?_
    refine WC.ret ?_
    refine DN.then_ret ?_
    refine DN.fit (C := H) sp_ ?_
    refine DN.ret1 Try.results19 rfl ?_
    first
    | (rw [decide_eq_false (show ¬ (e1 = e2 ∧ ks = ls) from fun h => hg11 h.1)]; exact ⟨rfl, rfl⟩)
    | (rw [decide_eq_false (show ¬ (e1 = e2 ∧ ks = ls) from fun h => absurd (congrArg List.length h.2) (by have := of_decide_eq_true h19; omega))]; exact ⟨rfl, rfl⟩)
    | (rw [decide_eq_false (show ¬ (e1 = e2 ∧ ks = ls) from fun h => by
        have h9 : ks[i] ≠ ls[i] := by simpa using h38
        obtain ⟨_, rfl⟩ := h
        exact h9 rfl)]; exact ⟨rfl, rfl⟩)
    | (rw [decide_eq_true (show e1 = e2 ∧ ks = ls from ⟨he, hsm⟩)]; exact ⟨rfl, rfl⟩)
  · refine WL.gy (dj := 11) rfl rfl rfl (Yd.fieldAddr (k := 1) kr_ rfl) ?_
    refine WL.gh (dj := 11) rfl rfl rfl (Hd.load1 kr_ rfl mem_ (by rfl) ⟨_, rfl, ?_⟩)
    refine WL.gy (dj := 11) rfl rfl rfl (Yd.len (e := 43) kr_ rfl) ?_
    refine WL.gy (dj := 11) rfl rfl rfl (Yd.fieldAddr (k := 1) kr_ rfl) ?_
    refine WL.gh (dj := 11) rfl rfl rfl (Hd.load1 kr_ rfl mem_ (by rfl) ⟨_, rfl, ?_⟩)
    refine WL.gy (dj := 11) rfl rfl rfl (Yd.len (e := 43) kr_ rfl) ?_
    refine WL.gy (dj := 11) rfl rfl rfl (Yd.neq rfl rfl) ?_
    refine WL.y rfl (Yd.pickF rfl rfl) ?_
    refine WL.nil ?_
    refine DN.then_normal ?_
    refine WC.cond rfl (fun h19 => ?_) (fun h19 => ?_)
    · refine WC.seq ?_
      refine WC.region ?_
      refine WL.y rfl (Yd.assign rfl) ?_
      refine WL.nil ?_
      refine DN.then_normal ?_
      refine WC.ret ?_
      refine DN.then_ret ?_
      refine DN.fit (C := H) sp_ ?_
      refine DN.ret1 Try.results19 rfl ?_
      first
      | (rw [decide_eq_false (show ¬ (e1 = e2 ∧ ks = ls) from fun h => hg11 h.1)]; exact ⟨rfl, rfl⟩)
      | (rw [decide_eq_false (show ¬ (e1 = e2 ∧ ks = ls) from fun h => absurd (congrArg List.length h.2) (by have := of_decide_eq_true h19; omega))]; exact ⟨rfl, rfl⟩)
      | (rw [decide_eq_false (show ¬ (e1 = e2 ∧ ks = ls) from fun h => by
          have h9 : ks[i] ≠ ls[i] := by simpa using h38
          obtain ⟨_, rfl⟩ := h
          exact h9 rfl)]; exact ⟨rfl, rfl⟩)
      | (rw [decide_eq_true (show e1 = e2 ∧ ks = ls from ⟨he, hsm⟩)]; exact ⟨rfl, rfl⟩)
    · obtain ⟨he, hlen⟩ : e1 = e2 ∧ ks.length = ls.length := by
        first
        | (cases h19; done)
        | (refine ⟨Classical.byContradiction fun h => hg11 h, ?_⟩
           have h9 := of_decide_eq_false h19
           omega)
      refine WC.skip ?_
      refine DN.then_normal ?_
      refine WC.seq ?_
      refine WC.seq ?_
      refine WC.region ?_
      refine WL.y rfl (Yd.assign rfl) ?_
      refine WL.nil ?_
      refine DN.then_normal ?_
      refine WC.block ?_
      refine WC.loopS (fun z : Nat => z ≤ ks.length ∧ ks.take z = ls.take z) (fun z : Nat => [(5, .int .i64 (z : Int))]) (fun z : Nat => row b3 [.int .u32 e2.toNat, .slice ao2 ls.length c2] 25 :: row b2 [.int .u32 e1.toNat, .slice ao ks.length c] 25 :: H) (fun z : Nat => ks.length - z) (0) (show 0 ≤ ks.length ∧ ks.take 0 = ls.take 0 from ⟨Nat.zero_le _, rfl⟩) (Sx.put rfl (sx_)) sp_ ?_
      rintro i hI
      replace hI : i ≤ ks.length ∧ ks.take i = ls.take i := hI
      obtain ⟨hi, hsm⟩ := hI
      change WC _ _ _ _ _ _ ([(5, .int .i64 (i : Int))] ++ _) (row b3 [.int .u32 e2.toNat, .slice ao2 ls.length c2] 25 :: row b2 [.int .u32 e1.toNat, .slice ao ks.length c] 25 :: H)
      refine WC.seq ?_
      refine WC.seq ?_
      refine WC.region ?_
      refine WL.y rfl (Yd.move rfl) ?_
      refine WL.y rfl (Yd.fieldAddr (k := 1) kr_ rfl) ?_
      refine WL.h rfl (Hd.load1 kr_ rfl mem_ (by rfl) ⟨_, rfl, ?_⟩)
      refine WL.y rfl (Yd.len (e := 43) kr_ rfl) ?_
      refine WL.y rfl (Yd.lss rfl rfl) ?_
      refine WL.nil ?_
      refine DN.then_normal ?_
      refine WC.ite rfl (fun h24 => ?_) (fun h24 => ?_)
      · have hlt : i < ks.length := by omega
        have hlt2 : i < ls.length := by omega
        obtain ⟨va, vr, hg, hva, hvr⟩ := hk.at i hlt
        obtain ⟨va2, vr2, hg2, hva2, hvr2⟩ := hk2.at i hlt2
        obtain ⟨lb, lf, lcs, lT, lfr, lex, elo, _, hlm, hlcs⟩ := hr.lies (by omega)
        obtain ⟨mb, mf, mcs, mT, mfr, mex, emo, _, hmm, hmcs⟩ := hr2.lies (by omega)
        refine WC.skip ?_
        refine DN.then_normal ?_
        refine WC.seq ?_
        refine WC.block ?_
        refine WC.seq ?_
        refine WC.draw 12 kr_ rfl ?_
        refine WA.quiet 12 0 rfl rfl kr_ kr_ kr_ rfl ?_
        refine WQ.y rfl (Yd.fieldAddr (k := 1) kr_ rfl) ?_
        refine WQ.rd rfl Wt.none (Rd.load1 kr_ rfl mem_ (by rfl)) ?_
        refine WQ.y rfl (Yd.move rfl) ?_
        refine WQ.y rfl (Yd.indexAddr (e := 43) (s := 6) (b := lb) (o := lf) (n := ks.length) (c := c) kr_ kr_ (congrArg (fun q => some (Value.slice q ks.length c)) elo) rfl (by omega) (by omega)) ?_
        refine WQ.rd rfl Wt.none (Rd.loadA (n := 6) (b := lb) (o := lf + (i : Int).toNat * 6) (cs := lcs) (vs := kc ks[i] va vr) kr_ rfl (Gr.get gr_ hlm) rfl (rs_cell hlcs (by rw [hk.len]; omega) hg)) ?_
        refine WQ.y rfl (Yd.fieldAddr (k := 1) kr_ rfl) ?_
        refine WQ.rd rfl Wt.none (Rd.load1 kr_ rfl mem_ (by rfl)) ?_
        refine WQ.y rfl (Yd.move rfl) ?_
        refine WQ.y rfl (Yd.indexAddr (e := 43) (s := 6) (b := mb) (o := mf) (n := ls.length) (c := c2) kr_ kr_ (congrArg (fun q => some (Value.slice q ls.length c2)) emo) rfl (by omega) (by omega)) ?_
        refine WQ.rd rfl Wt.none (Rd.loadA (n := 6) (b := mb) (o := mf + (i : Int).toNat * 6) (cs := mcs) (vs := kc ls[i] va2 vr2) kr_ rfl (Gr.get gr_ hmm) rfl (rs_cell hmcs (by rw [hk2.len]; omega) hg2)) ?_
        refine WQ.rf rfl Wt.none (Ent.func Try.call22 rfl) (rkept_reads ks[i] ls[i] va vr va2 vr2 _ (hva.mono gr_) (hvr.mono gr_) (hva2.mono gr_) (hvr2.mono gr_)) Sp.sn ?_
        refine WQ.y rfl (Yd.notB rfl) ?_
        refine WQ.nil ?_
        refine WA.done kr_ ?_
        refine DN.then_normal ?_
        refine WC.cond rfl (fun h38 => ?_) (fun h38 => ?_)
        · refine WC.seq ?_
          refine WC.region ?_
          refine WL.y rfl (Yd.assign rfl) ?_
          refine WL.nil ?_
          refine DN.then_normal ?_
          refine WC.ret ?_
          refine DN.block_ret ?_
          refine DN.then_ret ?_
          refine DN.then_ret ?_
          refine DN.block_ret ?_
          refine DN.then_ret ?_
          refine DN.fit (C := H) sp_ ?_
          refine DN.ret1 Try.results19 rfl ?_
          first
          | (rw [decide_eq_false (show ¬ (e1 = e2 ∧ ks = ls) from fun h => hg11 h.1)]; exact ⟨rfl, rfl⟩)
          | (rw [decide_eq_false (show ¬ (e1 = e2 ∧ ks = ls) from fun h => absurd (congrArg List.length h.2) (by have := of_decide_eq_true h19; omega))]; exact ⟨rfl, rfl⟩)
          | (rw [decide_eq_false (show ¬ (e1 = e2 ∧ ks = ls) from fun h => by
              have h9 : ks[i] ≠ ls[i] := by simpa using h38
              obtain ⟨_, rfl⟩ := h
              exact h9 rfl)]; exact ⟨rfl, rfl⟩)
          | (rw [decide_eq_true (show e1 = e2 ∧ ks = ls from ⟨he, hsm⟩)]; exact ⟨rfl, rfl⟩)
        · refine WC.skip ?_
          refine DN.block_normal ?_
          refine DN.then_normal ?_
          refine WC.region ?_
          refine WL.y rfl (Yd.move rfl) ?_
          refine WL.y rfl (Yd.add rfl rfl (by omega) (by omega)) ?_
          refine WL.y rfl (Yd.assign rfl) ?_
          refine WL.nil ?_
          exact DN.againS (i + 1) (show (i + 1) ≤ ks.length ∧ ks.take (i + 1) = ls.take (i + 1) from ⟨by omega, lists_step2 hlt hlt2 hsm h38⟩) (show ks.length - (i + 1) < ks.length - i by omega) (Sx.put rfl (sx_)) sp_
      · obtain rfl : i = ks.length := by omega
        rw [List.take_length, hlen, List.take_length] at hsm
        refine WC.exit ?_
        refine DN.then_exit ?_
        refine DN.then_exit ?_
        refine DN.block_exit ?_
        refine DN.then_normal ?_
        refine WC.seq ?_
        refine WC.region ?_
        refine WL.y rfl (Yd.assign rfl) ?_
        refine WL.nil ?_
        refine DN.then_normal ?_
        refine WC.ret ?_
        refine DN.fit (C := H) sp_ ?_
        refine DN.ret1 Try.results19 rfl ?_
        first
        | (rw [decide_eq_false (show ¬ (e1 = e2 ∧ ks = ls) from fun h => hg11 h.1)]; exact ⟨rfl, rfl⟩)
        | (rw [decide_eq_false (show ¬ (e1 = e2 ∧ ks = ls) from fun h => absurd (congrArg List.length h.2) (by have := of_decide_eq_true h19; omega))]; exact ⟨rfl, rfl⟩)
        | (rw [decide_eq_false (show ¬ (e1 = e2 ∧ ks = ls) from fun h => by
            have h9 : ks[i] ≠ ls[i] := by simpa using h38
            obtain ⟨_, rfl⟩ := h
            exact h9 rfl)]; exact ⟨rfl, rfl⟩)
        | (rw [decide_eq_true (show e1 = e2 ∧ ks = ls from ⟨he, hsm⟩)]; exact ⟨rfl, rfl⟩)

/-- drayage/drayageref08.less -/
theorem rless_reads (a b : Kp) (va vr wa wr : Value) (h1 : va.oneCell' = true) (h2 : vr.oneCell' = true) (h3 : wa.oneCell' = true) (h4 : wr.oneCell' = true) (H : List Ck) : Reads Try.prog 44 [.agg (kc a va vr).toArray, .agg (kc b wa wr).toArray] H (.bool (lessK a b)) := by
  refine Tells.enter Try.func44 rfl Try.ntmps44 rfl ?_
  intro w0 R
  refine WC.seq ?_
  refine WC.region ?_
  refine WL.h rfl (Hd.boxA rfl fun b2 => ⟨_, rfl, ?_⟩)
  refine WL.h rfl (Hd.boxA rfl fun b3 => ⟨_, rfl, ?_⟩)
  refine WL.y rfl (Yd.assign rfl) ?_
  refine WL.nil ?_
  refine DN.then_normal ?_
  refine WC.seq ?_
  refine WC.block ?_
  refine WC.seq ?_
  refine WC.region ?_
  refine WL.y rfl (Yd.fieldAddr (k := 0) kr_ rfl) ?_
  refine WL.h rfl (Hd.load1 kr_ rfl mem_ (by rfl) ⟨_, rfl, ?_⟩)
  refine WL.y rfl (Yd.fieldAddr (k := 0) kr_ rfl) ?_
  refine WL.h rfl (Hd.load1 kr_ rfl mem_ (by rfl) ⟨_, rfl, ?_⟩)
  refine WL.y rfl (Yd.neq32 _ _ rfl rfl rfl rfl) ?_
  refine WL.y rfl (Yd.assign rfl) ?_
  refine WL.nil ?_
  refine DN.then_normal ?_
  refine WC.ite rfl (fun h5 => ?_) (fun h5 => ?_)
  · refine WC.seq ?_
    refine WC.region ?_
    refine WL.y rfl (Yd.fieldAddr (k := 0) kr_ rfl) ?_
    refine WL.h rfl (Hd.load1 kr_ rfl mem_ (by rfl) ⟨_, rfl, ?_⟩)
    refine WL.y rfl (Yd.fieldAddr (k := 0) kr_ rfl) ?_
    refine WL.h rfl (Hd.load1 kr_ rfl mem_ (by rfl) ⟨_, rfl, ?_⟩)
    refine WL.y rfl (Yd.lss rfl rfl) ?_
    refine WL.y rfl (Yd.assign rfl) ?_
    refine WL.nil ?_
    refine DN.then_normal ?_
    refine WC.ret ?_
    refine DN.block_ret ?_
    refine DN.then_ret ?_
    refine DN.fit (C := H) sp_ ?_
    refine DN.ret1 Try.results44 rfl ?_
    exact ⟨congrArg Value.bool (by unfold lessK; simp [*]), rfl⟩
  · refine WC.seq ?_
    refine WC.region ?_
    refine WL.y rfl (Yd.fieldAddr (k := 1) kr_ rfl) ?_
    refine WL.h rfl (Hd.load1 kr_ rfl mem_ (by rfl) ⟨_, rfl, ?_⟩)
    refine WL.y rfl (Yd.fieldAddr (k := 1) kr_ rfl) ?_
    refine WL.h rfl (Hd.load1 kr_ rfl mem_ (by rfl) ⟨_, rfl, ?_⟩)
    refine WL.y rfl (Yd.neq rfl rfl) ?_
    refine WL.y rfl (Yd.assign rfl) ?_
    refine WL.nil ?_
    refine DN.then_normal ?_
    refine WC.ite rfl (fun h16 => ?_) (fun h16 => ?_)
    · refine WC.seq ?_
      refine WC.region ?_
      refine WL.y rfl (Yd.fieldAddr (k := 1) kr_ rfl) ?_
      refine WL.h rfl (Hd.load1 kr_ rfl mem_ (by rfl) ⟨_, rfl, ?_⟩)
      refine WL.y rfl (Yd.fieldAddr (k := 1) kr_ rfl) ?_
      refine WL.h rfl (Hd.load1 kr_ rfl mem_ (by rfl) ⟨_, rfl, ?_⟩)
      refine WL.y rfl (Yd.lss rfl rfl) ?_
      refine WL.y rfl (Yd.assign rfl) ?_
      refine WL.nil ?_
      refine DN.then_normal ?_
      refine WC.ret ?_
      refine DN.block_ret ?_
      refine DN.then_ret ?_
      refine DN.fit (C := H) sp_ ?_
      refine DN.ret1 Try.results44 rfl ?_
      exact ⟨congrArg Value.bool (by unfold lessK; simp [*]), rfl⟩
    · refine WC.skip ?_
      refine DN.block_normal ?_
      refine DN.then_normal ?_
      refine WC.seq ?_
      refine WC.region ?_
      refine WL.y rfl (Yd.fieldAddr (k := 2) kr_ rfl) ?_
      refine WL.h rfl (Hd.load1 kr_ rfl mem_ (by rfl) ⟨_, rfl, ?_⟩)
      refine WL.y rfl (Yd.notB rfl) ?_
      refine WL.y rfl (Yd.move rfl) ?_
      refine WL.part (t := 30) rfl (fun hg30 => ?_) (fun hg30 => ?_)
      · refine WL.gy (dj := 30) rfl rfl rfl (Yd.fieldAddr (k := 2) kr_ rfl) ?_
        refine WL.gh (dj := 30) rfl rfl rfl (Hd.load1 kr_ rfl mem_ (by rfl) ⟨_, rfl, ?_⟩)
        refine WL.y rfl (Yd.pickT rfl rfl) ?_
        refine WL.y rfl (Yd.assign rfl) ?_
        refine WL.nil ?_
        refine DN.then_normal ?_
        refine WC.ret ?_
        refine DN.fit (C := H) sp_ ?_
        refine DN.ret1 Try.results44 rfl ?_
        exact ⟨congrArg Value.bool (by unfold lessK; simp [*]), rfl⟩
      · refine WL.gn (dj := 30) rfl rfl rfl rfl ?_
        refine WL.gn (dj := 30) rfl rfl rfl rfl ?_
        refine WL.y rfl (Yd.pickF rfl rfl) ?_
        refine WL.y rfl (Yd.assign rfl) ?_
        refine WL.nil ?_
        refine DN.then_normal ?_
        refine WC.ret ?_
        refine DN.fit (C := H) sp_ ?_
        refine DN.ret1 Try.results44 rfl ?_
        exact ⟨congrArg Value.bool (by unfold lessK; simp [*]), rfl⟩

/-- drayage/drayageref08.Check -/
theorem rfcheck_reads (e : BitVec 32) (v : Value) (ks : List Kp) (H : List Ck) (hv : KV v ks H) (hl : ks.length ≤ 9223372036854775807) : Reads Try.prog 31 [.agg #[.int .u32 e.toNat, v]] H (.int .i64 (if chk ks then 0 else 2)) := by
  refine Tells.enter Try.func31 rfl Try.ntmps31 rfl ?_
  intro w0 R
  obtain ⟨cs, hr, hk⟩ := hv
  obtain ⟨ao, c, rfl, hc⟩ := hr.form
  refine WC.seq ?_
  refine WC.region ?_
  refine WL.h rfl (Hd.boxA rfl fun b1 => ⟨_, rfl, ?_⟩)
  refine WL.y rfl (Yd.assign rfl) ?_
  refine WL.nil ?_
  refine DN.then_normal ?_
  refine WC.seq ?_
  refine WC.seq ?_
  refine WC.region ?_
  refine WL.y rfl (Yd.fieldAddr (k := 1) kr_ rfl) ?_
  refine WL.h rfl (Hd.load1 kr_ rfl mem_ (by rfl) ⟨_, rfl, ?_⟩)
  refine WL.y rfl (Yd.len (e := 43) kr_ rfl) ?_
  refine WL.y rfl (Yd.gtr rfl rfl) ?_
  refine WL.nil ?_
  refine DN.then_normal ?_
  refine WC.ite rfl (fun h8 => ?_) (fun h8 => ?_)
  · refine WC.seq ?_
    refine WC.region ?_
    refine WL.y rfl (Yd.assign rfl) ?_
    refine WL.nil ?_
    refine DN.then_normal ?_
    refine WC.ret ?_
    refine DN.then_ret ?_
    refine DN.fit (C := H) sp_ ?_
    refine DN.ret1 Try.results31 rfl ?_
    first
      | exact ⟨by rw [if_pos hck], rfl⟩
      | exact ⟨by rw [if_neg hbad], rfl⟩
      | exact ⟨by rw [if_neg (fun h9 => by have := h9.1; omega)], rfl⟩
  · refine WC.skip ?_
    refine DN.then_normal ?_
    refine WC.seq ?_
    refine WC.seq ?_
    refine WC.region ?_
    refine WL.y rfl (Yd.assign rfl) ?_
    refine WL.nil ?_
    refine DN.then_normal ?_
    refine WC.block ?_
    refine WC.loopS (fun z : Nat => z ≤ ks.length ∧ chk (ks.take z)) (fun z : Nat => [(3, .int .i64 (z : Int))]) (fun z : Nat => row b1 [.int .u32 e.toNat, .slice ao ks.length c] 25 :: H) (fun z : Nat => ks.length - z) (0) (show 0 ≤ ks.length ∧ chk (ks.take 0) from ⟨Nat.zero_le _, chk_take0 ks⟩) (Sx.put rfl (sx_)) sp_ ?_
    rintro i hI
    replace hI : i ≤ ks.length ∧ chk (ks.take i) := hI
    obtain ⟨hi, hck⟩ := hI
    change WC _ _ _ _ _ _ ([(3, .int .i64 (i : Int))] ++ _) (row b1 [.int .u32 e.toNat, .slice ao ks.length c] 25 :: H)
    refine WC.seq ?_
    refine WC.seq ?_
    refine WC.region ?_
    refine WL.y rfl (Yd.move rfl) ?_
    refine WL.y rfl (Yd.fieldAddr (k := 1) kr_ rfl) ?_
    refine WL.h rfl (Hd.load1 kr_ rfl mem_ (by rfl) ⟨_, rfl, ?_⟩)
    refine WL.y rfl (Yd.len (e := 43) kr_ rfl) ?_
    refine WL.y rfl (Yd.lss rfl rfl) ?_
    refine WL.nil ?_
    refine DN.then_normal ?_
    refine WC.ite rfl (fun h13 => ?_) (fun h13 => ?_)
    · have hlt : i < ks.length := by omega
      obtain ⟨va, vr, hg, hva, hvr⟩ := hk.at i hlt
      obtain ⟨ao1, ac1, rfl, _⟩ := hva.form
      obtain ⟨ro1, rc1, rfl, _⟩ := hvr.form
      refine WC.skip ?_
      refine DN.then_normal ?_
      refine WC.seq ?_
      refine WC.block ?_
      refine WC.seq ?_
      refine WC.region ?_
      refine WL.y rfl (Yd.fieldAddr (k := 1) kr_ rfl) ?_
      refine WL.h rfl (Hd.load1 kr_ rfl mem_ (by rfl) ⟨_, rfl, ?_⟩)
      refine WL.y rfl (Yd.move rfl) ?_
      refine WL.elemA (e := 43) (s := 6) kr_ kr_ kr_ rfl rfl (rfl) (hr.mono gr_) (hg) (by rfl) (by omega) (hlt) rfl rfl ?_
      intro p19
      refine WL.h rfl (Hd.alloc (zs := [.int .u32 0, .int .i64 0, .bool false, .slice none 0 0, .int .i64 0, .slice none 0 0]) kr_ fun b4 => ⟨_, rfl, ?_⟩)
      refine WL.s (Hd.storeAll (n := 6) kr_ rfl rfl (by rfl) (kc_one rfl rfl) fr_ (by rfl) ⟨rfl, ?_⟩)
      refine WL.nil ?_
      refine DN.then_normal ?_
      refine WC.seq ?_
      refine WC.cutK (fun z : Bool => z = !decide (rightP ks[i])) (fun z : Bool => [(55, .bool z)]) (fun z : Bool => row b4 (kc ks[i] (.slice ao1 ks[i].asked.length ac1) (.slice ro1 ks[i].reply.length rc1)) 43 :: (row b1 [.int .u32 e.toNat, .slice ao ks.length c] 25 :: H)) ?_ ?_
      · refine WC.region ?_
        refine WL.y rfl (Yd.fieldAddr (k := 0) kr_ rfl) ?_
        refine WL.h rfl (Hd.load1 kr_ rfl mem_ (by rfl) ⟨_, rfl, ?_⟩)
        refine WL.y rfl (Yd.lss rfl rfl) ?_
        refine WL.y rfl (Yd.move rfl) ?_
        refine WL.partP (t := 24) rfl (fun hg24 => ?_) (fun hg24 => ?_)
        · refine WL.gn (dj := 24) rfl rfl rfl rfl ?_
          refine WL.gn (dj := 24) rfl rfl rfl rfl ?_
          refine WL.gn (dj := 24) rfl rfl rfl rfl ?_
          refine WL.y rfl (Yd.pickT rfl rfl) ?_
          refine WL.y rfl (Yd.move rfl) ?_
          refine WL.gn (dj := 29) rfl rfl rfl rfl ?_
          refine WL.gn (dj := 29) rfl rfl rfl rfl ?_
          refine WL.gn (dj := 29) rfl rfl rfl rfl ?_
          refine WL.y rfl (Yd.pickT rfl rfl) ?_
          refine WL.y rfl (Yd.move rfl) ?_
          refine WL.gn (dj := 34) rfl rfl rfl rfl ?_
          refine WL.gn (dj := 34) rfl rfl rfl rfl ?_
          refine WL.gn (dj := 34) rfl rfl rfl rfl ?_
          refine WL.gn (dj := 34) rfl rfl rfl rfl ?_
          refine WL.y rfl (Yd.pickT rfl rfl) ?_
          refine WL.y rfl (Yd.move rfl) ?_
          refine WL.gn (dj := 40) rfl rfl rfl rfl ?_
          refine WL.gn (dj := 40) rfl rfl rfl rfl ?_
          refine WL.gn (dj := 40) rfl rfl rfl rfl ?_
          refine WL.gn (dj := 40) rfl rfl rfl rfl ?_
          refine WL.y rfl (Yd.pickT rfl rfl) ?_
          refine WL.y rfl (Yd.move rfl) ?_
          refine WL.gn (dj := 46) rfl rfl rfl rfl ?_
          refine WL.gn (dj := 46) rfl rfl rfl rfl ?_
          refine WL.gn (dj := 46) rfl rfl rfl rfl ?_
          refine WL.y rfl (Yd.pickT rfl rfl) ?_
          refine WL.y rfl (Yd.move rfl) ?_
          refine WL.gn (dj := 51) rfl rfl rfl rfl ?_
          refine WL.gn (dj := 51) rfl rfl rfl rfl ?_
          refine WL.gn (dj := 51) rfl rfl rfl rfl ?_
          refine WL.y rfl (Yd.pickT rfl rfl) ?_
          refine WL.nil ?_
          exact DN.reachK (_) (right_z (by unfold rightP; simp only [decide_eq_true_eq, eq_self, true_iff, Bool.false_eq_true, false_iff]; omega)) (Sx.put rfl (sx_)) (Sp.all sp_)
        · refine WL.gy (dj := 24) rfl rfl rfl (Yd.fieldAddr (k := 1) kr_ rfl) ?_
          refine WL.gh (dj := 24) rfl rfl rfl (Hd.load1 kr_ rfl mem_ (by rfl) ⟨_, rfl, ?_⟩)
          refine WL.gy (dj := 24) rfl rfl rfl (Yd.lss rfl rfl) ?_
          refine WL.y rfl (Yd.pickF rfl rfl) ?_
          refine WL.y rfl (Yd.move rfl) ?_
          refine WL.partP (t := 29) rfl (fun hg29 => ?_) (fun hg29 => ?_)
          · refine WL.gn (dj := 29) rfl rfl rfl rfl ?_
            refine WL.gn (dj := 29) rfl rfl rfl rfl ?_
            refine WL.gn (dj := 29) rfl rfl rfl rfl ?_
            refine WL.y rfl (Yd.pickT rfl rfl) ?_
            refine WL.y rfl (Yd.move rfl) ?_
            refine WL.gn (dj := 34) rfl rfl rfl rfl ?_
            refine WL.gn (dj := 34) rfl rfl rfl rfl ?_
            refine WL.gn (dj := 34) rfl rfl rfl rfl ?_
            refine WL.gn (dj := 34) rfl rfl rfl rfl ?_
            refine WL.y rfl (Yd.pickT rfl rfl) ?_
            refine WL.y rfl (Yd.move rfl) ?_
            refine WL.gn (dj := 40) rfl rfl rfl rfl ?_
            refine WL.gn (dj := 40) rfl rfl rfl rfl ?_
            refine WL.gn (dj := 40) rfl rfl rfl rfl ?_
            refine WL.gn (dj := 40) rfl rfl rfl rfl ?_
            refine WL.y rfl (Yd.pickT rfl rfl) ?_
            refine WL.y rfl (Yd.move rfl) ?_
            refine WL.gn (dj := 46) rfl rfl rfl rfl ?_
            refine WL.gn (dj := 46) rfl rfl rfl rfl ?_
            refine WL.gn (dj := 46) rfl rfl rfl rfl ?_
            refine WL.y rfl (Yd.pickT rfl rfl) ?_
            refine WL.y rfl (Yd.move rfl) ?_
            refine WL.gn (dj := 51) rfl rfl rfl rfl ?_
            refine WL.gn (dj := 51) rfl rfl rfl rfl ?_
            refine WL.gn (dj := 51) rfl rfl rfl rfl ?_
            refine WL.y rfl (Yd.pickT rfl rfl) ?_
            refine WL.nil ?_
            exact DN.reachK (_) (right_z (by unfold rightP; simp only [decide_eq_true_eq, eq_self, true_iff, Bool.false_eq_true, false_iff]; omega)) (Sx.put rfl (sx_)) (Sp.all sp_)
          · refine WL.gy (dj := 29) rfl rfl rfl (Yd.fieldAddr (k := 1) kr_ rfl) ?_
            refine WL.gh (dj := 29) rfl rfl rfl (Hd.load1 kr_ rfl mem_ (by rfl) ⟨_, rfl, ?_⟩)
            refine WL.gy (dj := 29) rfl rfl rfl (Yd.gtr rfl rfl) ?_
            refine WL.y rfl (Yd.pickF rfl rfl) ?_
            refine WL.y rfl (Yd.move rfl) ?_
            refine WL.partP (t := 34) rfl (fun hg34 => ?_) (fun hg34 => ?_)
            · refine WL.gn (dj := 34) rfl rfl rfl rfl ?_
              refine WL.gn (dj := 34) rfl rfl rfl rfl ?_
              refine WL.gn (dj := 34) rfl rfl rfl rfl ?_
              refine WL.gn (dj := 34) rfl rfl rfl rfl ?_
              refine WL.y rfl (Yd.pickT rfl rfl) ?_
              refine WL.y rfl (Yd.move rfl) ?_
              refine WL.gn (dj := 40) rfl rfl rfl rfl ?_
              refine WL.gn (dj := 40) rfl rfl rfl rfl ?_
              refine WL.gn (dj := 40) rfl rfl rfl rfl ?_
              refine WL.gn (dj := 40) rfl rfl rfl rfl ?_
              refine WL.y rfl (Yd.pickT rfl rfl) ?_
              refine WL.y rfl (Yd.move rfl) ?_
              refine WL.gn (dj := 46) rfl rfl rfl rfl ?_
              refine WL.gn (dj := 46) rfl rfl rfl rfl ?_
              refine WL.gn (dj := 46) rfl rfl rfl rfl ?_
              refine WL.y rfl (Yd.pickT rfl rfl) ?_
              refine WL.y rfl (Yd.move rfl) ?_
              refine WL.gn (dj := 51) rfl rfl rfl rfl ?_
              refine WL.gn (dj := 51) rfl rfl rfl rfl ?_
              refine WL.gn (dj := 51) rfl rfl rfl rfl ?_
              refine WL.y rfl (Yd.pickT rfl rfl) ?_
              refine WL.nil ?_
              exact DN.reachK (_) (right_z (by unfold rightP; simp only [decide_eq_true_eq, eq_self, true_iff, Bool.false_eq_true, false_iff]; omega)) (Sx.put rfl (sx_)) (Sp.all sp_)
            · refine WL.gy (dj := 34) rfl rfl rfl (Yd.fieldAddr (k := 3) kr_ rfl) ?_
              refine WL.gh (dj := 34) rfl rfl rfl (Hd.load1 kr_ rfl mem_ (by rfl) ⟨_, rfl, ?_⟩)
              refine WL.gy (dj := 34) rfl rfl rfl (Yd.len (e := 5) kr_ rfl) ?_
              refine WL.gy (dj := 34) rfl rfl rfl (Yd.gtr rfl rfl) ?_
              refine WL.y rfl (Yd.pickF rfl rfl) ?_
              refine WL.y rfl (Yd.move rfl) ?_
              refine WL.partP (t := 40) rfl (fun hg40 => ?_) (fun hg40 => ?_)
              · refine WL.gn (dj := 40) rfl rfl rfl rfl ?_
                refine WL.gn (dj := 40) rfl rfl rfl rfl ?_
                refine WL.gn (dj := 40) rfl rfl rfl rfl ?_
                refine WL.gn (dj := 40) rfl rfl rfl rfl ?_
                refine WL.y rfl (Yd.pickT rfl rfl) ?_
                refine WL.y rfl (Yd.move rfl) ?_
                refine WL.gn (dj := 46) rfl rfl rfl rfl ?_
                refine WL.gn (dj := 46) rfl rfl rfl rfl ?_
                refine WL.gn (dj := 46) rfl rfl rfl rfl ?_
                refine WL.y rfl (Yd.pickT rfl rfl) ?_
                refine WL.y rfl (Yd.move rfl) ?_
                refine WL.gn (dj := 51) rfl rfl rfl rfl ?_
                refine WL.gn (dj := 51) rfl rfl rfl rfl ?_
                refine WL.gn (dj := 51) rfl rfl rfl rfl ?_
                refine WL.y rfl (Yd.pickT rfl rfl) ?_
                refine WL.nil ?_
                exact DN.reachK (_) (right_z (by unfold rightP; simp only [decide_eq_true_eq, eq_self, true_iff, Bool.false_eq_true, false_iff]; omega)) (Sx.put rfl (sx_)) (Sp.all sp_)
              · refine WL.gy (dj := 40) rfl rfl rfl (Yd.fieldAddr (k := 5) kr_ rfl) ?_
                refine WL.gh (dj := 40) rfl rfl rfl (Hd.load1 kr_ rfl mem_ (by rfl) ⟨_, rfl, ?_⟩)
                refine WL.gy (dj := 40) rfl rfl rfl (Yd.len (e := 5) kr_ rfl) ?_
                refine WL.gy (dj := 40) rfl rfl rfl (Yd.gtr rfl rfl) ?_
                refine WL.y rfl (Yd.pickF rfl rfl) ?_
                refine WL.y rfl (Yd.move rfl) ?_
                refine WL.partP (t := 46) rfl (fun hg46 => ?_) (fun hg46 => ?_)
                · refine WL.gn (dj := 46) rfl rfl rfl rfl ?_
                  refine WL.gn (dj := 46) rfl rfl rfl rfl ?_
                  refine WL.gn (dj := 46) rfl rfl rfl rfl ?_
                  refine WL.y rfl (Yd.pickT rfl rfl) ?_
                  refine WL.y rfl (Yd.move rfl) ?_
                  refine WL.gn (dj := 51) rfl rfl rfl rfl ?_
                  refine WL.gn (dj := 51) rfl rfl rfl rfl ?_
                  refine WL.gn (dj := 51) rfl rfl rfl rfl ?_
                  refine WL.y rfl (Yd.pickT rfl rfl) ?_
                  refine WL.nil ?_
                  exact DN.reachK (_) (right_z (by unfold rightP; simp only [decide_eq_true_eq, eq_self, true_iff, Bool.false_eq_true, false_iff]; omega)) (Sx.put rfl (sx_)) (Sp.all sp_)
                · refine WL.gy (dj := 46) rfl rfl rfl (Yd.fieldAddr (k := 4) kr_ rfl) ?_
                  refine WL.gh (dj := 46) rfl rfl rfl (Hd.load1 kr_ rfl mem_ (by rfl) ⟨_, rfl, ?_⟩)
                  refine WL.gy (dj := 46) rfl rfl rfl (Yd.lss rfl rfl) ?_
                  refine WL.y rfl (Yd.pickF rfl rfl) ?_
                  refine WL.y rfl (Yd.move rfl) ?_
                  refine WL.partP (t := 51) rfl (fun hg51 => ?_) (fun hg51 => ?_)
                  · refine WL.gn (dj := 51) rfl rfl rfl rfl ?_
                    refine WL.gn (dj := 51) rfl rfl rfl rfl ?_
                    refine WL.gn (dj := 51) rfl rfl rfl rfl ?_
                    refine WL.y rfl (Yd.pickT rfl rfl) ?_
                    refine WL.nil ?_
                    exact DN.reachK (_) (right_z (by unfold rightP; simp only [decide_eq_true_eq, eq_self, true_iff, Bool.false_eq_true, false_iff]; omega)) (Sx.put rfl (sx_)) (Sp.all sp_)
                  · refine WL.gy (dj := 51) rfl rfl rfl (Yd.fieldAddr (k := 4) kr_ rfl) ?_
                    refine WL.gh (dj := 51) rfl rfl rfl (Hd.load1 kr_ rfl mem_ (by rfl) ⟨_, rfl, ?_⟩)
                    refine WL.gy (dj := 51) rfl rfl rfl (Yd.gtr rfl rfl) ?_
                    refine WL.y rfl (Yd.pickF rfl rfl) ?_
                    refine WL.nil ?_
                    exact DN.reachK (_) (right_z (by unfold rightP; simp only [decide_eq_true_eq, eq_self, true_iff, Bool.false_eq_true, false_iff]; omega)) (Sx.put rfl (sx_)) (Sp.all sp_)
      · intro z55 hz55
        refine WC.cond rfl (fun h55 => ?_) (fun h55 => ?_)
        · have hbad : ¬ chk ks := fun h => by have := chk_right h hlt; rw [hz55] at h55; simp [this] at h55
          refine WC.seq ?_
          refine WC.region ?_
          refine WL.y rfl (Yd.assign rfl) ?_
          refine WL.nil ?_
          refine DN.then_normal ?_
          refine WC.ret ?_
          refine DN.then_ret ?_
          refine DN.block_ret ?_
          refine DN.then_ret ?_
          refine DN.then_ret ?_
          refine DN.block_ret ?_
          refine DN.then_ret ?_
          refine DN.fit (C := H) sp_ ?_
          refine DN.ret1 Try.results31 rfl ?_
          first
            | exact ⟨by rw [if_pos hck], rfl⟩
            | exact ⟨by rw [if_neg hbad], rfl⟩
            | exact ⟨by rw [if_neg (fun h9 => by have := h9.1; omega)], rfl⟩
        · have hr1 : rightP ks[i] := by rw [hz55] at h55; simpa using h55
          refine WC.skip ?_
          refine DN.then_normal ?_
          refine WC.cutK (fun z : Bool => (z = true → ¬ chk ks) ∧ (z = true ∨ chk (ks.take (i + 1)))) (fun z : Bool => [(68, .bool z)]) (fun z : Bool => row b4 (kc ks[i] (.slice ao1 ks[i].asked.length ac1) (.slice ro1 ks[i].reply.length rc1)) 43 :: (row b1 [.int .u32 e.toNat, .slice ao ks.length c] 25 :: H)) ?_ ?_
          · refine WC.draw 13 kr_ rfl ?_
            refine WA.float (N := 13) rfl ?_
            refine WAF.add (i := 0) (d := 56) rfl (QF.mk [] [] rfl rfl kr_ rfl (QAt.y Wt.none (Yd.move rfl))) ?_
            refine WAF.add (i := 1) (d := 57) rfl (QF.mk [0] [(56, _)] rfl rfl kr_ rfl (QAt.y Wt.none (Yd.gtr rfl rfl))) ?_
            refine WAF.add (i := 2) (d := 58) rfl (QF.mk [1] [(57, _)] rfl rfl kr_ rfl (QAt.y Wt.none (Yd.move rfl))) ?_
            refine WAF.partP (fun hg58 => ?_) (fun hg58 => ?_)
            · refine WAF.add (i := 3) (d := 59) rfl (QF.mk [2] [(58, _)] rfl rfl kr_ rfl (QAt.y (Wt.yes (dj := 58) rfl rfl) (Yd.fieldAddr (k := 1) kr_ rfl))) ?_
              refine WAF.add (i := 4) (d := 60) rfl (QF.mk [3, 2] [(59, _), (58, _)] rfl rfl kr_ rfl (QAt.rd (Wt.yes (dj := 58) rfl rfl) (Rd.load1 kr_ rfl mem_ (by rfl)))) ?_
              refine WAF.add (i := 5) (d := 61) rfl (QF.mk [2] [(58, _)] rfl rfl kr_ rfl (QAt.y (Wt.yes (dj := 58) rfl rfl) (Yd.move rfl))) ?_
              refine WAF.add (i := 6) (d := 62) rfl (QF.mk [5, 2] [(61, _), (58, _)] rfl rfl kr_ rfl (QAt.y (Wt.yes (dj := 58) rfl rfl) (Yd.sub rfl rfl (by omega) (by omega)))) ?_
              obtain ⟨lb, lf, lcs, lT, lfr, lex, elo, _, hlm, hlcs⟩ := hr.lies (by omega)
              obtain ⟨va0, vr0, hg0, hva0, hvr0⟩ := hk.at (i - 1) (by omega)
              have hr0 : rightP (ks[i - 1]'(by omega)) := hck.2.1 _ (List.mem_take_iff_getElem.2 ⟨i - 1, by omega, rfl⟩)
              refine WAF.add (i := 7) (d := 63) rfl (QF.mk [6, 4, 2] [(62, _), (60, _), (58, _)] rfl rfl kr_ rfl (QAt.y (Wt.yes (dj := 58) rfl rfl) (Yd.indexAddr (e := 43) (s := 6) (b := lb) (o := lf) (n := ks.length) (c := c) kr_ kr_ (congrArg (fun q => some (Value.slice q ks.length c)) elo) rfl (by omega) (by omega)))) ?_
              refine WAF.add (i := 8) (d := 64) rfl (QF.mk [7, 2] [(63, _), (58, _)] rfl rfl kr_ rfl (QAt.rd (Wt.yes (dj := 58) rfl rfl) (Rd.loadA (n := 6) (b := lb) (o := lf + ((i : Int) - 1).toNat * 6) (cs := lcs) (vs := kc (ks[i - 1]'(by omega)) va0 vr0) kr_ rfl (Gr.get gr_ hlm) rfl (by rw [show ((i : Int) - 1).toNat = ((i - 1 : Nat) : Int).toNat by omega]; exact rs_cell hlcs (by rw [hk.len]; omega) hg0)))) ?_
              refine WAF.add (i := 9) (d := 65) rfl (QF.mk [2] [(58, _)] rfl rfl kr_ rfl (QAt.rd (Wt.yes (dj := 58) rfl rfl) (Rd.loadAll (n := 6) kr_ rfl mem_ (by rfl)))) ?_
              refine WAF.add (i := 10) (d := 66) rfl (QF.mk [9, 8, 2] [(65, _), (64, _), (58, _)] rfl rfl kr_ rfl (QAt.rf (Wt.yes (dj := 58) rfl rfl) (Ent.func Try.call44 rfl) (rless_reads (ks[i - 1]'(by omega)) ks[i] va0 vr0 _ _ (IsSl.of hva0).one (IsSl.of hvr0).one rfl rfl _) Sp.sn)) ?_
              refine WAF.add (i := 11) (d := 67) rfl (QF.mk [10, 2] [(66, _), (58, _)] rfl rfl kr_ rfl (QAt.y (Wt.yes (dj := 58) rfl rfl) (Yd.notB rfl))) ?_
              refine WAF.add (i := 12) (d := 68) rfl (QF.mk [11, 2] [(67, _), (58, _)] rfl rfl kr_ rfl (QAt.y Wt.none (Yd.pickT rfl rfl))) ?_
              refine WAF.done (pd := [(12, 68), (11, 67), (10, 66), (9, 65), (8, 64), (7, 63), (6, 62), (5, 61), (4, 60), (3, 59), (2, 58), (1, 57), (0, 56)]) rfl kr_ kr_ (all_c rfl (all_c rfl (all_c rfl (all_c rfl (all_c rfl (all_c rfl (all_c rfl (all_c rfl (all_c rfl (all_c rfl (all_c rfl (all_c rfl (all_c rfl (all_n)))))))))))))) (all_c (QF.mk [11, 2] [(67, _), (58, _)] rfl rfl kr_ rfl (QAt.y Wt.none (Yd.pickT rfl rfl))) (all_c (QF.mk [10, 2] [(66, _), (58, _)] rfl rfl kr_ rfl (QAt.y (Wt.yes (dj := 58) rfl rfl) (Yd.notB rfl))) (all_c (QF.mk [9, 8, 2] [(65, _), (64, _), (58, _)] rfl rfl kr_ rfl (QAt.rf (Wt.yes (dj := 58) rfl rfl) (Ent.func Try.call44 rfl) (rless_reads (ks[i - 1]'(by omega)) ks[i] va0 vr0 _ _ (IsSl.of hva0).one (IsSl.of hvr0).one rfl rfl _) Sp.sn)) (all_c (QF.mk [2] [(58, _)] rfl rfl kr_ rfl (QAt.rd (Wt.yes (dj := 58) rfl rfl) (Rd.loadAll (n := 6) kr_ rfl mem_ (by rfl)))) (all_c (QF.mk [7, 2] [(63, _), (58, _)] rfl rfl kr_ rfl (QAt.rd (Wt.yes (dj := 58) rfl rfl) (Rd.loadA (n := 6) (b := lb) (o := lf + ((i : Int) - 1).toNat * 6) (cs := lcs) (vs := kc (ks[i - 1]'(by omega)) va0 vr0) kr_ rfl (Gr.get gr_ hlm) rfl (by rw [show ((i : Int) - 1).toNat = ((i - 1 : Nat) : Int).toNat by omega]; exact rs_cell hlcs (by rw [hk.len]; omega) hg0)))) (all_c (QF.mk [6, 4, 2] [(62, _), (60, _), (58, _)] rfl rfl kr_ rfl (QAt.y (Wt.yes (dj := 58) rfl rfl) (Yd.indexAddr (e := 43) (s := 6) (b := lb) (o := lf) (n := ks.length) (c := c) kr_ kr_ (congrArg (fun q => some (Value.slice q ks.length c)) elo) rfl (by omega) (by omega)))) (all_c (QF.mk [5, 2] [(61, _), (58, _)] rfl rfl kr_ rfl (QAt.y (Wt.yes (dj := 58) rfl rfl) (Yd.sub rfl rfl (by omega) (by omega)))) (all_c (QF.mk [2] [(58, _)] rfl rfl kr_ rfl (QAt.y (Wt.yes (dj := 58) rfl rfl) (Yd.move rfl))) (all_c (QF.mk [3, 2] [(59, _), (58, _)] rfl rfl kr_ rfl (QAt.rd (Wt.yes (dj := 58) rfl rfl) (Rd.load1 kr_ rfl mem_ (by rfl)))) (all_c (QF.mk [2] [(58, _)] rfl rfl kr_ rfl (QAt.y (Wt.yes (dj := 58) rfl rfl) (Yd.fieldAddr (k := 1) kr_ rfl))) (all_c (QF.ren (congrArg Value.bool (decide_eq_true hg58)) (QF.mk [1] [(57, _)] rfl rfl kr_ rfl (QAt.y Wt.none (Yd.move rfl)))) (all_c (QF.mk [0] [(56, _)] rfl rfl kr_ rfl (QAt.y Wt.none (Yd.gtr rfl rfl))) (all_c (QF.mk [] [] rfl rfl kr_ rfl (QAt.y Wt.none (Yd.move rfl))) (all_n)))))))))))))) ?_
              change DN _ _ _ _ _ _ ([(68, _), (67, _), (66, _), (65, _), (64, _), (63, _), (62, _), (61, _), (60, _), (59, _), (58, _), (57, _), (56, _)] ++ _) _
              exact DN.reachK (_) (⟨fun h => by
                  first
                  | (intro hc9; have h8 := chk_adj hc9 (by omega) hlt; rw [lessK_num hr0 hr1] at h; simp only [Bool.not_eq_true', decide_eq_false_iff_not] at h; omega)
                  | (cases h; done), by
                  first
                  | exact .inr (chk_step hck (by omega) hlt hr1 (.inl (by omega)))
                  | (by_cases h9 : (ks[i - 1]'(by omega)).num < ks[i].num
                     · exact .inr (chk_step hck (by omega) hlt hr1 (.inr h9))
                     · exact .inl (by rw [lessK_num hr0 hr1]; simp only [Bool.not_eq_true', decide_eq_false_iff_not]; omega))⟩) (Sx.put rfl (sx_)) (Sp.all sp_)
            · refine WAF.add (i := 3) (d := 59) rfl (QF.mk [2] [(58, _)] rfl rfl kr_ rfl (QAt.gn rfl rfl rfl)) ?_
              refine WAF.add (i := 4) (d := 60) rfl (QF.mk [3, 2] [(59, _), (58, _)] rfl rfl kr_ rfl (QAt.gn rfl rfl rfl)) ?_
              refine WAF.add (i := 5) (d := 61) rfl (QF.mk [2] [(58, _)] rfl rfl kr_ rfl (QAt.gn rfl rfl rfl)) ?_
              refine WAF.add (i := 6) (d := 62) rfl (QF.mk [5, 2] [(61, _), (58, _)] rfl rfl kr_ rfl (QAt.gn rfl rfl rfl)) ?_
              refine WAF.add (i := 7) (d := 63) rfl (QF.mk [6, 4, 2] [(62, _), (60, _), (58, _)] rfl rfl kr_ rfl (QAt.gn rfl rfl rfl)) ?_
              refine WAF.add (i := 8) (d := 64) rfl (QF.mk [7, 2] [(63, _), (58, _)] rfl rfl kr_ rfl (QAt.gn rfl rfl rfl)) ?_
              refine WAF.add (i := 9) (d := 65) rfl (QF.mk [2] [(58, _)] rfl rfl kr_ rfl (QAt.gn rfl rfl rfl)) ?_
              refine WAF.add (i := 10) (d := 66) rfl (QF.mk [9, 8, 2] [(65, _), (64, _), (58, _)] rfl rfl kr_ rfl (QAt.gn rfl rfl rfl)) ?_
              refine WAF.add (i := 11) (d := 67) rfl (QF.mk [10, 2] [(66, _), (58, _)] rfl rfl kr_ rfl (QAt.gn rfl rfl rfl)) ?_
              refine WAF.add (i := 12) (d := 68) rfl (QF.mk [11, 2] [(67, _), (58, _)] rfl rfl kr_ rfl (QAt.y Wt.none (Yd.pickF rfl rfl))) ?_
              refine WAF.done (pd := [(12, 68), (11, 67), (10, 66), (9, 65), (8, 64), (7, 63), (6, 62), (5, 61), (4, 60), (3, 59), (2, 58), (1, 57), (0, 56)]) rfl kr_ kr_ (all_c rfl (all_c rfl (all_c rfl (all_c rfl (all_c rfl (all_c rfl (all_c rfl (all_c rfl (all_c rfl (all_c rfl (all_c rfl (all_c rfl (all_c rfl (all_n)))))))))))))) (all_c (QF.mk [11, 2] [(67, _), (58, _)] rfl rfl kr_ rfl (QAt.y Wt.none (Yd.pickF rfl rfl))) (all_c (QF.mk [10, 2] [(66, _), (58, _)] rfl rfl kr_ rfl (QAt.gn rfl rfl rfl)) (all_c (QF.mk [9, 8, 2] [(65, _), (64, _), (58, _)] rfl rfl kr_ rfl (QAt.gn rfl rfl rfl)) (all_c (QF.mk [2] [(58, _)] rfl rfl kr_ rfl (QAt.gn rfl rfl rfl)) (all_c (QF.mk [7, 2] [(63, _), (58, _)] rfl rfl kr_ rfl (QAt.gn rfl rfl rfl)) (all_c (QF.mk [6, 4, 2] [(62, _), (60, _), (58, _)] rfl rfl kr_ rfl (QAt.gn rfl rfl rfl)) (all_c (QF.mk [5, 2] [(61, _), (58, _)] rfl rfl kr_ rfl (QAt.gn rfl rfl rfl)) (all_c (QF.mk [2] [(58, _)] rfl rfl kr_ rfl (QAt.gn rfl rfl rfl)) (all_c (QF.mk [3, 2] [(59, _), (58, _)] rfl rfl kr_ rfl (QAt.gn rfl rfl rfl)) (all_c (QF.mk [2] [(58, _)] rfl rfl kr_ rfl (QAt.gn rfl rfl rfl)) (all_c (QF.ren (congrArg Value.bool (decide_eq_false hg58)) (QF.mk [1] [(57, _)] rfl rfl kr_ rfl (QAt.y Wt.none (Yd.move rfl)))) (all_c (QF.mk [0] [(56, _)] rfl rfl kr_ rfl (QAt.y Wt.none (Yd.gtr rfl rfl))) (all_c (QF.mk [] [] rfl rfl kr_ rfl (QAt.y Wt.none (Yd.move rfl))) (all_n)))))))))))))) ?_
              change DN _ _ _ _ _ _ ([(68, _), (67, _), (66, _), (65, _), (64, _), (63, _), (62, _), (61, _), (60, _), (59, _), (58, _), (57, _), (56, _)] ++ _) _
              exact DN.reachK (_) (⟨fun h => by
                  first
                  | (intro hc9; have h8 := chk_adj hc9 (by omega) hlt; rw [lessK_num hr0 hr1] at h; simp only [Bool.not_eq_true', decide_eq_false_iff_not] at h; omega)
                  | (cases h; done), by
                  first
                  | exact .inr (chk_step hck (by omega) hlt hr1 (.inl (by omega)))
                  | (by_cases h9 : (ks[i - 1]'(by omega)).num < ks[i].num
                     · exact .inr (chk_step hck (by omega) hlt hr1 (.inr h9))
                     · exact .inl (by rw [lessK_num hr0 hr1]; simp only [Bool.not_eq_true', decide_eq_false_iff_not]; omega))⟩) (Sx.put rfl (sx_)) (Sp.all sp_)
          · intro z68 hz68
            refine WC.cond rfl (fun h68 => ?_) (fun h68 => ?_)
            · have hbad : ¬ chk ks := hz68.1 h68
              refine WC.seq ?_
              refine WC.region ?_
              refine WL.y rfl (Yd.assign rfl) ?_
              refine WL.nil ?_
              refine DN.then_normal ?_
              refine WC.ret ?_
              refine DN.block_ret ?_
              refine DN.then_ret ?_
              refine DN.then_ret ?_
              refine DN.block_ret ?_
              refine DN.then_ret ?_
              refine DN.fit (C := H) sp_ ?_
              refine DN.ret1 Try.results31 rfl ?_
              first
                | exact ⟨by rw [if_pos hck], rfl⟩
                | exact ⟨by rw [if_neg hbad], rfl⟩
                | exact ⟨by rw [if_neg (fun h9 => by have := h9.1; omega)], rfl⟩
            · have hnext : chk (ks.take (i + 1)) := by
                rcases hz68.2 with h | h
                · rw [h] at h68; cases h68
                · exact h
              refine WC.skip ?_
              refine DN.block_normal ?_
              refine DN.then_normal ?_
              refine WC.region ?_
              refine WL.y rfl (Yd.move rfl) ?_
              refine WL.y rfl (Yd.add rfl rfl (by omega) (by omega)) ?_
              refine WL.y rfl (Yd.assign rfl) ?_
              refine WL.nil ?_
              exact DN.againS (i + 1) (show (i + 1) ≤ ks.length ∧ chk (ks.take (i + 1)) from ⟨by omega, hnext⟩) (show ks.length - (i + 1) < ks.length - i by omega) (Sx.put rfl (sx_)) sp_
    · obtain rfl : i = ks.length := by omega
      rw [List.take_length] at hck
      refine WC.exit ?_
      refine DN.then_exit ?_
      refine DN.then_exit ?_
      refine DN.block_exit ?_
      refine DN.then_normal ?_
      refine WC.seq ?_
      refine WC.region ?_
      refine WL.y rfl (Yd.assign rfl) ?_
      refine WL.nil ?_
      refine DN.then_normal ?_
      refine WC.ret ?_
      refine DN.fit (C := H) sp_ ?_
      refine DN.ret1 Try.results31 rfl ?_
      first
        | exact ⟨by rw [if_pos hck], rfl⟩
        | exact ⟨by rw [if_neg hbad], rfl⟩
        | exact ⟨by rw [if_neg (fun h9 => by have := h9.1; omega)], rfl⟩

end Go.Proofs.Ytonnkgblligdkaa
