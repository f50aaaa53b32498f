/-
  FenceSaves: any fence has the bytes that the chapter says, any bytes are the fence that it says.
-/
import Derived.Test.YtonnkgblligdkaaFLaw1
import Derived.Test.YtonnkgblligdkaaFPut
import Derived.Test.YtonnkgblligdkaaFRef4
set_option linter.unusedVariables false
set_option linter.unusedSimpArgs false
set_option maxHeartbeats 8000000
namespace Go.Proofs.Ytonnkgblligdkaa
open Go.SL


/-- drayage/drayagelaw08.FenceSaves -/
theorem law_FenceSaves (e : BitVec 32) (v : Value) (ks : List Kp) (H : List Ck) (hv : KV v ks H) (hl : ks.length ≤ maxLen) (vb : Value) (b : List (BitVec 8)) (hvb : Bs vb b H) (hlb : b.length ≤ maxLen) : Reads Try.prog 10 [.agg #[.int .u32 e.toNat, v], vb] H (.bool true) := by
  refine Tells.enter Try.func10 rfl Try.ntmps10 rfl ?_
  intro w0 R
  obtain ⟨ao, c, rfl, hc⟩ := hv.form
  obtain ⟨bo, bc9, rfl, hbc⟩ := hvb.form
  have hfl := getF_len b
  refine WC.seq ?_
  refine WC.region ?_
  refine WL.h rfl (Hd.boxA rfl fun b2 => ⟨_, rfl, ?_⟩)
  refine WL.y rfl (Yd.assign rfl) ?_
  refine WL.nil ?_
  refine DN.then_normal ?_
  refine WC.seq ?_
  refine WC.seq ?_
  refine WC.region ?_
  refine WL.h rfl (Hd.loadAll (n := 2) kr_ rfl mem_ (by rfl) ⟨_, rfl, ?_⟩)
  refine WL.y rfl (Yd.buildL (pl := [(0, 1), (1, 1), (2, 1), (3, 1), (4, 1), (5, 1), (6, 1), (7, 1), (8, 1), (9, 1), (10, 1)]) (zs := [.int .i64 0, .int .u32 0, .int .u32 0, .int .u64 0, .int .u64 0, .int .u32 0, .int .i64 0, .bool false, .int .i64 0, .slice none 0 0, .slice none 0 0]) (parts := []) (vs := []) (cells := [.int .i64 0, .int .u32 0, .int .u32 0, .int .u64 0, .int .u64 0, .int .u32 0, .int .i64 0, .bool false, .int .i64 0, .slice none 0 0, .slice none 0 0]) kr_ kr_ rfl rfl) ?_
  refine WL.c rfl (Ent.func Try.call11 rfl) (many_tells e _ ks H hv hl (⟨0, 0#32, 0#32, 0#64, 0#64, 0#32, 0, false, 0, [], []⟩ : Nt) (.slice none 0 0) (.slice none 0 0) (Bs_nil _) (Bs_nil _) (Nat.zero_le _)) (Sp.p sp_) ?_
  rintro x H9 ⟨b25, rfl, hfew, hH9⟩
  rw [hH9]
  clear hH9 H9
  refine WL.y rfl (Yd.move rfl) ?_
  refine WL.part (t := 22) rfl (fun hg22 => ?_) (fun hg22 => ?_)
  · refine WL.gn (dj := 22) rfl rfl rfl rfl ?_
    refine WL.gn (dj := 22) rfl rfl rfl rfl ?_
    refine WL.gn (dj := 22) rfl rfl rfl rfl ?_
    refine WL.y rfl (Yd.pickT rfl rfl) ?_
    refine WL.nil ?_
    refine DN.then_normal ?_
    refine WC.yes rfl ?_
    refine WC.seq ?_
    refine WC.region ?_
    refine WL.rf rfl (Ent.func Try.call12 rfl) (known_reads) sp_ ?_
    refine WL.y rfl (Yd.assign rfl) ?_
    refine WL.nil ?_
    refine DN.then_normal ?_
    refine WC.ret ?_
    refine DN.then_ret ?_
    refine DN.fit (C := H) sp_ ?_
    refine DN.ret1 Try.results10 rfl ?_
    exact ⟨rfl, rfl⟩
  · refine WL.gy (dj := 22) rfl rfl rfl (Yd.move rfl) ?_
    refine WL.gy (dj := 22) rfl rfl rfl (Yd.len (e := 5) kr_ rfl) ?_
    refine WL.gy (dj := 22) rfl rfl rfl (Yd.gtr rfl rfl) ?_
    refine WL.y rfl (Yd.pickF rfl rfl) ?_
    refine WL.nil ?_
    refine DN.then_normal ?_
    first | refine WC.ite rfl (fun h26 => ?_) (fun h26 => ?_)
    · refine WC.seq ?_
      refine WC.region ?_
      refine WL.rf rfl (Ent.func Try.call12 rfl) (known_reads) sp_ ?_
      refine WL.y rfl (Yd.assign rfl) ?_
      refine WL.nil ?_
      refine DN.then_normal ?_
      refine WC.ret ?_
      refine DN.then_ret ?_
      refine DN.fit (C := H) sp_ ?_
      refine DN.ret1 Try.results10 rfl ?_
      exact ⟨rfl, rfl⟩
    · obtain ⟨hl3, hb3, hd3⟩ := hfew hg22
      have hl1 : ks.length ≤ 1000 := by omega
      have hb1 : b.length ≤ 60000 := by omega
      refine WC.skip ?_
      refine DN.then_normal ?_
      refine WC.seq ?_
      refine WC.region ?_
      refine WL.y rfl (Yd.move rfl) ?_
      refine WL.c rfl (Ent.func Try.call14 rfl) (lent_spec _ b H hvb (by omega)) (Sp.p sp_) ?_
      rintro x H9 ⟨xo, xc, CX, rfl, hCX, rfl⟩
      refine WL.y rfl (Yd.assign rfl) ?_
      refine WL.nil ?_
      refine DN.then_normal ?_
      refine WC.seq ?_
      refine WC.region ?_
      refine WL.h rfl (Hd.loadAll (n := 2) kr_ rfl mem_ (by rfl) ⟨_, rfl, ?_⟩)
      refine WL.c rfl (Ent.func Try.call32 rfl) (fput_tells e _ ks H hv (by omega)) (Sp.p sp_) ?_
      rintro x H9 ⟨w1, A1, rfl, hA1, rfl⟩
      obtain ⟨o1, c1, rfl, _⟩ := hA1.form
      refine WL.y rfl (Yd.move rfl) ?_
      refine WL.y rfl (Yd.extract rfl rfl) ?_
      refine WL.y rfl (Yd.extract rfl rfl) ?_
      refine WL.y rfl (Yd.assign rfl) ?_
      refine WL.y rfl (Yd.assign rfl) ?_
      refine WL.nil ?_
      refine DN.then_normal ?_
      refine WC.seq ?_
      refine WC.region ?_
      refine WL.h rfl (Hd.loadAll (n := 2) kr_ rfl mem_ (by rfl) ⟨_, rfl, ?_⟩)
      refine WL.c rfl (Ent.func Try.call33 rfl) (rfput_tells e _ ks H hv hl1) (Sp.p sp_) ?_
      rintro x H9 ⟨w2, A2, rfl, hA2, rfl⟩
      obtain ⟨o2, c2, rfl, _⟩ := hA2.form
      refine WL.y rfl (Yd.move rfl) ?_
      refine WL.y rfl (Yd.extract rfl rfl) ?_
      refine WL.y rfl (Yd.extract rfl rfl) ?_
      refine WL.y rfl (Yd.assign rfl) ?_
      refine WL.y rfl (Yd.assign rfl) ?_
      refine WL.nil ?_
      refine DN.then_normal ?_
      refine WC.seq ?_
      refine WC.region ?_
      refine WL.y rfl (Yd.move rfl) ?_
      refine WL.c rfl (Ent.func Try.call34 rfl) (fget_tells _ b CX (lent_bs hCX (by omega)) (by omega)) (Sp.p sp_) ?_
      rintro x H9 ⟨w3, D3, rfl, hF3, rfl⟩
      obtain ⟨o3, c3, rfl⟩ := hF3.form
      refine WL.y rfl (Yd.move rfl) ?_
      refine WL.y rfl (Yd.extract rfl rfl) ?_
      refine WL.y rfl (Yd.extract rfl rfl) ?_
      refine WL.h rfl (Hd.alloc (zs := [.int .u32 0, .slice none 0 0]) kr_ fun b10 => ⟨_, rfl, ?_⟩)
      refine WL.s (Hd.storeAll (n := 2) kr_ rfl rfl (by rfl) one_ fr_ (by rfl) ⟨rfl, ?_⟩)
      refine WL.y rfl (Yd.assign rfl) ?_
      refine WL.nil ?_
      refine DN.then_normal ?_
      refine WC.seq ?_
      refine WC.region ?_
      refine WL.y rfl (Yd.move rfl) ?_
      refine WL.c rfl (Ent.func Try.call35 rfl) (rfget_tells _ b H hvb (by omega)) (Sp.p sp_) ?_
      rintro x H9 ⟨w4, D4, rfl, hK4, rfl⟩
      rw [rgetF_eq] at hK4 ⊢
      obtain ⟨o4, c4, rfl, _⟩ := hK4.form
      refine WL.y rfl (Yd.move rfl) ?_
      refine WL.y rfl (Yd.extract rfl rfl) ?_
      refine WL.y rfl (Yd.extract rfl rfl) ?_
      refine WL.h rfl (Hd.alloc (zs := [.int .u32 0, .slice none 0 0]) kr_ fun b12 => ⟨_, rfl, ?_⟩)
      refine WL.s (Hd.storeAll (n := 2) kr_ rfl rfl (by rfl) one_ fr_ (by rfl) ⟨rfl, ?_⟩)
      refine WL.y rfl (Yd.assign rfl) ?_
      refine WL.nil ?_
      refine DN.then_normal ?_
      refine WC.seq ?_
      refine WC.region ?_
      refine WL.y rfl (Yd.move rfl) ?_
      refine WL.y rfl (Yd.move rfl) ?_
      refine WL.r rfl (Ent.func Try.call17 rfl) (whole_reads xo xc _ b _ (hCX.bs.mono gr_) (hvb.mono gr_) (by omega)) ?_
      refine WL.renamed (t := 52) (v := .bool true) rfl (congrArg Value.bool (rfl)) ?_
      refine WL.y rfl (Yd.assign rfl) ?_
      refine WL.nil ?_
      refine DN.then_normal ?_
      refine WC.seq ?_
      refine WC.region ?_
      refine WL.y rfl (Yd.move rfl) ?_
      refine WL.c rfl (Ent.func Try.call18 rfl) (spoil_tells xo xc b.length 2 _ CX hCX (by simp) (by omega)) (Sp.p sp_) ?_
      intro x H9 hH9
      subst hH9
      rw [List.nil_append]
      refine WL.nil ?_
      refine DN.then_normal ?_
      refine WC.seq ?_
      refine WC.seq ?_
      refine WC.region ?_
      refine WL.y rfl (Yd.move rfl) ?_
      refine WL.y rfl (Yd.move rfl) ?_
      refine WL.r rfl (Ent.func Try.call36 rfl) (same_reads _ _ (if chk ks then putB e ks else []) (if chk ks then putB e ks else []) _ (hA1.bs.mono gr_) (hA2.bs.mono gr_)) ?_
      refine WL.renamed (t := 57) (v := .bool true) rfl (congrArg Value.bool (decide_eq_true rfl)) ?_
      refine WL.y rfl (Yd.notB rfl) ?_
      refine WL.y rfl (Yd.move rfl) ?_
      refine WL.gy (dj := 59) rfl rfl rfl (Yd.move rfl) ?_
      refine WL.gy (dj := 59) rfl rfl rfl (Yd.move rfl) ?_
      refine WL.gy (dj := 59) rfl rfl rfl (Yd.neq rfl rfl) ?_
      refine WL.renamed (t := 62) (v := .bool false) rfl (congrArg Value.bool (decide_eq_false (fun h => h rfl))) ?_
      refine WL.y rfl (Yd.pickF rfl rfl) ?_
      refine WL.y rfl (Yd.move rfl) ?_
      refine WL.gh (dj := 64) rfl rfl rfl (Hd.loadAll (n := 2) kr_ rfl mem_ (by rfl) ⟨_, rfl, ?_⟩)
      refine WL.gh (dj := 64) rfl rfl rfl (Hd.loadAll (n := 2) kr_ rfl mem_ (by rfl) ⟨_, rfl, ?_⟩)
      refine WL.gr (dj := 64) rfl rfl rfl (Ent.func Try.call19 rfl) (rsame_reads _ _ _ _ (getF b).2.1 (getF b).2.1 _ (hF3.kv.mono gr_) (hK4.mono (Gr.both gr_ gr_)) (by omega)) ?_
      refine WL.renamed (t := 67) (v := .bool true) rfl (congrArg Value.bool (decide_eq_true ⟨rfl, rfl⟩)) ?_
      refine WL.gy (dj := 64) rfl rfl rfl (Yd.notB rfl) ?_
      refine WL.y rfl (Yd.pickF rfl rfl) ?_
      refine WL.y rfl (Yd.move rfl) ?_
      refine WL.gy (dj := 70) rfl rfl rfl (Yd.move rfl) ?_
      refine WL.gy (dj := 70) rfl rfl rfl (Yd.move rfl) ?_
      refine WL.gy (dj := 70) rfl rfl rfl (Yd.neq rfl rfl) ?_
      refine WL.renamed (t := 73) (v := .bool false) rfl (congrArg Value.bool (decide_eq_false (fun h => h rfl))) ?_
      refine WL.y rfl (Yd.pickF rfl rfl) ?_
      refine WL.y rfl (Yd.move rfl) ?_
      refine WL.gy (dj := 75) rfl rfl rfl (Yd.move rfl) ?_
      refine WL.gy (dj := 75) rfl rfl rfl (Yd.notB rfl) ?_
      refine WL.y rfl (Yd.pickF rfl rfl) ?_
      refine WL.nil ?_
      refine DN.then_normal ?_
      refine WC.no rfl ?_
      refine WC.skip ?_
      refine DN.then_normal ?_
      refine WC.seq ?_
      refine WC.seq ?_
      refine WC.region ?_
      refine WL.y rfl (Yd.move rfl) ?_
      refine WL.y rfl (Yd.eql rfl rfl) ?_
      refine WL.nil ?_
      refine DN.then_normal ?_
      refine WC.ite rfl (fun h80 => ?_) (fun h80 => ?_)
      · have hck : chk ks := Classical.byContradiction fun h => by rw [if_neg h] at h80; exact absurd h80 (by decide)
        have hpl : (if chk ks then putB e ks else []).length ≤ 900000 := by
          rw [if_pos hck, ← putTo_all]
          have := putTo_len (e := e) hck ks.length
          have := hck.1
          omega
        refine WC.seq ?_
        refine WC.region ?_
        refine WL.y rfl (Yd.move rfl) ?_
        refine WL.c rfl (Ent.func Try.call34 rfl) (fget_tells _ (if chk ks then putB e ks else []) A1 hA1.bs hpl) (Sp.p sp_) ?_
        rintro x H9 ⟨w5, D5, rfl, hF5, rfl⟩
        rw [if_pos hck, getF_put hck] at hF5 ⊢
        obtain ⟨o5, c5, rfl⟩ := hF5.form
        refine WL.y rfl (Yd.move rfl) ?_
        refine WL.y rfl (Yd.extract rfl rfl) ?_
        refine WL.y rfl (Yd.extract rfl rfl) ?_
        refine WL.h rfl (Hd.alloc (zs := [.int .u32 0, .slice none 0 0]) kr_ fun b15 => ⟨_, rfl, ?_⟩)
        refine WL.s (Hd.storeAll (n := 2) kr_ rfl rfl (by rfl) one_ fr_ (by rfl) ⟨rfl, ?_⟩)
        refine WL.y rfl (Yd.assign rfl) ?_
        refine WL.nil ?_
        refine DN.then_normal ?_
        refine WC.seq ?_
        refine WC.region ?_
        refine WL.y rfl (Yd.move rfl) ?_
        refine WL.y rfl (Yd.neq rfl rfl) ?_
        refine WL.renamed (t := 87) (v := .bool false) rfl (congrArg Value.bool (decide_eq_false (fun h => h rfl))) ?_
        refine WL.y rfl (Yd.move rfl) ?_
        refine WL.gh (dj := 88) rfl rfl rfl (Hd.loadAll (n := 2) kr_ rfl mem_ (by rfl) ⟨_, rfl, ?_⟩)
        refine WL.gh (dj := 88) rfl rfl rfl (Hd.loadAll (n := 2) kr_ rfl mem_ (by rfl) ⟨_, rfl, ?_⟩)
        refine WL.gr (dj := 88) rfl rfl rfl (Ent.func Try.call19 rfl) (rsame_reads e e _ _ ks ks _ (hF5.kv.mono gr_) (hv.mono gr_) (by omega)) ?_
        refine WL.renamed (t := 91) (v := .bool true) rfl (congrArg Value.bool (decide_eq_true ⟨rfl, rfl⟩)) ?_
        refine WL.gy (dj := 88) rfl rfl rfl (Yd.notB rfl) ?_
        refine WL.y rfl (Yd.pickF rfl rfl) ?_
        refine WL.nil ?_
        refine DN.then_normal ?_
        refine WC.no rfl ?_
        refine WC.skip ?_
        refine DN.then_normal ?_
        refine WC.seq ?_
        refine WC.seq ?_
        refine WC.region ?_
        refine WL.y rfl (Yd.move rfl) ?_
        refine WL.y rfl (Yd.eql rfl rfl) ?_
        refine WL.nil ?_
        refine DN.then_normal ?_
        refine WC.ite rfl (fun h95 => ?_) (fun h95 => ?_)
        · have hok := getF_ok h95
          refine WC.seq ?_
          refine WC.region ?_
          refine WL.h rfl (Hd.loadAll (n := 2) kr_ rfl mem_ (by rfl) ⟨_, rfl, ?_⟩)
          refine WL.c rfl (Ent.func Try.call32 rfl) (fput_tells (getF b).1 _ (getF b).2.1 D3 hF3.kv (by omega)) (Sp.p sp_) ?_
          rintro x H9 ⟨w6, A6, rfl, hA6, rfl⟩
          rw [if_pos hok.1] at hA6 ⊢
          rw [hok.2] at hA6
          obtain ⟨o6, c6, rfl, _⟩ := hA6.form
          refine WL.y rfl (Yd.move rfl) ?_
          refine WL.y rfl (Yd.extract rfl rfl) ?_
          refine WL.y rfl (Yd.extract rfl rfl) ?_
          refine WL.y rfl (Yd.assign rfl) ?_
          refine WL.y rfl (Yd.assign rfl) ?_
          refine WL.nil ?_
          refine DN.then_normal ?_
          refine WC.seq ?_
          refine WC.region ?_
          refine WL.y rfl (Yd.move rfl) ?_
          refine WL.y rfl (Yd.neq rfl rfl) ?_
          refine WL.renamed (t := 102) (v := .bool false) rfl (congrArg Value.bool (decide_eq_false (fun h => h rfl))) ?_
          refine WL.y rfl (Yd.move rfl) ?_
          refine WL.gy (dj := 103) rfl rfl rfl (Yd.move rfl) ?_
          refine WL.gy (dj := 103) rfl rfl rfl (Yd.move rfl) ?_
          refine WL.gr (dj := 103) rfl rfl rfl (Ent.func Try.call36 rfl) (same_reads _ _ b b _ (hA6.bs.mono gr_) (hvb.mono gr_)) ?_
          refine WL.renamed (t := 106) (v := .bool true) rfl (congrArg Value.bool (decide_eq_true rfl)) ?_
          refine WL.gy (dj := 103) rfl rfl rfl (Yd.notB rfl) ?_
          refine WL.y rfl (Yd.pickF rfl rfl) ?_
          refine WL.nil ?_
          refine DN.then_normal ?_
          refine WC.no rfl ?_
          refine WC.skip ?_
          refine DN.then_normal ?_
          refine WC.seq ?_
          refine WC.region ?_
          refine WL.rf rfl (Ent.func Try.call12 rfl) (known_reads) sp_ ?_
          refine WL.y rfl (Yd.assign rfl) ?_
          refine WL.nil ?_
          refine DN.then_normal ?_
          refine WC.ret ?_
          refine DN.fit (C := H) sp_ ?_
          refine DN.ret1 Try.results10 rfl ?_
          exact ⟨rfl, rfl⟩
        · refine WC.skip ?_
          refine DN.then_normal ?_
          refine WC.seq ?_
          refine WC.region ?_
          refine WL.rf rfl (Ent.func Try.call12 rfl) (known_reads) sp_ ?_
          refine WL.y rfl (Yd.assign rfl) ?_
          refine WL.nil ?_
          refine DN.then_normal ?_
          refine WC.ret ?_
          refine DN.fit (C := H) sp_ ?_
          refine DN.ret1 Try.results10 rfl ?_
          exact ⟨rfl, rfl⟩
      · refine WC.skip ?_
        refine DN.then_normal ?_
        refine WC.seq ?_
        refine WC.seq ?_
        refine WC.region ?_
        refine WL.y rfl (Yd.move rfl) ?_
        refine WL.y rfl (Yd.eql rfl rfl) ?_
        refine WL.nil ?_
        refine DN.then_normal ?_
        refine WC.ite rfl (fun h95 => ?_) (fun h95 => ?_)
        · have hok := getF_ok h95
          refine WC.seq ?_
          refine WC.region ?_
          refine WL.h rfl (Hd.loadAll (n := 2) kr_ rfl mem_ (by rfl) ⟨_, rfl, ?_⟩)
          refine WL.c rfl (Ent.func Try.call32 rfl) (fput_tells (getF b).1 _ (getF b).2.1 D3 hF3.kv (by omega)) (Sp.p sp_) ?_
          rintro x H9 ⟨w6, A6, rfl, hA6, rfl⟩
          rw [if_pos hok.1] at hA6 ⊢
          rw [hok.2] at hA6
          obtain ⟨o6, c6, rfl, _⟩ := hA6.form
          refine WL.y rfl (Yd.move rfl) ?_
          refine WL.y rfl (Yd.extract rfl rfl) ?_
          refine WL.y rfl (Yd.extract rfl rfl) ?_
          refine WL.y rfl (Yd.assign rfl) ?_
          refine WL.y rfl (Yd.assign rfl) ?_
          refine WL.nil ?_
          refine DN.then_normal ?_
          refine WC.seq ?_
          refine WC.region ?_
          refine WL.y rfl (Yd.move rfl) ?_
          refine WL.y rfl (Yd.neq rfl rfl) ?_
          refine WL.renamed (t := 102) (v := .bool false) rfl (congrArg Value.bool (decide_eq_false (fun h => h rfl))) ?_
          refine WL.y rfl (Yd.move rfl) ?_
          refine WL.gy (dj := 103) rfl rfl rfl (Yd.move rfl) ?_
          refine WL.gy (dj := 103) rfl rfl rfl (Yd.move rfl) ?_
          refine WL.gr (dj := 103) rfl rfl rfl (Ent.func Try.call36 rfl) (same_reads _ _ b b _ (hA6.bs.mono gr_) (hvb.mono gr_)) ?_
          refine WL.renamed (t := 106) (v := .bool true) rfl (congrArg Value.bool (decide_eq_true rfl)) ?_
          refine WL.gy (dj := 103) rfl rfl rfl (Yd.notB rfl) ?_
          refine WL.y rfl (Yd.pickF rfl rfl) ?_
          refine WL.nil ?_
          refine DN.then_normal ?_
          refine WC.no rfl ?_
          refine WC.skip ?_
          refine DN.then_normal ?_
          refine WC.seq ?_
          refine WC.region ?_
          refine WL.rf rfl (Ent.func Try.call12 rfl) (known_reads) sp_ ?_
          refine WL.y rfl (Yd.assign rfl) ?_
          refine WL.nil ?_
          refine DN.then_normal ?_
          refine WC.ret ?_
          refine DN.fit (C := H) sp_ ?_
          refine DN.ret1 Try.results10 rfl ?_
          exact ⟨rfl, rfl⟩
        · refine WC.skip ?_
          refine DN.then_normal ?_
          refine WC.seq ?_
          refine WC.region ?_
          refine WL.rf rfl (Ent.func Try.call12 rfl) (known_reads) sp_ ?_
          refine WL.y rfl (Yd.assign rfl) ?_
          refine WL.nil ?_
          refine DN.then_normal ?_
          refine WC.ret ?_
          refine DN.fit (C := H) sp_ ?_
          refine DN.ret1 Try.results10 rfl ?_
          exact ⟨rfl, rfl⟩

end Go.Proofs.Ytonnkgblligdkaa
