/-
  FenceOnce, FenceUndo: whatever steps come.
-/
import Derived.Test.YtonnkgblligdkaaFence9
import Derived.Test.YtonnkgblligdkaaFenceRow
set_option linter.unusedVariables false
set_option linter.unusedSimpArgs false
set_option maxHeartbeats 8000000
namespace Go.Proofs.Ytonnkgblligdkaa
open Go.SL


/-- drayage/drayageref08.SameKept -/
theorem sameKept_reads (a b : Kp) (va vr wa wr : Value) (H : List Ck) (h1 : Bs va a.asked H) (h2 : Bs vr a.reply H) (h3 : Bs wa b.asked H) (h4 : Bs wr b.reply H) : Reads Try.prog 22 [.agg (kc a va vr).toArray, .agg (kc b wa wr).toArray] H (.bool (decide (a = b))) := by
  refine Tells.enter Try.func22 rfl Try.ntmps22 rfl ?_
  intro w0 R
  refine WC.seq ?_
  refine WC.region ?_
  refine WL.h rfl (Hd.boxA rfl fun b2 => ⟨_, rfl, ?_⟩)
  refine WL.h rfl (Hd.boxA rfl fun b3 => ⟨_, rfl, ?_⟩)
  refine WL.y rfl (Yd.assign rfl) ?_
  refine WL.nil ?_
  refine DN.then_normal ?_
  refine WC.seq ?_
  refine WC.region ?_
  refine WL.y rfl (Yd.fieldAddr (k := 0) kr_ rfl) ?_
  refine WL.h rfl (Hd.load1 kr_ rfl mem_ (by rfl) ⟨_, rfl, ?_⟩)
  refine WL.y rfl (Yd.fieldAddr (k := 0) kr_ rfl) ?_
  refine WL.h rfl (Hd.load1 kr_ rfl mem_ (by rfl) ⟨_, rfl, ?_⟩)
  refine WL.y rfl (Yd.eql32 _ _ rfl rfl rfl rfl) ?_
  refine WL.y rfl (Yd.move rfl) ?_
  refine WL.partP (t := 10) rfl (fun hg10 => ?_) (fun hg10 => ?_)
  · refine WL.gy (dj := 10) rfl rfl rfl (Yd.fieldAddr (k := 1) kr_ rfl) ?_
    refine WL.gh (dj := 10) rfl rfl rfl (Hd.load1 kr_ rfl mem_ (by rfl) ⟨_, rfl, ?_⟩)
    refine WL.gy (dj := 10) rfl rfl rfl (Yd.fieldAddr (k := 1) kr_ rfl) ?_
    refine WL.gh (dj := 10) rfl rfl rfl (Hd.load1 kr_ rfl mem_ (by rfl) ⟨_, rfl, ?_⟩)
    refine WL.gy (dj := 10) rfl rfl rfl (Yd.eql rfl rfl) ?_
    refine WL.y rfl (Yd.pickT rfl rfl) ?_
    refine WL.y rfl (Yd.move rfl) ?_
    refine WL.part (t := 17) rfl (fun hg17 => ?_) (fun hg17 => ?_)
    · refine WL.gy (dj := 17) rfl rfl rfl (Yd.fieldAddr (k := 2) kr_ rfl) ?_
      refine WL.gh (dj := 17) rfl rfl rfl (Hd.load1 kr_ rfl mem_ (by rfl) ⟨_, rfl, ?_⟩)
      refine WL.gy (dj := 17) rfl rfl rfl (Yd.fieldAddr (k := 2) kr_ rfl) ?_
      refine WL.gh (dj := 17) rfl rfl rfl (Hd.load1 kr_ rfl mem_ (by rfl) ⟨_, rfl, ?_⟩)
      refine WL.gy (dj := 17) rfl rfl rfl (Yd.eqlB Try.underlying4 rfl rfl) ?_
      refine WL.y rfl (Yd.pickT rfl rfl) ?_
      refine WL.y rfl (Yd.move rfl) ?_
      refine WL.part (t := 24) rfl (fun hg24 => ?_) (fun hg24 => ?_)
      · refine WL.gy (dj := 24) rfl rfl rfl (Yd.fieldAddr (k := 3) kr_ rfl) ?_
        refine WL.gh (dj := 24) rfl rfl rfl (Hd.load1 kr_ rfl mem_ (by rfl) ⟨_, rfl, ?_⟩)
        refine WL.gh (dj := 24) rfl rfl rfl (Hd.toStr (e := 5) (bs := a.asked) kr_ kr_ Try.underlying9 rfl (h1.mono gr_) ⟨_, rfl, ?_⟩)
        refine WL.gy (dj := 24) rfl rfl rfl (Yd.fieldAddr (k := 3) kr_ rfl) ?_
        refine WL.gh (dj := 24) rfl rfl rfl (Hd.load1 kr_ rfl mem_ (by rfl) ⟨_, rfl, ?_⟩)
        refine WL.gh (dj := 24) rfl rfl rfl (Hd.toStr (e := 5) (bs := b.asked) kr_ kr_ Try.underlying9 rfl (h3.mono gr_) ⟨_, rfl, ?_⟩)
        refine WL.gy (dj := 24) rfl rfl rfl (Yd.eqlS rfl rfl) ?_
        refine WL.y rfl (Yd.pickT rfl rfl) ?_
        refine WL.y rfl (Yd.move rfl) ?_
        refine WL.part (t := 33) rfl (fun hg33 => ?_) (fun hg33 => ?_)
        · refine WL.gy (dj := 33) rfl rfl rfl (Yd.fieldAddr (k := 4) kr_ rfl) ?_
          refine WL.gh (dj := 33) rfl rfl rfl (Hd.load1 kr_ rfl mem_ (by rfl) ⟨_, rfl, ?_⟩)
          refine WL.gy (dj := 33) rfl rfl rfl (Yd.fieldAddr (k := 4) kr_ rfl) ?_
          refine WL.gh (dj := 33) rfl rfl rfl (Hd.load1 kr_ rfl mem_ (by rfl) ⟨_, rfl, ?_⟩)
          refine WL.gy (dj := 33) rfl rfl rfl (Yd.eql rfl rfl) ?_
          refine WL.y rfl (Yd.pickT rfl rfl) ?_
          refine WL.y rfl (Yd.move rfl) ?_
          refine WL.part (t := 40) rfl (fun hg40 => ?_) (fun hg40 => ?_)
          · refine WL.gy (dj := 40) rfl rfl rfl (Yd.fieldAddr (k := 5) kr_ rfl) ?_
            refine WL.gh (dj := 40) rfl rfl rfl (Hd.load1 kr_ rfl mem_ (by rfl) ⟨_, rfl, ?_⟩)
            refine WL.gh (dj := 40) rfl rfl rfl (Hd.toStr (e := 5) (bs := a.reply) kr_ kr_ Try.underlying9 rfl (h2.mono gr_) ⟨_, rfl, ?_⟩)
            refine WL.gy (dj := 40) rfl rfl rfl (Yd.fieldAddr (k := 5) kr_ rfl) ?_
            refine WL.gh (dj := 40) rfl rfl rfl (Hd.load1 kr_ rfl mem_ (by rfl) ⟨_, rfl, ?_⟩)
            refine WL.gh (dj := 40) rfl rfl rfl (Hd.toStr (e := 5) (bs := b.reply) kr_ kr_ Try.underlying9 rfl (h4.mono gr_) ⟨_, rfl, ?_⟩)
            refine WL.gy (dj := 40) rfl rfl rfl (Yd.eqlS rfl rfl) ?_
            refine WL.y rfl (Yd.pickT rfl rfl) ?_
            refine WL.y rfl (Yd.assign rfl) ?_
            refine WL.nil ?_
            refine DN.then_normal ?_
            refine WC.ret ?_
            refine DN.fit (C := H) sp_ ?_
            refine DN.ret1 Try.results22 rfl ?_
            refine ⟨congrArg Value.bool ?_, rfl⟩
            obtain ⟨a1, a2, a3, a4, a5, a6⟩ := a
            obtain ⟨b1, b2, b3, b4, b5, b6⟩ := b
            rw [Bool.eq_iff_iff]
            clear h1 h2 h3 h4
            simp only [decide_eq_true_eq, decide_eq_false_iff_not, str_inj, Kp.mk.injEq, beq_iff_eq, beq_eq_false_iff_ne, ne_eq, Bool.false_eq_true, false_iff] at *
            simp [*]
          · refine WL.gn (dj := 40) rfl rfl rfl rfl ?_
            refine WL.gn (dj := 40) rfl rfl rfl rfl ?_
            refine WL.gn (dj := 40) rfl rfl rfl rfl ?_
            refine WL.gn (dj := 40) rfl rfl rfl rfl ?_
            refine WL.gn (dj := 40) rfl rfl rfl rfl ?_
            refine WL.gn (dj := 40) rfl rfl rfl rfl ?_
            refine WL.gn (dj := 40) rfl rfl rfl rfl ?_
            refine WL.y rfl (Yd.pickF rfl rfl) ?_
            refine WL.y rfl (Yd.assign rfl) ?_
            refine WL.nil ?_
            refine DN.then_normal ?_
            refine WC.ret ?_
            refine DN.fit (C := H) sp_ ?_
            refine DN.ret1 Try.results22 rfl ?_
            refine ⟨congrArg Value.bool ?_, rfl⟩
            obtain ⟨a1, a2, a3, a4, a5, a6⟩ := a
            obtain ⟨b1, b2, b3, b4, b5, b6⟩ := b
            rw [Bool.eq_iff_iff]
            clear h1 h2 h3 h4
            simp only [decide_eq_true_eq, decide_eq_false_iff_not, str_inj, Kp.mk.injEq, beq_iff_eq, beq_eq_false_iff_ne, ne_eq, Bool.false_eq_true, false_iff] at *
            simp [*]
        · refine WL.gn (dj := 33) rfl rfl rfl rfl ?_
          refine WL.gn (dj := 33) rfl rfl rfl rfl ?_
          refine WL.gn (dj := 33) rfl rfl rfl rfl ?_
          refine WL.gn (dj := 33) rfl rfl rfl rfl ?_
          refine WL.gn (dj := 33) rfl rfl rfl rfl ?_
          refine WL.y rfl (Yd.pickF rfl rfl) ?_
          refine WL.y rfl (Yd.move rfl) ?_
          refine WL.gn (dj := 40) rfl rfl rfl rfl ?_
          refine WL.gn (dj := 40) rfl rfl rfl rfl ?_
          refine WL.gn (dj := 40) rfl rfl rfl rfl ?_
          refine WL.gn (dj := 40) rfl rfl rfl rfl ?_
          refine WL.gn (dj := 40) rfl rfl rfl rfl ?_
          refine WL.gn (dj := 40) rfl rfl rfl rfl ?_
          refine WL.gn (dj := 40) rfl rfl rfl rfl ?_
          refine WL.y rfl (Yd.pickF rfl rfl) ?_
          refine WL.y rfl (Yd.assign rfl) ?_
          refine WL.nil ?_
          refine DN.then_normal ?_
          refine WC.ret ?_
          refine DN.fit (C := H) sp_ ?_
          refine DN.ret1 Try.results22 rfl ?_
          refine ⟨congrArg Value.bool ?_, rfl⟩
          obtain ⟨a1, a2, a3, a4, a5, a6⟩ := a
          obtain ⟨b1, b2, b3, b4, b5, b6⟩ := b
          rw [Bool.eq_iff_iff]
          clear h1 h2 h3 h4
          simp only [decide_eq_true_eq, decide_eq_false_iff_not, str_inj, Kp.mk.injEq, beq_iff_eq, beq_eq_false_iff_ne, ne_eq, Bool.false_eq_true, false_iff] at *
          simp [*]
      · refine WL.gn (dj := 24) rfl rfl rfl rfl ?_
        refine WL.gn (dj := 24) rfl rfl rfl rfl ?_
        refine WL.gn (dj := 24) rfl rfl rfl rfl ?_
        refine WL.gn (dj := 24) rfl rfl rfl rfl ?_
        refine WL.gn (dj := 24) rfl rfl rfl rfl ?_
        refine WL.gn (dj := 24) rfl rfl rfl rfl ?_
        refine WL.gn (dj := 24) rfl rfl rfl rfl ?_
        refine WL.y rfl (Yd.pickF rfl rfl) ?_
        refine WL.y rfl (Yd.move rfl) ?_
        refine WL.gn (dj := 33) rfl rfl rfl rfl ?_
        refine WL.gn (dj := 33) rfl rfl rfl rfl ?_
        refine WL.gn (dj := 33) rfl rfl rfl rfl ?_
        refine WL.gn (dj := 33) rfl rfl rfl rfl ?_
        refine WL.gn (dj := 33) rfl rfl rfl rfl ?_
        refine WL.y rfl (Yd.pickF rfl rfl) ?_
        refine WL.y rfl (Yd.move rfl) ?_
        refine WL.gn (dj := 40) rfl rfl rfl rfl ?_
        refine WL.gn (dj := 40) rfl rfl rfl rfl ?_
        refine WL.gn (dj := 40) rfl rfl rfl rfl ?_
        refine WL.gn (dj := 40) rfl rfl rfl rfl ?_
        refine WL.gn (dj := 40) rfl rfl rfl rfl ?_
        refine WL.gn (dj := 40) rfl rfl rfl rfl ?_
        refine WL.gn (dj := 40) rfl rfl rfl rfl ?_
        refine WL.y rfl (Yd.pickF rfl rfl) ?_
        refine WL.y rfl (Yd.assign rfl) ?_
        refine WL.nil ?_
        refine DN.then_normal ?_
        refine WC.ret ?_
        refine DN.fit (C := H) sp_ ?_
        refine DN.ret1 Try.results22 rfl ?_
        refine ⟨congrArg Value.bool ?_, rfl⟩
        obtain ⟨a1, a2, a3, a4, a5, a6⟩ := a
        obtain ⟨b1, b2, b3, b4, b5, b6⟩ := b
        rw [Bool.eq_iff_iff]
        clear h1 h2 h3 h4
        simp only [decide_eq_true_eq, decide_eq_false_iff_not, str_inj, Kp.mk.injEq, beq_iff_eq, beq_eq_false_iff_ne, ne_eq, Bool.false_eq_true, false_iff] at *
        simp [*]
    · refine WL.gn (dj := 17) rfl rfl rfl rfl ?_
      refine WL.gn (dj := 17) rfl rfl rfl rfl ?_
      refine WL.gn (dj := 17) rfl rfl rfl rfl ?_
      refine WL.gn (dj := 17) rfl rfl rfl rfl ?_
      refine WL.gn (dj := 17) rfl rfl rfl rfl ?_
      refine WL.y rfl (Yd.pickF rfl rfl) ?_
      refine WL.y rfl (Yd.move rfl) ?_
      refine WL.gn (dj := 24) rfl rfl rfl rfl ?_
      refine WL.gn (dj := 24) rfl rfl rfl rfl ?_
      refine WL.gn (dj := 24) rfl rfl rfl rfl ?_
      refine WL.gn (dj := 24) rfl rfl rfl rfl ?_
      refine WL.gn (dj := 24) rfl rfl rfl rfl ?_
      refine WL.gn (dj := 24) rfl rfl rfl rfl ?_
      refine WL.gn (dj := 24) rfl rfl rfl rfl ?_
      refine WL.y rfl (Yd.pickF rfl rfl) ?_
      refine WL.y rfl (Yd.move rfl) ?_
      refine WL.gn (dj := 33) rfl rfl rfl rfl ?_
      refine WL.gn (dj := 33) rfl rfl rfl rfl ?_
      refine WL.gn (dj := 33) rfl rfl rfl rfl ?_
      refine WL.gn (dj := 33) rfl rfl rfl rfl ?_
      refine WL.gn (dj := 33) rfl rfl rfl rfl ?_
      refine WL.y rfl (Yd.pickF rfl rfl) ?_
      refine WL.y rfl (Yd.move rfl) ?_
      refine WL.gn (dj := 40) rfl rfl rfl rfl ?_
      refine WL.gn (dj := 40) rfl rfl rfl rfl ?_
      refine WL.gn (dj := 40) rfl rfl rfl rfl ?_
      refine WL.gn (dj := 40) rfl rfl rfl rfl ?_
      refine WL.gn (dj := 40) rfl rfl rfl rfl ?_
      refine WL.gn (dj := 40) rfl rfl rfl rfl ?_
      refine WL.gn (dj := 40) rfl rfl rfl rfl ?_
      refine WL.y rfl (Yd.pickF rfl rfl) ?_
      refine WL.y rfl (Yd.assign rfl) ?_
      refine WL.nil ?_
      refine DN.then_normal ?_
      refine WC.ret ?_
      refine DN.fit (C := H) sp_ ?_
      refine DN.ret1 Try.results22 rfl ?_
      refine ⟨congrArg Value.bool ?_, rfl⟩
      obtain ⟨a1, a2, a3, a4, a5, a6⟩ := a
      obtain ⟨b1, b2, b3, b4, b5, b6⟩ := b
      rw [Bool.eq_iff_iff]
      clear h1 h2 h3 h4
      simp only [decide_eq_true_eq, decide_eq_false_iff_not, str_inj, Kp.mk.injEq, beq_iff_eq, beq_eq_false_iff_ne, ne_eq, Bool.false_eq_true, false_iff] at *
      simp [*]
  · refine WL.gn (dj := 10) rfl rfl rfl rfl ?_
    refine WL.gn (dj := 10) rfl rfl rfl rfl ?_
    refine WL.gn (dj := 10) rfl rfl rfl rfl ?_
    refine WL.gn (dj := 10) rfl rfl rfl rfl ?_
    refine WL.gn (dj := 10) rfl rfl rfl rfl ?_
    refine WL.y rfl (Yd.pickF rfl rfl) ?_
    refine WL.y rfl (Yd.move rfl) ?_
    refine WL.gn (dj := 17) rfl rfl rfl rfl ?_
    refine WL.gn (dj := 17) rfl rfl rfl rfl ?_
    refine WL.gn (dj := 17) rfl rfl rfl rfl ?_
    refine WL.gn (dj := 17) rfl rfl rfl rfl ?_
    refine WL.gn (dj := 17) rfl rfl rfl rfl ?_
    refine WL.y rfl (Yd.pickF rfl rfl) ?_
    refine WL.y rfl (Yd.move rfl) ?_
    refine WL.gn (dj := 24) rfl rfl rfl rfl ?_
    refine WL.gn (dj := 24) rfl rfl rfl rfl ?_
    refine WL.gn (dj := 24) rfl rfl rfl rfl ?_
    refine WL.gn (dj := 24) rfl rfl rfl rfl ?_
    refine WL.gn (dj := 24) rfl rfl rfl rfl ?_
    refine WL.gn (dj := 24) rfl rfl rfl rfl ?_
    refine WL.gn (dj := 24) rfl rfl rfl rfl ?_
    refine WL.y rfl (Yd.pickF rfl rfl) ?_
    refine WL.y rfl (Yd.move rfl) ?_
    refine WL.gn (dj := 33) rfl rfl rfl rfl ?_
    refine WL.gn (dj := 33) rfl rfl rfl rfl ?_
    refine WL.gn (dj := 33) rfl rfl rfl rfl ?_
    refine WL.gn (dj := 33) rfl rfl rfl rfl ?_
    refine WL.gn (dj := 33) rfl rfl rfl rfl ?_
    refine WL.y rfl (Yd.pickF rfl rfl) ?_
    refine WL.y rfl (Yd.move rfl) ?_
    refine WL.gn (dj := 40) rfl rfl rfl rfl ?_
    refine WL.gn (dj := 40) rfl rfl rfl rfl ?_
    refine WL.gn (dj := 40) rfl rfl rfl rfl ?_
    refine WL.gn (dj := 40) rfl rfl rfl rfl ?_
    refine WL.gn (dj := 40) rfl rfl rfl rfl ?_
    refine WL.gn (dj := 40) rfl rfl rfl rfl ?_
    refine WL.gn (dj := 40) rfl rfl rfl rfl ?_
    refine WL.y rfl (Yd.pickF rfl rfl) ?_
    refine WL.y rfl (Yd.assign rfl) ?_
    refine WL.nil ?_
    refine DN.then_normal ?_
    refine WC.ret ?_
    refine DN.fit (C := H) sp_ ?_
    refine DN.ret1 Try.results22 rfl ?_
    refine ⟨congrArg Value.bool ?_, rfl⟩
    obtain ⟨a1, a2, a3, a4, a5, a6⟩ := a
    obtain ⟨b1, b2, b3, b4, b5, b6⟩ := b
    rw [Bool.eq_iff_iff]
    clear h1 h2 h3 h4
    simp only [decide_eq_true_eq, decide_eq_false_iff_not, str_inj, Kp.mk.injEq, beq_iff_eq, beq_eq_false_iff_ne, ne_eq, Bool.false_eq_true, false_iff] at *
    simp [*]

/-- drayage/drayagelaw08.same -/
theorem same_reads (a b : Kp) (va vr wa wr : Value) (H : List Ck) : Reads Try.prog 21 [.agg (kc a va vr).toArray, .agg (kc b wa wr).toArray] H (.bool (decide (a.order = b.order ∧ a.step = b.step ∧ a.undo = b.undo))) := by
  refine Tells.enter Try.func21 rfl Try.ntmps21 rfl ?_
  intro w0 R
  refine WC.seq ?_
  refine WC.region ?_
  refine WL.h rfl (Hd.boxA rfl fun b2 => ⟨_, rfl, ?_⟩)
  refine WL.h rfl (Hd.boxA rfl fun b3 => ⟨_, rfl, ?_⟩)
  refine WL.y rfl (Yd.assign rfl) ?_
  refine WL.nil ?_
  refine DN.then_normal ?_
  refine WC.seq ?_
  refine WC.region ?_
  refine WL.y rfl (Yd.fieldAddr (k := 0) kr_ rfl) ?_
  refine WL.h rfl (Hd.load1 kr_ rfl mem_ (by rfl) ⟨_, rfl, ?_⟩)
  refine WL.y rfl (Yd.fieldAddr (k := 0) kr_ rfl) ?_
  refine WL.h rfl (Hd.load1 kr_ rfl mem_ (by rfl) ⟨_, rfl, ?_⟩)
  refine WL.y rfl (Yd.eql32 _ _ rfl rfl rfl rfl) ?_
  refine WL.y rfl (Yd.move rfl) ?_
  refine WL.partP (t := 10) rfl (fun hg10 => ?_) (fun hg10 => ?_)
  · refine WL.gy (dj := 10) rfl rfl rfl (Yd.fieldAddr (k := 1) kr_ rfl) ?_
    refine WL.gh (dj := 10) rfl rfl rfl (Hd.load1 kr_ rfl mem_ (by rfl) ⟨_, rfl, ?_⟩)
    refine WL.gy (dj := 10) rfl rfl rfl (Yd.fieldAddr (k := 1) kr_ rfl) ?_
    refine WL.gh (dj := 10) rfl rfl rfl (Hd.load1 kr_ rfl mem_ (by rfl) ⟨_, rfl, ?_⟩)
    refine WL.gy (dj := 10) rfl rfl rfl (Yd.eql rfl rfl) ?_
    refine WL.y rfl (Yd.pickT rfl rfl) ?_
    refine WL.y rfl (Yd.move rfl) ?_
    refine WL.part (t := 17) rfl (fun hg17 => ?_) (fun hg17 => ?_)
    · refine WL.gy (dj := 17) rfl rfl rfl (Yd.fieldAddr (k := 2) kr_ rfl) ?_
      refine WL.gh (dj := 17) rfl rfl rfl (Hd.load1 kr_ rfl mem_ (by rfl) ⟨_, rfl, ?_⟩)
      refine WL.gy (dj := 17) rfl rfl rfl (Yd.fieldAddr (k := 2) kr_ rfl) ?_
      refine WL.gh (dj := 17) rfl rfl rfl (Hd.load1 kr_ rfl mem_ (by rfl) ⟨_, rfl, ?_⟩)
      refine WL.gy (dj := 17) rfl rfl rfl (Yd.eqlB Try.underlying4 rfl rfl) ?_
      refine WL.y rfl (Yd.pickT rfl rfl) ?_
      refine WL.y rfl (Yd.assign rfl) ?_
      refine WL.nil ?_
      refine DN.then_normal ?_
      refine WC.ret ?_
      refine DN.fit (C := H) sp_ ?_
      refine DN.ret1 Try.results21 rfl ?_
      refine ⟨congrArg Value.bool ?_, rfl⟩
      rw [Bool.eq_iff_iff]
      simp only [decide_eq_true_eq, decide_eq_false_iff_not, beq_iff_eq, beq_eq_false_iff_ne, ne_eq, Bool.false_eq_true, false_iff] at *
      simp [*]
    · refine WL.gn (dj := 17) rfl rfl rfl rfl ?_
      refine WL.gn (dj := 17) rfl rfl rfl rfl ?_
      refine WL.gn (dj := 17) rfl rfl rfl rfl ?_
      refine WL.gn (dj := 17) rfl rfl rfl rfl ?_
      refine WL.gn (dj := 17) rfl rfl rfl rfl ?_
      refine WL.y rfl (Yd.pickF rfl rfl) ?_
      refine WL.y rfl (Yd.assign rfl) ?_
      refine WL.nil ?_
      refine DN.then_normal ?_
      refine WC.ret ?_
      refine DN.fit (C := H) sp_ ?_
      refine DN.ret1 Try.results21 rfl ?_
      refine ⟨congrArg Value.bool ?_, rfl⟩
      rw [Bool.eq_iff_iff]
      simp only [decide_eq_true_eq, decide_eq_false_iff_not, beq_iff_eq, beq_eq_false_iff_ne, ne_eq, Bool.false_eq_true, false_iff] at *
      simp [*]
  · refine WL.gn (dj := 10) rfl rfl rfl rfl ?_
    refine WL.gn (dj := 10) rfl rfl rfl rfl ?_
    refine WL.gn (dj := 10) rfl rfl rfl rfl ?_
    refine WL.gn (dj := 10) rfl rfl rfl rfl ?_
    refine WL.gn (dj := 10) rfl rfl rfl rfl ?_
    refine WL.y rfl (Yd.pickF rfl rfl) ?_
    refine WL.y rfl (Yd.move rfl) ?_
    refine WL.gn (dj := 17) rfl rfl rfl rfl ?_
    refine WL.gn (dj := 17) rfl rfl rfl rfl ?_
    refine WL.gn (dj := 17) rfl rfl rfl rfl ?_
    refine WL.gn (dj := 17) rfl rfl rfl rfl ?_
    refine WL.gn (dj := 17) rfl rfl rfl rfl ?_
    refine WL.y rfl (Yd.pickF rfl rfl) ?_
    refine WL.y rfl (Yd.assign rfl) ?_
    refine WL.nil ?_
    refine DN.then_normal ?_
    refine WC.ret ?_
    refine DN.fit (C := H) sp_ ?_
    refine DN.ret1 Try.results21 rfl ?_
    refine ⟨congrArg Value.bool ?_, rfl⟩
    rw [Bool.eq_iff_iff]
    simp only [decide_eq_true_eq, decide_eq_false_iff_not, beq_iff_eq, beq_eq_false_iff_ne, ne_eq, Bool.false_eq_true, false_iff] at *
    simp [*]

/-- drayage/drayagelaw08.serve -/
theorem serve_tells (v : Value) (xs : List Value) (cs : List Cl) (H : List Ck) (hv : Rs v cs.length xs H) (hl : xs.length = cs.length * 6) (hc : ∀ i (h : i < cs.length), ClE ((xs.drop (i * 6)).take 6) cs[i] H) (hm : cs.length ≤ 9223372036854775807) : Tells Try.prog 20 [v] H fun r H' => ∃ p s n C ok, r = .tuple #[.pointer (some ⟨p, 0, none⟩), .bool ok] ∧ SvAt 50 43 5 p s C ∧ SvInv s n ∧ n ≤ 120 ∧ H' = C ++ H := by
  refine Tells.enter Try.func20 rfl Try.ntmps20 rfl ?_
  intro w0 R
  obtain ⟨ao, ac, rfl, hac⟩ := hv.form
  refine WC.seq ?_
  refine WC.region ?_
  refine WL.y rfl (Yd.assign rfl) ?_
  refine WL.y rfl (Yd.assign rfl) ?_
  refine WL.nil ?_
  refine DN.then_normal ?_
  refine WC.seq ?_
  refine WC.region ?_
  refine WL.y rfl (Yd.buildL (pl := [(0, 2), (2, 1), (3, 1), (4, 1), (5, 1)]) (zs := [.int .u32 0, .slice none 0 0, .slice none 0 0, .slice none 0 0, .slice none 0 0, .bool false]) (parts := []) (vs := []) (cells := [.int .u32 0, .slice none 0 0, .slice none 0 0, .slice none 0 0, .slice none 0 0, .bool false]) kr_ kr_ rfl rfl) ?_
  refine WL.h rfl (Hd.boxA rfl fun b7 => ⟨_, rfl, ?_⟩)
  refine WL.y rfl (Yd.assign rfl) ?_
  refine WL.nil ?_
  refine DN.then_normal ?_
  refine WC.seq ?_
  refine WC.seq ?_
  refine WC.region ?_
  refine WL.y rfl (Yd.assign rfl) ?_
  refine WL.nil ?_
  refine DN.then_normal ?_
  refine WC.block ?_
  refine WC.loopS (fun z : Nat × Sv × List Ck => z.1 ≤ cs.length ∧ z.1 ≤ 120 ∧ SvAt 50 43 5 b7 z.2.1 z.2.2 ∧ SvInv z.2.1 z.1) (fun z : Nat × Sv × List Ck => [(5, .int .i64 (z.1 : Int))]) (fun z : Nat × Sv × List Ck => z.2.2 ++ H) (fun z : Nat × Sv × List Ck => cs.length - z.1) (⟨0, Sv.zero, [row b7 [.int .u32 0, .slice none 0 0, .slice none 0 0, .slice none 0 0, .slice none 0 0, .bool false] 50]⟩) (show 0 ≤ cs.length ∧ 0 ≤ 120 ∧ SvAt 50 43 5 b7 Sv.zero ([row b7 [.int .u32 0, .slice none 0 0, .slice none 0 0, .slice none 0 0, .slice none 0 0, .bool false] 50]) ∧ SvInv Sv.zero 0 from ⟨Nat.zero_le _, by omega, SvAt.start _ _ _ _, SvInv.start⟩) (Sx.put rfl (sx_)) sp_ ?_
  rintro ⟨i, s, C⟩ hI
  replace hI : i ≤ cs.length ∧ i ≤ 120 ∧ SvAt 50 43 5 b7 s C ∧ SvInv s i := hI
  obtain ⟨hi, hi2, hS, inv⟩ := hI
  change WC _ _ _ _ _ _ ([(5, .int .i64 (i : Int))] ++ _) (C ++ H)
  refine WC.seq ?_
  refine WC.seq ?_
  refine WC.region ?_
  refine WL.y rfl (Yd.move rfl) ?_
  refine WL.y rfl (Yd.move rfl) ?_
  refine WL.y rfl (Yd.len (e := 70) kr_ rfl) ?_
  refine WL.y rfl (Yd.lss rfl rfl) ?_
  refine WL.y rfl (Yd.move rfl) ?_
  refine WL.partP (t := 12) rfl (fun hg12 => ?_) (fun hg12 => ?_)
  · refine WL.gy (dj := 12) rfl rfl rfl (Yd.move rfl) ?_
    refine WL.gy (dj := 12) rfl rfl rfl (Yd.lss rfl rfl) ?_
    refine WL.y rfl (Yd.pickT rfl rfl) ?_
    refine WL.nil ?_
    refine DN.then_normal ?_
    refine WC.ite rfl (fun h15 => ?_) (fun h15 => ?_)
    · have hlt : i < cs.length := by omega
      have hlt2 : i < 120 := by omega
      obtain ⟨vd, hg, hvd, _, hb1, hb2⟩ := hc i hlt
      obtain ⟨lb, lf, lcs, lT, lfr, lex, elo, _, hlm, hlcs⟩ := hv.lies (by omega)
      obtain ⟨do_, dc, rfl, hdc⟩ := hvd.form
      refine WC.skip ?_
      refine DN.then_normal ?_
      refine WC.seq ?_
      refine WC.block ?_
      refine WC.seq ?_
      refine WC.seq ?_
      refine WC.region ?_
      refine WL.y rfl (Yd.move rfl) ?_
      refine WL.y rfl (Yd.move rfl) ?_
      refine WL.y rfl (Yd.indexAddr (e := 70) (s := 6) (b := lb) (o := lf) (n := cs.length) (c := ac) kr_ kr_ (congrArg (fun q => some (Value.slice q cs.length ac)) elo) rfl (by omega) (by omega)) ?_
      refine WL.y rfl (Yd.fieldAddr (k := 4) kr_ rfl) ?_
      refine WL.h rfl (Hd.load1 (v := .slice do_ cs[i].data.length dc) (b := lb) (o := lf + (i : Int).toNat * 6 + 4) (cs := lcs) kr_ rfl (Gr.get gr_ hlm) (kc_cell hlcs (by omega) hg rfl) ⟨_, rfl, ?_⟩)
      refine WL.y rfl (Yd.len (e := 5) kr_ rfl) ?_
      refine WL.y rfl (Yd.gtr rfl rfl) ?_
      refine WL.nil ?_
      refine DN.then_normal ?_
      refine WC.ite rfl (fun h24 => ?_) (fun h24 => ?_)
      · refine WC.seq ?_
        refine WC.region ?_
        refine WL.y rfl (Yd.move rfl) ?_
        refine WL.y rfl (Yd.assign rfl) ?_
        refine WL.y rfl (Yd.assign rfl) ?_
        refine WL.nil ?_
        refine DN.then_normal ?_
        refine WC.ret ?_
        refine DN.then_ret ?_
        refine DN.block_ret ?_
        refine DN.then_ret ?_
        refine DN.then_ret ?_
        refine DN.block_ret ?_
        refine DN.then_ret ?_
        refine DN.ret2 Try.results20 rfl rfl ?_
        exact ⟨b7, s, i, C, _, rfl, hS, inv, by omega, rfl⟩
      · have hd : cs[i].data.length ≤ 255 := by omega
        refine WC.skip ?_
        refine DN.then_normal ?_
        refine WC.region ?_
        refine WL.y rfl (Yd.move rfl) ?_
        refine WL.y rfl (Yd.move rfl) ?_
        refine WL.y rfl (Yd.move rfl) ?_
        refine WL.elemA (e := 70) (s := 6) kr_ kr_ kr_ rfl rfl (rfl) (hv.mono gr_) (hg) (by rfl) (by omega) (hlt) rfl rfl ?_
        intro p29
        refine WL.c rfl (Ent.func Try.call45 rfl) (calls_tells b7 s i C hS inv (by omega) cs[i] hd _ H hvd) (Sp.p sp_) ?_
        rintro x Hx ⟨C2, hS2, rfl⟩
        refine WL.nil ?_
        refine DN.block_normal ?_
        refine DN.then_normal ?_
        refine WC.region ?_
        refine WL.y rfl (Yd.move rfl) ?_
        refine WL.y rfl (Yd.add rfl rfl (by omega) (by omega)) ?_
        refine WL.y rfl (Yd.assign rfl) ?_
        refine WL.nil ?_
        exact DN.againS (⟨i + 1, callS s cs[i], C2⟩) (show (i + 1) ≤ cs.length ∧ (i + 1) ≤ 120 ∧ SvAt 50 43 5 b7 (callS s cs[i]) C2 ∧ SvInv (callS s cs[i]) (i + 1) from ⟨by omega, by omega, hS2, inv.next hd (by omega)⟩) (show cs.length - (i + 1) < cs.length - i by omega) (Sx.put rfl (sx_)) sp_
    · refine WC.exit ?_
      refine DN.then_exit ?_
      refine DN.then_exit ?_
      refine DN.block_exit ?_
      refine DN.then_normal ?_
      refine WC.seq ?_
      refine WC.region ?_
      refine WL.y rfl (Yd.move rfl) ?_
      refine WL.y rfl (Yd.assign rfl) ?_
      refine WL.y rfl (Yd.assign rfl) ?_
      refine WL.nil ?_
      refine DN.then_normal ?_
      refine WC.ret ?_
      refine DN.ret2 Try.results20 rfl rfl ?_
      exact ⟨b7, s, i, C, _, rfl, hS, inv, by omega, rfl⟩
  · refine WL.gn (dj := 12) rfl rfl rfl rfl ?_
    refine WL.gn (dj := 12) rfl rfl rfl rfl ?_
    refine WL.y rfl (Yd.pickF rfl rfl) ?_
    refine WL.nil ?_
    refine DN.then_normal ?_
    refine WC.no rfl ?_
    refine WC.exit ?_
    refine DN.then_exit ?_
    refine DN.then_exit ?_
    refine DN.block_exit ?_
    refine DN.then_normal ?_
    refine WC.seq ?_
    refine WC.region ?_
    refine WL.y rfl (Yd.move rfl) ?_
    refine WL.y rfl (Yd.assign rfl) ?_
    refine WL.y rfl (Yd.assign rfl) ?_
    refine WL.nil ?_
    refine DN.then_normal ?_
    refine WC.ret ?_
    refine DN.ret2 Try.results20 rfl rfl ?_
    exact ⟨b7, s, i, C, _, rfl, hS, inv, by omega, rfl⟩

end Go.Proofs.Ytonnkgblligdkaa
