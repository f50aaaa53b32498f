/-
  The walks of the fence: keys, kept steps, the search.
-/
import Derived.Test.YtonnkgblligdkaaRows
import Derived.Test.YtonnkgblligdkaaFenceMath
import Derived.Test.YtonnkgblligdkaaWires1
set_option linter.unusedVariables false
set_option linter.unusedSimpArgs false
set_option maxHeartbeats 2000000
namespace Go.Proofs.Ytonnkgblligdkaa
open Go.SL


/-- drayage/fence.right -/
theorem right_reads (k : Kp) (va vr : Value) (ha : IsSl va k.asked.length) (hr : IsSl vr k.reply.length) (H : List Ck) : Reads Try.prog 38 [.agg (kc k va vr).toArray] H (.bool (decide (rightP k))) := by
  refine Tells.enter Try.func38 rfl Try.ntmps38 rfl ?_
  intro w0 R
  obtain ⟨ao, ac, rfl⟩ := ha
  obtain ⟨ro, rc, rfl⟩ := hr
  refine WC.seq ?_
  refine WC.region ?_
  refine WL.h rfl (Hd.boxA rfl fun b1 => ⟨_, rfl, ?_⟩)
  refine WL.y rfl (Yd.assign rfl) ?_
  refine WL.nil ?_
  refine DN.then_normal ?_
  refine WC.seq ?_
  refine WC.region ?_
  refine WL.y rfl (Yd.fieldAddr (k := 0) kr_ rfl) ?_
  refine WL.h rfl (Hd.load1 kr_ rfl mem_ (by rfl) ⟨_, rfl, ?_⟩)
  refine WL.y rfl (Yd.gtr rfl rfl) ?_
  refine WL.y rfl (Yd.move rfl) ?_
  refine WL.partP (t := 6) rfl (fun hg6 => ?_) (fun hg6 => ?_)
  · refine WL.gy (dj := 6) rfl rfl rfl (Yd.fieldAddr (k := 1) kr_ rfl) ?_
    refine WL.gh (dj := 6) rfl rfl rfl (Hd.load1 kr_ rfl mem_ (by rfl) ⟨_, rfl, ?_⟩)
    refine WL.gy (dj := 6) rfl rfl rfl (Yd.geq rfl rfl) ?_
    refine WL.y rfl (Yd.pickT rfl rfl) ?_
    refine WL.y rfl (Yd.move rfl) ?_
    refine WL.part (t := 11) rfl (fun hg11 => ?_) (fun hg11 => ?_)
    · refine WL.gy (dj := 11) rfl rfl rfl (Yd.fieldAddr (k := 1) kr_ rfl) ?_
      refine WL.gh (dj := 11) rfl rfl rfl (Hd.load1 kr_ rfl mem_ (by rfl) ⟨_, rfl, ?_⟩)
      refine WL.gy (dj := 11) rfl rfl rfl (Yd.lss rfl rfl) ?_
      refine WL.y rfl (Yd.pickT rfl rfl) ?_
      refine WL.y rfl (Yd.move rfl) ?_
      refine WL.part (t := 16) rfl (fun hg16 => ?_) (fun hg16 => ?_)
      · refine WL.gy (dj := 16) rfl rfl rfl (Yd.fieldAddr (k := 3) kr_ rfl) ?_
        refine WL.gh (dj := 16) rfl rfl rfl (Hd.load1 kr_ rfl mem_ (by rfl) ⟨_, rfl, ?_⟩)
        refine WL.gy (dj := 16) rfl rfl rfl (Yd.len (e := 5) kr_ rfl) ?_
        refine WL.gy (dj := 16) rfl rfl rfl (Yd.leq rfl rfl) ?_
        refine WL.y rfl (Yd.pickT rfl rfl) ?_
        refine WL.y rfl (Yd.move rfl) ?_
        refine WL.part (t := 22) rfl (fun hg22 => ?_) (fun hg22 => ?_)
        · refine WL.gy (dj := 22) rfl rfl rfl (Yd.fieldAddr (k := 5) kr_ rfl) ?_
          refine WL.gh (dj := 22) rfl rfl rfl (Hd.load1 kr_ rfl mem_ (by rfl) ⟨_, rfl, ?_⟩)
          refine WL.gy (dj := 22) rfl rfl rfl (Yd.len (e := 5) kr_ rfl) ?_
          refine WL.gy (dj := 22) rfl rfl rfl (Yd.leq rfl rfl) ?_
          refine WL.y rfl (Yd.pickT rfl rfl) ?_
          refine WL.y rfl (Yd.move rfl) ?_
          refine WL.part (t := 28) rfl (fun hg28 => ?_) (fun hg28 => ?_)
          · refine WL.gy (dj := 28) rfl rfl rfl (Yd.fieldAddr (k := 4) kr_ rfl) ?_
            refine WL.gh (dj := 28) rfl rfl rfl (Hd.load1 kr_ rfl mem_ (by rfl) ⟨_, rfl, ?_⟩)
            refine WL.gy (dj := 28) rfl rfl rfl (Yd.eql rfl rfl) ?_
            refine WL.gy (dj := 28) rfl rfl rfl (Yd.move rfl) ?_
            refine WL.partP (t := 32) rfl (fun hg32 => ?_) (fun hg32 => ?_)
            · refine WL.gn (dj := 32) rfl rfl rfl rfl ?_
              refine WL.gn (dj := 32) rfl rfl rfl rfl ?_
              refine WL.gn (dj := 32) rfl rfl rfl rfl ?_
              refine WL.gy (dj := 28) rfl rfl rfl (Yd.pickT rfl rfl) ?_
              refine WL.y rfl (Yd.pickT rfl rfl) ?_
              refine WL.y rfl (Yd.assign rfl) ?_
              refine WL.nil ?_
              refine DN.then_normal ?_
              refine WC.ret ?_
              refine DN.fit (C := H) sp_ ?_
              refine DN.ret1 Try.results38 rfl ?_
              refine ⟨?_, rfl⟩
              congr 1
              rw [Bool.eq_iff_iff]
              simp only [decide_eq_true_eq, decide_eq_false_iff_not, eq_self, Bool.false_eq_true, false_iff, true_iff] at *
              simp only [rightP]
              omega
            · refine WL.gy (dj := 32) rfl rfl rfl (Yd.fieldAddr (k := 4) kr_ rfl) ?_
              refine WL.gh (dj := 32) rfl rfl rfl (Hd.load1 kr_ rfl mem_ (by rfl) ⟨_, rfl, ?_⟩)
              refine WL.gy (dj := 32) rfl rfl rfl (Yd.eql rfl rfl) ?_
              refine WL.gy (dj := 28) rfl rfl rfl (Yd.pickF rfl rfl) ?_
              refine WL.y rfl (Yd.pickT rfl rfl) ?_
              refine WL.y rfl (Yd.assign rfl) ?_
              refine WL.nil ?_
              refine DN.then_normal ?_
              refine WC.ret ?_
              refine DN.fit (C := H) sp_ ?_
              refine DN.ret1 Try.results38 rfl ?_
              refine ⟨?_, rfl⟩
              congr 1
              rw [Bool.eq_iff_iff]
              simp only [decide_eq_true_eq, decide_eq_false_iff_not, eq_self, Bool.false_eq_true, false_iff, true_iff] at *
              simp only [rightP]
              omega
          · refine WL.gn (dj := 28) rfl rfl rfl rfl ?_
            refine WL.gn (dj := 28) rfl rfl rfl rfl ?_
            refine WL.gn (dj := 28) rfl rfl rfl rfl ?_
            refine WL.gn (dj := 28) rfl rfl rfl rfl ?_
            refine WL.gu (dj := 32) rfl rfl rfl ?_
            refine WL.gu (dj := 32) rfl rfl rfl ?_
            refine WL.gu (dj := 32) rfl rfl rfl ?_
            refine WL.gn (dj := 28) rfl rfl rfl rfl ?_
            refine WL.y rfl (Yd.pickF rfl rfl) ?_
            refine WL.y rfl (Yd.assign rfl) ?_
            refine WL.nil ?_
            refine DN.then_normal ?_
            refine WC.ret ?_
            refine DN.fit (C := H) sp_ ?_
            refine DN.ret1 Try.results38 rfl ?_
            refine ⟨?_, rfl⟩
            congr 1
            rw [Bool.eq_iff_iff]
            simp only [decide_eq_true_eq, decide_eq_false_iff_not, eq_self, Bool.false_eq_true, false_iff, true_iff] at *
            simp only [rightP]
            omega
        · refine WL.gn (dj := 22) rfl rfl rfl rfl ?_
          refine WL.gn (dj := 22) rfl rfl rfl rfl ?_
          refine WL.gn (dj := 22) rfl rfl rfl rfl ?_
          refine WL.gn (dj := 22) rfl rfl rfl rfl ?_
          refine WL.y rfl (Yd.pickF rfl rfl) ?_
          refine WL.y rfl (Yd.move rfl) ?_
          refine WL.gn (dj := 28) rfl rfl rfl rfl ?_
          refine WL.gn (dj := 28) rfl rfl rfl rfl ?_
          refine WL.gn (dj := 28) rfl rfl rfl rfl ?_
          refine WL.gn (dj := 28) rfl rfl rfl rfl ?_
          refine WL.gu (dj := 32) rfl rfl rfl ?_
          refine WL.gu (dj := 32) rfl rfl rfl ?_
          refine WL.gu (dj := 32) rfl rfl rfl ?_
          refine WL.gn (dj := 28) rfl rfl rfl rfl ?_
          refine WL.y rfl (Yd.pickF rfl rfl) ?_
          refine WL.y rfl (Yd.assign rfl) ?_
          refine WL.nil ?_
          refine DN.then_normal ?_
          refine WC.ret ?_
          refine DN.fit (C := H) sp_ ?_
          refine DN.ret1 Try.results38 rfl ?_
          refine ⟨?_, rfl⟩
          congr 1
          rw [Bool.eq_iff_iff]
          simp only [decide_eq_true_eq, decide_eq_false_iff_not, eq_self, Bool.false_eq_true, false_iff, true_iff] at *
          simp only [rightP]
          omega
      · refine WL.gn (dj := 16) rfl rfl rfl rfl ?_
        refine WL.gn (dj := 16) rfl rfl rfl rfl ?_
        refine WL.gn (dj := 16) rfl rfl rfl rfl ?_
        refine WL.gn (dj := 16) rfl rfl rfl rfl ?_
        refine WL.y rfl (Yd.pickF rfl rfl) ?_
        refine WL.y rfl (Yd.move rfl) ?_
        refine WL.gn (dj := 22) rfl rfl rfl rfl ?_
        refine WL.gn (dj := 22) rfl rfl rfl rfl ?_
        refine WL.gn (dj := 22) rfl rfl rfl rfl ?_
        refine WL.gn (dj := 22) rfl rfl rfl rfl ?_
        refine WL.y rfl (Yd.pickF rfl rfl) ?_
        refine WL.y rfl (Yd.move rfl) ?_
        refine WL.gn (dj := 28) rfl rfl rfl rfl ?_
        refine WL.gn (dj := 28) rfl rfl rfl rfl ?_
        refine WL.gn (dj := 28) rfl rfl rfl rfl ?_
        refine WL.gn (dj := 28) rfl rfl rfl rfl ?_
        refine WL.gu (dj := 32) rfl rfl rfl ?_
        refine WL.gu (dj := 32) rfl rfl rfl ?_
        refine WL.gu (dj := 32) rfl rfl rfl ?_
        refine WL.gn (dj := 28) rfl rfl rfl rfl ?_
        refine WL.y rfl (Yd.pickF rfl rfl) ?_
        refine WL.y rfl (Yd.assign rfl) ?_
        refine WL.nil ?_
        refine DN.then_normal ?_
        refine WC.ret ?_
        refine DN.fit (C := H) sp_ ?_
        refine DN.ret1 Try.results38 rfl ?_
        refine ⟨?_, rfl⟩
        congr 1
        rw [Bool.eq_iff_iff]
        simp only [decide_eq_true_eq, decide_eq_false_iff_not, eq_self, Bool.false_eq_true, false_iff, true_iff] at *
        simp only [rightP]
        omega
    · refine WL.gn (dj := 11) rfl rfl rfl rfl ?_
      refine WL.gn (dj := 11) rfl rfl rfl rfl ?_
      refine WL.gn (dj := 11) rfl rfl rfl rfl ?_
      refine WL.y rfl (Yd.pickF rfl rfl) ?_
      refine WL.y rfl (Yd.move rfl) ?_
      refine WL.gn (dj := 16) rfl rfl rfl rfl ?_
      refine WL.gn (dj := 16) rfl rfl rfl rfl ?_
      refine WL.gn (dj := 16) rfl rfl rfl rfl ?_
      refine WL.gn (dj := 16) rfl rfl rfl rfl ?_
      refine WL.y rfl (Yd.pickF rfl rfl) ?_
      refine WL.y rfl (Yd.move rfl) ?_
      refine WL.gn (dj := 22) rfl rfl rfl rfl ?_
      refine WL.gn (dj := 22) rfl rfl rfl rfl ?_
      refine WL.gn (dj := 22) rfl rfl rfl rfl ?_
      refine WL.gn (dj := 22) rfl rfl rfl rfl ?_
      refine WL.y rfl (Yd.pickF rfl rfl) ?_
      refine WL.y rfl (Yd.move rfl) ?_
      refine WL.gn (dj := 28) rfl rfl rfl rfl ?_
      refine WL.gn (dj := 28) rfl rfl rfl rfl ?_
      refine WL.gn (dj := 28) rfl rfl rfl rfl ?_
      refine WL.gn (dj := 28) rfl rfl rfl rfl ?_
      refine WL.gu (dj := 32) rfl rfl rfl ?_
      refine WL.gu (dj := 32) rfl rfl rfl ?_
      refine WL.gu (dj := 32) rfl rfl rfl ?_
      refine WL.gn (dj := 28) rfl rfl rfl rfl ?_
      refine WL.y rfl (Yd.pickF rfl rfl) ?_
      refine WL.y rfl (Yd.assign rfl) ?_
      refine WL.nil ?_
      refine DN.then_normal ?_
      refine WC.ret ?_
      refine DN.fit (C := H) sp_ ?_
      refine DN.ret1 Try.results38 rfl ?_
      refine ⟨?_, rfl⟩
      congr 1
      rw [Bool.eq_iff_iff]
      simp only [decide_eq_true_eq, decide_eq_false_iff_not, eq_self, Bool.false_eq_true, false_iff, true_iff] at *
      simp only [rightP]
      omega
  · refine WL.gn (dj := 6) rfl rfl rfl rfl ?_
    refine WL.gn (dj := 6) rfl rfl rfl rfl ?_
    refine WL.gn (dj := 6) rfl rfl rfl rfl ?_
    refine WL.y rfl (Yd.pickF rfl rfl) ?_
    refine WL.y rfl (Yd.move rfl) ?_
    refine WL.gn (dj := 11) rfl rfl rfl rfl ?_
    refine WL.gn (dj := 11) rfl rfl rfl rfl ?_
    refine WL.gn (dj := 11) rfl rfl rfl rfl ?_
    refine WL.y rfl (Yd.pickF rfl rfl) ?_
    refine WL.y rfl (Yd.move rfl) ?_
    refine WL.gn (dj := 16) rfl rfl rfl rfl ?_
    refine WL.gn (dj := 16) rfl rfl rfl rfl ?_
    refine WL.gn (dj := 16) rfl rfl rfl rfl ?_
    refine WL.gn (dj := 16) rfl rfl rfl rfl ?_
    refine WL.y rfl (Yd.pickF rfl rfl) ?_
    refine WL.y rfl (Yd.move rfl) ?_
    refine WL.gn (dj := 22) rfl rfl rfl rfl ?_
    refine WL.gn (dj := 22) rfl rfl rfl rfl ?_
    refine WL.gn (dj := 22) rfl rfl rfl rfl ?_
    refine WL.gn (dj := 22) rfl rfl rfl rfl ?_
    refine WL.y rfl (Yd.pickF rfl rfl) ?_
    refine WL.y rfl (Yd.move rfl) ?_
    refine WL.gn (dj := 28) rfl rfl rfl rfl ?_
    refine WL.gn (dj := 28) rfl rfl rfl rfl ?_
    refine WL.gn (dj := 28) rfl rfl rfl rfl ?_
    refine WL.gn (dj := 28) rfl rfl rfl rfl ?_
    refine WL.gu (dj := 32) rfl rfl rfl ?_
    refine WL.gu (dj := 32) rfl rfl rfl ?_
    refine WL.gu (dj := 32) rfl rfl rfl ?_
    refine WL.gn (dj := 28) rfl rfl rfl rfl ?_
    refine WL.y rfl (Yd.pickF rfl rfl) ?_
    refine WL.y rfl (Yd.assign rfl) ?_
    refine WL.nil ?_
    refine DN.then_normal ?_
    refine WC.ret ?_
    refine DN.fit (C := H) sp_ ?_
    refine DN.ret1 Try.results38 rfl ?_
    refine ⟨?_, rfl⟩
    congr 1
    rw [Bool.eq_iff_iff]
    simp only [decide_eq_true_eq, decide_eq_false_iff_not, eq_self, Bool.false_eq_true, false_iff, true_iff] at *
    simp only [rightP]
    omega

/-- drayage/fence.of -/
theorem of_reads (k : Kp) (va vr : Value) (h1 : va.oneCell' = true) (h2 : vr.oneCell' = true) (H : List Ck) : Reads Try.prog 40 [.agg (kc k va vr).toArray] H (.agg (keyc k.order k.step k.undo).toArray) := by
  refine Tells.enter Try.func40 rfl Try.ntmps40 rfl ?_
  intro w0 R
  refine WC.seq ?_
  refine WC.region ?_
  refine WL.h rfl (Hd.boxA rfl fun b1 => ⟨_, rfl, ?_⟩)
  refine WL.h rfl (Hd.alloc (zs := [.int .u32 0, .int .i64 0, .bool false]) kr_ fun b2 => ⟨_, rfl, ?_⟩)
  refine WL.nil ?_
  refine DN.then_normal ?_
  refine WC.seq ?_
  refine WC.region ?_
  refine WL.y rfl (Yd.fieldAddr (k := 0) kr_ rfl) ?_
  refine WL.h rfl (Hd.load1 kr_ rfl mem_ (by rfl) ⟨_, rfl, ?_⟩)
  refine WL.y rfl (Yd.fieldAddr (k := 1) kr_ rfl) ?_
  refine WL.h rfl (Hd.load1 kr_ rfl mem_ (by rfl) ⟨_, rfl, ?_⟩)
  refine WL.y rfl (Yd.fieldAddr (k := 2) kr_ rfl) ?_
  refine WL.h rfl (Hd.load1 kr_ rfl mem_ (by rfl) ⟨_, rfl, ?_⟩)
  refine WL.y rfl (Yd.buildL (pl := [(0, 1), (1, 1), (2, 1)]) (zs := [.int .u32 0, .int .i64 0, .bool false]) (parts := [(0, .tmp 4), (1, .tmp 6), (2, .tmp 8)]) (vs := [(0, _), (1, _), (2, _)]) (cells := [_, _, _]) kr_ kr_ rfl rfl) ?_
  refine WL.s (Hd.storeAll (n := 3) kr_ rfl rfl (by rfl) one_ fr_ (by rfl) ⟨rfl, ?_⟩)
  refine WL.nil ?_
  refine DN.then_normal ?_
  refine WC.ret ?_
  refine DN.retCF (s := 3) H Try.results40 kr_ rfl List.mem_cons_self (by rfl) ((List.sublist_cons_self _ _).trans (List.sublist_cons_self _ _)) ?_
  exact ⟨rfl, rfl⟩

/-- (drayage/fence.key).number -/
theorem number_reads (o : BitVec 32) (s : Int) (u : Bool) (h0 : 0 ≤ s) (h : s < 16) (H : List Ck) : Reads Try.prog 48 [.agg (keyc o s u).toArray] H (.int .u64 (numb o s u : Nat)) := by
  refine Tells.enter Try.func48 rfl Try.ntmps48 rfl ?_
  intro w0 R
  refine WC.seq ?_
  refine WC.region ?_
  refine WL.h rfl (Hd.boxA rfl fun b1 => ⟨_, rfl, ?_⟩)
  refine WL.y rfl (Yd.assign (v := .int .u64 ((0#64).toNat : Int)) rfl) ?_
  refine WL.nil ?_
  refine DN.then_normal ?_
  refine WC.seq ?_
  refine WC.region ?_
  refine WL.y rfl (Yd.fieldAddr (k := 0) kr_ rfl) ?_
  refine WL.h rfl (Hd.load1 kr_ rfl mem_ (by rfl) ⟨_, rfl, ?_⟩)
  refine WL.y rfl (Yd.conv32_64 _ kr_ kr_ rfl rfl) ?_
  refine WL.y rfl (Yd.shl64 _ 8 rfl rfl rfl rfl) ?_
  refine WL.y rfl (Yd.fieldAddr (k := 1) kr_ rfl) ?_
  refine WL.h rfl (Hd.load1 kr_ rfl mem_ (by rfl) ⟨_, rfl, ?_⟩)
  refine WL.y rfl (Yd.to64 _ kr_ kr_ rfl rfl) ?_
  refine WL.y rfl (Yd.shl64 _ 1 rfl rfl rfl rfl) ?_
  refine WL.y rfl (Yd.or64 _ _ rfl rfl rfl rfl) ?_
  refine WL.y rfl (Yd.assign rfl) ?_
  refine WL.nil ?_
  refine DN.then_normal ?_
  refine WC.seq ?_
  refine WC.seq ?_
  refine WC.region ?_
  refine WL.y rfl (Yd.fieldAddr (k := 2) kr_ rfl) ?_
  refine WL.h rfl (Hd.load1 kr_ rfl mem_ (by rfl) ⟨_, rfl, ?_⟩)
  refine WL.nil ?_
  refine DN.then_normal ?_
  refine WC.cond rfl (fun h14 => ?_) (fun h14 => ?_)
  · refine WC.region ?_
    refine WL.y rfl (Yd.move rfl) ?_
    refine WL.y rfl (Yd.or64 _ (1#64) rfl rfl rfl rfl) ?_
    refine WL.y rfl (Yd.assign rfl) ?_
    refine WL.nil ?_
    refine DN.then_normal ?_
    refine WC.seq ?_
    refine WC.region ?_
    refine WL.y rfl (Yd.move rfl) ?_
    refine WL.y rfl (Yd.assign rfl) ?_
    refine WL.nil ?_
    refine DN.then_normal ?_
    refine WC.ret ?_
    refine DN.fit (C := H) sp_ ?_
    refine DN.ret1 Try.results48 rfl ?_
    refine ⟨?_, rfl⟩
    subst h14
    rw [numB_u h0 h]
    simp [numb]
  · refine WC.skip ?_
    refine DN.then_normal ?_
    refine WC.seq ?_
    refine WC.region ?_
    refine WL.y rfl (Yd.move rfl) ?_
    refine WL.y rfl (Yd.assign rfl) ?_
    refine WL.nil ?_
    refine DN.then_normal ?_
    refine WC.ret ?_
    refine DN.fit (C := H) sp_ ?_
    refine DN.ret1 Try.results48 rfl ?_
    refine ⟨?_, rfl⟩
    subst h14
    rw [numB_of h0 h]
    simp [numb]

end Go.Proofs.Ytonnkgblligdkaa
