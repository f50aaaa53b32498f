/-
  The walks of the laws of chapter 03.
-/
import Derived.Test.YtfacofbobmlmiaaKnown03
set_option linter.unusedVariables false
set_option linter.unusedSimpArgs false
set_option maxHeartbeats 2000000
namespace Go.Proofs.Ytfacofbobmlmiaa
open Go.SL Go.Sum
theorem put_size (b : List B8') (h : ¬ putErr b ≠ 0) : frameSize b.length = ((putOf b).length : Nat) := by
  have h2 : b.length ≤ 2000 := by
    unfold putErr at h
    split at h
    · assumption
    · exact absurd (by decide) h
  rw [putOf, if_pos h2, frameOf_length, frameSize, if_pos (by omega)]
  omega
theorem putOf_le (b : List B8') : (putOf b).length ≤ 2008 := by
  unfold putOf
  split
  · rw [frameOf_length]; omega
  · simp


/-- drayage/drayagelaw03.FramePuts -/
theorem law_FramePuts (v : Value) (b : List B8') (n : Int) (H : List Ck) (hv : Bs v b H) (hl : b.length ≤ 9223372036854775807) : Reads Try.prog 9 [v, .int .i64 n] H (.bool true) := by
  refine Tells.enter Try.func9 rfl Try.ntmps9 rfl ?_
  intro w0 R
  obtain ⟨ao, c, rfl, hc⟩ := Bs.form hv
  refine WC.seq ?_
  refine WC.region ?_
  refine WL.y rfl (Yd.assign rfl) ?_
  refine WL.nil ?_
  refine DN.then_normal ?_
  refine WC.seq ?_
  refine WC.seq ?_
  refine WC.region ?_
  refine WL.y rfl (Yd.move rfl) ?_
  refine WL.y rfl (Yd.len (e := 5) (by kernel_rfl) rfl) ?_
  refine WL.y rfl (Yd.gtr rfl rfl) ?_
  refine WL.nil ?_
  refine DN.then_normal ?_
  refine WC.ite rfl (fun h16 => ?_) (fun h16 => ?_)
  · refine WC.seq ?_
    refine WC.region ?_
    refine WL.r rfl (Ent.func Try.call27 rfl) (known03 _) ?_
    refine WL.y rfl (Yd.assign rfl) ?_
    refine WL.nil ?_
    refine DN.then_normal ?_
    refine WC.ret ?_
    refine DN.then_ret ?_
    refine DN.forget H (by first | exact List.Sublist.refl _ | (repeat (first | exact List.Sublist.refl _ | exact List.nil_sublist _ | apply List.Sublist.cons_cons | apply List.Sublist.cons | apply List.sublist_append_of_sublist_right))) ?_
    refine DN.ret1 Try.results9 rfl ?_
    exact ⟨rfl, rfl⟩
  · have h3 : b.length ≤ 6000 := by omega
    refine WC.skip ?_
    refine DN.then_normal ?_
    refine WC.seq ?_
    refine WC.region ?_
    refine WL.y rfl (Yd.move rfl) ?_
    refine WL.ca rfl (Ent.func Try.call18 rfl) (lent_spec _ b H hv (by omega)) ?_
    rintro x H0 ⟨xo, xc, C, rfl, hC, rfl⟩
    have hw := hv.mono (B := C ++ H) fun x hx => List.mem_append_right _ hx
    have hC2 : Bs (.slice xo (b.length + 2) xc) (b ++ [91#8, 92#8]) (C ++ H) := hC.bs.mono fun x hx => List.mem_append_left _ hx
    have hx : Bs (.slice xo b.length xc) b (C ++ H) := by
      have := hC2.upto (j := b.length) (by omega)
      rwa [List.take_left] at this
    refine WL.y rfl (Yd.assign rfl) ?_
    refine WL.nil ?_
    refine DN.then_normal ?_
    refine WC.seq ?_
    refine WC.region ?_
    refine WL.y rfl (Yd.move rfl) ?_
    refine WL.ca rfl (Ent.func Try.call28 rfl) (put2_tells _ b _ hx (by omega)) ?_
    rintro q H1 ⟨a1, A1, rfl, hA1, rfl⟩
    obtain ⟨a1o, a1c, rfl, ha1⟩ := hA1.form
    refine WL.y rfl (Yd.move rfl) ?_
    refine WL.y rfl (Yd.extract rfl rfl) ?_
    refine WL.y rfl (Yd.extract rfl rfl) ?_
    refine WL.y rfl (Yd.assign rfl) ?_
    refine WL.y rfl (Yd.assign rfl) ?_
    refine WL.nil ?_
    refine DN.then_normal ?_
    refine WC.seq ?_
    refine WC.region ?_
    refine WL.y rfl (Yd.move rfl) ?_
    refine WL.ca rfl (Ent.func Try.call28 rfl) (put2_tells _ b _ (hx.mono fun y hy => List.mem_append_right _ hy) (by omega)) ?_
    rintro q H2 ⟨a2, A2, rfl, hA2, rfl⟩
    obtain ⟨a2o, a2c, rfl, ha2⟩ := hA2.form
    refine WL.y rfl (Yd.move rfl) ?_
    refine WL.y rfl (Yd.extract rfl rfl) ?_
    refine WL.y rfl (Yd.extract rfl rfl) ?_
    refine WL.y rfl (Yd.assign rfl) ?_
    refine WL.y rfl (Yd.assign rfl) ?_
    refine WL.nil ?_
    refine DN.then_normal ?_
    refine WC.seq ?_
    refine WC.region ?_
    refine WL.y rfl (Yd.move rfl) ?_
    refine WL.y rfl (Yd.move rfl) ?_
    refine WL.r rfl (Ent.func Try.call21 rfl) (whole_reads _ _ _ b _ (hC2.mono fun y hy => by simp at hy; rcases hy with hy | hy <;> simp [hy]) (hv.mono fun y hy => by simp [hy]) (by omega)) ?_
    refine WL.renamed (t := 32) (v := .bool true) rfl (congrArg Value.bool (rfl)) ?_
    refine WL.y rfl (Yd.assign rfl) ?_
    refine WL.nil ?_
    refine DN.then_normal ?_
    refine WC.seq ?_
    refine WC.region ?_
    refine WL.y rfl (Yd.move rfl) ?_
    refine WL.c (D := A2 ++ (A1 ++ H)) rfl (Ent.func Try.call29 rfl) (spoil_tells xo xc b.length 2 _ C hC (by simp) (by omega)) (by classical exact List.perm_iff_count.2 fun q => by simp only [List.count_append, List.count_cons, List.count_nil]; omega) ?_
    rintro q H9 rfl
    refine WL.nil ?_
    refine DN.then_normal ?_
    refine WC.seq ?_
    refine WC.region ?_
    refine WL.y rfl (Yd.move rfl) ?_
    refine WL.ca rfl (Ent.func Try.call30 rfl) (rput_tells _ b _ (hv.mono fun y hy => by simp [hy]) (by omega)) ?_
    rintro q H3 ⟨a3, A3, rfl, hA3, rfl⟩
    refine WL.y rfl (Yd.move rfl) ?_
    refine WL.y rfl (Yd.extract rfl rfl) ?_
    refine WL.y rfl (Yd.extract rfl rfl) ?_
    refine WL.y rfl (Yd.assign rfl) ?_
    refine WL.y rfl (Yd.assign rfl) ?_
    refine WL.nil ?_
    refine DN.then_normal ?_
    refine WC.seq ?_
    refine WC.region ?_
    refine WL.y rfl (Yd.assign rfl) ?_
    refine WL.nil ?_
    refine DN.then_normal ?_
    refine WC.seq ?_
    refine WC.seq ?_
    refine WC.region ?_
    refine WL.y rfl (Yd.move rfl) ?_
    refine WL.y rfl (Yd.geq rfl rfl) ?_
    refine WL.y rfl (Yd.move rfl) ?_
    refine WL.partP (t := 42) rfl (fun hg42 => ?_) (fun hg42 => ?_)
    · refine WL.gy (dj := 42) rfl rfl rfl (Yd.move rfl) ?_
      refine WL.gy (dj := 42) rfl rfl rfl (Yd.leq rfl rfl) ?_
      refine WL.y rfl (Yd.pickT rfl rfl) ?_
      refine WL.nil ?_
      refine DN.then_normal ?_
      refine WC.ite rfl (fun h45 => ?_) (fun h45 => ?_)
      · refine WC.region ?_
        refine WL.y rfl (Yd.move rfl) ?_
        refine WL.y rfl (Yd.add rfl rfl (by omega) (by omega)) ?_
        refine WL.y rfl (Yd.assign rfl) ?_
        refine WL.nil ?_
        refine DN.then_normal ?_
        refine WC.seq ?_
        refine WC.region ?_
        refine WL.y rfl (Yd.move rfl) ?_
        refine WL.y rfl (Yd.move rfl) ?_
        refine WL.r rfl (Ent.func Try.call31 rfl) (same_reads _ _ (putOf b) (putOf b) _ (hA1.bs.mono fun y hy => by simp [hy]) (hA3.bs.mono fun y hy => by simp [hy])) ?_
        refine WL.renamed (t := 50) (v := .bool true) rfl (congrArg Value.bool (decide_eq_true rfl)) ?_
        refine WL.y rfl (Yd.move rfl) ?_
        refine WL.gy (dj := 51) rfl rfl rfl (Yd.move rfl) ?_
        refine WL.gy (dj := 51) rfl rfl rfl (Yd.move rfl) ?_
        refine WL.gr (dj := 51) rfl rfl rfl (Ent.func Try.call31 rfl) (same_reads _ _ (putOf b) (putOf b) _ (hA2.bs.mono fun y hy => by simp [hy]) (hA3.bs.mono fun y hy => by simp [hy])) ?_
        refine WL.renamed (t := 54) (v := .bool true) rfl (congrArg Value.bool (decide_eq_true rfl)) ?_
        refine WL.y rfl (Yd.pickT rfl rfl) ?_
        refine WL.y rfl (Yd.move rfl) ?_
        refine WL.gy (dj := 56) rfl rfl rfl (Yd.move rfl) ?_
        refine WL.gy (dj := 56) rfl rfl rfl (Yd.move rfl) ?_
        refine WL.gy (dj := 56) rfl rfl rfl (Yd.eql rfl rfl) ?_
        refine WL.renamed (t := 59) (v := .bool true) rfl (congrArg Value.bool (decide_eq_true rfl)) ?_
        refine WL.y rfl (Yd.pickT rfl rfl) ?_
        refine WL.y rfl (Yd.move rfl) ?_
        refine WL.gy (dj := 61) rfl rfl rfl (Yd.move rfl) ?_
        refine WL.y rfl (Yd.pickT rfl rfl) ?_
        refine WL.y rfl (Yd.move rfl) ?_
        refine WL.gy (dj := 64) rfl rfl rfl (Yd.move rfl) ?_
        refine WL.gr (dj := 64) rfl rfl rfl (Ent.func Try.call32 rfl) (size_reads n _) ?_
        refine WL.gy (dj := 64) rfl rfl rfl (Yd.move rfl) ?_
        refine WL.gy (dj := 64) rfl rfl rfl (Yd.eql rfl rfl) ?_
        refine WL.renamed (t := 68) (v := .bool true) rfl (congrArg Value.bool (decide_eq_true (by unfold frameSize; split <;> omega))) ?_
        refine WL.y rfl (Yd.pickT rfl rfl) ?_
        refine WL.y rfl (Yd.move rfl) ?_
        refine WL.gy (dj := 70) rfl rfl rfl (Yd.move rfl) ?_
        refine WL.gy (dj := 70) rfl rfl rfl (Yd.neq rfl rfl) ?_
        refine WL.gy (dj := 70) rfl rfl rfl (Yd.move rfl) ?_
        refine WL.partP (t := 73) rfl (fun hg73 => ?_) (fun hg73 => ?_)
        · refine WL.gn (dj := 73) rfl rfl rfl rfl ?_
          refine WL.gn (dj := 73) rfl rfl rfl rfl ?_
          refine WL.gn (dj := 73) rfl rfl rfl rfl ?_
          refine WL.gn (dj := 73) rfl rfl rfl rfl ?_
          refine WL.gn (dj := 73) rfl rfl rfl rfl ?_
          refine WL.gn (dj := 73) rfl rfl rfl rfl ?_
          refine WL.gy (dj := 70) rfl rfl rfl (Yd.pickT rfl rfl) ?_
          refine WL.y rfl (Yd.pickT rfl rfl) ?_
          refine WL.y rfl (Yd.move rfl) ?_
          refine WL.gy (dj := 82) rfl rfl rfl (Yd.move rfl) ?_
          refine WL.gy (dj := 82) rfl rfl rfl (Yd.move rfl) ?_
          refine WL.gh (dj := 82) rfl rfl rfl (Hd.buildSlice (e := 22) (sz := 1) (zs := [.slice none 0 0]) (parts := [(0, .tmp 83), (1, .tmp 84)]) (vs := [(0, .slice a1o (putOf b).length a1c), (1, .slice a2o (putOf b).length a2c)]) (cells := [.slice a1o (putOf b).length a1c, .slice a2o (putOf b).length a2c]) (by kernel_rfl) (by kernel_rfl) (by kernel_rfl) rfl (by kernel_rfl) (by kernel_rfl) fun rb => ⟨_, rfl, ?_⟩)
          refine WL.gc (D := A3 ++ H) (dj := 82) rfl rfl rfl (Ent.func Try.call33 rfl) (own_tells (.slice (some ⟨rb, 0, none⟩) 2 2) [.slice a1o (putOf b).length a1c, .slice a2o (putOf b).length a2c] [putOf b, putOf b] [row rb [.slice a1o (putOf b).length a1c, .slice a2o (putOf b).length a2c] 22] (A1 ++ (A2 ++ [])) (.inr ⟨rb, 2, [], rfl, Nat.le_refl _, by decide, rfl, rfl, rfl⟩) (.cons hA1 (.cons hA2 .nil)) (by simp) (by have := putOf_le b; intro l hl; simp at hl; subst hl; omega)) (by classical exact List.perm_iff_count.2 fun q => by simp only [List.count_append, List.count_cons, List.count_nil]; omega) ?_
          rintro q H9 ⟨rfl, rfl⟩
          refine WL.renamed (t := 86) (v := .bool true) rfl (congrArg Value.bool (rfl)) ?_
          refine WL.y rfl (Yd.pickT rfl rfl) ?_
          refine WL.y rfl (Yd.move rfl) ?_
          refine WL.gr (dj := 88) rfl rfl rfl (Ent.func Try.call27 rfl) (known03 _) ?_
          refine WL.y rfl (Yd.pickT rfl rfl) ?_
          refine WL.y rfl (Yd.assign rfl) ?_
          refine WL.nil ?_
          refine DN.then_normal ?_
          refine WC.ret ?_
          refine DN.forget H (by first | exact List.Sublist.refl _ | (repeat (first | exact List.Sublist.refl _ | exact List.nil_sublist _ | apply List.Sublist.cons_cons | apply List.Sublist.cons | apply List.sublist_append_of_sublist_right))) ?_
          refine DN.ret1 Try.results9 rfl ?_
          exact ⟨rfl, rfl⟩
        · refine WL.gy (dj := 73) rfl rfl rfl (Yd.move rfl) ?_
          refine WL.gy (dj := 73) rfl rfl rfl (Yd.len (e := 5) (by kernel_rfl) rfl) ?_
          refine WL.gr (dj := 73) rfl rfl rfl (Ent.func Try.call32 rfl) (size_reads b.length _) ?_
          refine WL.gy (dj := 73) rfl rfl rfl (Yd.move rfl) ?_
          refine WL.gy (dj := 73) rfl rfl rfl (Yd.len (e := 5) (by kernel_rfl) rfl) ?_
          refine WL.gy (dj := 73) rfl rfl rfl (Yd.eql rfl rfl) ?_
          refine WL.renamed (t := 79) (v := .bool true) rfl (congrArg Value.bool (decide_eq_true (put_size b hg73))) ?_
          refine WL.gy (dj := 70) rfl rfl rfl (Yd.pickF rfl rfl) ?_
          refine WL.y rfl (Yd.pickT rfl rfl) ?_
          refine WL.y rfl (Yd.move rfl) ?_
          refine WL.gy (dj := 82) rfl rfl rfl (Yd.move rfl) ?_
          refine WL.gy (dj := 82) rfl rfl rfl (Yd.move rfl) ?_
          refine WL.gh (dj := 82) rfl rfl rfl (Hd.buildSlice (e := 22) (sz := 1) (zs := [.slice none 0 0]) (parts := [(0, .tmp 83), (1, .tmp 84)]) (vs := [(0, .slice a1o (putOf b).length a1c), (1, .slice a2o (putOf b).length a2c)]) (cells := [.slice a1o (putOf b).length a1c, .slice a2o (putOf b).length a2c]) (by kernel_rfl) (by kernel_rfl) (by kernel_rfl) rfl (by kernel_rfl) (by kernel_rfl) fun rb => ⟨_, rfl, ?_⟩)
          refine WL.gc (D := A3 ++ H) (dj := 82) rfl rfl rfl (Ent.func Try.call33 rfl) (own_tells (.slice (some ⟨rb, 0, none⟩) 2 2) [.slice a1o (putOf b).length a1c, .slice a2o (putOf b).length a2c] [putOf b, putOf b] [row rb [.slice a1o (putOf b).length a1c, .slice a2o (putOf b).length a2c] 22] (A1 ++ (A2 ++ [])) (.inr ⟨rb, 2, [], rfl, Nat.le_refl _, by decide, rfl, rfl, rfl⟩) (.cons hA1 (.cons hA2 .nil)) (by simp) (by have := putOf_le b; intro l hl; simp at hl; subst hl; omega)) (by classical exact List.perm_iff_count.2 fun q => by simp only [List.count_append, List.count_cons, List.count_nil]; omega) ?_
          rintro q H9 ⟨rfl, rfl⟩
          refine WL.renamed (t := 86) (v := .bool true) rfl (congrArg Value.bool (rfl)) ?_
          refine WL.y rfl (Yd.pickT rfl rfl) ?_
          refine WL.y rfl (Yd.move rfl) ?_
          refine WL.gr (dj := 88) rfl rfl rfl (Ent.func Try.call27 rfl) (known03 _) ?_
          refine WL.y rfl (Yd.pickT rfl rfl) ?_
          refine WL.y rfl (Yd.assign rfl) ?_
          refine WL.nil ?_
          refine DN.then_normal ?_
          refine WC.ret ?_
          refine DN.forget H (by first | exact List.Sublist.refl _ | (repeat (first | exact List.Sublist.refl _ | exact List.nil_sublist _ | apply List.Sublist.cons_cons | apply List.Sublist.cons | apply List.sublist_append_of_sublist_right))) ?_
          refine DN.ret1 Try.results9 rfl ?_
          exact ⟨rfl, rfl⟩
      · refine WC.skip ?_
        refine DN.then_normal ?_
        refine WC.seq ?_
        refine WC.region ?_
        refine WL.y rfl (Yd.move rfl) ?_
        refine WL.y rfl (Yd.move rfl) ?_
        refine WL.r rfl (Ent.func Try.call31 rfl) (same_reads _ _ (putOf b) (putOf b) _ (hA1.bs.mono fun y hy => by simp [hy]) (hA3.bs.mono fun y hy => by simp [hy])) ?_
        refine WL.renamed (t := 50) (v := .bool true) rfl (congrArg Value.bool (decide_eq_true rfl)) ?_
        refine WL.y rfl (Yd.move rfl) ?_
        refine WL.gy (dj := 51) rfl rfl rfl (Yd.move rfl) ?_
        refine WL.gy (dj := 51) rfl rfl rfl (Yd.move rfl) ?_
        refine WL.gr (dj := 51) rfl rfl rfl (Ent.func Try.call31 rfl) (same_reads _ _ (putOf b) (putOf b) _ (hA2.bs.mono fun y hy => by simp [hy]) (hA3.bs.mono fun y hy => by simp [hy])) ?_
        refine WL.renamed (t := 54) (v := .bool true) rfl (congrArg Value.bool (decide_eq_true rfl)) ?_
        refine WL.y rfl (Yd.pickT rfl rfl) ?_
        refine WL.y rfl (Yd.move rfl) ?_
        refine WL.gy (dj := 56) rfl rfl rfl (Yd.move rfl) ?_
        refine WL.gy (dj := 56) rfl rfl rfl (Yd.move rfl) ?_
        refine WL.gy (dj := 56) rfl rfl rfl (Yd.eql rfl rfl) ?_
        refine WL.renamed (t := 59) (v := .bool true) rfl (congrArg Value.bool (decide_eq_true rfl)) ?_
        refine WL.y rfl (Yd.pickT rfl rfl) ?_
        refine WL.y rfl (Yd.move rfl) ?_
        refine WL.gy (dj := 61) rfl rfl rfl (Yd.move rfl) ?_
        refine WL.y rfl (Yd.pickT rfl rfl) ?_
        refine WL.y rfl (Yd.move rfl) ?_
        refine WL.gy (dj := 64) rfl rfl rfl (Yd.move rfl) ?_
        refine WL.gr (dj := 64) rfl rfl rfl (Ent.func Try.call32 rfl) (size_reads n _) ?_
        refine WL.gy (dj := 64) rfl rfl rfl (Yd.move rfl) ?_
        refine WL.gy (dj := 64) rfl rfl rfl (Yd.eql rfl rfl) ?_
        refine WL.renamed (t := 68) (v := .bool true) rfl (congrArg Value.bool (decide_eq_true (by unfold frameSize; split <;> omega))) ?_
        refine WL.y rfl (Yd.pickT rfl rfl) ?_
        refine WL.y rfl (Yd.move rfl) ?_
        refine WL.gy (dj := 70) rfl rfl rfl (Yd.move rfl) ?_
        refine WL.gy (dj := 70) rfl rfl rfl (Yd.neq rfl rfl) ?_
        refine WL.gy (dj := 70) rfl rfl rfl (Yd.move rfl) ?_
        refine WL.partP (t := 73) rfl (fun hg73 => ?_) (fun hg73 => ?_)
        · refine WL.gn (dj := 73) rfl rfl rfl rfl ?_
          refine WL.gn (dj := 73) rfl rfl rfl rfl ?_
          refine WL.gn (dj := 73) rfl rfl rfl rfl ?_
          refine WL.gn (dj := 73) rfl rfl rfl rfl ?_
          refine WL.gn (dj := 73) rfl rfl rfl rfl ?_
          refine WL.gn (dj := 73) rfl rfl rfl rfl ?_
          refine WL.gy (dj := 70) rfl rfl rfl (Yd.pickT rfl rfl) ?_
          refine WL.y rfl (Yd.pickT rfl rfl) ?_
          refine WL.y rfl (Yd.move rfl) ?_
          refine WL.gy (dj := 82) rfl rfl rfl (Yd.move rfl) ?_
          refine WL.gy (dj := 82) rfl rfl rfl (Yd.move rfl) ?_
          refine WL.gh (dj := 82) rfl rfl rfl (Hd.buildSlice (e := 22) (sz := 1) (zs := [.slice none 0 0]) (parts := [(0, .tmp 83), (1, .tmp 84)]) (vs := [(0, .slice a1o (putOf b).length a1c), (1, .slice a2o (putOf b).length a2c)]) (cells := [.slice a1o (putOf b).length a1c, .slice a2o (putOf b).length a2c]) (by kernel_rfl) (by kernel_rfl) (by kernel_rfl) rfl (by kernel_rfl) (by kernel_rfl) fun rb => ⟨_, rfl, ?_⟩)
          refine WL.gc (D := A3 ++ H) (dj := 82) rfl rfl rfl (Ent.func Try.call33 rfl) (own_tells (.slice (some ⟨rb, 0, none⟩) 2 2) [.slice a1o (putOf b).length a1c, .slice a2o (putOf b).length a2c] [putOf b, putOf b] [row rb [.slice a1o (putOf b).length a1c, .slice a2o (putOf b).length a2c] 22] (A1 ++ (A2 ++ [])) (.inr ⟨rb, 2, [], rfl, Nat.le_refl _, by decide, rfl, rfl, rfl⟩) (.cons hA1 (.cons hA2 .nil)) (by simp) (by have := putOf_le b; intro l hl; simp at hl; subst hl; omega)) (by classical exact List.perm_iff_count.2 fun q => by simp only [List.count_append, List.count_cons, List.count_nil]; omega) ?_
          rintro q H9 ⟨rfl, rfl⟩
          refine WL.renamed (t := 86) (v := .bool true) rfl (congrArg Value.bool (rfl)) ?_
          refine WL.y rfl (Yd.pickT rfl rfl) ?_
          refine WL.y rfl (Yd.move rfl) ?_
          refine WL.gr (dj := 88) rfl rfl rfl (Ent.func Try.call27 rfl) (known03 _) ?_
          refine WL.y rfl (Yd.pickT rfl rfl) ?_
          refine WL.y rfl (Yd.assign rfl) ?_
          refine WL.nil ?_
          refine DN.then_normal ?_
          refine WC.ret ?_
          refine DN.forget H (by first | exact List.Sublist.refl _ | (repeat (first | exact List.Sublist.refl _ | exact List.nil_sublist _ | apply List.Sublist.cons_cons | apply List.Sublist.cons | apply List.sublist_append_of_sublist_right))) ?_
          refine DN.ret1 Try.results9 rfl ?_
          exact ⟨rfl, rfl⟩
        · refine WL.gy (dj := 73) rfl rfl rfl (Yd.move rfl) ?_
          refine WL.gy (dj := 73) rfl rfl rfl (Yd.len (e := 5) (by kernel_rfl) rfl) ?_
          refine WL.gr (dj := 73) rfl rfl rfl (Ent.func Try.call32 rfl) (size_reads b.length _) ?_
          refine WL.gy (dj := 73) rfl rfl rfl (Yd.move rfl) ?_
          refine WL.gy (dj := 73) rfl rfl rfl (Yd.len (e := 5) (by kernel_rfl) rfl) ?_
          refine WL.gy (dj := 73) rfl rfl rfl (Yd.eql rfl rfl) ?_
          refine WL.renamed (t := 79) (v := .bool true) rfl (congrArg Value.bool (decide_eq_true (put_size b hg73))) ?_
          refine WL.gy (dj := 70) rfl rfl rfl (Yd.pickF rfl rfl) ?_
          refine WL.y rfl (Yd.pickT rfl rfl) ?_
          refine WL.y rfl (Yd.move rfl) ?_
          refine WL.gy (dj := 82) rfl rfl rfl (Yd.move rfl) ?_
          refine WL.gy (dj := 82) rfl rfl rfl (Yd.move rfl) ?_
          refine WL.gh (dj := 82) rfl rfl rfl (Hd.buildSlice (e := 22) (sz := 1) (zs := [.slice none 0 0]) (parts := [(0, .tmp 83), (1, .tmp 84)]) (vs := [(0, .slice a1o (putOf b).length a1c), (1, .slice a2o (putOf b).length a2c)]) (cells := [.slice a1o (putOf b).length a1c, .slice a2o (putOf b).length a2c]) (by kernel_rfl) (by kernel_rfl) (by kernel_rfl) rfl (by kernel_rfl) (by kernel_rfl) fun rb => ⟨_, rfl, ?_⟩)
          refine WL.gc (D := A3 ++ H) (dj := 82) rfl rfl rfl (Ent.func Try.call33 rfl) (own_tells (.slice (some ⟨rb, 0, none⟩) 2 2) [.slice a1o (putOf b).length a1c, .slice a2o (putOf b).length a2c] [putOf b, putOf b] [row rb [.slice a1o (putOf b).length a1c, .slice a2o (putOf b).length a2c] 22] (A1 ++ (A2 ++ [])) (.inr ⟨rb, 2, [], rfl, Nat.le_refl _, by decide, rfl, rfl, rfl⟩) (.cons hA1 (.cons hA2 .nil)) (by simp) (by have := putOf_le b; intro l hl; simp at hl; subst hl; omega)) (by classical exact List.perm_iff_count.2 fun q => by simp only [List.count_append, List.count_cons, List.count_nil]; omega) ?_
          rintro q H9 ⟨rfl, rfl⟩
          refine WL.renamed (t := 86) (v := .bool true) rfl (congrArg Value.bool (rfl)) ?_
          refine WL.y rfl (Yd.pickT rfl rfl) ?_
          refine WL.y rfl (Yd.move rfl) ?_
          refine WL.gr (dj := 88) rfl rfl rfl (Ent.func Try.call27 rfl) (known03 _) ?_
          refine WL.y rfl (Yd.pickT rfl rfl) ?_
          refine WL.y rfl (Yd.assign rfl) ?_
          refine WL.nil ?_
          refine DN.then_normal ?_
          refine WC.ret ?_
          refine DN.forget H (by first | exact List.Sublist.refl _ | (repeat (first | exact List.Sublist.refl _ | exact List.nil_sublist _ | apply List.Sublist.cons_cons | apply List.Sublist.cons | apply List.sublist_append_of_sublist_right))) ?_
          refine DN.ret1 Try.results9 rfl ?_
          exact ⟨rfl, rfl⟩
    · refine WL.gn (dj := 42) rfl rfl rfl rfl ?_
      refine WL.gn (dj := 42) rfl rfl rfl rfl ?_
      refine WL.y rfl (Yd.pickF rfl rfl) ?_
      refine WL.nil ?_
      refine DN.then_normal ?_
      refine WC.no rfl ?_
      refine WC.skip ?_
      refine DN.then_normal ?_
      refine WC.seq ?_
      refine WC.region ?_
      refine WL.y rfl (Yd.move rfl) ?_
      refine WL.y rfl (Yd.move rfl) ?_
      refine WL.r rfl (Ent.func Try.call31 rfl) (same_reads _ _ (putOf b) (putOf b) _ (hA1.bs.mono fun y hy => by simp [hy]) (hA3.bs.mono fun y hy => by simp [hy])) ?_
      refine WL.renamed (t := 50) (v := .bool true) rfl (congrArg Value.bool (decide_eq_true rfl)) ?_
      refine WL.y rfl (Yd.move rfl) ?_
      refine WL.gy (dj := 51) rfl rfl rfl (Yd.move rfl) ?_
      refine WL.gy (dj := 51) rfl rfl rfl (Yd.move rfl) ?_
      refine WL.gr (dj := 51) rfl rfl rfl (Ent.func Try.call31 rfl) (same_reads _ _ (putOf b) (putOf b) _ (hA2.bs.mono fun y hy => by simp [hy]) (hA3.bs.mono fun y hy => by simp [hy])) ?_
      refine WL.renamed (t := 54) (v := .bool true) rfl (congrArg Value.bool (decide_eq_true rfl)) ?_
      refine WL.y rfl (Yd.pickT rfl rfl) ?_
      refine WL.y rfl (Yd.move rfl) ?_
      refine WL.gy (dj := 56) rfl rfl rfl (Yd.move rfl) ?_
      refine WL.gy (dj := 56) rfl rfl rfl (Yd.move rfl) ?_
      refine WL.gy (dj := 56) rfl rfl rfl (Yd.eql rfl rfl) ?_
      refine WL.renamed (t := 59) (v := .bool true) rfl (congrArg Value.bool (decide_eq_true rfl)) ?_
      refine WL.y rfl (Yd.pickT rfl rfl) ?_
      refine WL.y rfl (Yd.move rfl) ?_
      refine WL.gy (dj := 61) rfl rfl rfl (Yd.move rfl) ?_
      refine WL.y rfl (Yd.pickT rfl rfl) ?_
      refine WL.y rfl (Yd.move rfl) ?_
      refine WL.gy (dj := 64) rfl rfl rfl (Yd.move rfl) ?_
      refine WL.gr (dj := 64) rfl rfl rfl (Ent.func Try.call32 rfl) (size_reads n _) ?_
      refine WL.gy (dj := 64) rfl rfl rfl (Yd.move rfl) ?_
      refine WL.gy (dj := 64) rfl rfl rfl (Yd.eql rfl rfl) ?_
      refine WL.renamed (t := 68) (v := .bool true) rfl (congrArg Value.bool (decide_eq_true (by unfold frameSize; split <;> omega))) ?_
      refine WL.y rfl (Yd.pickT rfl rfl) ?_
      refine WL.y rfl (Yd.move rfl) ?_
      refine WL.gy (dj := 70) rfl rfl rfl (Yd.move rfl) ?_
      refine WL.gy (dj := 70) rfl rfl rfl (Yd.neq rfl rfl) ?_
      refine WL.gy (dj := 70) rfl rfl rfl (Yd.move rfl) ?_
      refine WL.partP (t := 73) rfl (fun hg73 => ?_) (fun hg73 => ?_)
      · refine WL.gn (dj := 73) rfl rfl rfl rfl ?_
        refine WL.gn (dj := 73) rfl rfl rfl rfl ?_
        refine WL.gn (dj := 73) rfl rfl rfl rfl ?_
        refine WL.gn (dj := 73) rfl rfl rfl rfl ?_
        refine WL.gn (dj := 73) rfl rfl rfl rfl ?_
        refine WL.gn (dj := 73) rfl rfl rfl rfl ?_
        refine WL.gy (dj := 70) rfl rfl rfl (Yd.pickT rfl rfl) ?_
        refine WL.y rfl (Yd.pickT rfl rfl) ?_
        refine WL.y rfl (Yd.move rfl) ?_
        refine WL.gy (dj := 82) rfl rfl rfl (Yd.move rfl) ?_
        refine WL.gy (dj := 82) rfl rfl rfl (Yd.move rfl) ?_
        refine WL.gh (dj := 82) rfl rfl rfl (Hd.buildSlice (e := 22) (sz := 1) (zs := [.slice none 0 0]) (parts := [(0, .tmp 83), (1, .tmp 84)]) (vs := [(0, .slice a1o (putOf b).length a1c), (1, .slice a2o (putOf b).length a2c)]) (cells := [.slice a1o (putOf b).length a1c, .slice a2o (putOf b).length a2c]) (by kernel_rfl) (by kernel_rfl) (by kernel_rfl) rfl (by kernel_rfl) (by kernel_rfl) fun rb => ⟨_, rfl, ?_⟩)
        refine WL.gc (D := A3 ++ H) (dj := 82) rfl rfl rfl (Ent.func Try.call33 rfl) (own_tells (.slice (some ⟨rb, 0, none⟩) 2 2) [.slice a1o (putOf b).length a1c, .slice a2o (putOf b).length a2c] [putOf b, putOf b] [row rb [.slice a1o (putOf b).length a1c, .slice a2o (putOf b).length a2c] 22] (A1 ++ (A2 ++ [])) (.inr ⟨rb, 2, [], rfl, Nat.le_refl _, by decide, rfl, rfl, rfl⟩) (.cons hA1 (.cons hA2 .nil)) (by simp) (by have := putOf_le b; intro l hl; simp at hl; subst hl; omega)) (by classical exact List.perm_iff_count.2 fun q => by simp only [List.count_append, List.count_cons, List.count_nil]; omega) ?_
        rintro q H9 ⟨rfl, rfl⟩
        refine WL.renamed (t := 86) (v := .bool true) rfl (congrArg Value.bool (rfl)) ?_
        refine WL.y rfl (Yd.pickT rfl rfl) ?_
        refine WL.y rfl (Yd.move rfl) ?_
        refine WL.gr (dj := 88) rfl rfl rfl (Ent.func Try.call27 rfl) (known03 _) ?_
        refine WL.y rfl (Yd.pickT rfl rfl) ?_
        refine WL.y rfl (Yd.assign rfl) ?_
        refine WL.nil ?_
        refine DN.then_normal ?_
        refine WC.ret ?_
        refine DN.forget H (by first | exact List.Sublist.refl _ | (repeat (first | exact List.Sublist.refl _ | exact List.nil_sublist _ | apply List.Sublist.cons_cons | apply List.Sublist.cons | apply List.sublist_append_of_sublist_right))) ?_
        refine DN.ret1 Try.results9 rfl ?_
        exact ⟨rfl, rfl⟩
      · refine WL.gy (dj := 73) rfl rfl rfl (Yd.move rfl) ?_
        refine WL.gy (dj := 73) rfl rfl rfl (Yd.len (e := 5) (by kernel_rfl) rfl) ?_
        refine WL.gr (dj := 73) rfl rfl rfl (Ent.func Try.call32 rfl) (size_reads b.length _) ?_
        refine WL.gy (dj := 73) rfl rfl rfl (Yd.move rfl) ?_
        refine WL.gy (dj := 73) rfl rfl rfl (Yd.len (e := 5) (by kernel_rfl) rfl) ?_
        refine WL.gy (dj := 73) rfl rfl rfl (Yd.eql rfl rfl) ?_
        refine WL.renamed (t := 79) (v := .bool true) rfl (congrArg Value.bool (decide_eq_true (put_size b hg73))) ?_
        refine WL.gy (dj := 70) rfl rfl rfl (Yd.pickF rfl rfl) ?_
        refine WL.y rfl (Yd.pickT rfl rfl) ?_
        refine WL.y rfl (Yd.move rfl) ?_
        refine WL.gy (dj := 82) rfl rfl rfl (Yd.move rfl) ?_
        refine WL.gy (dj := 82) rfl rfl rfl (Yd.move rfl) ?_
        refine WL.gh (dj := 82) rfl rfl rfl (Hd.buildSlice (e := 22) (sz := 1) (zs := [.slice none 0 0]) (parts := [(0, .tmp 83), (1, .tmp 84)]) (vs := [(0, .slice a1o (putOf b).length a1c), (1, .slice a2o (putOf b).length a2c)]) (cells := [.slice a1o (putOf b).length a1c, .slice a2o (putOf b).length a2c]) (by kernel_rfl) (by kernel_rfl) (by kernel_rfl) rfl (by kernel_rfl) (by kernel_rfl) fun rb => ⟨_, rfl, ?_⟩)
        refine WL.gc (D := A3 ++ H) (dj := 82) rfl rfl rfl (Ent.func Try.call33 rfl) (own_tells (.slice (some ⟨rb, 0, none⟩) 2 2) [.slice a1o (putOf b).length a1c, .slice a2o (putOf b).length a2c] [putOf b, putOf b] [row rb [.slice a1o (putOf b).length a1c, .slice a2o (putOf b).length a2c] 22] (A1 ++ (A2 ++ [])) (.inr ⟨rb, 2, [], rfl, Nat.le_refl _, by decide, rfl, rfl, rfl⟩) (.cons hA1 (.cons hA2 .nil)) (by simp) (by have := putOf_le b; intro l hl; simp at hl; subst hl; omega)) (by classical exact List.perm_iff_count.2 fun q => by simp only [List.count_append, List.count_cons, List.count_nil]; omega) ?_
        rintro q H9 ⟨rfl, rfl⟩
        refine WL.renamed (t := 86) (v := .bool true) rfl (congrArg Value.bool (rfl)) ?_
        refine WL.y rfl (Yd.pickT rfl rfl) ?_
        refine WL.y rfl (Yd.move rfl) ?_
        refine WL.gr (dj := 88) rfl rfl rfl (Ent.func Try.call27 rfl) (known03 _) ?_
        refine WL.y rfl (Yd.pickT rfl rfl) ?_
        refine WL.y rfl (Yd.assign rfl) ?_
        refine WL.nil ?_
        refine DN.then_normal ?_
        refine WC.ret ?_
        refine DN.forget H (by first | exact List.Sublist.refl _ | (repeat (first | exact List.Sublist.refl _ | exact List.nil_sublist _ | apply List.Sublist.cons_cons | apply List.Sublist.cons | apply List.sublist_append_of_sublist_right))) ?_
        refine DN.ret1 Try.results9 rfl ?_
        exact ⟨rfl, rfl⟩

/-- drayage/drayagelaw03.FrameGets -/
theorem law_FrameGets (v : Value) (b : List B8') (n : Int) (H : List Ck) (hv : Bs v b H) (hl : b.length ≤ 9223372036854775807) (hn : n ≤ 9223372036854775807) : Reads Try.prog 10 [v, .int .i64 n] H (.bool true) := by
  refine Tells.enter Try.func10 rfl Try.ntmps10 rfl ?_
  intro w0 R
  obtain ⟨ao, c, rfl, hc⟩ := Bs.form hv
  refine WC.seq ?_
  refine WC.region ?_
  refine WL.y rfl (Yd.assign rfl) ?_
  refine WL.nil ?_
  refine DN.then_normal ?_
  refine WC.seq ?_
  refine WC.seq ?_
  refine WC.region ?_
  refine WL.y rfl (Yd.move rfl) ?_
  refine WL.y rfl (Yd.len (e := 5) (by kernel_rfl) rfl) ?_
  refine WL.y rfl (Yd.gtr rfl rfl) ?_
  refine WL.nil ?_
  refine DN.then_normal ?_
  refine WC.ite rfl (fun h15 => ?_) (fun h15 => ?_)
  · refine WC.seq ?_
    refine WC.region ?_
    refine WL.r rfl (Ent.func Try.call27 rfl) (known03 _) ?_
    refine WL.y rfl (Yd.assign rfl) ?_
    refine WL.nil ?_
    refine DN.then_normal ?_
    refine WC.ret ?_
    refine DN.then_ret ?_
    refine DN.forget H (by first | exact List.Sublist.refl _ | (repeat (first | exact List.Sublist.refl _ | exact List.nil_sublist _ | apply List.Sublist.cons_cons | apply List.Sublist.cons | apply List.sublist_append_of_sublist_right))) ?_
    refine DN.ret1 Try.results10 rfl ?_
    exact ⟨rfl, rfl⟩
  · have h3 : b.length ≤ 6000 := by omega
    refine WC.skip ?_
    refine DN.then_normal ?_
    refine WC.seq ?_
    refine WC.region ?_
    refine WL.y rfl (Yd.move rfl) ?_
    refine WL.ca rfl (Ent.func Try.call18 rfl) (lent_spec _ b H hv (by omega)) ?_
    rintro x H0 ⟨xo, xc, C, rfl, hC, rfl⟩
    have hw := hv.mono (B := C ++ H) fun x hx => List.mem_append_right _ hx
    have hC2 : Bs (.slice xo (b.length + 2) xc) (b ++ [91#8, 92#8]) (C ++ H) := hC.bs.mono fun x hx => List.mem_append_left _ hx
    have hx : Bs (.slice xo b.length xc) b (C ++ H) := by
      have := hC2.upto (j := b.length) (by omega)
      rwa [List.take_left] at this
    refine WL.y rfl (Yd.assign rfl) ?_
    refine WL.nil ?_
    refine DN.then_normal ?_
    refine WC.seq ?_
    refine WC.region ?_
    refine WL.y rfl (Yd.move rfl) ?_
    refine WL.y rfl (Yd.move rfl) ?_
    refine WL.ca rfl (Ent.func Try.call34 rfl) (get2_tells _ b n _ hx (by omega) hn) ?_
    rintro q H1 ⟨a1, A1, rfl, hA1, rfl⟩
    refine WL.y rfl (Yd.move rfl) ?_
    refine WL.y rfl (Yd.extract rfl rfl) ?_
    refine WL.y rfl (Yd.extract rfl rfl) ?_
    refine WL.y rfl (Yd.extract rfl rfl) ?_
    refine WL.y rfl (Yd.assign rfl) ?_
    refine WL.y rfl (Yd.assign rfl) ?_
    refine WL.y rfl (Yd.assign rfl) ?_
    refine WL.nil ?_
    refine DN.then_normal ?_
    refine WC.seq ?_
    refine WC.region ?_
    refine WL.y rfl (Yd.move rfl) ?_
    refine WL.y rfl (Yd.move rfl) ?_
    refine WL.ca rfl (Ent.func Try.call35 rfl) (rget_tells _ b n _ (hv.mono fun y hy => by simp [hy]) (by omega) hn) ?_
    rintro q H2 ⟨a2, A2, rfl, hA2, rfl⟩
    refine WL.y rfl (Yd.move rfl) ?_
    refine WL.y rfl (Yd.extract rfl rfl) ?_
    refine WL.y rfl (Yd.extract rfl rfl) ?_
    refine WL.y rfl (Yd.extract rfl rfl) ?_
    refine WL.y rfl (Yd.assign rfl) ?_
    refine WL.y rfl (Yd.assign rfl) ?_
    refine WL.y rfl (Yd.assign rfl) ?_
    refine WL.nil ?_
    refine DN.then_normal ?_
    refine WC.seq ?_
    refine WC.region ?_
    refine WL.y rfl (Yd.move rfl) ?_
    refine WL.y rfl (Yd.move rfl) ?_
    refine WL.r rfl (Ent.func Try.call21 rfl) (whole_reads _ _ _ b _ (hC2.mono fun y hy => by simp at hy; rcases hy with hy | hy <;> simp [hy]) (hv.mono fun y hy => by simp [hy]) (by omega)) ?_
    refine WL.renamed (t := 35) (v := .bool true) rfl (congrArg Value.bool (rfl)) ?_
    refine WL.y rfl (Yd.assign rfl) ?_
    refine WL.nil ?_
    refine DN.then_normal ?_
    refine WC.seq ?_
    refine WC.region ?_
    refine WL.y rfl (Yd.move rfl) ?_
    refine WL.c (D := A2 ++ (A1 ++ H)) rfl (Ent.func Try.call29 rfl) (spoil_tells xo xc b.length 2 _ C hC (by simp) (by omega)) (by classical exact List.perm_iff_count.2 fun q => by simp only [List.count_append, List.count_cons, List.count_nil]; omega) ?_
    rintro q H9 rfl
    refine WL.nil ?_
    refine DN.then_normal ?_
    refine WC.seq ?_
    refine WC.region ?_
    refine WL.y rfl (Yd.move rfl) ?_
    refine WL.y rfl (Yd.move rfl) ?_
    refine WL.r rfl (Ent.func Try.call31 rfl) (same_reads _ _ _ _ _ (hA1.bs.mono fun y hy => by simp [hy]) (hA2.bs.mono fun y hy => by simp [hy])) ?_
    refine WL.renamed (t := 40) (v := .bool true) rfl (congrArg Value.bool (decide_eq_true rfl)) ?_
    refine WL.y rfl (Yd.move rfl) ?_
    refine WL.gy (dj := 41) rfl rfl rfl (Yd.move rfl) ?_
    refine WL.gy (dj := 41) rfl rfl rfl (Yd.move rfl) ?_
    refine WL.gy (dj := 41) rfl rfl rfl (Yd.eql rfl rfl) ?_
    refine WL.renamed (t := 44) (v := .bool true) rfl (congrArg Value.bool (decide_eq_true rfl)) ?_
    refine WL.y rfl (Yd.pickT rfl rfl) ?_
    refine WL.y rfl (Yd.move rfl) ?_
    refine WL.gy (dj := 46) rfl rfl rfl (Yd.move rfl) ?_
    refine WL.gy (dj := 46) rfl rfl rfl (Yd.move rfl) ?_
    refine WL.gy (dj := 46) rfl rfl rfl (Yd.eql rfl rfl) ?_
    refine WL.renamed (t := 49) (v := .bool true) rfl (congrArg Value.bool (decide_eq_true rfl)) ?_
    refine WL.y rfl (Yd.pickT rfl rfl) ?_
    refine WL.y rfl (Yd.move rfl) ?_
    refine WL.gy (dj := 51) rfl rfl rfl (Yd.move rfl) ?_
    refine WL.y rfl (Yd.pickT rfl rfl) ?_
    refine WL.y rfl (Yd.move rfl) ?_
    refine WL.gr (dj := 54) rfl rfl rfl (Ent.func Try.call27 rfl) (known03 _) ?_
    refine WL.y rfl (Yd.pickT rfl rfl) ?_
    refine WL.y rfl (Yd.assign rfl) ?_
    refine WL.nil ?_
    refine DN.then_normal ?_
    refine WC.ret ?_
    refine DN.forget H (by first | exact List.Sublist.refl _ | (repeat (first | exact List.Sublist.refl _ | exact List.nil_sublist _ | apply List.Sublist.cons_cons | apply List.Sublist.cons | apply List.sublist_append_of_sublist_right))) ?_
    refine DN.ret1 Try.results10 rfl ?_
    exact ⟨rfl, rfl⟩

/-- drayage/drayagelaw03.FrameAlls -/
theorem law_FrameAlls (v : Value) (b : List B8') (H : List Ck) (hv : Bs v b H) (hl : b.length ≤ 9223372036854775807) : Reads Try.prog 11 [v] H (.bool true) := by
  refine Tells.enter Try.func11 rfl Try.ntmps11 rfl ?_
  intro w0 R
  obtain ⟨ao, c, rfl, hc⟩ := Bs.form hv
  refine WC.seq ?_
  refine WC.region ?_
  refine WL.y rfl (Yd.assign rfl) ?_
  refine WL.nil ?_
  refine DN.then_normal ?_
  refine WC.seq ?_
  refine WC.seq ?_
  refine WC.region ?_
  refine WL.y rfl (Yd.move rfl) ?_
  refine WL.y rfl (Yd.len (e := 5) (by kernel_rfl) rfl) ?_
  refine WL.y rfl (Yd.gtr rfl rfl) ?_
  refine WL.nil ?_
  refine DN.then_normal ?_
  refine WC.ite rfl (fun h13 => ?_) (fun h13 => ?_)
  · refine WC.seq ?_
    refine WC.region ?_
    refine WL.r rfl (Ent.func Try.call27 rfl) (known03 _) ?_
    refine WL.y rfl (Yd.assign rfl) ?_
    refine WL.nil ?_
    refine DN.then_normal ?_
    refine WC.ret ?_
    refine DN.then_ret ?_
    refine DN.forget H (by first | exact List.Sublist.refl _ | (repeat (first | exact List.Sublist.refl _ | exact List.nil_sublist _ | apply List.Sublist.cons_cons | apply List.Sublist.cons | apply List.sublist_append_of_sublist_right))) ?_
    refine DN.ret1 Try.results11 rfl ?_
    exact ⟨rfl, rfl⟩
  · have h3 : b.length ≤ 6000 := by omega
    refine WC.skip ?_
    refine DN.then_normal ?_
    refine WC.seq ?_
    refine WC.region ?_
    refine WL.y rfl (Yd.move rfl) ?_
    refine WL.ca rfl (Ent.func Try.call18 rfl) (lent_spec _ b H hv (by omega)) ?_
    rintro x H0 ⟨xo, xc, C, rfl, hC, rfl⟩
    have hw := hv.mono (B := C ++ H) fun x hx => List.mem_append_right _ hx
    have hC2 : Bs (.slice xo (b.length + 2) xc) (b ++ [91#8, 92#8]) (C ++ H) := hC.bs.mono fun x hx => List.mem_append_left _ hx
    have hx : Bs (.slice xo b.length xc) b (C ++ H) := by
      have := hC2.upto (j := b.length) (by omega)
      rwa [List.take_left] at this
    refine WL.y rfl (Yd.assign rfl) ?_
    refine WL.nil ?_
    refine DN.then_normal ?_
    refine WC.seq ?_
    refine WC.region ?_
    refine WL.y rfl (Yd.move rfl) ?_
    refine WL.ca rfl (Ent.func Try.call36 rfl) (all2_tells _ b _ hx (by omega)) ?_
    rintro q H1 ⟨a1, ws1, A1, D1, rfl, hA1, hW1, rfl⟩
    obtain ⟨a1o, a1c, rfl, ha1⟩ := hA1.form
    have hfew := allOf_few b
    refine WL.y rfl (Yd.move rfl) ?_
    refine WL.y rfl (Yd.extract rfl rfl) ?_
    refine WL.y rfl (Yd.extract rfl rfl) ?_
    refine WL.y rfl (Yd.extract rfl rfl) ?_
    refine WL.y rfl (Yd.assign rfl) ?_
    refine WL.y rfl (Yd.assign rfl) ?_
    refine WL.y rfl (Yd.assign rfl) ?_
    refine WL.nil ?_
    refine DN.then_normal ?_
    refine WC.seq ?_
    refine WC.region ?_
    refine WL.y rfl (Yd.move rfl) ?_
    refine WL.ca rfl (Ent.func Try.call37 rfl) (rall_tells _ b _ (hv.mono fun y hy => by simp [hy]) (by omega)) ?_
    rintro q H2 ⟨a2, ws2, A2, D2, rfl, hA2, hW2, rfl⟩
    refine WL.y rfl (Yd.move rfl) ?_
    refine WL.y rfl (Yd.extract rfl rfl) ?_
    refine WL.y rfl (Yd.extract rfl rfl) ?_
    refine WL.y rfl (Yd.extract rfl rfl) ?_
    refine WL.y rfl (Yd.assign rfl) ?_
    refine WL.y rfl (Yd.assign rfl) ?_
    refine WL.y rfl (Yd.assign rfl) ?_
    refine WL.nil ?_
    refine DN.then_normal ?_
    refine WC.seq ?_
    refine WC.region ?_
    refine WL.y rfl (Yd.move rfl) ?_
    refine WL.y rfl (Yd.move rfl) ?_
    refine WL.r rfl (Ent.func Try.call21 rfl) (whole_reads _ _ _ b _ (hC2.mono fun y hy => by simp at hy; rcases hy with hy | hy <;> simp [hy]) (hv.mono fun y hy => by simp [hy]) (by omega)) ?_
    refine WL.renamed (t := 31) (v := .bool true) rfl (congrArg Value.bool (rfl)) ?_
    refine WL.y rfl (Yd.assign rfl) ?_
    refine WL.nil ?_
    refine DN.then_normal ?_
    refine WC.seq ?_
    refine WC.region ?_
    refine WL.y rfl (Yd.move rfl) ?_
    refine WL.c (D := A2 ++ (D2 ++ (A1 ++ (D1 ++ H)))) rfl (Ent.func Try.call29 rfl) (spoil_tells xo xc b.length 2 _ C hC (by simp) (by omega)) (by classical exact List.perm_iff_count.2 fun q => by simp only [List.count_append, List.count_cons, List.count_nil]; omega) ?_
    rintro q H9 rfl
    refine WL.nil ?_
    refine DN.then_normal ?_
    refine WC.seq ?_
    refine WC.region ?_
    refine WL.y rfl (Yd.move rfl) ?_
    refine WL.y rfl (Yd.move rfl) ?_
    refine WL.r rfl (Ent.func Try.call38 rfl) (sameLists_reads _ _ _ _ _ ((hW1.bss hA1).mono fun y hy => by simp at hy; rcases hy with hy | hy <;> simp [hy]) ((hW2.bss hA2).mono fun y hy => by simp at hy; rcases hy with hy | hy <;> simp [hy]) (by omega)) ?_
    refine WL.renamed (t := 36) (v := .bool true) rfl (congrArg Value.bool (decide_eq_true rfl)) ?_
    refine WL.y rfl (Yd.move rfl) ?_
    refine WL.gy (dj := 37) rfl rfl rfl (Yd.move rfl) ?_
    refine WL.gy (dj := 37) rfl rfl rfl (Yd.move rfl) ?_
    refine WL.gy (dj := 37) rfl rfl rfl (Yd.eql rfl rfl) ?_
    refine WL.renamed (t := 40) (v := .bool true) rfl (congrArg Value.bool (decide_eq_true rfl)) ?_
    refine WL.y rfl (Yd.pickT rfl rfl) ?_
    refine WL.y rfl (Yd.move rfl) ?_
    refine WL.gy (dj := 42) rfl rfl rfl (Yd.move rfl) ?_
    refine WL.gy (dj := 42) rfl rfl rfl (Yd.move rfl) ?_
    refine WL.gy (dj := 42) rfl rfl rfl (Yd.eql rfl rfl) ?_
    refine WL.renamed (t := 45) (v := .bool true) rfl (congrArg Value.bool (decide_eq_true rfl)) ?_
    refine WL.y rfl (Yd.pickT rfl rfl) ?_
    refine WL.y rfl (Yd.move rfl) ?_
    refine WL.gy (dj := 47) rfl rfl rfl (Yd.move rfl) ?_
    refine WL.y rfl (Yd.pickT rfl rfl) ?_
    refine WL.y rfl (Yd.move rfl) ?_
    refine WL.gy (dj := 50) rfl rfl rfl (Yd.move rfl) ?_
    refine WL.gy (dj := 50) rfl rfl rfl (Yd.len (e := 22) (by kernel_rfl) rfl) ?_
    refine WL.gy (dj := 50) rfl rfl rfl (Yd.gtr rfl rfl) ?_
    refine WL.gy (dj := 50) rfl rfl rfl (Yd.move rfl) ?_
    refine WL.partP (t := 54) rfl (fun hg54 => ?_) (fun hg54 => ?_)
    · refine WL.gn (dj := 54) rfl rfl rfl rfl ?_
      refine WL.gn (dj := 54) rfl rfl rfl rfl ?_
      refine WL.gy (dj := 50) rfl rfl rfl (Yd.pickT rfl rfl) ?_
      refine WL.y rfl (Yd.pickT rfl rfl) ?_
      refine WL.y rfl (Yd.move rfl) ?_
      refine WL.gr (dj := 59) rfl rfl rfl (Ent.func Try.call27 rfl) (known03 _) ?_
      refine WL.y rfl (Yd.pickT rfl rfl) ?_
      refine WL.y rfl (Yd.assign rfl) ?_
      refine WL.nil ?_
      refine DN.then_normal ?_
      refine WC.ret ?_
      refine DN.forget H (by first | exact List.Sublist.refl _ | (repeat (first | exact List.Sublist.refl _ | exact List.nil_sublist _ | apply List.Sublist.cons_cons | apply List.Sublist.cons | apply List.sublist_append_of_sublist_right))) ?_
      refine DN.ret1 Try.results11 rfl ?_
      exact ⟨rfl, rfl⟩
    · refine WL.gy (dj := 54) rfl rfl rfl (Yd.move rfl) ?_
      refine WL.gc (D := A2 ++ (D2 ++ H)) (dj := 54) rfl rfl rfl (Ent.func Try.call33 rfl) (own_tells _ _ _ A1 D1 hA1 hW1 (by omega) (fun l hl => by have := allOf_short b l hl; omega)) (by classical exact List.perm_iff_count.2 fun q => by simp only [List.count_append, List.count_cons, List.count_nil]; omega) ?_
      rintro q H9 ⟨rfl, rfl⟩
      refine WL.renamed (t := 56) (v := .bool true) rfl (congrArg Value.bool (rfl)) ?_
      refine WL.gy (dj := 50) rfl rfl rfl (Yd.pickF rfl rfl) ?_
      refine WL.y rfl (Yd.pickT rfl rfl) ?_
      refine WL.y rfl (Yd.move rfl) ?_
      refine WL.gr (dj := 59) rfl rfl rfl (Ent.func Try.call27 rfl) (known03 _) ?_
      refine WL.y rfl (Yd.pickT rfl rfl) ?_
      refine WL.y rfl (Yd.assign rfl) ?_
      refine WL.nil ?_
      refine DN.then_normal ?_
      refine WC.ret ?_
      refine DN.forget H (by first | exact List.Sublist.refl _ | (repeat (first | exact List.Sublist.refl _ | exact List.nil_sublist _ | apply List.Sublist.cons_cons | apply List.Sublist.cons | apply List.sublist_append_of_sublist_right))) ?_
      refine DN.ret1 Try.results11 rfl ?_
      exact ⟨rfl, rfl⟩

end Go.Proofs.Ytfacofbobmlmiaa
