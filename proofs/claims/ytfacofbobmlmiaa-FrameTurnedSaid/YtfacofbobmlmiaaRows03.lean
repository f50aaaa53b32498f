/-
  The walk of a row of frames (drayagelaw03.row).
-/
import Derived.Test.YtfacofbobmlmiaaKnown03
import Derived.Test.YtfacofbobmlmiaaRowMath
set_option linter.unusedVariables false
set_option linter.unusedSimpArgs false
set_option maxHeartbeats 2000000
namespace Go.Proofs.Ytfacofbobmlmiaa
open Go.SL Go.Sum
/-- these values are slices of these bytes -/
def Each (vs : List Value) (ls : List (List (BitVec 8))) (H : List Ck) : Prop := vs.length = ls.length ∧ ∀ i (h : i < ls.length), ∃ u, vs[i]? = some u ∧ Bs u ls[i] H
theorem Each.snoc {vs : List Value} {ls : List (List (BitVec 8))} {H : List Ck} {v : Value} {l : List (BitVec 8)} (h : Each vs ls H) (hv : Bs v l H) : Each (vs ++ [v]) (ls ++ [l]) H := by
  refine ⟨by simp [h.1], fun i hi => ?_⟩
  by_cases hlt : i < ls.length
  · obtain ⟨u, h1, h2⟩ := h.2 i hlt
    exact ⟨u, by rw [List.getElem?_append_left (by rw [h.1]; exact hlt)]; exact h1, by rw [List.getElem_append_left hlt]; exact h2⟩
  · have hi2 : i = ls.length := by simp at hi; omega
    subst hi2
    refine ⟨v, ?_, ?_⟩
    · rw [← h.1, List.getElem?_append_right (Nat.le_refl _), Nat.sub_self]; rfl
    · simpa using hv
theorem Each.one {vs : List Value} {ls : List (List (BitVec 8))} {H : List Ck} (h : Each vs ls H) : ∀ u ∈ vs, u.oneCell' = true := by
  intro u hu
  obtain ⟨i, hi, rfl⟩ := List.getElem_of_mem hu
  obtain ⟨w, h1, h2⟩ := h.2 i (by rw [← h.1]; exact hi)
  rw [List.getElem?_eq_getElem hi] at h1
  cases h1
  obtain ⟨_, _, e, _⟩ := h2.form
  rw [e]; rfl
theorem Each.mono {vs : List Value} {ls : List (List (BitVec 8))} {A B : List Ck} (h : Each vs ls A) (s : ∀ c ∈ A, c ∈ B) : Each vs ls B :=
  ⟨h.1, fun i hi => by obtain ⟨u, h1, h2⟩ := h.2 i hi; exact ⟨u, h1, h2.mono s⟩⟩
theorem Each.bss {E : TypeId} {v : Value} {vs : List Value} {ls : List (List (BitVec 8))} {C H : List Ck} (h : Each vs ls H) (o : Own v ls.length vs E 1 C) : Bss v ls (C ++ H) :=
  ⟨vs, o.rs.mono fun x hx => List.mem_append_left _ hx, h.1, fun i hi => by
    obtain ⟨u, h2, h3⟩ := h.2 i hi
    exact ⟨u, h2, h3.mono fun x hx => List.mem_append_right _ hx⟩⟩
theorem Each.nil (H : List Ck) : Each [] [] H := ⟨rfl, fun i h => by simp at h⟩
theorem putOf_le' (b : List (BitVec 8)) : (putOf b).length ≤ 2008 := by
  unfold putOf
  split
  · rw [frameOf_length]; omega
  · simp
theorem putErr_zero {l : List (BitVec 8)} (h : putErr l = 0) : l.length ≤ 2000 ∧ putOf l = frameOf l := by
  have h2 : l.length ≤ 2000 := by
    unfold putErr at h
    split at h
    · assumption
    · cases h
  exact ⟨h2, by rw [putOf, if_pos h2]⟩
structure RowIs (H : List Ck) (good : List (List (BitVec 8))) (vb vg ve : Value) (gvs : List Value) (Cb Cg Ce : List Ck) : Prop where
  short : Short good
  len : (flat good).length ≤ 8008
  bytes : Ob 5 vb (flat good) Cb
  list : Own vg good.length gvs 22 1 Cg
  each : Each gvs good H
  ends : Own ve good.length (ic (endsOf good)) 3 1 Ce


/-- drayage/drayagelaw03.row -/
theorem row_tells (v : Value) (ls : List (List B8')) (H : List Ck) (hv : Bss v ls H) (hl : ls.length ≤ 9223372036854775807) (hls : ∀ l ∈ ls, l.length ≤ 9223372036854775807) : Tells Try.prog 39 [v] H fun r H' => ∃ good vb vg ve gvs Cb Cg Ce, r = .tuple #[vb, vg, ve] ∧ RowIs H good vb vg ve gvs Cb Cg Ce ∧ H' = Cb ++ (Cg ++ (Ce ++ H)) := by
  refine Tells.enter Try.func39 rfl Try.ntmps39 rfl ?_
  intro w0 R
  obtain ⟨vo, vc, rfl, hvc⟩ := Bss.form hv
  obtain ⟨vs, hrs, hvl, hvs⟩ := hv.open
  obtain ⟨N, hN⟩ : ∃ N, N = ls.length := ⟨_, rfl⟩
  rw [← hN] at hrs hvc hl
  rw [← hN]
  refine WC.seq ?_
  refine WC.region ?_
  refine WL.y rfl (Yd.assign rfl) ?_
  refine WL.y rfl (Yd.assign rfl) ?_
  refine WL.y rfl (Yd.assign rfl) ?_
  refine WL.nil ?_
  refine DN.then_normal ?_
  refine WC.seq ?_
  refine WC.region ?_
  refine WL.y rfl (Yd.assign rfl) ?_
  refine WL.nil ?_
  refine DN.then_normal ?_
  refine WC.seq ?_
  refine WC.region ?_
  refine WL.y rfl (Yd.assign rfl) ?_
  refine WL.nil ?_
  refine DN.then_normal ?_
  refine WC.seq ?_
  refine WC.region ?_
  refine WL.y rfl (Yd.assign rfl) ?_
  refine WL.nil ?_
  refine DN.then_normal ?_
  refine WC.seq ?_
  refine WC.seq ?_
  refine WC.region ?_
  refine WL.y rfl (Yd.assign rfl) ?_
  refine WL.nil ?_
  refine DN.then_normal ?_
  refine WC.block ?_
  refine WC.loop (fun z : Nat × List (List B8') × Value × Value × Value × List Value × List Ck × List Ck × List Ck => z.1 ≤ N ∧ RowIs H z.2.1 z.2.2.1 z.2.2.2.1 z.2.2.2.2.1 z.2.2.2.2.2.1 z.2.2.2.2.2.2.1 z.2.2.2.2.2.2.2.1 z.2.2.2.2.2.2.2.2) (fun z => [(0, .slice vo N vc), (5, z.2.2.1), (6, z.2.2.2.1), (7, z.2.2.2.2.1), (8, .int .i64 z.1)]) (fun z => z.2.2.2.2.2.2.1 ++ (z.2.2.2.2.2.2.2.1 ++ (z.2.2.2.2.2.2.2.2 ++ H))) (fun z => N - z.1) (0, [], .slice none 0 0, .slice none 0 0, .slice none 0 0, [], [], [], []) ⟨Nat.zero_le _, ⟨Short.nil, by simp [flat_nil], Ob.nil _, Own.nil _ _, Each.nil _, Own.nil _ _⟩⟩ ⟨rfl, rfl, rfl, rfl, rfl, trivial⟩ (List.Perm.refl _) ?_
  rintro ⟨i, good, vb, vg, ve, gvs, Cb, Cg, Ce⟩ ⟨hi, hr⟩
  simp only at hi hr
  obtain ⟨bo, bcap, rfl, hbcap⟩ := hr.bytes.form
  have hfew := flat_few good
  have hlen8 := hr.len
  refine WC.seq ?_
  refine WC.seq ?_
  refine WC.region ?_
  refine WL.y rfl (Yd.move rfl) ?_
  refine WL.y rfl (Yd.move rfl) ?_
  refine WL.y rfl (Yd.len (e := 22) (by kernel_rfl) rfl) ?_
  refine WL.y rfl (Yd.lss rfl rfl) ?_
  refine WL.y rfl (Yd.move rfl) ?_
  refine WL.partP (t := 15) rfl (fun hg15 => ?_) (fun hg15 => ?_)
  · refine WL.gy (dj := 15) rfl rfl rfl (Yd.move rfl) ?_
    refine WL.gy (dj := 15) rfl rfl rfl (Yd.len (e := 5) (by kernel_rfl) rfl) ?_
    refine WL.gy (dj := 15) rfl rfl rfl (Yd.lss rfl rfl) ?_
    refine WL.y rfl (Yd.pickT rfl rfl) ?_
    refine WL.nil ?_
    refine DN.then_normal ?_
    refine WC.ite rfl (fun h19 => ?_) (fun h19 => ?_)
    · obtain ⟨eo, ec, hg, hb⟩ := hvs i (by omega)
      have hli := hls ls[i] (List.getElem_mem _)
      refine WC.skip ?_
      refine DN.then_normal ?_
      refine WC.seq ?_
      refine WC.block ?_
      refine WC.seq ?_
      refine WC.region ?_
      refine WL.y rfl (Yd.move rfl) ?_
      refine WL.y rfl (Yd.move rfl) ?_
      refine WL.elem (e := 22) (by kernel_rfl) (by kernel_rfl) (by kernel_rfl) rfl rfl (rfl) (hrs.mono fun x hx => by simp [hx]) (hg) (by omega) rfl rfl ?_
      intro _
      refine WL.ca rfl (Ent.func Try.call28 rfl) (put2_tells _ ls[i] _ (hb.mono fun x hx => by simp [hx]) hli) ?_
      rintro q H1 ⟨a1, A1, rfl, hA1, rfl⟩
      obtain ⟨a1o, a1c, rfl, ha1⟩ := hA1.form
      have hadd : ls[i].length ≤ 2000 ∨ 2000 < ls[i].length := by omega
      refine WL.y rfl (Yd.move rfl) ?_
      refine WL.y rfl (Yd.extract rfl rfl) ?_
      refine WL.y rfl (Yd.extract rfl rfl) ?_
      refine WL.y rfl (Yd.assign rfl) ?_
      refine WL.y rfl (Yd.assign rfl) ?_
      refine WL.nil ?_
      refine DN.then_normal ?_
      refine WC.seq ?_
      refine WC.region ?_
      refine WL.y rfl (Yd.move rfl) ?_
      refine WL.y rfl (Yd.eql rfl rfl) ?_
      refine WL.y rfl (Yd.move rfl) ?_
      refine WL.partP (t := 32) rfl (fun hg32 => ?_) (fun hg32 => ?_)
      · refine WL.gy (dj := 32) rfl rfl rfl (Yd.move rfl) ?_
        refine WL.gy (dj := 32) rfl rfl rfl (Yd.len (e := 5) (by kernel_rfl) rfl) ?_
        refine WL.gy (dj := 32) rfl rfl rfl (Yd.move rfl) ?_
        refine WL.gy (dj := 32) rfl rfl rfl (Yd.move rfl) ?_
        refine WL.elemN (e := 22) (dj := 32) (by kernel_rfl) (by kernel_rfl) (by kernel_rfl) rfl rfl (rfl) (hrs.mono fun x hx => by simp [hx]) (hg) (by omega) rfl rfl rfl rfl rfl ?_
        intro _
        refine WL.gy (dj := 32) rfl rfl rfl (Yd.len (e := 5) (by kernel_rfl) rfl) ?_
        refine WL.gy (dj := 32) rfl rfl rfl (Yd.add rfl rfl (by omega) (by have := (putErr_zero hg32).1; omega)) ?_
        refine WL.gy (dj := 32) rfl rfl rfl (Yd.eql rfl rfl) ?_
        refine WL.renamed (t := 41) (v := .bool true) rfl (congrArg Value.bool (by rw [(putErr_zero hg32).2, frameOf_length]; simp; omega)) ?_
        refine WL.y rfl (Yd.pickT rfl rfl) ?_
        refine WL.nil ?_
        refine DN.then_normal ?_
        refine WC.yes rfl ?_
        refine WC.seq ?_
        refine WC.region ?_
        have hle := putErr_zero hg32
        have h6 : (flat good).length < 6000 := by omega
        refine WL.y rfl (Yd.move rfl) ?_
        refine WL.y rfl (Yd.move rfl) ?_
        refine WL.h rfl (Hd.appendB (e := 5) (zs := [.int .u8 0]) (C := Cb) (D := A1 ++ (Cg ++ (Ce ++ H))) (by kernel_rfl) (by kernel_rfl) rfl rfl rfl hr.bytes (hA1.bs.mono fun x hx => by simp [hx]) (by have := putOf_le' ls[i]; omega) (by classical exact List.perm_iff_count.2 fun q => by simp only [List.count_append, List.count_cons, List.count_nil]; omega) fun vb2 B2 hb2 _ => ⟨_, rfl, ?_⟩)
        refine WL.y rfl (Yd.assign rfl) ?_
        refine WL.nil ?_
        refine DN.then_normal ?_
        refine WC.seq ?_
        refine WC.region ?_
        refine WL.y rfl (Yd.move rfl) ?_
        refine WL.y rfl (Yd.move rfl) ?_
        refine WL.y rfl (Yd.move rfl) ?_
        refine WL.elem (e := 22) (by kernel_rfl) (by kernel_rfl) (by kernel_rfl) rfl rfl (rfl) (hrs.mono fun x hx => by simp [hx]) (hg) (by omega) rfl rfl ?_
        intro _
        refine WL.h rfl (Hd.build1 (e := 22) (z := .slice none 0 0) (by kernel_rfl) (by kernel_rfl) (by kernel_rfl) rfl rfl fun rb1 => ⟨_, rfl, ?_⟩)
        refine WL.h rfl (Hd.append (e := 22) (sz := 1) (bytes := 24) (zs := [.slice none 0 0]) (C := Cg) (D := row rb1 [.slice eo ls[i].length ec] 22 :: (B2 ++ (A1 ++ (Ce ++ H)))) (m := 1) (news := [.slice eo ls[i].length ec]) (by kernel_rfl) (by kernel_rfl) rfl (by omega) rfl rfl hr.list (.inr ⟨rb1, 0, 1, [.slice eo ls[i].length ec], 22, (0, 0), true, rfl, by omega, List.mem_append_right _ List.mem_cons_self, rfl⟩) rfl (by intro y hy; rw [List.mem_singleton.1 hy]; rfl) (by simp only [maxLen]; omega) (by omega) (by classical exact List.perm_iff_count.2 fun q => by simp only [List.count_append, List.count_cons, List.count_nil]; omega) fun vg2 G2 hg2 _ => ⟨_, rfl, ?_⟩)
        refine WL.y rfl (Yd.assign rfl) ?_
        refine WL.nil ?_
        refine DN.then_normal ?_
        refine WC.region ?_
        refine WL.y rfl (Yd.move rfl) ?_
        obtain ⟨b2o, b2c, rfl, hb2c⟩ := hb2.form
        refine WL.y rfl (Yd.move rfl) ?_
        refine WL.y rfl (Yd.len (e := 5) (by kernel_rfl) rfl) ?_
        refine WL.h rfl (Hd.build1 (e := 3) (z := .int .i64 0) (by kernel_rfl) (by kernel_rfl) (by kernel_rfl) rfl rfl fun rb2 => ⟨_, rfl, ?_⟩)
        refine WL.h rfl (Hd.append (e := 3) (sz := 1) (bytes := 8) (zs := [.int .i64 0]) (C := Ce) (D := row rb2 [Value.int .i64 ((flat good ++ putOf ls[i]).length : Int)] 3 :: (G2 ++ (row rb1 [.slice eo ls[i].length ec] 22 :: (B2 ++ (A1 ++ H))))) (m := 1) (news := ic [((flat good ++ putOf ls[i]).length : Int)]) (by kernel_rfl) (by kernel_rfl) rfl (by omega) rfl rfl hr.ends (.inr ⟨rb2, 0, 1, [Value.int .i64 ((flat good ++ putOf ls[i]).length : Int)], 3, (0, 0), true, rfl, by omega, List.mem_append_right _ List.mem_cons_self, rfl⟩) rfl (ic_one _) (by simp only [maxLen]; omega) (by omega) (by classical exact List.perm_iff_count.2 fun q => by simp only [List.count_append, List.count_cons, List.count_nil]; omega) fun ve2 E2 he2 _ => ⟨_, rfl, ?_⟩)
        refine WL.y rfl (Yd.assign rfl) ?_
        refine WL.nil ?_
        refine DN.block_normal ?_
        refine DN.then_normal ?_
        refine WC.region ?_
        refine WL.y rfl (Yd.move rfl) ?_
        refine WL.y rfl (Yd.add rfl rfl (by omega) (by omega)) ?_
        refine WL.y rfl (Yd.assign rfl) ?_
        refine WL.nil ?_
        refine DN.forget (E2 ++ (G2 ++ (B2 ++ H))) ?_ ?_
        · refine List.Sublist.append (List.Sublist.refl _) ((List.Sublist.append (List.Sublist.refl _) ((List.Sublist.append (List.Sublist.refl _) (List.sublist_append_right _ _)).cons _)).cons _)
        refine DN.again (i + 1, good ++ [ls[i]], .slice b2o ((flat good ++ putOf ls[i]).length) b2c, vg2, ve2, gvs ++ [.slice eo ls[i].length ec], B2, G2, E2) ⟨by show i + 1 ≤ N; omega, ⟨hr.short.snoc hle.1, by rw [flat_append, flat_one, List.length_append, frameOf_length]; omega, ?_, by simpa using hg2, hr.each.snoc hb, ?_⟩⟩ (by show N - (i + 1) < N - i; omega) ⟨rfl, rfl, rfl, rfl, rfl, trivial⟩ (by classical exact List.perm_iff_count.2 fun q => by simp only [List.count_append, List.count_cons, List.count_nil]; omega)
        · rw [flat_append, flat_one, ← hle.2]; exact hb2
        · rw [endsOf_snoc, ic_append, ← hle.2]; simpa using he2
      · refine WL.gn (dj := 32) rfl rfl rfl rfl ?_
        refine WL.gn (dj := 32) rfl rfl rfl rfl ?_
        refine WL.gn (dj := 32) rfl rfl rfl rfl ?_
        refine WL.gn (dj := 32) rfl rfl rfl rfl ?_
        refine WL.gn (dj := 32) rfl rfl rfl rfl ?_
        refine WL.gn (dj := 32) rfl rfl rfl rfl ?_
        refine WL.gn (dj := 32) rfl rfl rfl rfl ?_
        refine WL.gn (dj := 32) rfl rfl rfl rfl ?_
        refine WL.gn (dj := 32) rfl rfl rfl rfl ?_
        refine WL.y rfl (Yd.pickF rfl rfl) ?_
        refine WL.nil ?_
        refine DN.then_normal ?_
        refine WC.no rfl ?_
        refine WC.skip ?_
        refine DN.block_normal ?_
        refine DN.then_normal ?_
        refine WC.region ?_
        refine WL.y rfl (Yd.move rfl) ?_
        refine WL.y rfl (Yd.add rfl rfl (by omega) (by omega)) ?_
        refine WL.y rfl (Yd.assign rfl) ?_
        refine WL.nil ?_
        refine DN.forget (Cb ++ (Cg ++ (Ce ++ H))) (List.sublist_append_right _ _) ?_
        exact DN.again (i + 1, good, .slice bo (flat good).length bcap, vg, ve, gvs, Cb, Cg, Ce) ⟨by show i + 1 ≤ N; omega, hr⟩ (by show N - (i + 1) < N - i; omega) ⟨rfl, rfl, rfl, rfl, rfl, trivial⟩ (List.Perm.refl _)
    · refine WC.exit ?_
      refine DN.then_exit ?_
      refine DN.then_exit ?_
      refine DN.block_exit ?_
      refine DN.then_normal ?_
      refine WC.seq ?_
      refine WC.region ?_
      refine WL.y rfl (Yd.move rfl) ?_
      refine WL.y rfl (Yd.move rfl) ?_
      refine WL.y rfl (Yd.move rfl) ?_
      refine WL.y rfl (Yd.assign rfl) ?_
      refine WL.y rfl (Yd.assign rfl) ?_
      refine WL.y rfl (Yd.assign rfl) ?_
      refine WL.nil ?_
      refine DN.then_normal ?_
      refine WC.ret ?_
      refine DN.ret3 Try.results39 rfl rfl rfl ?_
      exact ⟨good, _, vg, ve, gvs, Cb, Cg, Ce, rfl, hr, rfl⟩
  · refine WL.gn (dj := 15) rfl rfl rfl rfl ?_
    refine WL.gn (dj := 15) rfl rfl rfl rfl ?_
    refine WL.gn (dj := 15) rfl rfl rfl rfl ?_
    refine WL.y rfl (Yd.pickF rfl rfl) ?_
    refine WL.nil ?_
    refine DN.then_normal ?_
    refine WC.no rfl ?_
    refine WC.exit ?_
    refine DN.then_exit ?_
    refine DN.then_exit ?_
    refine DN.block_exit ?_
    refine DN.then_normal ?_
    refine WC.seq ?_
    refine WC.region ?_
    refine WL.y rfl (Yd.move rfl) ?_
    refine WL.y rfl (Yd.move rfl) ?_
    refine WL.y rfl (Yd.move rfl) ?_
    refine WL.y rfl (Yd.assign rfl) ?_
    refine WL.y rfl (Yd.assign rfl) ?_
    refine WL.y rfl (Yd.assign rfl) ?_
    refine WL.nil ?_
    refine DN.then_normal ?_
    refine WC.ret ?_
    refine DN.ret3 Try.results39 rfl rfl rfl ?_
    exact ⟨good, _, vg, ve, gvs, Cb, Cg, Ce, rfl, hr, rfl⟩

end Go.Proofs.Ytfacofbobmlmiaa
