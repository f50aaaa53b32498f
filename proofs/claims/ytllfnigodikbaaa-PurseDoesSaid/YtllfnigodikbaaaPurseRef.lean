/-
  The chapter's own purse: plain.
-/
import Derived.Test.YtllfnigodikbaaaPurseLaw2
set_option linter.unusedVariables false
set_option linter.unusedSimpArgs false
namespace Go.SL

/-- the chapter's purse that lies at p -/
def RpAt (TD TU TP p : Nat) (F : List Au) (L : List Py) (C : List Ck) : Prop :=
  ∃ vf vl Cf Cl, C = row p [vf, vl] TD :: (Cf ++ Cl) ∧ Own vf F.length (F.flatMap cellsU) TU 3 Cf ∧ Own vl L.length (L.flatMap cellsP) TP 4 Cl
def vwU (K F : List Au) : List Au := F.map fun g => acc K g.name
theorem vwU_len (K F : List Au) : (vwU K F).length = F.length := by simp [vwU]
theorem vwU_at (K F : List Au) (i : Nat) (h : i < F.length) (h' : i < (vwU K F).length) : (vwU K F)[i] = acc K F[i].name := by simp [vwU]
theorem vwU_told {gs K F S : List Au} {L : List Py} (inv : PInv gs K L) (hF : ToldK Au.name sLt gs F) (hT : ToldK Au.name sLt K S) : S = vwU K F := by
  have hn := told_namesU inv.nd inv.names hF hT
  refine List.ext_getElem (by rw [vwU_len]; exact hn.1) fun i h1 h2 => ?_
  have hi : i < F.length := by rw [vwU_len] at h2; exact h2
  rw [vwU_at K F i hi, ← hn.2 i h1 hi, told_acc inv.knd hT (List.getElem_mem h1)]
theorem vwU_step {gs K F : List Au} {L : List Py} (inv : PInv gs K L) (hF : ToldK Au.name sLt gs F) {i : Nat} (hi : i < F.length) :
    F[i].money - sumP L F[i].name 2 = (acc K F[i].name).money ∧ sumP L F[i].name 1 = (acc K F[i].name).held ∧ (acc K F[i].name).name = F[i].name ∧ 0 ≤ F[i].money ∧ F[i].money ≤ 1000000000 := by
  have h1 := inv.sums F[i].name
  have h2 := told_acc inv.nd hF (List.getElem_mem hi)
  have h3 := inv.top F[i].name
  have hm : F[i].name ∈ K.map Au.name := by rw [inv.names]; exact List.mem_map.2 ⟨F[i], hF.perm.mem_iff.1 (List.getElem_mem hi), rfl⟩
  unfold moneyOf heldU at h1
  unfold moneyOf at h3
  rw [h2] at h1 h3
  exact ⟨by omega, by omega, acc_in hm, h3.1, h3.2⟩
theorem auth_found {gs K F : List Au} {L : List Py} (inv : PInv gs K L) (hF : ToldK Au.name sLt gs F) {o : BitVec 32} {nm : ByteArray} {n : Int} (ho : ¬ o = 0#32) (hn : ¬ n < 1) (hf : findK Py.o L o = none) {i : Nat} (hi : i < (vwU K F).length) (h1 : (vwU K F)[i].name = nm) (h2 : n ≤ (vwU K F)[i].money - (vwU K F)[i].held) : authB K L o nm n = true := by
  have hi2 : i < F.length := by rw [vwU_len] at hi; exact hi
  rw [vwU_at K F i hi2] at h1 h2
  rw [(vwU_step inv hF hi2).2.2.1] at h1
  rw [h1] at h2
  unfold authB moneyOf heldU
  simp only [Bool.and_eq_true, decide_eq_true_eq, Bool.not_eq_true']
  exact ⟨ho, by omega, by rw [hf]; rfl, h2⟩
theorem auth_lost {gs K F : List Au} {L : List Py} (inv : PInv gs K L) (hF : ToldK Au.name sLt gs F) {o : BitVec 32} {nm : ByteArray} {n : Int} (hno : ∀ (i : Nat) (hi : i < (vwU K F).length), ¬ ((vwU K F)[i].name = nm ∧ n ≤ (vwU K F)[i].money - (vwU K F)[i].held)) : authB K L o nm n = false := by
  rw [Bool.eq_false_iff]
  intro hb
  obtain ⟨_, _, _, hle, hin⟩ := authB_parts hb
  rw [inv.names] at hin
  obtain ⟨g, hg, rfl⟩ := List.mem_map.1 hin
  obtain ⟨i, hi, e⟩ := List.getElem_of_mem (hF.perm.mem_iff.2 hg)
  refine hno i (by rw [vwU_len]; exact hi) ?_
  rw [vwU_at K F i hi, (vwU_step inv hF hi).2.2.1, e]
  exact ⟨rfl, hle⟩
theorem vwU_mid {gs K F : List Au} {L : List Py} (inv : PInv gs K L) (hF : ToldK Au.name sLt gs F) {i : Nat} (hi : i < (vwU K F).length) : 0 ≤ (vwU K F)[i].held ∧ (vwU K F)[i].held ≤ (vwU K F)[i].money ∧ (vwU K F)[i].money ≤ 1000000000 := by
  have hi2 : i < F.length := by rw [vwU_len] at hi; exact hi
  rw [vwU_at K F i hi2]
  have := inv.mid F[i].name
  unfold moneyOf heldU at this
  omega
theorem put_set {L : List Py} (hn : (L.map Py.o).Nodup) {q : Nat} (hq : q < L.length) (t : Int) : putK Py.o L ⟨L[q].o, L[q].name, L[q].n, t⟩ = L.set q ⟨L[q].o, L[q].name, L[q].n, t⟩ := by
  unfold putK
  rw [if_pos (by show (findK Py.o L L[q].o).isSome = true; rw [findK_of hn (List.getElem_mem hq)]; rfl)]
  refine List.ext_getElem (by simp) fun i h1 h2 => ?_
  simp only [List.getElem_map, List.getElem_set]
  have hi : i < L.length := by simpa using h1
  by_cases e : q = i
  · subst e; rw [if_pos rfl, if_pos rfl]
  · rw [if_neg e, if_neg]
    intro e2
    rcases Nat.lt_or_gt_of_ne e with h | h
    · have := List.pairwise_iff_getElem.1 hn q i (by simpa using hq) (by simpa using hi) h
      simp at this
      exact this e2
    · have := List.pairwise_iff_getElem.1 hn i q (by simpa using hi) (by simpa using hq) h
      simp at this
      exact this e2.symm
theorem flat_set {L : List Py} {q : Nat} (hq : q < L.length) (t : Int) : (L.flatMap cellsP).set (q * 4 + 3) (.int .i64 t) = (L.set q ⟨L[q].o, L[q].name, L[q].n, t⟩).flatMap cellsP := by
  induction L generalizing q with
  | nil => simp at hq
  | cons x L ih =>
    cases q with
    | zero => rfl
    | succ q =>
      have := ih (q := q) (by simpa using hq)
      simp only [List.set_cons_succ, List.flatMap_cons, List.getElem_cons_succ]
      rw [← this, List.set_append_right _ _ (by rw [cellsP_len]; omega), cellsP_len]
      congr 2
      omega

/-! the payments, one by one: the least that is above the last -/
def lastP (T : List Py) (k : Nat) : Nat := if k = 0 then 0 else (T.getD (k - 1) zeroP).o.toNat
def bestP (L : List Py) (last : Nat) (i : Nat) (b : Int) : Prop :=
  (b = -1 ∧ ∀ (j : Nat) (h : j < L.length), j < i → ¬ last < L[j].o.toNat) ∨ ∃ (q : Nat) (hq : q < L.length), q < i ∧ b = q ∧ last < L[q].o.toNat ∧ ∀ (j : Nat) (h : j < L.length), j < i → last < L[j].o.toNat → L[q].o.toNat ≤ L[j].o.toNat
theorem bestP_start (L : List Py) (last : Nat) : bestP L last 0 (-1) := .inl ⟨rfl, fun j h hj => by omega⟩
theorem bestP_keep {L : List Py} {last i : Nat} {b : Int} (h : bestP L last i b) (hi : i < L.length) (hno : ¬ last < L[i].o.toNat ∨ ∃ (q : Nat) (hq : q < L.length), b = q ∧ ¬ L[i].o.toNat < L[q].o.toNat) : bestP L last (i + 1) b := by
  rcases h with ⟨rfl, h⟩ | ⟨q, hq, hqi, rfl, h1, h2⟩
  · refine .inl ⟨rfl, fun j hj hji => ?_⟩
    rcases Nat.lt_or_ge j i with h5 | h5
    · exact h j hj h5
    · obtain rfl : j = i := by omega
      rcases hno with h6 | ⟨q, _, h6, _⟩
      · exact h6
      · omega
  · refine .inr ⟨q, hq, by omega, rfl, h1, fun j hj hji hl => ?_⟩
    rcases Nat.lt_or_ge j i with h5 | h5
    · exact h2 j hj h5 hl
    · obtain rfl : j = i := by omega
      rcases hno with h6 | ⟨q', hq', h6, h7⟩
      · exact absurd hl h6
      · obtain rfl : q = q' := by omega
        omega
theorem bestP_new {L : List Py} {last i : Nat} {b : Int} (h : bestP L last i b) (hi : i < L.length) (hl : last < L[i].o.toNat) (hb : b < 0 ∨ ∃ (q : Nat) (hq : q < L.length), b = q ∧ L[i].o.toNat < L[q].o.toNat) : bestP L last (i + 1) i := by
  refine .inr ⟨i, hi, by omega, rfl, hl, fun j hj hji hlj => ?_⟩
  rcases Nat.lt_or_ge j i with h5 | h5
  · rcases h with ⟨rfl, h⟩ | ⟨q, hq, hqi, rfl, h1, h2⟩
    · exact absurd hlj (h j hj h5)
    · have := h2 j hj h5 hlj
      rcases hb with h6 | ⟨q', hq', h6, h7⟩
      · omega
      · obtain rfl : q = q' := by omega
        omega
  · obtain rfl : j = i := by omega
    exact Nat.le_refl _
theorem bestP_case {L : List Py} {last i : Nat} {b : Int} (h : bestP L last i b) (hb : ¬ b < 0) : ∃ (q : Nat) (hq : q < L.length), b = q := by
  rcases h with ⟨rfl, _⟩ | ⟨q, hq, _, e, _⟩
  · omega
  · exact ⟨q, hq, e⟩
theorem bestP_end {first K : List Au} {L T : List Py} (inv : PInv first K L) (hT : ToldK Py.o uLt L T) {k : Nat} {b : Int} (hk : k < T.length) (h : bestP L (lastP T k) L.length b) : ∃ (q : Nat) (hq : q < L.length), b = q ∧ L[q] = T[k] := by
  have hs := hT.strict uLt_tri inv.keys
  have lto : ∀ (a c : Nat) (ha : a < T.length) (hc : c < T.length), a < c → T[a].o.toNat < T[c].o.toNat := fun a c ha hc hac => by
    have := List.pairwise_iff_getElem.1 hs a c ha hc hac
    simpa [uLt] using this
  have hlast : ∀ (c : Nat) (hc : c < T.length), k ≤ c → lastP T k < T[c].o.toNat := fun c hc hkc => by
    unfold lastP
    split
    · have := (inv.pays T[c] (hT.perm.mem_iff.1 (List.getElem_mem hc))).2.2.1
      rcases Nat.eq_zero_or_pos T[c].o.toNat with e | e
      · exact absurd (BitVec.eq_of_toNat_eq (by simpa using e)) this
      · exact e
    · have e : T.getD (k - 1) zeroP = T[k - 1] := by simp [List.getD, show k - 1 < T.length by omega]
      rw [e]
      exact lto (k - 1) c (by omega) hc (by omega)
  have hbelow : ∀ (c : Nat) (hc : c < T.length), c < k → ¬ lastP T k < T[c].o.toNat := fun c hc hck => by
    unfold lastP
    rw [if_neg (by omega)]
    have e : T.getD (k - 1) zeroP = T[k - 1] := by simp [List.getD, show k - 1 < T.length by omega]
    rw [e]
    rcases Nat.lt_or_ge c (k - 1) with h1 | h1
    · have := lto c (k - 1) hc (by omega) h1; omega
    · obtain rfl : c = k - 1 := by omega
      omega
  obtain ⟨j0, hj0, e0⟩ := List.getElem_of_mem (hT.perm.mem_iff.1 (List.getElem_mem hk))
  have hk0 := hlast k hk (Nat.le_refl _)
  rcases h with ⟨_, h⟩ | ⟨q, hq, _, rfl, h1, h2⟩
  · exact absurd (by rw [e0]; exact hk0) (h j0 hj0 hj0)
  · refine ⟨q, hq, rfl, ?_⟩
    obtain ⟨m, hm, em⟩ := List.getElem_of_mem (hT.perm.mem_iff.2 (List.getElem_mem hq))
    have h3 := h2 j0 hj0 hj0 (by rw [e0]; exact hk0)
    rw [e0] at h3
    rw [← em] at h1 h3 ⊢
    rcases Nat.lt_trichotomy m k with h4 | h4 | h4
    · exact absurd h1 (hbelow m hm h4)
    · subst h4; rfl
    · have := lto k m hk hm h4; omega
theorem lastP_next (T : List Py) {k : Nat} (hk : k < T.length) : lastP T (k + 1) = T[k].o.toNat := by
  unfold lastP
  rw [if_neg (by omega)]
  have e : T.getD (k + 1 - 1) zeroP = T[k] := by simp [List.getD, hk]
  rw [e]


end Go.SL
