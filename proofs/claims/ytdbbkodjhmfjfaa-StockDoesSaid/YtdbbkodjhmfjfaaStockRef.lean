/-
  The chapter's own stock: plain.
-/
import Derived.Test.YtdbbkodjhmfjfaaRefK
import Derived.Test.YtdbbkodjhmfjfaaStockLaw
set_option linter.unusedVariables false
set_option linter.unusedSimpArgs false
namespace Go.SL

/-- the goods as they are told: those at first, with what is free and gone by now -/
def vw (K F : List Gd) : List Gd := F.map fun g => ⟨g.name, freeOf K g.name, goneOf K g.name⟩
theorem vw_len (K F : List Gd) : (vw K F).length = F.length := by simp [vw]
theorem vw_at (K F : List Gd) (i : Nat) (h : i < F.length) (h' : i < (vw K F).length) : (vw K F)[i] = ⟨F[i].name, freeOf K F[i].name, goneOf K F[i].name⟩ := by simp [vw]
structure RInv (gs K : List Gd) (L : List Ho) (F : List Gd) (A : List Ho) : Prop where
  told : ToldK Gd.name sLt gs F
  away : ∀ nm, sumN A nm = goneOf K nm
  ok : ∀ x ∈ A, 1 ≤ x.n ∧ x.name ∈ gs.map Gd.name
theorem RInv.start {gs F : List Gd} (hg : ∀ g ∈ gs, g.gone = 0) (hn : (gs.map Gd.name).Nodup) (h : ToldK Gd.name sLt gs F) : RInv gs gs [] F [] := by
  refine ⟨h, fun nm => ?_, fun x hx => by cases hx⟩
  by_cases hm : nm ∈ gs.map Gd.name
  · obtain ⟨g, hgm, rfl⟩ := List.mem_map.1 hm
    rw [(free_of hn hgm).2, hg g hgm]; rfl
  · rw [(free_none hm).2]; rfl
theorem RInv.lens {gs K : List Gd} {L : List Ho} {F : List Gd} {A : List Ho} (h : RInv gs K L F A) (inv : SInv gs K L) : F.length ≤ 50 ∧ A.length ≤ 50000000 ∧ F.length = gs.length := by
  have h1 := h.told.perm.length_eq
  have h2 := inv.few
  have h3 := sumN_many (gs.map Gd.name) A h.ok
  have h4 := sum_le (fun nm => sumN A nm) 1000000 (gs.map Gd.name) fun x => by rw [h.away]; exact (inv.mid x).2.2.2.1
  rw [List.length_map] at h4
  exact ⟨by omega, by omega, h1⟩
theorem RInv.vw {gs K : List Gd} {L : List Ho} {F : List Gd} {A : List Ho} {S : List Gd} (h : RInv gs K L F A) (inv : SInv gs K L) (hT : ToldK Gd.name sLt K S) : S = vw K F := by
  have hn := told_names inv.nd inv.names h.told hT
  refine List.ext_getElem (by rw [vw_len]; exact hn.1) fun i h1 h2 => ?_
  have hF : i < F.length := by rw [vw_len] at h2; exact h2
  have e := hn.2 i h1 hF
  have f := told_free inv.knd hT (List.getElem_mem h1)
  rw [vw_at K F i hF, ← e, f.1, f.2]
theorem RInv.step {gs K : List Gd} {L : List Ho} {F : List Gd} {A : List Ho} (h : RInv gs K L F A) (inv : SInv gs K L) {i : Nat} (hi : i < F.length) :
    F[i].free - sumN L F[i].name - sumN A F[i].name = freeOf K F[i].name ∧ 0 ≤ F[i].free ∧ F[i].free ≤ 1000000 := by
  have h1 := inv.sums F[i].name
  have h2 := (told_free inv.nd h.told (List.getElem_mem hi)).1
  have h3 := h.away F[i].name
  have h4 := inv.top F[i].name
  have h5 := inv.mid F[i].name
  omega
theorem RInv.hold {gs K : List Gd} {L : List Ho} {F : List Gd} {A : List Ho} (h : RInv gs K L F A) (o : BitVec 32) (nm : ByteArray) (n : Int) : RInv gs (holdKs K L o nm n) (holdLs K L o nm n) F A := by
  refine ⟨h.told, fun nm' => ?_, h.ok⟩
  rw [h.away]
  unfold holdKs
  split
  · rw [adj_gone]; split <;> simp_all
  · rfl
/-- what is away after a leave -/
def awayL (L A : List Ho) (o : BitVec 32) (b : Bool) : List Ho := match findK Ho.o L o with | none => A | some x => if b then A ++ [x] else A
theorem RInv.leave {gs K : List Gd} {L : List Ho} {F : List Gd} {A : List Ho} (h : RInv gs K L F A) (inv : SInv gs K L) (o : BitVec 32) (b : Bool) : RInv gs (leaveKs K L o b) (delK Ho.o L o) F (awayL L A o b) := by
  unfold leaveKs awayL
  cases hf : findK Ho.o L o with
  | none => exact ⟨h.told, h.away, h.ok⟩
  | some x =>
    have hx := inv.holds x (findK_mem hf).1
    cases b
    · refine ⟨h.told, fun nm' => ?_, h.ok⟩
      simp only [Bool.false_eq_true, if_false]
      rw [h.away, adj_gone]; split <;> simp_all
    · refine ⟨h.told, fun nm' => ?_, ?_⟩
      · simp only [if_true]
        rw [sumN_snoc, h.away, adj_gone]
        by_cases e : nm' = x.name
        · subst e; simp
        · rw [if_neg e, if_neg (fun z => e z.symm), Int.add_zero]
      · simp only [if_true]
        intro y hy
        rcases List.mem_append.1 hy with hy | hy
        · exact h.ok y hy
        · rw [List.mem_singleton.1 hy]; exact ⟨hx.1, hx.2.2⟩
def actAs (L A : List Ho) (a : Ac9) : List Ho := if isHold a then A else if a.k = 2 then awayL L A a.o false else awayL L A a.o true
theorem RInv.act {gs K : List Gd} {L : List Ho} {F : List Gd} {A : List Ho} (h : RInv gs K L F A) (inv : SInv gs K L) (a : Ac9) : RInv gs (actKs K L a) (actLs K L a) F (actAs L A a) := by
  unfold actKs actLs actAs
  cases isHold a
  · simp only [Bool.false_eq_true, if_false]
    split
    · exact h.leave inv a.o false
    · exact h.leave inv a.o true
  · exact h.hold a.o a.name a.n
/-- the chapter's stock that lies at p -/
def RsAt (TD TG TH p : Nat) (F : List Gd) (L A : List Ho) (C : List Ck) : Prop :=
  ∃ vf vl va Cf Cl Ca, C = row p [vf, vl, va] TD :: (Cf ++ (Cl ++ Ca)) ∧ Own vf F.length (F.flatMap cellsG) TG 2 Cf ∧ Own vl L.length (L.flatMap cellsH) TH 3 Cl ∧ Own va A.length (A.flatMap cellsH) TH 3 Ca
theorem hold_found {gs K : List Gd} {L : List Ho} {F : List Gd} {A : List Ho} (h : RInv gs K L F A) (inv : SInv gs K L) {o : BitVec 32} {nm : ByteArray} {n : Int} (ho : ¬ o = 0#32) (hn : ¬ n < 1) (hf : findK Ho.o L o = none) {i : Nat} (hi : i < (vw K F).length) (h1 : (vw K F)[i].name = nm) (h2 : n ≤ (vw K F)[i].free) : holdB K L o nm n = true := by
  have hF : i < F.length := by rw [vw_len] at hi; exact hi
  rw [vw_at K F i hF] at h1 h2
  simp only at h1 h2
  rw [h1] at h2
  unfold holdB
  simp only [Bool.and_eq_true, decide_eq_true_eq, Bool.not_eq_true']
  exact ⟨ho, by omega, by rw [hf]; rfl, h2⟩
theorem hold_lost {gs K : List Gd} {L : List Ho} {F : List Gd} {A : List Ho} (h : RInv gs K L F A) (inv : SInv gs K L) {o : BitVec 32} {nm : ByteArray} {n : Int} (hn : ¬ n < 1) (hno : ∀ (i : Nat) (hi : i < (vw K F).length), ¬ ((vw K F)[i].name = nm ∧ n ≤ (vw K F)[i].free)) : holdB K L o nm n = false := by
  rw [Bool.eq_false_iff]
  intro hb
  obtain ⟨_, _, _, hle, hin⟩ := holdB_parts hb
  rw [inv.names] at hin
  obtain ⟨g, hg, rfl⟩ := List.mem_map.1 hin
  obtain ⟨i, hi, e⟩ := List.getElem_of_mem (h.told.perm.mem_iff.2 hg)
  have hi2 : i < (vw K F).length := by rw [vw_len]; exact hi
  refine hno i hi2 ?_
  rw [vw_at K F i hi]
  simp only
  rw [e]
  exact ⟨rfl, hle⟩

/-! the holds, one by one: the least that is above the last -/
def lastO (T : List Ho) (k : Nat) : Nat := if k = 0 then 0 else (T.getD (k - 1) zeroH).o.toNat
def bestI (L : List Ho) (last : Nat) (i : Nat) (b : Int) : Prop :=
  (b = -1 ∧ ∀ (j : Nat) (h : j < L.length), j < i → ¬ last < L[j].o.toNat) ∨ ∃ (q : Nat) (hq : q < L.length), q < i ∧ b = q ∧ last < L[q].o.toNat ∧ ∀ (j : Nat) (h : j < L.length), j < i → last < L[j].o.toNat → L[q].o.toNat ≤ L[j].o.toNat
theorem best_start (L : List Ho) (last : Nat) : bestI L last 0 (-1) := .inl ⟨rfl, fun j h hj => by omega⟩
theorem best_keep {L : List Ho} {last i : Nat} {b : Int} (h : bestI L last i b) (hi : i < L.length) (hno : ¬ last < L[i].o.toNat ∨ ∃ (q : Nat) (hq : q < L.length), b = q ∧ ¬ L[i].o.toNat < L[q].o.toNat) : bestI L last (i + 1) b := by
  rcases h with ⟨rfl, h⟩ | ⟨q, hq, hqi, rfl, h1, h2⟩
  · refine .inl ⟨rfl, fun j hj hji => ?_⟩
    rcases Nat.lt_or_ge j i with h5 | h5
    · exact h j hj h5
    · obtain rfl : j = i := by omega
      rcases hno with h6 | ⟨q, _, h6, _⟩
      · exact h6
      · omega
  · refine .inr ⟨q, hq, by omega, rfl, h1, fun j hj hji hl => ?_⟩
    rcases Nat.lt_or_ge j i with h5 | h5
    · exact h2 j hj h5 hl
    · obtain rfl : j = i := by omega
      rcases hno with h6 | ⟨q', hq', h6, h7⟩
      · exact absurd hl h6
      · obtain rfl : q = q' := by omega
        omega
theorem best_new {L : List Ho} {last i : Nat} {b : Int} (h : bestI L last i b) (hi : i < L.length) (hl : last < L[i].o.toNat) (hb : b < 0 ∨ ∃ (q : Nat) (hq : q < L.length), b = q ∧ L[i].o.toNat < L[q].o.toNat) : bestI L last (i + 1) i := by
  refine .inr ⟨i, hi, by omega, rfl, hl, fun j hj hji hlj => ?_⟩
  rcases Nat.lt_or_ge j i with h5 | h5
  · rcases h with ⟨rfl, h⟩ | ⟨q, hq, hqi, rfl, h1, h2⟩
    · exact absurd hlj (h j hj h5)
    · have := h2 j hj h5 hlj
      rcases hb with h6 | ⟨q', hq', h6, h7⟩
      · omega
      · obtain rfl : q = q' := by omega
        omega
  · obtain rfl : j = i := by omega
    exact Nat.le_refl _
theorem best_case {L : List Ho} {last i : Nat} {b : Int} (h : bestI L last i b) (hb : ¬ b < 0) : ∃ (q : Nat) (hq : q < L.length), b = q := by
  rcases h with ⟨rfl, _⟩ | ⟨q, hq, _, e, _⟩
  · omega
  · exact ⟨q, hq, e⟩
theorem best_end {first K : List Gd} {L T : List Ho} (inv : SInv first K L) (hT : ToldK Ho.o oLt L T) {k : Nat} {b : Int} (hk : k < T.length) (h : bestI L (lastO T k) L.length b) : ∃ (q : Nat) (hq : q < L.length), b = q ∧ L[q] = T[k] := by
  have hs := hT.strict oLt_tri inv.keys
  have lto : ∀ (a c : Nat) (ha : a < T.length) (hc : c < T.length), a < c → T[a].o.toNat < T[c].o.toNat := fun a c ha hc hac => by
    have := List.pairwise_iff_getElem.1 hs a c ha hc hac
    simpa [oLt] using this
  have hlast : ∀ (c : Nat) (hc : c < T.length), k ≤ c → lastO T k < T[c].o.toNat := fun c hc hkc => by
    unfold lastO
    split
    · have := (inv.holds T[c] (hT.perm.mem_iff.1 (List.getElem_mem hc))).2.1
      rcases Nat.eq_zero_or_pos T[c].o.toNat with e | e
      · exact absurd (BitVec.eq_of_toNat_eq (by simpa using e)) this
      · exact e
    · have e : T.getD (k - 1) zeroH = T[k - 1] := by simp [List.getD, show k - 1 < T.length by omega]
      rw [e]
      exact lto (k - 1) c (by omega) hc (by omega)
  have hbelow : ∀ (c : Nat) (hc : c < T.length), c < k → ¬ lastO T k < T[c].o.toNat := fun c hc hck => by
    unfold lastO
    rw [if_neg (by omega)]
    have e : T.getD (k - 1) zeroH = T[k - 1] := by simp [List.getD, show k - 1 < T.length by omega]
    rw [e]
    rcases Nat.lt_or_ge c (k - 1) with h1 | h1
    · have := lto c (k - 1) hc (by omega) h1; omega
    · obtain rfl : c = k - 1 := by omega
      omega
  obtain ⟨j0, hj0, e0⟩ := List.getElem_of_mem (hT.perm.mem_iff.1 (List.getElem_mem hk))
  have hk0 := hlast k hk (Nat.le_refl _)
  rcases h with ⟨_, h⟩ | ⟨q, hq, _, rfl, h1, h2⟩
  · exact absurd (by rw [e0]; exact hk0) (h j0 hj0 hj0)
  · refine ⟨q, hq, rfl, ?_⟩
    obtain ⟨m, hm, em⟩ := List.getElem_of_mem (hT.perm.mem_iff.2 (List.getElem_mem hq))
    have h3 := h2 j0 hj0 hj0 (by rw [e0]; exact hk0)
    rw [e0] at h3
    rw [← em] at h1 h3 ⊢
    rcases Nat.lt_trichotomy m k with h4 | h4 | h4
    · exact absurd h1 (hbelow m hm h4)
    · subst h4; rfl
    · have := lto k m hk hm h4; omega
theorem last_next (T : List Ho) {k : Nat} (hk : k < T.length) : lastO T (k + 1) = T[k].o.toNat := by
  unfold lastO
  rw [if_neg (by omega)]
  have e : T.getD (k + 1 - 1) zeroH = T[k] := by simp [List.getD, hk]
  rw [e]

end Go.SL
