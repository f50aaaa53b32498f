/-
  The plain stock: its laws.
-/
import Derived.Test.YtdbbkodjhmfjfaaStockRow
set_option linter.unusedVariables false
set_option linter.unusedSimpArgs false
set_option linter.unusedSectionVars false
namespace Go.SL
section
variable {ρ κ : Type} [DecidableEq κ] {key : ρ → κ}
theorem findK_perm {L L' : List ρ} (hn : (L.map key).Nodup) (p : L'.Perm L) (k : κ) : findK key L' k = findK key L k := by
  have hn' : (L'.map key).Nodup := (p.map key).nodup_iff.2 hn
  cases h : findK key L k with
  | none =>
    cases h' : findK key L' k with
    | none => rfl
    | some r =>
      obtain ⟨h1, h2⟩ := findK_mem h'
      exact absurd h2 (findK_none h r (p.mem_iff.1 h1))
  | some r =>
    obtain ⟨h1, rfl⟩ := findK_mem h
    exact findK_of hn' (p.mem_iff.2 h1)
theorem findK_snoc (L : List ρ) (x : ρ) (k : κ) : findK key (L ++ [x]) k = (findK key L k).or (if k = key x then some x else none) := by
  unfold findK
  rw [List.find?_append]
  congr 1
  by_cases h : k = key x
  · rw [if_pos h, List.find?_cons_of_pos (by simpa using h)]
  · rw [if_neg h, List.find?_cons_of_neg (by simpa using h)]
    rfl
theorem findK_part {L : List ρ} (hn : (L.map key).Nodup) {i : Nat} (hi : i < L.length) : findK key (L.take i) (key L[i]) = none := by
  cases h : findK key (L.take i) (key L[i]) with
  | none => rfl
  | some r =>
    obtain ⟨h1, h2⟩ := findK_mem h
    obtain ⟨j, hj, rfl⟩ := List.getElem_of_mem h1
    simp only [List.length_take] at hj
    rw [List.getElem_take] at h2
    have := List.pairwise_iff_getElem.1 hn j i (by simp; omega) (by simpa using hi) (by omega)
    simp at this
    exact absurd h2 this
theorem delK_snoc {L : List ρ} {x : ρ} (h : findK key L (key x) = none) : delK key (L ++ [x]) (key x) = L := by
  unfold delK
  rw [List.filter_append, List.filter_cons_of_neg (by simp), List.filter_nil, List.append_nil, List.filter_eq_self]
  intro y hy
  have := findK_none h y hy
  simp only [decide_eq_true_eq]
  exact fun e => this e.symm
theorem ToldK.keys {lt : κ → κ → Bool} (hirr : ∀ a, lt a a = false) (htrans : ∀ a b c, lt a b = true → lt b c = true → lt a c = true) (htri : ∀ a b, lt a b = true ∨ a = b ∨ lt b a = true) {L L' S S' : List ρ} (hn : (L.map key).Nodup) (e : L'.map key = L.map key) (h : ToldK key lt L S) (h' : ToldK key lt L' S') : S'.map key = S.map key :=
  ToldK.unique (key := fun x : κ => x) (lt := lt) (L := L.map key) hirr htrans htri (by rw [List.map_id']; exact hn) ⟨by rw [← e]; exact h'.perm.map key, List.pairwise_map.2 h'.sorted⟩ ⟨h.perm.map key, List.pairwise_map.2 h.sorted⟩
end
theorem told_names {K K' S S' : List Gd} (hn : (K.map Gd.name).Nodup) (e : K'.map Gd.name = K.map Gd.name) (h : ToldK Gd.name sLt K S) (h' : ToldK Gd.name sLt K' S') : S'.length = S.length ∧ ∀ (i : Nat) (h1 : i < S'.length) (h2 : i < S.length), S'[i].name = S[i].name := by
  have := ToldK.keys sLt_irrefl (fun _ _ _ => sLt_trans) sLt_tri hn e h h'
  refine ⟨by simpa using congrArg List.length this, fun i h1 h2 => ?_⟩
  have h3 : (S'.map Gd.name)[i]? = (S.map Gd.name)[i]? := by rw [this]
  simpa [h1, h2] using h3
theorem told_free {K S : List Gd} (hn : (K.map Gd.name).Nodup) (h : ToldK Gd.name sLt K S) {g : Gd} (hg : g ∈ S) : freeOf K g.name = g.free ∧ goneOf K g.name = g.gone := free_of hn (h.perm.mem_iff.1 hg)
theorem told_same {K S S' : List Gd} (hn : (K.map Gd.name).Nodup) (h : ToldK Gd.name sLt K S) (h' : ToldK Gd.name sLt K S') : S = S' := ToldK.unique sLt_irrefl (fun _ _ _ => sLt_trans) sLt_tri hn h h'
theorem told_holds {L S S' : List Ho} (hn : (L.map Ho.o).Nodup) (h : ToldK Ho.o oLt L S) (h' : ToldK Ho.o oLt L S') : S = S' := ToldK.unique oLt_irrefl oLt_trans oLt_tri hn h h'
theorem gd_ext {A B : List Gd} (hn : A.map Gd.name = B.map Gd.name) (nd : (A.map Gd.name).Nodup) (hf : ∀ nm, freeOf A nm = freeOf B nm ∧ goneOf A nm = goneOf B nm) : A = B := by
  have hl : A.length = B.length := by simpa using congrArg List.length hn
  refine List.ext_getElem hl fun i h1 h2 => ?_
  have e1 : A[i].name = B[i].name := by
    have h3 : (A.map Gd.name)[i]? = (B.map Gd.name)[i]? := by rw [hn]
    simpa [h1, h2] using h3
  have a := free_of nd (List.getElem_mem h1)
  have b := free_of (hn ▸ nd) (List.getElem_mem h2)
  have c := hf A[i].name
  have e2 : A[i].free = B[i].free := by rw [← a.1, ← b.1, ← e1]; exact c.1
  have e3 : A[i].gone = B[i].gone := by rw [← a.2, ← b.2, ← e1]; exact c.2
  generalize A[i] = x at *
  generalize B[i] = y at *
  cases x; cases y
  simp only at e1 e2 e3
  subst e1 e2 e3
  rfl
theorem holdB_parts {K : List Gd} {L : List Ho} {o : BitVec 32} {nm : ByteArray} {n : Int} (hb : holdB K L o nm n = true) : o ≠ 0#32 ∧ 1 ≤ n ∧ findK Ho.o L o = none ∧ n ≤ freeOf K nm ∧ nm ∈ K.map Gd.name := by
  unfold holdB at hb
  simp only [Bool.and_eq_true, decide_eq_true_eq, Bool.not_eq_true'] at hb
  obtain ⟨ho, hn, hf, hle⟩ := hb
  refine ⟨ho, hn, by simpa using hf, hle, ?_⟩
  apply Classical.byContradiction
  intro hc
  have := (free_none hc).1
  omega
theorem hold_back {K : List Gd} {L : List Ho} {o : BitVec 32} {nm : ByteArray} {n : Int} (nd : (K.map Gd.name).Nodup) (hb : holdB K L o nm n = true) : leaveKs (holdKs K L o nm n) (holdLs K L o nm n) o false = K ∧ delK Ho.o (holdLs K L o nm n) o = L ∧ (findK Ho.o (holdLs K L o nm n) o).isSome = true := by
  obtain ⟨ho, hn, hf, hle, hin⟩ := holdB_parts hb
  unfold holdKs holdLs
  rw [hb]
  simp only [if_true]
  have hfs : findK Ho.o (L ++ [⟨o, nm, n⟩]) o = some ⟨o, nm, n⟩ := by rw [findK_snoc, hf]; simp
  refine ⟨?_, delK_snoc hf, by rw [hfs]; rfl⟩
  unfold leaveKs
  rw [hfs]
  simp only [Bool.false_eq_true, if_false]
  have hin2 : nm ∈ (adj K nm (-n) 0).map Gd.name := by rw [adj_names (find_names hin)]; exact hin
  have hnm : (adj (adj K nm (-n) 0) nm n 0).map Gd.name = K.map Gd.name := by rw [adj_names (find_names hin2), adj_names (find_names hin)]
  refine gd_ext hnm (by rw [hnm]; exact nd) fun nm' => ?_
  rw [adj_free, adj_gone, adj_free, adj_gone, adj_free, adj_gone]
  by_cases e : nm' = nm
  · subst e
    simp only [if_true]
    exact ⟨by omega, by omega⟩
  · simp only [if_neg e, and_self]
theorem hold_no {K : List Gd} {L : List Ho} {o : BitVec 32} {nm : ByteArray} {n : Int} (hb : holdB K L o nm n = false) : holdKs K L o nm n = K ∧ holdLs K L o nm n = L := by
  unfold holdKs holdLs
  rw [hb]
  exact ⟨rfl, rfl⟩
theorem holdB_again {K : List Gd} {L : List Ho} {o : BitVec 32} {nm' : ByteArray} {n' : Int} {x : Ho} (h : findK Ho.o L o = some x) : holdB K L o nm' n' = false := by
  unfold holdB
  rw [h]
  simp
theorem leave_none {K : List Gd} {L : List Ho} {o : BitVec 32} (h : findK Ho.o L o = none) (g : Bool) : leaveKs K L o g = K ∧ delK Ho.o L o = L := by
  refine ⟨?_, delK_none h⟩
  unfold leaveKs
  rw [h]

/-! what is gone -/
def heldOf (L : List Ho) (o : BitVec 32) (nm : ByteArray) : Int := ((findK Ho.o L o).map fun h => if h.name = nm then h.n else 0).getD 0
theorem held_step {T : List Ho} (hn : (T.map Ho.o).Nodup) {k : Nat} (hk : k < T.length) (o : BitVec 32) (nm : ByteArray) :
    heldOf (T.take (k + 1)) o nm = if T[k].o = o ∧ T[k].name = nm then T[k].n else heldOf (T.take k) o nm := by
  have ht : T.take (k + 1) = T.take k ++ [T[k]] := List.take_succ_eq_append_getElem hk
  unfold heldOf
  rw [ht, findK_snoc]
  by_cases h : o = T[k].o
  · subst h
    rw [findK_part hn hk]
    by_cases h2 : T[k].name = nm <;> simp [h2]
  · rw [if_neg h, if_neg (fun e => h e.1.symm), Option.or_none]
theorem held_perm {L T : List Ho} (hn : (L.map Ho.o).Nodup) (h : ToldK Ho.o oLt L T) (o : BitVec 32) (nm : ByteArray) : heldOf T o nm = heldOf L o nm := by
  unfold heldOf
  rw [findK_perm hn h.perm]
theorem told_keys {L T : List Ho} (hn : (L.map Ho.o).Nodup) (h : ToldK Ho.o oLt L T) : (T.map Ho.o).Nodup := (h.perm.map Ho.o).nodup_iff.2 hn
theorem held_mid {first K : List Gd} {L : List Ho} (h : SInv first K L) (o : BitVec 32) (nm : ByteArray) : 0 ≤ heldOf L o nm ∧ heldOf L o nm ≤ 1000000 := by
  unfold heldOf
  cases hf : findK Ho.o L o with
  | none => simp
  | some x =>
    have := h.nle (findK_mem hf).1
    simp only [Option.map_some, Option.getD_some]
    split <;> omega
theorem act_gone (K : List Gd) (L : List Ho) (a : Ac9) (nm : ByteArray) : goneOf (actKs K L a) nm = goneOf K nm + if (a.k < 0 ∨ 2 < a.k) ∧ actV K L a = 1 then heldOf L a.o nm else 0 := by
  unfold actKs actV
  cases hh : isHold a with
  | true =>
    have hk : ¬ (a.k < 0 ∨ 2 < a.k) := by
      unfold isHold at hh
      simp only [Bool.or_eq_true, decide_eq_true_eq] at hh
      omega
    simp only [if_true]
    rw [if_neg (fun e => hk e.1), Int.add_zero]
    unfold holdKs
    split
    · rw [adj_gone]; split <;> simp_all
    · rfl
  | false =>
    have hk : ¬ a.k = 0 ∧ ¬ a.k = 1 := by
      unfold isHold at hh
      simpa only [Bool.or_eq_false_iff, decide_eq_false_iff_not] using hh
    simp only [Bool.false_eq_true, if_false]
    unfold heldOf leaveKs
    cases hf : findK Ho.o L a.o with
    | none => simp
    | some x =>
      simp only [Option.isSome_some, vd, if_true, Option.map_some, Option.getD_some, and_true]
      by_cases h2 : a.k = 2
      · have hk3 : ¬ (a.k < 0 ∨ 2 < a.k) := by omega
        rw [if_pos h2]
        simp only [hk3, Bool.false_eq_true, if_false, false_and, Int.add_zero]
        rw [adj_gone]; split <;> simp_all
      · have hk3 : a.k < 0 ∨ 2 < a.k := by omega
        rw [if_neg h2]
        simp only [hk3, if_true]
        rw [adj_gone]
        by_cases e : nm = x.name
        · subst e; simp
        · rw [if_neg e, if_neg (fun h => e h.symm), Int.add_zero]

/-! one kind apart from another -/
def nameUp (T : List Ho) (a : Ac9) : ByteArray := ((findK Ho.o T a.o).map Ho.name).getD a.name
def nameOf (L : List Ho) (a : Ac9) : ByteArray := if isHold a then a.name else nameUp L a
theorem name_step {T : List Ho} (hn : (T.map Ho.o).Nodup) {k : Nat} (hk : k < T.length) (a : Ac9) :
    nameUp (T.take (k + 1)) a = if T[k].o = a.o then T[k].name else nameUp (T.take k) a := by
  have ht : T.take (k + 1) = T.take k ++ [T[k]] := List.take_succ_eq_append_getElem hk
  unfold nameUp
  rw [ht, findK_snoc]
  by_cases h : a.o = T[k].o
  · rw [h, findK_part hn hk]
    simp
  · rw [if_neg h, if_neg (fun e => h e.symm), Option.or_none]
theorem name_perm {L T : List Ho} (hn : (L.map Ho.o).Nodup) (h : ToldK Ho.o oLt L T) (a : Ac9) : nameUp T a = nameUp L a := by
  unfold nameUp
  rw [findK_perm hn h.perm]
theorem name_end {L T : List Ho} (hn : (L.map Ho.o).Nodup) (hT : ToldK Ho.o oLt L T) {a : Ac9} {k : Nat} (h1 : isHold a = false ∨ k = 0) (h2 : T.length ≤ k ∨ isHold a = true) : nameUp (T.take k) a = nameOf L a := by
  unfold nameOf
  cases hh : isHold a with
  | false =>
    rw [hh] at h2
    rw [List.take_of_length_le (by rcases h2 with h | h; exact h; cases h), name_perm hn hT]
    rfl
  | true =>
    rw [hh] at h1
    obtain rfl : k = 0 := by rcases h1 with h | h; cases h; exact h
    rfl
theorem act_apart (K : List Gd) (L : List Ho) (a : Ac9) {nm : ByteArray} (h : nm ≠ nameOf L a) : freeOf (actKs K L a) nm = freeOf K nm := by
  unfold actKs
  unfold nameOf nameUp at h
  cases hh : isHold a with
  | true =>
    rw [hh] at h
    simp only [if_true] at h ⊢
    unfold holdKs
    split
    · rw [adj_free, if_neg h]
    · rfl
  | false =>
    rw [hh] at h
    simp only [Bool.false_eq_true, if_false] at h ⊢
    unfold leaveKs
    cases hf : findK Ho.o L a.o with
    | none => split <;> rfl
    | some x =>
      rw [hf] at h
      simp only [Option.map_some, Option.getD_some] at h
      split
      · simp only [Bool.false_eq_true, if_false]
        rw [adj_free, if_neg h]
      · simp only [if_true]
        rw [adj_free, if_neg h]

/-! sums -/
theorem sumN_perm {L T : List Ho} (p : T.Perm L) (nm : ByteArray) : sumN T nm = sumN L nm := by
  induction p with
  | nil => rfl
  | cons x _ ih => simp only [sumN, List.map_cons, List.sum_cons] at *; omega
  | swap x y l => simp only [sumN, List.map_cons, List.sum_cons]; omega
  | trans _ _ h1 h2 => exact h1.trans h2
theorem sumN_take {T : List Ho} {j : Nat} (hj : j < T.length) (nm : ByteArray) : sumN (T.take (j + 1)) nm = sumN (T.take j) nm + if T[j].name = nm then T[j].n else 0 := by
  rw [List.take_succ_eq_append_getElem hj, sumN_snoc]
theorem sumN_part {T : List Ho} (h : ∀ x ∈ T, 1 ≤ x.n) (j : Nat) (nm : ByteArray) : 0 ≤ sumN (T.take j) nm ∧ sumN (T.take j) nm ≤ sumN T nm := by
  refine ⟨sumN_nonneg (fun x hx => h x (List.mem_of_mem_take hx)) nm, ?_⟩
  have e : sumN T nm = sumN (T.take j) nm + sumN (T.drop j) nm := by
    conv => lhs; rw [← List.take_append_drop j T]
    simp only [sumN, List.map_append, List.sum_append]
  have := sumN_nonneg (L := T.drop j) (fun x hx => h x (List.mem_of_mem_drop hx)) nm
  omega

theorem new_in {A B C : Prop} (h : (A ∧ B) ∨ (¬ A ∧ C)) (hA : A) : B := by
  rcases h with h | h
  · exact h.2
  · exact absurd hA h.1
theorem new_out {A B C : Prop} (h : (A ∧ B) ∨ (¬ A ∧ C)) (hA : ¬ A) : C := by
  rcases h with h | h
  · exact absurd h.1 hA
  · exact h.2
theorem GoodL.inv {gs : List Gd} (h : GoodL gs) (hg : ∀ g ∈ gs, g.gone = 0) : SInv gs gs [] := SInv.start h.1 h.2.1 fun g m => ⟨h.2.2 g m, hg g m⟩
theorem idx_of (w : Int) (n : Nat) (h : 0 < n) (hn : n ≤ 50) : ((BitVec.ofInt 64 (n : Int)).toNat ≠ 0) ∧ ∃ i : Nat, i < n ∧ (((BitVec.ofInt 64 w % BitVec.ofInt 64 (n : Int)).toNat : Nat) : Int) = (i : Int) := by
  have e : (BitVec.ofInt 64 (n : Int)).toNat = n := by
    rw [BitVec.toNat_ofInt]; omega
  refine ⟨by omega, _, ?_, rfl⟩
  rw [BitVec.toNat_umod, e]
  exact Nat.mod_lt _ h

end Go.SL
