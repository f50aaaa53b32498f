/-
  The plain purse: its laws.
-/
import Derived.Test.YtllfnigodikbaaaPurseRow
set_option linter.unusedVariables false
set_option linter.unusedSimpArgs false
set_option linter.unusedSectionVars false
namespace Go.SL
section
variable {ρ κ : Type} [DecidableEq κ] {key : ρ → κ}
theorem findK_permP {L L' : List ρ} (hn : (L.map key).Nodup) (p : L'.Perm L) (k : κ) : findK key L' k = findK key L k := by
  have hn' : (L'.map key).Nodup := (p.map key).nodup_iff.2 hn
  cases h : findK key L k with
  | none =>
    cases h' : findK key L' k with
    | none => rfl
    | some r =>
      obtain ⟨h1, h2⟩ := findK_mem h'
      exact absurd h2 (findK_none h r (p.mem_iff.1 h1))
  | some r =>
    obtain ⟨h1, rfl⟩ := findK_mem h
    exact findK_of hn' (p.mem_iff.2 h1)
theorem findK_snocP (L : List ρ) (x : ρ) (k : κ) : findK key (L ++ [x]) k = (findK key L k).or (if k = key x then some x else none) := by
  unfold findK
  rw [List.find?_append]
  congr 1
  by_cases h : k = key x
  · rw [if_pos h, List.find?_cons_of_pos (by simpa using h)]
  · rw [if_neg h, List.find?_cons_of_neg (by simpa using h)]
    rfl
theorem findK_partP {L : List ρ} (hn : (L.map key).Nodup) {i : Nat} (hi : i < L.length) : findK key (L.take i) (key L[i]) = none := by
  cases h : findK key (L.take i) (key L[i]) with
  | none => rfl
  | some r =>
    obtain ⟨h1, h2⟩ := findK_mem h
    obtain ⟨j, hj, rfl⟩ := List.getElem_of_mem h1
    simp only [List.length_take] at hj
    rw [List.getElem_take] at h2
    have := List.pairwise_iff_getElem.1 hn j i (by simp; omega) (by simpa using hi) (by omega)
    simp at this
    exact absurd h2 this
theorem ToldK.keysP {lt : κ → κ → Bool} (hirr : ∀ a, lt a a = false) (htrans : ∀ a b c, lt a b = true → lt b c = true → lt a c = true) (htri : ∀ a b, lt a b = true ∨ a = b ∨ lt b a = true) {L L' S S' : List ρ} (hn : (L.map key).Nodup) (e : L'.map key = L.map key) (h : ToldK key lt L S) (h' : ToldK key lt L' S') : S'.map key = S.map key :=
  ToldK.unique (key := fun x : κ => x) (lt := lt) (L := L.map key) hirr htrans htri (by rw [List.map_id']; exact hn) ⟨by rw [← e]; exact h'.perm.map key, List.pairwise_map.2 h'.sorted⟩ ⟨h.perm.map key, List.pairwise_map.2 h.sorted⟩
end
theorem told_namesU {K K' S S' : List Au} (hn : (K.map Au.name).Nodup) (e : K'.map Au.name = K.map Au.name) (h : ToldK Au.name sLt K S) (h' : ToldK Au.name sLt K' S') : S'.length = S.length ∧ ∀ (i : Nat) (h1 : i < S'.length) (h2 : i < S.length), S'[i].name = S[i].name := by
  have := ToldK.keysP sLt_irrefl (fun _ _ _ => sLt_trans) sLt_tri hn e h h'
  refine ⟨by simpa using congrArg List.length this, fun i h1 h2 => ?_⟩
  have h3 : (S'.map Au.name)[i]? = (S.map Au.name)[i]? := by rw [this]
  simpa [h1, h2] using h3
theorem told_acc {K S : List Au} (hn : (K.map Au.name).Nodup) (h : ToldK Au.name sLt K S) {g : Au} (hg : g ∈ S) : acc K g.name = g := acc_of hn (h.perm.mem_iff.1 hg)
theorem told_sameU {K S S' : List Au} (hn : (K.map Au.name).Nodup) (h : ToldK Au.name sLt K S) (h' : ToldK Au.name sLt K S') : S = S' := ToldK.unique sLt_irrefl (fun _ _ _ => sLt_trans) sLt_tri hn h h'
theorem told_sameP {L S S' : List Py} (hn : (L.map Py.o).Nodup) (h : ToldK Py.o uLt L S) (h' : ToldK Py.o uLt L S') : S = S' := ToldK.unique uLt_irrefl uLt_trans uLt_tri hn h h'
theorem told_keysP {L T : List Py} (hn : (L.map Py.o).Nodup) (h : ToldK Py.o uLt L T) : (T.map Py.o).Nodup := (h.perm.map Py.o).nodup_iff.2 hn
theorem au_ext {A B : List Au} (hn : A.map Au.name = B.map Au.name) (nd : (A.map Au.name).Nodup) (hf : ∀ nm, nm ∈ A.map Au.name → acc A nm = acc B nm) : A = B := by
  have hl : A.length = B.length := by simpa using congrArg List.length hn
  refine List.ext_getElem hl fun i h1 h2 => ?_
  have e1 : A[i].name = B[i].name := by
    have h3 : (A.map Au.name)[i]? = (B.map Au.name)[i]? := by rw [hn]
    simpa [h1, h2] using h3
  have a := acc_of nd (List.getElem_mem h1)
  have b := acc_of (hn ▸ nd) (List.getElem_mem h2)
  have c := hf A[i].name (List.mem_map.2 ⟨A[i], List.getElem_mem h1, rfl⟩)
  rw [a, e1, b] at c
  exact c
theorem adj_same {K : List Au} {nm : ByteArray} (nd : (K.map Au.name).Nodup) (hin : nm ∈ K.map Au.name) (K' : List Au) (hn : K'.map Au.name = K.map Au.name) (hm : acc K' nm = acc K nm) (ho : ∀ nm', nm' ≠ nm → acc K' nm' = acc K nm') : K' = K := by
  refine au_ext hn (by rw [hn]; exact nd) fun nm' _ => ?_
  by_cases e : nm' = nm
  · rw [e]; exact hm
  · exact ho nm' e

/-! the ways of a payment -/
section
variable {L : List Py} {o : BitVec 32} {nm : ByteArray} {n : Int}
theorem ways_find (hf : findK Py.o L o = none) (s : Int) : findK Py.o (L ++ [⟨o, nm, n, s⟩]) o = some ⟨o, nm, n, s⟩ := by rw [findK_snocP, hf]; simp
theorem ways_turnB (hf : findK Py.o L o = none) (s s' : Int) : turnB (L ++ [⟨o, nm, n, s⟩]) o s' = decide (s = s') := by unfold turnB; rw [ways_find hf]
theorem ways_turnL (hf : findK Py.o L o = none) (s t : Int) : turnLs (L ++ [⟨o, nm, n, s⟩]) o s t = L ++ [⟨o, nm, n, t⟩] := by
  unfold turnLs
  rw [ways_find hf]
  simp only [if_true]
  unfold putK
  rw [if_pos (by show (findK Py.o (L ++ [⟨o, nm, n, s⟩]) o).isSome = true; rw [ways_find hf]; rfl), List.map_append]
  congr 1
  · rw [List.map_congr_left (g := id) fun x hx => ?_, List.map_id]
    have := findK_none hf x hx
    rw [if_neg (fun e => this e.symm)]
    rfl
  · simp
theorem ways_turnK (hf : findK Py.o L o = none) (K : List Au) (s dm dh : Int) : turnKs K (L ++ [⟨o, nm, n, s⟩]) o s dm dh = adjU K nm (dm * n) (dh * n) := by
  unfold turnKs
  rw [ways_find hf]
  simp only [if_true]
theorem ways_taken (s : Int) : takenL (L ++ [⟨o, nm, n, s⟩]) = takenL L + if s = 2 then n else 0 := by
  simp only [takenL, List.map_append, List.sum_append, List.map_cons, List.map_nil, List.sum_cons, List.sum_nil]
  omega
theorem ways_auth (hf : findK Py.o L o = none) (K : List Au) (s : Int) (nm' : ByteArray) (n' : Int) : authB K (L ++ [⟨o, nm, n, s⟩]) o nm' n' = false := by
  unfold authB
  rw [ways_find hf]
  simp
theorem adjU_names2 {K : List Au} {nm : ByteArray} (hin : nm ∈ K.map Au.name) (a b : Int) : (adjU K nm a b).map Au.name = K.map Au.name := adjU_names (find_namesU hin) a b
theorem acc_eta (x : Au) : (⟨x.name, x.money, x.held⟩ : Au) = x := rfl
theorem ways_void {K : List Au} (nd : (K.map Au.name).Nodup) (hin : nm ∈ K.map Au.name) : adjU (adjU K nm 0 n) nm (0 * n) ((-1) * n) = K := by
  refine adj_same nd hin _ (by rw [adjU_names2 (by rw [adjU_names2 hin]; exact hin), adjU_names2 hin]) ?_ fun nm' e => ?_
  · rw [adjU_acc, if_pos rfl]
    unfold moneyOf heldU
    rw [adjU_acc, if_pos rfl]
    unfold moneyOf heldU
    have := acc_in hin
    refine Eq.trans ?_ (acc_eta (acc K nm))
    rw [this]
    simp only [Au.mk.injEq, true_and]
    omega
  · rw [adjU_acc, if_neg e, adjU_acc, if_neg e]
theorem ways_refund {K : List Au} (nd : (K.map Au.name).Nodup) (hin : nm ∈ K.map Au.name) : adjU (adjU (adjU K nm 0 n) nm ((-1) * n) ((-1) * n)) nm (1 * n) (0 * n) = K := by
  have hin2 : nm ∈ (adjU K nm 0 n).map Au.name := by rw [adjU_names2 hin]; exact hin
  have hin3 : nm ∈ (adjU (adjU K nm 0 n) nm ((-1) * n) ((-1) * n)).map Au.name := by rw [adjU_names2 hin2]; exact hin2
  refine adj_same nd hin _ (by rw [adjU_names2 hin3, adjU_names2 hin2, adjU_names2 hin]) ?_ fun nm' e => ?_
  · rw [adjU_acc, if_pos rfl]
    unfold moneyOf heldU
    rw [adjU_acc, if_pos rfl]
    unfold moneyOf heldU
    rw [adjU_acc, if_pos rfl]
    unfold moneyOf heldU
    have := acc_in hin
    refine Eq.trans ?_ (acc_eta (acc K nm))
    rw [this]
    simp only [Au.mk.injEq, true_and]
    omega
  · rw [adjU_acc, if_neg e, adjU_acc, if_neg e, adjU_acc, if_neg e]
end

/-! as much as there is -/
theorem len_subset {α : Type} [DecidableEq α] : ∀ (A B : List α), A.Nodup → (∀ x ∈ A, x ∈ B) → A.length ≤ B.length
  | [], _, _, _ => Nat.zero_le _
  | a :: A, B, hn, hs => by
    simp only [List.nodup_cons] at hn
    have ha := hs a List.mem_cons_self
    have ih := len_subset A (B.erase a) hn.2 fun x hx => (List.mem_erase_of_ne (fun e => hn.1 (by rw [← e]; exact hx))).2 (hs x (List.mem_cons_of_mem _ hx))
    rw [List.length_erase_of_mem ha] at ih
    have : 0 < B.length := List.length_pos_of_mem ha
    rw [List.length_cons]
    omega
def bigO (k : Nat) : BitVec 32 := BitVec.ofNat 32 (4000000000 + k)
theorem bigO_next {k : Nat} (h : k ≤ 1000) : bigO k + 1#32 = bigO (k + 1) := by
  apply BitVec.eq_of_toNat_eq
  unfold bigO
  rw [BitVec.toNat_add, BitVec.toNat_ofNat, BitVec.toNat_ofNat, BitVec.toNat_ofNat]
  omega
theorem bigO_zero (k : Nat) (h : k ≤ 1000) : bigO k ≠ 0#32 := by
  intro e
  have := congrArg BitVec.toNat e
  unfold bigO at this
  simp only [BitVec.toNat_ofNat] at this
  omega
theorem bigO_few {L : List Py} {k : Nat} (hk : k ≤ 1000) (h : ∀ j, j < k → (findK Py.o L (bigO j)).isSome = true) : k ≤ L.length := by
  have := len_subset ((List.range k).map bigO) (L.map Py.o) (by
    rw [List.nodup_iff_pairwise_ne, List.pairwise_map]
    refine List.Pairwise.imp_of_mem ?_ (List.nodup_iff_pairwise_ne.1 List.nodup_range)
    intro a b ha hb hab e
    have ha := List.mem_range.1 ha
    have hb := List.mem_range.1 hb
    have := congrArg BitVec.toNat e
    unfold bigO at this
    rw [BitVec.toNat_ofNat, BitVec.toNat_ofNat] at this
    omega) (by
    intro x hx
    obtain ⟨j, hj, rfl⟩ := List.mem_map.1 hx
    obtain ⟨y, hy⟩ := Option.isSome_iff_exists.1 (h j (List.mem_range.1 hj))
    exact List.mem_map.2 ⟨y, (findK_mem hy).1, (findK_mem hy).2⟩)
  simpa using this

/-! one account apart from another -/
def nameVP (T : List Py) (a : Aq) : ByteArray := if isAuth a then a.name else ((findK Py.o T a.o).map Py.name).getD a.name
theorem nameVP_zero (a : Aq) : nameVP [] a = a.name := by unfold nameVP; split <;> rfl
theorem nameVP_step {T : List Py} (hn : (T.map Py.o).Nodup) {k : Nat} (hk : k < T.length) (a : Aq) :
    nameVP (T.take (k + 1)) a = if T[k].o = a.o ∧ isAuth a = false then T[k].name else nameVP (T.take k) a := by
  have ht : T.take (k + 1) = T.take k ++ [T[k]] := List.take_succ_eq_append_getElem hk
  unfold nameVP
  cases isAuth a with
  | true => simp
  | false =>
    simp only [Bool.false_eq_true, if_false, and_true]
    rw [ht, findK_snocP]
    by_cases h : a.o = T[k].o
    · rw [h, findK_partP hn hk]
      simp
    · rw [if_neg h, if_neg (fun e => h e.symm), Option.or_none]
theorem nameVP_perm {L T : List Py} (hn : (L.map Py.o).Nodup) (h : ToldK Py.o uLt L T) (a : Aq) : nameVP T a = nameVP L a := by
  unfold nameVP
  rw [findK_permP hn h.perm]
theorem turn_apart (K : List Au) (L : List Py) (o : BitVec 32) (s dm dh : Int) {nm : ByteArray} (d : ByteArray) (h : nm ≠ ((findK Py.o L o).map Py.name).getD d) : acc (turnKs K L o s dm dh) nm = acc K nm := by
  unfold turnKs
  cases hf : findK Py.o L o with
  | none => rfl
  | some x =>
    rw [hf] at h
    simp only [Option.map_some, Option.getD_some] at h
    simp only
    split
    · rw [adjU_acc, if_neg h]
    · rfl
theorem act_apartP (K : List Au) (L : List Py) (a : Aq) {nm : ByteArray} (h : nm ≠ nameVP L a) : acc (actKP K L a) nm = acc K nm := by
  unfold actKP
  unfold nameVP at h
  cases hh : isAuth a with
  | true =>
    rw [hh] at h
    simp only [if_true] at h ⊢
    unfold authKs
    split
    · rw [adjU_acc, if_neg h]
    · rfl
  | false =>
    rw [hh] at h
    simp only [Bool.false_eq_true, if_false] at h ⊢
    split
    · exact turn_apart K L a.o _ _ _ _ h
    · split
      · exact turn_apart K L a.o _ _ _ _ h
      · exact turn_apart K L a.o _ _ _ _ h

/-! sums -/
def sumM (K : List Au) : Int := (K.map Au.money).sum
theorem sumM_names {K : List Au} (nd : (K.map Au.name).Nodup) : sumM K = ((K.map Au.name).map (moneyOf K)).sum := by
  unfold sumM
  rw [List.map_map]
  congr 1
  exact List.map_congr_left fun g hg => by show g.money = moneyOf K g.name; unfold moneyOf; rw [acc_of nd hg]
theorem PInv.all {first K : List Au} {L : List Py} (h : PInv first K L) : takenL L + sumM K = sumM first := by
  rw [sumM_names h.knd, sumM_names h.nd, h.names, taken_sum h.nd L fun x hx => (h.pays x hx).2.2.2.1]
  have e : ((first.map Au.name).map (moneyOf K)) = (first.map Au.name).map fun nm => moneyOf first nm - sumP L nm 2 := List.map_congr_left fun nm _ => (h.sums nm).2.1
  rw [e, sum_subP (moneyOf first) (fun nm => sumP L nm 2)]
  omega
theorem sumM_perm {K S : List Au} (p : S.Perm K) : sumM S = sumM K := sum_permP _ p
theorem sumM_take {T : List Au} {j : Nat} (hj : j < T.length) : sumM (T.take (j + 1)) = sumM (T.take j) + T[j].money := by
  rw [List.take_succ_eq_append_getElem hj]
  simp only [sumM, List.map_append, List.sum_append, List.map_cons, List.map_nil, List.sum_cons, List.sum_nil]
  omega
theorem sumM_part {T : List Au} (h : ∀ x ∈ T, 0 ≤ x.money ∧ x.money ≤ 1000000000) : ∀ j, j ≤ 50 → 0 ≤ sumM (T.take j) ∧ sumM (T.take j) ≤ j * 1000000000 := by
  intro j
  induction j with
  | zero => intro _; simp [sumM]
  | succ j ih =>
    intro hj
    have := ih (by omega)
    rcases Nat.lt_or_ge j T.length with h1 | h1
    · rw [sumM_take h1]
      have h2 := h T[j] (List.getElem_mem h1)
      omega
    · rw [List.take_of_length_le (by omega)] at this ⊢
      omega
theorem sumP_take {T : List Py} {j : Nat} (hj : j < T.length) (nm : ByteArray) (s : Int) : sumP (T.take (j + 1)) nm s = sumP (T.take j) nm s + if T[j].name = nm ∧ T[j].st = s then T[j].n else 0 := by
  rw [List.take_succ_eq_append_getElem hj, sumP_snoc]
theorem sumP_part {T : List Py} (h : ∀ x ∈ T, 1 ≤ x.n) (j : Nat) (nm : ByteArray) (s : Int) : 0 ≤ sumP (T.take j) nm s ∧ sumP (T.take j) nm s ≤ sumP T nm s := by
  refine ⟨sumP_nonneg (fun x hx => h x (List.mem_of_mem_take hx)) nm s, ?_⟩
  have e : sumP T nm s = sumP (T.take j) nm s + sumP (T.drop j) nm s := by
    conv => lhs; rw [← List.take_append_drop j T]
    simp only [sumP, List.map_append, List.sum_append]
  have := sumP_nonneg (L := T.drop j) (fun x hx => h x (List.mem_of_mem_drop hx)) nm s
  omega
theorem AccL.money {gs : List Au} (h : AccL gs) : ∀ x ∈ gs, 0 ≤ x.money ∧ x.money ≤ 1000000000 := fun x hx => ⟨(h.2.2 x hx).2.2.1, (h.2.2 x hx).2.2.2.1⟩
theorem PInv.moneys {first K : List Au} {L : List Py} (h : PInv first K L) {g : Au} (hg : g ∈ K) : 0 ≤ g.held ∧ g.held ≤ g.money ∧ g.money ≤ 1000000000 ∧ g.held = sumP L g.name 1 := by
  have h1 := h.mid g.name
  have h2 := h.sums g.name
  unfold heldU moneyOf at h1
  unfold heldU at h2
  rw [acc_of h.knd hg] at h1 h2
  omega

end Go.SL
