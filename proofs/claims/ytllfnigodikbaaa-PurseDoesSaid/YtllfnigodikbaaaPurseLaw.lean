/-
  The plain purse: sums.
-/
import Derived.Test.YtllfnigodikbaaaPurseMath
import Derived.Test.YtllfnigodikbaaaRefK
set_option linter.unusedVariables false
set_option linter.unusedSimpArgs false
set_option linter.unusedSectionVars false
namespace Go.SL
def takenL (L : List Py) : Int := (L.map fun x => if x.st = 2 then x.n else 0).sum
theorem sum_addP {α : Type} (f g : α → Int) : ∀ N : List α, (N.map fun x => f x + g x).sum = (N.map f).sum + (N.map g).sum
  | [] => rfl
  | a :: N => by simp only [List.map_cons, List.sum_cons, sum_addP f g N]; omega
theorem sum_subP {α : Type} (f g : α → Int) : ∀ N : List α, (N.map fun x => f x - g x).sum = (N.map f).sum - (N.map g).sum
  | [] => rfl
  | a :: N => by simp only [List.map_cons, List.sum_cons, sum_subP f g N]; omega
theorem sum_zeroP {α : Type} (f : α → Int) : ∀ N : List α, (∀ x ∈ N, f x = 0) → (N.map f).sum = 0
  | [], _ => rfl
  | a :: N, h => by
    simp only [List.map_cons, List.sum_cons, sum_zeroP f N (fun x hx => h x (List.mem_cons_of_mem _ hx)), h a List.mem_cons_self]
    rfl
theorem sum_oneP {N : List ByteArray} (hn : N.Nodup) {nm : ByteArray} (h : nm ∈ N) (n : Int) : (N.map fun x => if nm = x then n else 0).sum = n := by
  induction N with
  | nil => cases h
  | cons a N ih =>
    simp only [List.nodup_cons] at hn
    simp only [List.map_cons, List.sum_cons]
    rcases List.mem_cons.1 h with rfl | h
    · rw [if_pos rfl, sum_zeroP _ N (fun x hx => if_neg (fun e => hn.1 (by rw [e]; exact hx)))]
      omega
    · rw [if_neg (fun e => hn.1 (by rw [← e]; exact h)), ih hn.2 h]
      omega
theorem sum_leP {α : Type} (f : α → Int) (m : Int) : ∀ N : List α, (∀ x, f x ≤ m) → (N.map f).sum ≤ N.length * m
  | [], _ => by simp
  | a :: N, h => by
    have := sum_leP f m N h
    have h1 := h a
    simp only [List.map_cons, List.sum_cons, List.length_cons, Int.natCast_add, Int.add_mul]
    omega
theorem taken_sum {N : List ByteArray} (hn : N.Nodup) : ∀ L : List Py, (∀ x ∈ L, x.name ∈ N) → takenL L = (N.map fun nm => sumP L nm 2).sum
  | [], _ => (sum_zeroP _ N fun x _ => rfl).symm
  | x :: L, h => by
    have ih := taken_sum hn L fun y hy => h y (List.mem_cons_of_mem _ hy)
    have e : (N.map fun nm => sumP (x :: L) nm 2) = N.map fun nm => (if x.name = nm then (if x.st = 2 then x.n else 0) else 0) + sumP L nm 2 := List.map_congr_left fun nm _ => by
      simp only [sumP, List.map_cons, List.sum_cons]
      by_cases h1 : x.name = nm <;> by_cases h2 : x.st = 2 <;> simp [h1, h2]
    rw [e, sum_addP (fun nm => if x.name = nm then (if x.st = 2 then x.n else 0) else 0) (fun nm => sumP L nm 2) N, sum_oneP hn (h x List.mem_cons_self), ← ih]
    simp only [takenL, List.map_cons, List.sum_cons]
theorem taken_nonneg {L : List Py} (h : ∀ x ∈ L, 1 ≤ x.n) : 0 ≤ takenL L := by
  induction L with
  | nil => simp [takenL]
  | cons b L ih =>
    have h1 := ih (fun c hc => h c (List.mem_cons_of_mem _ hc))
    have h2 := h b List.mem_cons_self
    simp only [takenL, List.map_cons, List.sum_cons] at *
    split <;> omega
theorem taken_take {T : List Py} {j : Nat} (hj : j < T.length) : takenL (T.take (j + 1)) = takenL (T.take j) + if T[j].st = 2 then T[j].n else 0 := by
  rw [List.take_succ_eq_append_getElem hj]
  simp only [takenL, List.map_append, List.sum_append, List.map_cons, List.map_nil, List.sum_cons, List.sum_nil]
  omega
theorem taken_part {T : List Py} (h : ∀ x ∈ T, 1 ≤ x.n) (j : Nat) : 0 ≤ takenL (T.take j) ∧ takenL (T.take j) ≤ takenL T := by
  refine ⟨taken_nonneg (fun x hx => h x (List.mem_of_mem_take hx)), ?_⟩
  have e : takenL T = takenL (T.take j) + takenL (T.drop j) := by
    conv => lhs; rw [← List.take_append_drop j T]
    simp only [takenL, List.map_append, List.sum_append]
  have := taken_nonneg (L := T.drop j) (fun x hx => h x (List.mem_of_mem_drop hx))
  omega
theorem sum_permP {α : Type} (f : α → Int) {L T : List α} (p : T.Perm L) : (T.map f).sum = (L.map f).sum := by
  induction p with
  | nil => rfl
  | cons x _ ih => simp only [List.map_cons, List.sum_cons] at *; omega
  | swap x y l => simp only [List.map_cons, List.sum_cons]; omega
  | trans _ _ h1 h2 => exact h1.trans h2
theorem taken_perm {L T : List Py} (p : T.Perm L) : takenL T = takenL L := sum_permP _ p
theorem sumP_perm {L T : List Py} (p : T.Perm L) (nm : ByteArray) (s : Int) : sumP T nm s = sumP L nm s := sum_permP _ p
theorem PInv.taken {first K : List Au} {L : List Py} (h : PInv first K L) : 0 ≤ takenL L ∧ takenL L ≤ 50000000000 := by
  refine ⟨taken_nonneg fun x hx => (h.pays x hx).1, ?_⟩
  rw [taken_sum h.nd L fun x hx => (h.pays x hx).2.2.2.1]
  have h1 := sum_leP (fun nm => sumP L nm 2) 1000000000 (first.map Au.name) fun nm => (h.mid nm).2.2.2.2.2.2
  have h2 := h.few
  rw [List.length_map] at h1
  omega
theorem PInv.few2 {first K : List Au} {L : List Py} (h : PInv first K L) : K.length ≤ 50 ∧ K.length = first.length := by
  have h1 := congrArg List.length h.names
  have h2 := h.few
  simp only [List.length_map] at h1
  omega
def isAuth (a : Aq) : Bool := decide (a.k = 0) || decide (a.k = 1)
def actVP (K : List Au) (L : List Py) (a : Aq) : Int := if isAuth a then vdP (authB K L a.o a.name a.n) else if a.k = 2 then vdP (turnB L a.o 1) else if a.k = 3 then vdP (turnB L a.o 1) else vdP (turnB L a.o 2)
def actKP (K : List Au) (L : List Py) (a : Aq) : List Au := if isAuth a then authKs K L a.o a.name a.n else if a.k = 2 then turnKs K L a.o 1 (-1) (-1) else if a.k = 3 then turnKs K L a.o 1 0 (-1) else turnKs K L a.o 2 1 0
def actLP (K : List Au) (L : List Py) (a : Aq) : List Py := if isAuth a then authLs K L a.o a.name a.n else if a.k = 2 then turnLs L a.o 1 2 else if a.k = 3 then turnLs L a.o 1 3 else turnLs L a.o 2 3
theorem authLs_len (K : List Au) (L : List Py) (o : BitVec 32) (nm : ByteArray) (n : Int) : L.length ≤ (authLs K L o nm n).length ∧ (authLs K L o nm n).length ≤ L.length + 1 := by
  unfold authLs
  split <;> simp
theorem turnLs_len {first K : List Au} {L : List Py} (h : PInv first K L) (o : BitVec 32) (s t : Int) : (turnLs L o s t).length = L.length := by
  cases hb : turnB L o s with
  | false => rw [(turn_no (K := K) t 0 0 hb).2]
  | true =>
    obtain ⟨x, hx, hxo, hxs, hf, eK, eL⟩ := turn_yes (K := K) t 0 0 hb
    rw [eL]
    have := congrArg List.length (putP_keys h.keys hx ⟨x.o, x.name, x.n, t⟩ rfl)
    simpa using this
theorem PInv.act {first K : List Au} {L : List Py} (h : PInv first K L) (a : Aq) : PInv first (actKP K L a) (actLP K L a) ∧ (actLP K L a).length ≤ L.length + 1 := by
  unfold actKP actLP
  cases isAuth a
  · simp only [Bool.false_eq_true, if_false]
    split
    · exact ⟨h.turn a.o 1 2 (-1) (-1) (by unfold turnOk; decide), by rw [turnLs_len h]; omega⟩
    · split
      · exact ⟨h.turn a.o 1 3 0 (-1) (by unfold turnOk; decide), by rw [turnLs_len h]; omega⟩
      · exact ⟨h.turn a.o 2 3 1 0 (by unfold turnOk; decide), by rw [turnLs_len h]; omega⟩
  · exact ⟨h.auth a.o a.name a.n, (authLs_len K L a.o a.name a.n).2⟩
theorem actVP_or (K : List Au) (L : List Py) (a : Aq) : actVP K L a = 1 ∨ (actVP K L a = 2 ∧ actKP K L a = K ∧ actLP K L a = L) := by
  unfold actVP actKP actLP
  cases isAuth a
  · simp only [Bool.false_eq_true, if_false]
    split
    · cases hb : turnB L a.o 1 with
      | true => exact .inl rfl
      | false => exact .inr ⟨rfl, (turn_no 2 (-1) (-1) hb).1, (turn_no (K := K) 2 (-1) (-1) hb).2⟩
    · split
      · cases hb : turnB L a.o 1 with
        | true => exact .inl rfl
        | false => exact .inr ⟨rfl, (turn_no 3 0 (-1) hb).1, (turn_no (K := K) 3 0 (-1) hb).2⟩
      · cases hb : turnB L a.o 2 with
        | true => exact .inl rfl
        | false => exact .inr ⟨rfl, (turn_no 3 1 0 hb).1, (turn_no (K := K) 3 1 0 hb).2⟩
  · simp only [if_true]
    cases hb : authB K L a.o a.name a.n with
    | true => exact .inl rfl
    | false => exact .inr ⟨rfl, (auth_no hb).1, (auth_no hb).2⟩
theorem new_inP {A B C : Prop} (h : (A ∧ B) ∨ (¬ A ∧ C)) (hA : A) : B := by
  rcases h with h | h
  · exact h.2
  · exact absurd hA h.1
theorem new_outP {A B C : Prop} (h : (A ∧ B) ∨ (¬ A ∧ C)) (hA : ¬ A) : C := by
  rcases h with h | h
  · exact absurd h.1 hA
  · exact h.2
theorem cell_atP {α : Type} {enc : α → List Value} {k : Nat} (hk : ∀ x, (enc x).length = k) {L : List α} {cs : List Value} {o i c : Nat} (hcs : (cs.drop o).take (L.flatMap enc).length = L.flatMap enc) (hi : i < L.length) (hc : c < k) : cs[o + (i : Int).toNat * k + c]? = (enc L[i])[c]? := by
  have h1 := flat_get enc k hk L i c hc
  rw [List.getElem?_eq_getElem hi, Option.bind_some] at h1
  rw [← h1, Int.toNat_natCast]
  have h2 : i * k + c < (L.flatMap enc).length := by
    rw [flat_len enc k hk]
    have := Nat.mul_le_mul_right k (show i + 1 ≤ L.length from hi)
    rw [Nat.add_mul, Nat.one_mul] at this
    omega
  conv => rhs; rw [← hcs]
  rw [List.getElem?_take_of_lt h2, List.getElem?_drop]
  congr 1
  omega
theorem Gr.get {A B : List Ck} {c : Ck} (h : ∀ x ∈ A, x ∈ B) (hm : c ∈ A) : c ∈ B := h c hm
theorem same_au (x y : Au) : cellsEq [1, 0, 0] (cellsU x) (cellsU y) = some (decide (x = y)) := by
  cases x with | mk a b c =>
  cases y with | mk a' b' c' =>
  simp only [cellsEq, cellEq, cellsU, if_true, Option.bind_some, Option.map_some, Option.some.injEq, Au.mk.injEq]
  rw [Bool.eq_iff_iff]
  simp only [Bool.and_eq_true, decide_eq_true_eq, Bool.and_true]
theorem same_py (x y : Py) : cellsEq [0, 1, 0, 0] (cellsP x) (cellsP y) = some (decide (x = y)) := by
  cases x with | mk a b c d =>
  cases y with | mk a' b' c' d' =>
  simp only [cellsEq, cellEq, cellsP, if_true, Option.bind_some, Option.map_some, Option.some.injEq, Py.mk.injEq]
  rw [Bool.eq_iff_iff]
  simp only [Bool.and_eq_true, decide_eq_true_eq, Bool.and_true]
  constructor
  · rintro ⟨h1, rfl, rfl, rfl⟩
    exact ⟨BitVec.eq_of_toNat_eq (by omega), rfl, rfl, rfl⟩
  · rintro ⟨rfl, rfl, rfl, rfl⟩
    exact ⟨rfl, rfl, rfl, rfl⟩
open Classical in
noncomputable def longBP (gs : List Au) (acs : List Aq) : Bool := decide (200 < gs.length ∨ (∃ g ∈ gs, 1000 < g.name.size) ∨ ∃ (j : Nat) (h : j < acs.length), j < 200 ∧ 1000 < acs[j].name.size)
theorem longP_yes {gs : List Au} {acs : List Aq} (h : 200 < gs.length ∨ (∃ g ∈ gs, 1000 < g.name.size) ∨ ∃ (j : Nat) (h : j < acs.length), j < 200 ∧ 1000 < acs[j].name.size) : longBP gs acs = true := by
  unfold longBP; exact decide_eq_true h
theorem longP_no {gs : List Au} {acs : List Aq} (h1 : gs.length ≤ 200) (h2 : ∀ (j : Nat) (h : j < gs.length), gs[j].name.size ≤ 1000) (h3 : ∀ (j : Nat) (h : j < acs.length), j < 200 → acs[j].name.size ≤ 1000) : longBP gs acs = false := by
  unfold longBP
  apply decide_eq_false
  rintro (h | ⟨g, hg, h⟩ | ⟨j, hj, h4, h⟩)
  · omega
  · obtain ⟨j, hj, rfl⟩ := List.getElem_of_mem hg
    have := h2 j hj; omega
  · have := h3 j hj h4; omega

end Go.SL
