/-
  From the form's reading of an argument to what the walks know of it: goods, calls of a stock; how many holds there are.
-/
import Derived.Test.YtdbbkodjhmfjfaaSLRow5
import Derived.Test.YtdbbkodjhmfjfaaStockAct
set_option linter.unusedVariables false
set_option linter.unusedSimpArgs false
namespace Go.SL
open Go.ChangeShapes Go.WideShapes Go.ChangeAt Go.RowKit
section
variable {Hh : Type} {enc : TypeId × Value → Hh} {P : Program} {W : World} {base : Nat} {spare : Nat → Bool} {held : Bool} {t : TypeId}

theorem rows_eq {α : Type} (f : α → List Value) (s : Nat) (hlen : ∀ a, (f a).length = s) : ∀ (bs : List α) (xs : List Value), xs.length = bs.length * s → (∀ i (h : i < bs.length), (xs.drop (i * s)).take s = f bs[i]) → xs = bs.flatMap f
  | [], xs, h, _ => List.eq_nil_of_length_eq_zero (by simpa using h)
  | a :: bs, xs, h, hi => by
    have h0 := hi 0 (by simp)
    simp only [Nat.zero_mul, List.drop_zero, List.getElem_cons_zero] at h0
    have hl : xs.length = bs.length * s + s := by rw [h, List.length_cons, Nat.add_mul, Nat.one_mul]
    have ih := rows_eq f s hlen bs (xs.drop s) (by rw [List.length_drop]; omega) (fun i h2 => by
      have := hi (i + 1) (by simpa using h2)
      simp only [List.getElem_cons_succ] at this
      rw [List.drop_drop, show s + i * s = (i + 1) * s by rw [Nat.add_mul, Nat.one_mul, Nat.add_comm]]
      exact this)
    rw [List.flatMap_cons, ← h0, ← ih, List.take_append_drop]
def goodLeaves : List Leaf := [.str, .int .i64]
def actLeaves9 : List Leaf := [.int .i64, .int .u32, .str, .int .i64]
def GdE (cs : List Value) (g : Gd) (H : List Ck) : Prop := cs = cellsG g ∧ g.gone = 0
def AcE (cs : List Value) (a : Ac9) (H : List Ck) : Prop := cs = cellsA a
theorem good_of {cs : List Value} (hl : cs.length = 2) (h : ∀ (i : Nat) (lf : Leaf), goodLeaves[i]? = some lf → ∃ v, cs[i]? = some v ∧ leafOk W lf v) : ∃ g H, GdE cs g H ∧ Here W H := by
  obtain ⟨v0, e0, m0, rfl, _⟩ := h 0 _ rfl
  obtain ⟨v1, e1, m1, rfl, _⟩ := h 1 _ rfl
  refine ⟨⟨m0, m1, 0⟩, [], ⟨?_, rfl⟩, Here.nil W⟩
  apply List.ext_getElem?
  intro i
  match i with
  | 0 => exact e0
  | 1 => exact e1
  | i + 2 => rw [List.getElem?_eq_none (by omega), List.getElem?_eq_none (by simp [cellsG])]
theorem act9_of {cs : List Value} (hl : cs.length = 4) (h : ∀ (i : Nat) (lf : Leaf), actLeaves9[i]? = some lf → ∃ v, cs[i]? = some v ∧ leafOk W lf v) : ∃ a H, AcE cs a H ∧ Here W H := by
  obtain ⟨v0, e0, m0, rfl, _⟩ := h 0 _ rfl
  obtain ⟨v1, e1, m1, rfl, w1⟩ := h 1 _ rfl
  obtain ⟨v2, e2, m2, rfl, _⟩ := h 2 _ rfl
  obtain ⟨v3, e3, m3, rfl, _⟩ := h 3 _ rfl
  obtain ⟨o, rfl⟩ := as_bits32 w1
  refine ⟨⟨m0, o, m2, m3⟩, [], ?_, Here.nil W⟩
  apply List.ext_getElem?
  intro i
  match i with
  | 0 => exact e0
  | 1 => exact e1
  | 2 => exact e2
  | 3 => exact e3
  | i + 4 => rw [List.getElem?_eq_none (by omega), List.getElem?_eq_none (by simp [cellsA])]
theorem open_goods {T E : TypeId} {fs : Array Field} {ao : Option Addr} {len cap : Nat} {d : DataW Hh} {p : List MemPlace} (hT : sliceOf P T = some E) (hu : P.underlying E = some (.struct fs)) (hL : leavesOf P 5 E = some goodLeaves) (hc : P.cellsOf E = 2) (h : DataW.Trod enc P W base spare held T (.slice ao len cap) d p) :
    ∃ (gs : List Gd) (H : List Ck), Rs (.slice ao len cap) gs.length (gs.flatMap cellsG) H ∧ (∀ g ∈ gs, g.gone = 0) ∧ gs.length ≤ maxLen ∧ Here W H := by
  obtain ⟨xs, bs, H, hr, hx, hl, hm, hh, hE⟩ := open_list (E := GdE) (fun c a A B h _ => h) hT hc (by omega) (fun n cs y hy => good_of (by rw [← hc]; exact trod_len hu hy) (open_leaves 5 E _ n _ _ hL hc hy)) h
  have e := rows_eq cellsG 2 cellsG_len bs xs (by rw [hx, hl]) (fun i hi => (hE i hi).1)
  subst e
  refine ⟨bs, H, by rw [hl]; exact hr, fun g hg => ?_, by omega, hh⟩
  obtain ⟨i, hi, rfl⟩ := List.getElem_of_mem hg
  exact (hE i hi).2
theorem open_acts9 {T E : TypeId} {fs : Array Field} {ao : Option Addr} {len cap : Nat} {d : DataW Hh} {p : List MemPlace} (hT : sliceOf P T = some E) (hu : P.underlying E = some (.struct fs)) (hL : leavesOf P 5 E = some actLeaves9) (hc : P.cellsOf E = 4) (h : DataW.Trod enc P W base spare held T (.slice ao len cap) d p) :
    ∃ (bs : List Ac9) (H : List Ck), Rs (.slice ao len cap) bs.length (bs.flatMap cellsA) H ∧ bs.length ≤ maxLen ∧ Here W H := by
  obtain ⟨xs, bs, H, hr, hx, hl, hm, hh, hE⟩ := open_list (E := AcE) (fun c a A B h _ => h) hT hc (by omega) (fun n cs y hy => act9_of (by rw [← hc]; exact trod_len hu hy) (open_leaves 5 E _ n _ _ hL hc hy)) h
  have e := rows_eq cellsA 4 cellsA_len bs xs (by rw [hx, hl]) (fun i hi => hE i hi)
  subst e
  exact ⟨bs, H, by rw [hl]; exact hr, by omega, hh⟩
end

/-! how many holds there are -/
theorem sum_ge (N : List ByteArray) (nm : ByteArray) (n : Int) (h : nm ∈ N) (hn : 0 ≤ n) : n ≤ (N.map fun x => if nm = x then n else 0).sum := by
  have h0 : ∀ N : List ByteArray, 0 ≤ (N.map fun x => if nm = x then n else 0).sum := by
    intro N
    induction N with
    | nil => simp
    | cons a N ih => simp only [List.map_cons, List.sum_cons]; split <;> omega
  induction N with
  | nil => cases h
  | cons a N ih =>
    simp only [List.map_cons, List.sum_cons]
    have := h0 N
    rcases List.mem_cons.1 h with rfl | h
    · rw [if_pos rfl]; omega
    · have := ih h
      split <;> omega
theorem sum_add {α : Type} (f g : α → Int) : ∀ N : List α, (N.map fun x => f x + g x).sum = (N.map f).sum + (N.map g).sum
  | [] => rfl
  | a :: N => by simp only [List.map_cons, List.sum_cons, sum_add f g N]; omega
theorem sumN_many (N : List ByteArray) : ∀ L : List Ho, (∀ h ∈ L, 1 ≤ h.n ∧ h.name ∈ N) → (L.length : Int) ≤ (N.map fun nm => sumN L nm).sum
  | [], _ => by
    have : ∀ N : List ByteArray, 0 ≤ (N.map fun nm => sumN [] nm).sum := fun N => by
      induction N with
      | nil => simp
      | cons a N ih => simp only [List.map_cons, List.sum_cons]; simp only [sumN, List.map_nil, List.sum_nil] at *; omega
    simpa using this N
  | h :: L, hh => by
    have ih := sumN_many N L fun x hx => hh x (List.mem_cons_of_mem _ hx)
    have h1 := hh h List.mem_cons_self
    have e : (N.map fun nm => sumN (h :: L) nm) = N.map fun nm => (if h.name = nm then h.n else 0) + sumN L nm := List.map_congr_left fun nm _ => by simp [sumN]
    rw [e, sum_add (fun nm => if h.name = nm then h.n else 0) (fun nm => sumN L nm) N]
    have := sum_ge N h.name h.n h1.2 (by omega)
    rw [List.length_cons]
    omega
theorem sum_le {α : Type} (f : α → Int) (m : Int) : ∀ N : List α, (∀ x, f x ≤ m) → (N.map f).sum ≤ N.length * m
  | [], _ => by simp
  | a :: N, h => by
    have := sum_le f m N h
    have h1 := h a
    simp only [List.map_cons, List.sum_cons, List.length_cons, Int.natCast_add, Int.add_mul]
    omega
theorem SInv.many {first K : List Gd} {L : List Ho} (h : SInv first K L) : L.length ≤ 50000000 ∧ K.length ≤ 50 := by
  constructor
  · have h1 := sumN_many (first.map Gd.name) L fun x hx => ⟨(h.holds x hx).1, (h.holds x hx).2.2⟩
    have h2 := sum_le (fun nm => sumN L nm) 1000000 (first.map Gd.name) fun x => (h.mid x).2.2.2.2.2
    rw [List.length_map] at h2
    have := h.few
    omega
  · have := congrArg List.length h.names
    simp only [List.length_map] at this
    have := h.few
    omega

/-! what the chapter tells bs an example -/
def kn0 : List Gd := [⟨⟨#[98]⟩, 1, 0⟩, ⟨⟨#[97]⟩, 5, 0⟩]
def kn1 : List Gd := [⟨⟨#[98]⟩, 1, 0⟩, ⟨⟨#[97]⟩, 2, 0⟩]
def kn3 : List Gd := [⟨⟨#[98]⟩, 1, 0⟩, ⟨⟨#[97]⟩, 0, 0⟩]
def kn4 : List Gd := [⟨⟨#[98]⟩, 1, 0⟩, ⟨⟨#[97]⟩, 0, 5⟩]
def kl1 : List Ho := [⟨7#32, ⟨#[97]⟩, 3⟩]
def kl3 : List Ho := [⟨8#32, ⟨#[97]⟩, 5⟩]
theorem kn_a : holdB kn0 [] 7#32 ⟨#[97]⟩ 3 = true ∧ holdKs kn0 [] 7#32 ⟨#[97]⟩ 3 = kn1 ∧ holdLs kn0 [] 7#32 ⟨#[97]⟩ 3 = kl1 := by decide
theorem kn_b : holdB kn1 kl1 8#32 ⟨#[97]⟩ 3 = false ∧ holdB kn1 kl1 7#32 ⟨#[98]⟩ 1 = false := by decide
theorem kn_c : leaveKs kn1 kl1 7#32 false = kn0 ∧ delK Ho.o kl1 7#32 = [] := by decide
theorem kn_d : holdKs kn0 [] 8#32 ⟨#[97]⟩ 5 = kn3 ∧ holdLs kn0 [] 8#32 ⟨#[97]⟩ 5 = kl3 ∧ holdB kn0 [] 8#32 ⟨#[97]⟩ 5 = true := by decide
theorem kn_e : leaveKs kn3 kl3 8#32 true = kn4 ∧ delK Ho.o kl3 8#32 = [] := by decide
theorem kn_good : GoodL kn0 := by
  refine ⟨by decide, by decide, ?_⟩
  intro g hg
  simp only [kn0, List.mem_cons, List.not_mem_nil, or_false] at hg
  rcases hg with rfl | rfl <;> exact ⟨by decide, by decide, by decide, by decide⟩
theorem kn_sort (a b c d : Int) : ToldK Gd.name sLt [⟨⟨#[98]⟩, a, b⟩, ⟨⟨#[97]⟩, c, d⟩] [⟨⟨#[97]⟩, c, d⟩, ⟨⟨#[98]⟩, a, b⟩] := ⟨List.Perm.swap _ _ _, by
  refine List.pairwise_cons.2 ⟨fun x hx => ?_, by simp⟩
  rw [List.mem_singleton.1 hx]
  show sLt ⟨#[98]⟩ ⟨#[97]⟩ = false
  decide⟩

end Go.SL
