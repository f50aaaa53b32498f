/-
  From the form's reading of an argument to what the walks know of it: accounts, calls of a purse.
-/
import Derived.Test.YtllfnigodikbaaaSLRow5
import Derived.Test.YtllfnigodikbaaaPurseLaw
set_option linter.unusedVariables false
set_option linter.unusedSimpArgs false
namespace Go.SL
open Go.ChangeShapes Go.WideShapes Go.ChangeAt Go.RowKit
section
variable {Hh : Type} {enc : TypeId × Value → Hh} {P : Program} {W : World} {base : Nat} {spare : Nat → Bool} {held : Bool} {t : TypeId}
theorem rows_eqP {α : Type} (f : α → List Value) (s : Nat) (hlen : ∀ a, (f a).length = s) : ∀ (bs : List α) (xs : List Value), xs.length = bs.length * s → (∀ i (h : i < bs.length), (xs.drop (i * s)).take s = f bs[i]) → xs = bs.flatMap f
  | [], xs, h, _ => List.eq_nil_of_length_eq_zero (by simpa using h)
  | a :: bs, xs, h, hi => by
    have h0 := hi 0 (by simp)
    simp only [Nat.zero_mul, List.drop_zero, List.getElem_cons_zero] at h0
    have hl : xs.length = bs.length * s + s := by rw [h, List.length_cons, Nat.add_mul, Nat.one_mul]
    have ih := rows_eqP f s hlen bs (xs.drop s) (by rw [List.length_drop]; omega) (fun i h2 => by
      have := hi (i + 1) (by simpa using h2)
      simp only [List.getElem_cons_succ] at this
      rw [List.drop_drop, show s + i * s = (i + 1) * s by rw [Nat.add_mul, Nat.one_mul, Nat.add_comm]]
      exact this)
    rw [List.flatMap_cons, ← h0, ← ih, List.take_append_drop]
def accLeaves : List Leaf := [.str, .int .i64, .int .i64]
def actLeavesQ : List Leaf := [.int .i64, .int .u32, .str, .int .i64]
def AuE (cs : List Value) (g : Au) (H : List Ck) : Prop := cs = cellsU g
def AqE (cs : List Value) (a : Aq) (H : List Ck) : Prop := cs = cellsQ a
theorem acc_ofL {cs : List Value} (hl : cs.length = 3) (h : ∀ (i : Nat) (lf : Leaf), accLeaves[i]? = some lf → ∃ v, cs[i]? = some v ∧ leafOk W lf v) : ∃ g H, AuE cs g H ∧ Here W H := by
  obtain ⟨v0, e0, m0, rfl, _⟩ := h 0 _ rfl
  obtain ⟨v1, e1, m1, rfl, _⟩ := h 1 _ rfl
  obtain ⟨v2, e2, m2, rfl, _⟩ := h 2 _ rfl
  refine ⟨⟨m0, m1, m2⟩, [], ?_, Here.nil W⟩
  apply List.ext_getElem?
  intro i
  match i with
  | 0 => exact e0
  | 1 => exact e1
  | 2 => exact e2
  | i + 3 => rw [List.getElem?_eq_none (by omega), List.getElem?_eq_none (by simp [cellsU])]
theorem actQ_ofL {cs : List Value} (hl : cs.length = 4) (h : ∀ (i : Nat) (lf : Leaf), actLeavesQ[i]? = some lf → ∃ v, cs[i]? = some v ∧ leafOk W lf v) : ∃ a H, AqE cs a H ∧ Here W H := by
  obtain ⟨v0, e0, m0, rfl, _⟩ := h 0 _ rfl
  obtain ⟨v1, e1, m1, rfl, w1⟩ := h 1 _ rfl
  obtain ⟨v2, e2, m2, rfl, _⟩ := h 2 _ rfl
  obtain ⟨v3, e3, m3, rfl, _⟩ := h 3 _ rfl
  obtain ⟨o, rfl⟩ := as_bits32 w1
  refine ⟨⟨m0, o, m2, m3⟩, [], ?_, Here.nil W⟩
  apply List.ext_getElem?
  intro i
  match i with
  | 0 => exact e0
  | 1 => exact e1
  | 2 => exact e2
  | 3 => exact e3
  | i + 4 => rw [List.getElem?_eq_none (by omega), List.getElem?_eq_none (by simp [cellsQ])]
theorem open_accs {T E : TypeId} {fs : Array Field} {ao : Option Addr} {len cap : Nat} {d : DataW Hh} {p : List MemPlace} (hT : sliceOf P T = some E) (hu : P.underlying E = some (.struct fs)) (hL : leavesOf P 5 E = some accLeaves) (hc : P.cellsOf E = 3) (h : DataW.Trod enc P W base spare held T (.slice ao len cap) d p) :
    ∃ (gs : List Au) (H : List Ck), Rs (.slice ao len cap) gs.length (gs.flatMap cellsU) H ∧ gs.length ≤ maxLen ∧ Here W H := by
  obtain ⟨xs, bs, H, hr, hx, hl, hm, hh, hE⟩ := open_list (E := AuE) (fun c a A B h _ => h) hT hc (by omega) (fun n cs y hy => acc_ofL (by rw [← hc]; exact trod_len hu hy) (open_leaves 5 E _ n _ _ hL hc hy)) h
  have e := rows_eqP cellsU 3 cellsU_len bs xs (by rw [hx, hl]) (fun i hi => hE i hi)
  subst e
  exact ⟨bs, H, by rw [hl]; exact hr, by omega, hh⟩
theorem open_actsQ {T E : TypeId} {fs : Array Field} {ao : Option Addr} {len cap : Nat} {d : DataW Hh} {p : List MemPlace} (hT : sliceOf P T = some E) (hu : P.underlying E = some (.struct fs)) (hL : leavesOf P 5 E = some actLeavesQ) (hc : P.cellsOf E = 4) (h : DataW.Trod enc P W base spare held T (.slice ao len cap) d p) :
    ∃ (bs : List Aq) (H : List Ck), Rs (.slice ao len cap) bs.length (bs.flatMap cellsQ) H ∧ bs.length ≤ maxLen ∧ Here W H := by
  obtain ⟨xs, bs, H, hr, hx, hl, hm, hh, hE⟩ := open_list (E := AqE) (fun c a A B h _ => h) hT hc (by omega) (fun n cs y hy => actQ_ofL (by rw [← hc]; exact trod_len hu hy) (open_leaves 5 E _ n _ _ hL hc hy)) h
  have e := rows_eqP cellsQ 4 cellsQ_len bs xs (by rw [hx, hl]) (fun i hi => hE i hi)
  subst e
  exact ⟨bs, H, by rw [hl]; exact hr, by omega, hh⟩
end

/-! what the chapter tells as an example -/
def pn0 : List Au := [⟨⟨#[97, 110, 110]⟩, 10, 0⟩]
def pn1 : List Au := [⟨⟨#[97, 110, 110]⟩, 10, 7⟩]
def pn2 : List Au := [⟨⟨#[97, 110, 110]⟩, 3, 0⟩]
def pl1 : List Py := [⟨1#32, ⟨#[97, 110, 110]⟩, 7, 1⟩]
def pl2 : List Py := [⟨1#32, ⟨#[97, 110, 110]⟩, 7, 2⟩]
def pl3 : List Py := [⟨1#32, ⟨#[97, 110, 110]⟩, 7, 3⟩]
theorem pn_a : authB pn0 [] 1#32 ⟨#[97, 110, 110]⟩ 7 = true ∧ authKs pn0 [] 1#32 ⟨#[97, 110, 110]⟩ 7 = pn1 ∧ authLs pn0 [] 1#32 ⟨#[97, 110, 110]⟩ 7 = pl1 := by decide
theorem pn_b : authB pn1 pl1 2#32 ⟨#[97, 110, 110]⟩ 4 = false := by decide
theorem pn_c : turnB pl1 1#32 1 = true ∧ turnKs pn1 pl1 1#32 1 (-1) (-1) = pn2 ∧ turnLs pl1 1#32 1 2 = pl2 := by decide
theorem pn_d : turnB pl2 1#32 2 = true ∧ turnKs pn2 pl2 1#32 2 1 0 = pn0 ∧ turnLs pl2 1#32 2 3 = pl3 := by decide
theorem pn_e : turnB pl3 1#32 2 = false := by decide
theorem pn_f : authB pn0 pl3 1#32 ⟨#[97, 110, 110]⟩ 1 = false := by decide
theorem pn_good : AccL pn0 := by
  refine ⟨by decide, by decide, ?_⟩
  intro g hg
  rw [List.mem_singleton.1 hg]
  exact ⟨by decide, by decide, by decide, by decide, by decide⟩
theorem told_one (a : Au) : ToldK Au.name sLt [a] [a] := ⟨List.Perm.refl _, List.pairwise_singleton _ _⟩

end Go.SL
