/-
  From the form's reading of an argument to what the walks know of it: slices of slices of bytes.
-/
import Derived.Test.YtonnkgblligdkaaSLRow
import Derived.Test.YtonnkgblligdkaaSLMore
set_option linter.unusedVariables false
set_option linter.unusedSimpArgs false
namespace Go.SL
open Go.ChangeShapes Go.WideShapes Go.ChangeAt Go.RowKit
variable {Hh : Type} {enc : TypeId × Value → Hh} {P : Program} {W : World} {base : Nat} {spare : Nat → Bool} {held : Bool} {t : TypeId}

/-- bytes that came in, as an element's cell -/
theorem open_bytes_cell {e e2 n : Nat} {v : Value} {y : DataW Hh × List MemPlace} (he : sliceOf P e = some e2) (he2 : intOfTy P e2 = some .u8) (hs2 : P.cellsOf e2 = 1) (h : DataW.trod enc P W base spare held n e [v] = some y) :
    ∃ (bs : List (BitVec 8)) (H : List Ck), Bs v bs H ∧ bs.length ≤ maxLen ∧ Here W H := by
  have hv : ∃ ao len cap, v = .slice ao len cap := by
    rcases DataW.trod_slice (underlying_slice he) h with ⟨hcs, _⟩ | ⟨a, l, c, elems, rest, n, _, hcs, _⟩
    · simp at hcs; exact ⟨_, _, _, hcs⟩
    · simp at hcs; exact ⟨_, _, _, hcs⟩
  obtain ⟨ao, len, cap, rfl⟩ := hv
  obtain ⟨bs, H, hb, hl, hm, hh⟩ := open_bytes (d := y.1) (p := y.2) he he2 hs2 ⟨n, h⟩
  exact ⟨bs, H, hb, by omega, hh⟩

theorem open_bytess {T e e2 : Nat} {ao : Option Addr} {len cap : Nat} {d : DataW Hh} {p : List MemPlace} (hT : sliceOf P T = some e) (hs : P.cellsOf e = 1) (he : sliceOf P e = some e2) (he2 : intOfTy P e2 = some .u8) (hs2 : P.cellsOf e2 = 1)
    (h : DataW.Trod enc P W base spare held T (.slice ao len cap) d p) :
    ∃ (ls : List (List (BitVec 8))) (H : List Ck), Bss (.slice ao len cap) ls H ∧ ls.length = len ∧ len ≤ maxLen ∧ (∀ l ∈ ls, l.length ≤ maxLen) ∧ Here W H := by
  obtain ⟨xs, H0, n, hr, hl, hm, hh, hel⟩ := open_row hT hs (by omega) h
  have key : ∀ xs : List Value, (∀ i, i < xs.length → ∃ y, DataW.trod enc P W base spare held n e ((xs.drop i).take 1) = some y) →
      ∃ (ls : List (List (BitVec 8))) (H : List Ck), ls.length = xs.length ∧ (∀ l ∈ ls, l.length ≤ maxLen) ∧ Here W H ∧ ∀ i (h : i < ls.length), ∃ u, xs[i]? = some u ∧ Bs u ls[i] H := by
    intro xs
    induction xs with
    | nil => intro _; exact ⟨[], [], rfl, by simp, Here.nil W, fun i h => by simp at h⟩
    | cons v xs ih =>
      intro each
      obtain ⟨ls, H, h1, h2, h3, h4⟩ := ih fun i hi => by
        have := each (i + 1) (by simpa using hi)
        simpa using this
      obtain ⟨y, hy⟩ := each 0 (by simp)
      obtain ⟨bs, Hb, hb1, hb2, hb3⟩ := open_bytes_cell he he2 hs2 (by simpa using hy)
      refine ⟨bs :: ls, Hb ++ H, by simp [h1], ?_, hb3.append h3, ?_⟩
      · intro l hl
        rcases List.mem_cons.1 hl with rfl | hl
        · exact hb2
        · exact h2 l hl
      · intro i hi
        cases i with
        | zero => exact ⟨v, rfl, hb1.mono fun x hx => List.mem_append_left _ hx⟩
        | succ i =>
          obtain ⟨u, h5, h6⟩ := h4 i (by simpa using hi)
          exact ⟨u, by simpa using h5, h6.mono fun x hx => List.mem_append_right _ hx⟩
  obtain ⟨ls, H, h1, h2, h3, h4⟩ := key xs fun i hi => by
    have := hel i (by omega)
    simpa using this
  refine ⟨ls, H0 ++ H, ⟨xs, ?_, by omega, fun i hi => ?_⟩, by omega, hm, h2, hh.append h3⟩
  · rw [h1, hl, Nat.mul_one]
    exact hr.mono fun x hx => List.mem_append_left _ hx
  · obtain ⟨u, h5, h6⟩ := h4 i hi
    exact ⟨u, h5, h6.mono fun x hx => List.mem_append_right _ hx⟩

end Go.SL
