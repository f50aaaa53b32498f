/-
  From the form's reading of an argument to what the walks know of it: numbers in a row.
-/
import Derived.Test.YtmdbmcicbambjaaSLRow2
set_option linter.unusedVariables false
set_option linter.unusedSimpArgs false
namespace Go.SL
open Go.ChangeShapes Go.WideShapes Go.ChangeAt Go.RowKit
variable {Hh : Type} {enc : TypeId × Value → Hh} {P : Program} {W : World} {base : Nat} {spare : Nat → Bool} {held : Bool} {t : TypeId}

/-- numbers of kind int that came in -/
theorem open_ints {T e : Nat} {ao : Option Addr} {len cap : Nat} {d : DataW Hh} {p : List MemPlace} (hT : sliceOf P T = some e) (he : intOfTy P e = some .i64) (hs : P.cellsOf e = 1) (h : DataW.Trod enc P W base spare held T (.slice ao len cap) d p) :
    ∃ (rs : List Int) (H : List Ck), Rs (.slice ao len cap) rs.length (ic rs) H ∧ rs.length = len ∧ len ≤ maxLen ∧ (∀ x ∈ rs, -9223372036854775808 ≤ x ∧ x ≤ 9223372036854775807) ∧ Here W H := by
  obtain ⟨xs, H, n, hr, hl, hm, hh, hel⟩ := open_row hT hs (by omega) h
  have key : ∃ rs : List Int, xs = ic rs ∧ ∀ x ∈ rs, -9223372036854775808 ≤ x ∧ x ≤ 9223372036854775807 := by
    have each : ∀ i, i < xs.length → ∃ x : Int, xs[i]? = some (.int .i64 x) ∧ -9223372036854775808 ≤ x ∧ x ≤ 9223372036854775807 := fun i hi => by
      obtain ⟨y, hy⟩ := hel i (by omega)
      obtain ⟨m, hm1, _, hm2⟩ := DataW.trod_int (underlying_int he) hy
      refine ⟨m, ?_, as_i64 hm2⟩
      have := congrArg (fun l => l[0]?) hm1
      simpa using this
    clear hr hl hel
    induction xs with
    | nil => exact ⟨[], rfl, by simp⟩
    | cons v xs ih =>
      obtain ⟨x, hx, hb⟩ := each 0 (by simp)
      simp at hx
      obtain ⟨rs, hrs, hall⟩ := ih (fun i hi => by
        obtain ⟨x, h⟩ := each (i + 1) (by simpa using hi)
        exact ⟨x, by simpa using h⟩)
      refine ⟨x :: rs, by rw [hx, hrs]; rfl, ?_⟩
      intro y hy
      rcases List.mem_cons.1 hy with rfl | hy
      · exact hb
      · exact hall y hy
  obtain ⟨rs, rfl, hall⟩ := key
  rw [ic_length, Nat.mul_one] at hl
  refine ⟨rs, H, ?_, hl, hm, hall, hh⟩
  rw [hl]
  exact hr

end Go.SL
