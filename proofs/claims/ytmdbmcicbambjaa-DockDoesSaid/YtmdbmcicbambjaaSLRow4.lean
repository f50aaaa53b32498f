/-
  From the form's reading of an argument to what the walks know of it: rows of structs of numbers.
-/
import Derived.Test.YtmdbmcicbambjaaSLRow3
set_option linter.unusedVariables false
set_option linter.unusedSimpArgs false
namespace Go.SL
open Go.ChangeShapes Go.WideShapes Go.ChangeAt Go.RowKit
variable {Hh : Type} {enc : TypeId × Value → Hh} {P : Program} {W : World} {base : Nat} {spare : Nat → Bool} {held : Bool} {t : TypeId}

/-- a struct of numbers, one behind the other: their kinds -/
def kindsOf (P : Program) (E : TypeId) : Option (List IntKind) := match P.underlying E with
  | some (.struct fs) => fs.toList.zipIdx.mapM fun p => if p.1.offset = p.2 ∧ P.cellsOf p.1.type = 1 then intOfTy P p.1.type else none
  | _ => none
theorem mapM_get {α β : Type} (f : α → Option β) : ∀ (l : List α) (r : List β), l.mapM f = some r → r.length = l.length ∧ ∀ (i : Nat) (a : α), l[i]? = some a → ∃ b, f a = some b ∧ r[i]? = some b
  | [], r, h => by simp at h; subst h; simp
  | x :: l, r, h => by
    simp only [List.mapM_cons] at h
    cases hx : f x with
    | none => simp [hx] at h
    | some b =>
      cases hl : l.mapM f with
      | none => simp [hx, hl] at h
      | some r' =>
        simp [hx, hl] at h
        subst h
        obtain ⟨h1, h2⟩ := mapM_get f l r' hl
        refine ⟨by simp [h1], fun i a ha => ?_⟩
        cases i with
        | zero => simp at ha; subst ha; exact ⟨b, hx, rfl⟩
        | succ i => obtain ⟨c, h3, h4⟩ := h2 i a (by simpa using ha); exact ⟨c, h3, by simpa using h4⟩
theorem open_struct_ints {E n : Nat} {ks : List IntKind} {cs : List Value} {y : DataW Hh × List MemPlace} (hk : kindsOf P E = some ks) (hE : P.cellsOf E = ks.length) (h : DataW.trod enc P W base spare held n E cs = some y) :
    cs.length = ks.length ∧ ∀ (i : Nat) (k : IntKind), ks[i]? = some k → ∃ m : Int, cs[i]? = some (Value.int k m) ∧ (Lit.int k m).wf = true := by
  unfold kindsOf at hk
  split at hk
  · rename_i fs hu
    obtain ⟨xs, m, _, _, hl, hlen, hf⟩ := DataW.trod_struct hu h
    obtain ⟨h1, h2⟩ := mapM_get _ _ _ hk
    refine ⟨by omega, fun i k hki => ?_⟩
    have hi : i < fs.size := by
      have := (List.getElem?_eq_some_iff.1 hki).1
      simp at h1
      omega
    obtain ⟨k', h3, h4⟩ := h2 i (fs[i], i) (by simp [hi])
    rw [hki] at h4
    cases h4
    simp only at h3
    split at h3
    · rename_i hh
      have hfi := hf i fs[i] (by simp [hi])
      have hxi : i < xs.length := by omega
      rw [List.getElem?_eq_getElem hxi] at hfi
      rw [hh.1, hh.2] at hfi
      obtain ⟨q, hq1, _, hq2⟩ := DataW.trod_int (underlying_int h3) hfi
      refine ⟨q, ?_, hq2⟩
      have := congrArg (fun l => l[0]?) hq1
      simpa using this
    · cases h3
  · cases hk

/-- what is asked of a dock -/
structure Ac where
  k : Int
  o : BitVec 32
  from_ : Int
  n : Int
def Ac.cells (a : Ac) : List Value := [.int .i64 a.k, .int .u32 a.o.toNat, .int .i64 a.from_, .int .i64 a.n]
def acs (l : List Ac) : List Value := l.flatMap Ac.cells
theorem acs_length (l : List Ac) : (acs l).length = l.length * 4 := by
  induction l with
  | nil => rfl
  | cons a l ih => simp only [acs, List.flatMap_cons, List.length_append, List.length_cons] at *; rw [ih]; simp [Ac.cells]; omega
theorem acs_at (l : List Ac) (i : Nat) (h : i < l.length) : ((acs l).drop (i * 4)).take 4 = l[i].cells := by
  induction l generalizing i with
  | nil => simp at h
  | cons a l ih =>
    cases i with
    | zero => simp [acs, Ac.cells]
    | succ i =>
      have := ih i (by simpa using h)
      rw [show (i + 1) * 4 = 4 + i * 4 by omega]
      simp only [acs, List.flatMap_cons, List.getElem_cons_succ] at *
      rw [← List.drop_drop]
      have e : (a.cells ++ l.flatMap Ac.cells).drop 4 = l.flatMap Ac.cells := by simp [Ac.cells]
      rw [e, this]
theorem open_acts {T E : Nat} {ao : Option Addr} {len cap : Nat} {d : DataW Hh} {p : List MemPlace} (hT : sliceOf P T = some E) (hk : kindsOf P E = some [.i64, .u32, .i64, .i64]) (hE : P.cellsOf E = 4) (h : DataW.Trod enc P W base spare held T (.slice ao len cap) d p) :
    ∃ (l : List Ac) (H : List Ck), Rs (.slice ao len cap) l.length (acs l) H ∧ l.length = len ∧ len ≤ maxLen ∧ Here W H := by
  obtain ⟨xs, H, n, hr, hl, hm, hh, hel⟩ := open_row hT hE (by omega) h
  have key : ∀ (len : Nat) (xs : List Value), xs.length = len * 4 → (∀ i, i < len → ∃ y, DataW.trod enc P W base spare held n E ((xs.drop (i * 4)).take 4) = some y) → ∃ l : List Ac, l.length = len ∧ xs = acs l := by
    intro len
    induction len with
    | zero => intro xs hx _; exact ⟨[], rfl, List.eq_nil_of_length_eq_zero (by omega)⟩
    | succ len ih =>
      intro xs hx each
      obtain ⟨y, hy⟩ := each 0 (by omega)
      obtain ⟨h4, hg⟩ := open_struct_ints hk (by rw [hE]; rfl) hy
      obtain ⟨a, ha, _⟩ := hg 0 .i64 rfl
      obtain ⟨b, hb, hbw⟩ := hg 1 .u32 rfl
      obtain ⟨c, hc, _⟩ := hg 2 .i64 rfl
      obtain ⟨e, he, _⟩ := hg 3 .i64 rfl
      obtain ⟨o, rfl⟩ := as_bits32 hbw
      obtain ⟨l, hll, hxl⟩ := ih (xs.drop 4) (by rw [List.length_drop]; omega) (fun i hi => by
        obtain ⟨z, hz⟩ := each (i + 1) (by omega)
        refine ⟨z, ?_⟩
        rw [List.drop_drop, show 4 + i * 4 = (i + 1) * 4 by omega]
        exact hz)
      refine ⟨⟨a, o, c, e⟩ :: l, by simp [hll], ?_⟩
      have h0 : xs.take 4 = Ac.cells ⟨a, o, c, e⟩ := by
        simp only [Nat.zero_mul, List.drop_zero] at ha hb hc he h4
        apply List.ext_getElem?
        intro i
        match i with
        | 0 => exact ha
        | 1 => exact hb
        | 2 => exact hc
        | 3 => exact he
        | i + 4 =>
          rw [List.getElem?_eq_none (by rw [h4]; simp), List.getElem?_eq_none (by simp [Ac.cells])]
      rw [← List.take_append_drop 4 xs, h0, hxl]
      rfl
  obtain ⟨l, hll, rfl⟩ := key len xs hl hel
  exact ⟨l, H, by rw [hll]; exact hr, hll, hm, hh⟩

end Go.SL
