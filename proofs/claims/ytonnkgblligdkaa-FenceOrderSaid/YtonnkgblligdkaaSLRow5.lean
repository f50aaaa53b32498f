/-
  From the form's reading of an argument to what the walks know of it: structs of numbers, truth values, texts and bytes, one in another; rows of such.
-/
import Derived.Test.YtonnkgblligdkaaSLRow2
set_option linter.unusedVariables false
set_option linter.unusedSimpArgs false
namespace Go.SL
open Go.ChangeShapes Go.WideShapes Go.ChangeAt Go.RowKit
variable {Hh : Type} {enc : TypeId × Value → Hh} {P : Program} {W : World} {base : Nat} {spare : Nat → Bool} {held : Bool} {t : TypeId}

inductive Leaf where
  | int (k : IntKind)
  | bool
  | str
  | bytes
def leafOk (W : World) : Leaf → Value → Prop
  | .int k, v => ∃ m, v = .int k m ∧ (Lit.int k m).wf = true
  | .bool, v => ∃ b, v = .bool b
  | .str, v => ∃ s : ByteArray, v = .string s ∧ s.size ≤ maxLen
  | .bytes, v => ∃ (bs : List (BitVec 8)) (H : List Ck), Bs v bs H ∧ bs.length ≤ maxLen ∧ Here W H
def leavesF (P : Program) (rec : TypeId → Option (List Leaf)) : List Field → Nat → Option (List Leaf)
  | [], _ => some []
  | f :: r, o => if f.offset = o then (match rec f.type with
      | some L => if P.cellsOf f.type = L.length then (match leavesF P rec r (o + L.length) with | some R => some (L ++ R) | none => none) else none
      | none => none) else none
def leavesOf (P : Program) : Nat → TypeId → Option (List Leaf)
  | 0, _ => none
  | n + 1, T => match P.underlying T with
    | some (.int k) => some [.int k]
    | some .bool => some [.bool]
    | some .string => some [.str]
    | some (.slice e) => if intOfTy P e = some .u8 ∧ P.cellsOf e = 1 then some [.bytes] else none
    | some (.struct fs) => leavesF P (leavesOf P n) fs.toList 0
    | _ => none
theorem leaves_fields {n0 : Nat} (ih : ∀ (T : TypeId) (Ls : List Leaf) (n : Nat) (cs : List Value) (y : DataW Hh × List MemPlace), leavesOf P n0 T = some Ls → P.cellsOf T = Ls.length → DataW.trod enc P W base spare held n T cs = some y → ∀ (i : Nat) (lf : Leaf), Ls[i]? = some lf → ∃ v, cs[i]? = some v ∧ leafOk W lf v) (n : Nat) (cs : List Value) :
    ∀ (fs : List Field) (o : Nat) (Ls : List Leaf), leavesF P (leavesOf P n0) fs o = some Ls → (∀ f ∈ fs, ∃ y, DataW.trod enc P W base spare held n f.type ((cs.drop f.offset).take (P.cellsOf f.type)) = some y) → ∀ (i : Nat) (lf : Leaf), Ls[i]? = some lf → ∃ v, cs[o + i]? = some v ∧ leafOk W lf v := by
  intro fs
  induction fs with
  | nil =>
    intro o Ls h _ i lf hl
    simp [leavesF] at h
    subst h
    simp at hl
  | cons f r ihf =>
    intro o Ls h hy i lf hl
    simp only [leavesF] at h
    split at h
    · rename_i ho
      split at h
      · rename_i L hL
        split at h
        · rename_i hc
          split at h
          · rename_i R hR
            simp only [Option.some.injEq] at h
            subst h
            by_cases hi : i < L.length
            · rw [List.getElem?_append_left hi] at hl
              obtain ⟨y, hy1⟩ := hy f List.mem_cons_self
              obtain ⟨v, hv, hok⟩ := ih _ L n _ y hL hc hy1 i lf hl
              refine ⟨v, ?_, hok⟩
              rw [List.getElem?_take, if_pos (by omega), List.getElem?_drop, ho] at hv
              exact hv
            · rw [List.getElem?_append_right (by omega)] at hl
              obtain ⟨v, hv, hok⟩ := ihf (o + L.length) R hR (fun g hg => hy g (List.mem_cons_of_mem _ hg)) (i - L.length) lf hl
              refine ⟨v, ?_, hok⟩
              rwa [show o + L.length + (i - L.length) = o + i by omega] at hv
          · cases h
        · cases h
      · cases h
    · cases h
theorem open_leaves : ∀ (n0 : Nat) (T : TypeId) (Ls : List Leaf) (n : Nat) (cs : List Value) (y : DataW Hh × List MemPlace), leavesOf P n0 T = some Ls → P.cellsOf T = Ls.length → DataW.trod enc P W base spare held n T cs = some y → ∀ (i : Nat) (lf : Leaf), Ls[i]? = some lf → ∃ v, cs[i]? = some v ∧ leafOk W lf v := by
  intro n0
  induction n0 with
  | zero => intro T Ls n cs y h; simp [leavesOf] at h
  | succ n0 ih =>
    intro T Ls n cs y h hc hy i lf hl
    simp only [leavesOf] at h
    have one : ∀ (lf0 : Leaf), some [lf0] = some Ls → ∀ v, cs = [v] → leafOk W lf0 v → ∃ v, cs[i]? = some v ∧ leafOk W lf v := by
      intro lf0 e v hv hok
      simp only [Option.some.injEq] at e
      subst e hv
      cases i with
      | zero => simp at hl; subst hl; exact ⟨v, rfl, hok⟩
      | succ i => simp at hl
    split at h
    · rename_i k hu
      obtain ⟨m, h1, _, h2⟩ := DataW.trod_int hu hy
      exact one _ h _ h1 ⟨m, rfl, h2⟩
    · rename_i hu
      obtain ⟨b, h1, _⟩ := DataW.trod_bool hu hy
      exact one _ h _ h1 ⟨b, rfl⟩
    · rename_i hu
      obtain ⟨s, h1, _, h2⟩ := DataW.trod_string hu hy
      exact one _ h _ h1 ⟨s, rfl, h2⟩
    · rename_i e hu
      split at h
      · rename_i hb
        have hT : sliceOf P T = some e := by simp [sliceOf, hu]
        have hcs : ∃ v, cs = [v] := by
          rcases DataW.trod_slice hu hy with ⟨h1, _⟩ | ⟨a, l, c, elems, rest, n, _, h1, _⟩
          · exact ⟨_, h1⟩
          · exact ⟨_, h1⟩
        obtain ⟨v, rfl⟩ := hcs
        obtain ⟨bs, H, h1, h2, h3⟩ := open_bytes_cell hT hb.1 hb.2 hy
        exact one _ h v rfl ⟨bs, H, h1, h2, h3⟩
      · cases h
    · rename_i fs hu
      obtain ⟨xs, m, _, _, hlen, hxs, hf⟩ := DataW.trod_struct hu hy
      obtain ⟨v, hv, hok⟩ := leaves_fields ih m cs fs.toList 0 Ls h (by
        intro f hfm
        obtain ⟨j, hj⟩ := List.getElem?_of_mem hfm
        have h1 := hf j f (by simpa using hj)
        have h2 : j < xs.length := by
          have := (List.getElem?_eq_some_iff.1 hj).1
          simp at this
          omega
        rw [List.getElem?_eq_getElem h2] at h1
        exact ⟨_, h1⟩) i lf hl
      exact ⟨v, by simpa using hv, hok⟩
    · cases h
theorem trod_len {T : TypeId} {fs : Array Field} {n : Nat} {cs : List Value} {y : DataW Hh × List MemPlace} (hu : P.underlying T = some (.struct fs)) (h : DataW.trod enc P W base spare held n T cs = some y) : cs.length = P.cellsOf T := by
  obtain ⟨xs, m, _, _, hlen, _⟩ := DataW.trod_struct hu h
  exact hlen

theorem Here.mem {W : World} {A : List Ck} (h : Here W A) : Here W A := h
/-- rows of things that came in: each by itself, then all -/
theorem open_list {α : Type} {E : List Value → α → List Ck → Prop} (mono : ∀ c a A B, E c a A → (∀ x ∈ A, x ∈ B) → E c a B) {T e s : Nat} {ao : Option Addr} {len cap : Nat} {d : DataW Hh} {p : List MemPlace} (hT : sliceOf P T = some e) (hs : P.cellsOf e = s) (hs0 : 0 < s)
    (each : ∀ n cs y, DataW.trod enc P W base spare held n e cs = some y → ∃ a H, E cs a H ∧ Here W H) (h : DataW.Trod enc P W base spare held T (.slice ao len cap) d p) :
    ∃ (xs : List Value) (as : List α) (H : List Ck), Rs (.slice ao len cap) len xs H ∧ xs.length = len * s ∧ as.length = len ∧ len ≤ maxLen ∧ Here W H ∧ ∀ i (h : i < as.length), E ((xs.drop (i * s)).take s) as[i] H := by
  obtain ⟨xs, H0, n, hr, hl, hm, hh, hel⟩ := open_row hT hs hs0 h
  have key : ∀ (len : Nat) (xs : List Value), (∀ i, i < len → ∃ y, DataW.trod enc P W base spare held n e ((xs.drop (i * s)).take s) = some y) → ∃ (as : List α) (H : List Ck), as.length = len ∧ Here W H ∧ ∀ i (h : i < as.length), E ((xs.drop (i * s)).take s) as[i] H := by
    intro len
    induction len with
    | zero => intro xs _; exact ⟨[], [], rfl, Here.nil W, fun i h => by simp at h⟩
    | succ len ih =>
      intro xs hx
      obtain ⟨as, H, h1, h2, h3⟩ := ih (xs.drop s) (fun i hi => by
        obtain ⟨y, hy⟩ := hx (i + 1) (by omega)
        refine ⟨y, ?_⟩
        rw [List.drop_drop, show s + i * s = (i + 1) * s by rw [Nat.add_mul, Nat.one_mul, Nat.add_comm]]
        exact hy)
      obtain ⟨y, hy⟩ := hx 0 (by omega)
      obtain ⟨a, Ha, h4, h5⟩ := each n _ y hy
      refine ⟨a :: as, Ha ++ H, by simp [h1], h5.append h2, ?_⟩
      intro i hi
      cases i with
      | zero => exact mono _ _ _ _ h4 (fun x hx => List.mem_append_left _ hx)
      | succ i =>
        have := h3 i (by simpa using hi)
        rw [List.drop_drop, show s + i * s = (i + 1) * s by rw [Nat.add_mul, Nat.one_mul, Nat.add_comm]] at this
        exact mono _ _ _ _ this (fun x hx => List.mem_append_right _ hx)
  obtain ⟨as, H, h1, h2, h3⟩ := key len xs hel
  exact ⟨xs, as, H0 ++ H, hr.mono fun x hx => List.mem_append_left _ hx, hl, h1, hm, hh.append h2, fun i hi => mono _ _ _ _ (h3 i hi) (fun x hx => List.mem_append_right _ hx)⟩

end Go.SL
