/-
  From the form's reading of an argument to what the walks know of it: letters, what is done with a net.
-/
import Derived.Test.YtgpegfmonmdhoaaSLRow5
import Derived.Test.YtgpegfmonmdhoaaWireMath4
set_option linter.unusedVariables false
set_option linter.unusedSimpArgs false
namespace Go.SL
open Go.ChangeShapes Go.WideShapes Go.ChangeAt Go.RowKit
variable {Hh : Type} {enc : TypeId × Value → Hh} {P : Program} {W : World} {base : Nat} {spare : Nat → Bool} {held : Bool} {t : TypeId}

def letterLeaves : List Leaf := [.int .i64, .int .i64, .int .i64, .int .u32, .int .u32, .int .u64, .int .u64, .int .u32, .int .i64, .bool, .int .i64, .bytes, .bytes]
/-- cells that are a letter's, its bytes in H -/
def LetE (cs : List Value) (L : Lt) (H : List Ck) : Prop := ∃ vk vd, cs = ltc L vk vd ∧ Bs vk L.n.key H ∧ Bs vd L.n.data H ∧ L.n.key.length ≤ maxLen ∧ L.n.data.length ≤ maxLen
theorem LetE.mono {cs : List Value} {L : Lt} {A B : List Ck} (h : LetE cs L A) (s : ∀ x ∈ A, x ∈ B) : LetE cs L B := by
  obtain ⟨vk, vd, h1, h2, h3, h4⟩ := h
  exact ⟨vk, vd, h1, h2.mono s, h3.mono s, h4⟩
theorem letter_of {cs : List Value} (hl : cs.length = 13) (h : ∀ (i : Nat) (lf : Leaf), letterLeaves[i]? = some lf → ∃ v, cs[i]? = some v ∧ leafOk W lf v) : ∃ L H, LetE cs L H ∧ Here W H := by
  obtain ⟨v0, e0, m0, rfl, _⟩ := h 0 _ rfl
  obtain ⟨v1, e1, m1, rfl, _⟩ := h 1 _ rfl
  obtain ⟨v2, e2, m2, rfl, _⟩ := h 2 _ rfl
  obtain ⟨v3, e3, m3, rfl, w3⟩ := h 3 _ rfl
  obtain ⟨v4, e4, m4, rfl, w4⟩ := h 4 _ rfl
  obtain ⟨v5, e5, m5, rfl, w5⟩ := h 5 _ rfl
  obtain ⟨v6, e6, m6, rfl, w6⟩ := h 6 _ rfl
  obtain ⟨v7, e7, m7, rfl, w7⟩ := h 7 _ rfl
  obtain ⟨v8, e8, m8, rfl, _⟩ := h 8 _ rfl
  obtain ⟨v9, e9, m9, rfl⟩ := h 9 _ rfl
  obtain ⟨v10, e10, m10, rfl, _⟩ := h 10 _ rfl
  obtain ⟨v11, e11, bk, Hk, hk1, hk2, hk3⟩ := h 11 _ rfl
  obtain ⟨v12, e12, bd, Hd', hd1, hd2, hd3⟩ := h 12 _ rfl
  obtain ⟨x3, rfl⟩ := as_bits32 w3
  obtain ⟨x4, rfl⟩ := as_bits32 w4
  obtain ⟨x5, rfl⟩ := as_bits64 w5
  obtain ⟨x6, rfl⟩ := as_bits64 w6
  obtain ⟨x7, rfl⟩ := as_bits32 w7
  refine ⟨⟨m0, m1, ⟨m2, x3, x4, x5, x6, x7, m8, m9, m10, bk, bd⟩⟩, Hk ++ Hd', ⟨v11, v12, ?_, hk1.mono fun x hx => List.mem_append_left _ hx, hd1.mono fun x hx => List.mem_append_right _ hx, hk2, hd2⟩, hk3.append hd3⟩
  apply List.ext_getElem?
  intro i
  match i with
  | 0 => exact e0
  | 1 => exact e1
  | 2 => exact e2
  | 3 => exact e3
  | 4 => exact e4
  | 5 => exact e5
  | 6 => exact e6
  | 7 => exact e7
  | 8 => exact e8
  | 9 => exact e9
  | 10 => exact e10
  | 11 => exact e11
  | 12 => exact e12
  | i + 13 => rw [List.getElem?_eq_none (by omega), List.getElem?_eq_none (by simp [ltc, ntc])]
theorem open_letter {T : TypeId} {fs : Array Field} {cs : Array Value} {d : DataW Hh} {p : List MemPlace} (hu : P.underlying T = some (.struct fs)) (hL : leavesOf P 5 T = some letterLeaves) (hc : P.cellsOf T = 13) (h : DataW.Trod enc P W base spare held T (.agg cs) d p) : ∃ L H, LetE cs.toList L H ∧ Here W H := by
  obtain ⟨n, hf⟩ := h
  exact letter_of (by rw [← hc]; exact trod_len hu hf) (open_leaves 5 T _ n _ _ hL hc hf)

/-- what is done with a net -/
structure Aw where
  k : Int
  L : Lt
  at_ : Int
  to : Int
  on : Bool
def actLeaves : List Leaf := [.int .i64] ++ letterLeaves ++ [.int .i64, .int .i64, .bool]
def awc (a : Aw) (vk vd : Value) : List Value := .int .i64 a.k :: (ltc a.L vk vd ++ [.int .i64 a.at_, .int .i64 a.to, .bool a.on])
def AwE (cs : List Value) (a : Aw) (H : List Ck) : Prop := ∃ vk vd, cs = awc a vk vd ∧ Bs vk a.L.n.key H ∧ Bs vd a.L.n.data H ∧ a.L.n.key.length ≤ maxLen ∧ a.L.n.data.length ≤ maxLen
theorem AwE.mono (cs : List Value) (a : Aw) (A B : List Ck) (h : AwE cs a A) (s : ∀ x ∈ A, x ∈ B) : AwE cs a B := by
  obtain ⟨vk, vd, h1, h2, h3, h4⟩ := h
  exact ⟨vk, vd, h1, h2.mono s, h3.mono s, h4⟩
theorem act_of {cs : List Value} (hl : cs.length = 17) (h : ∀ (i : Nat) (lf : Leaf), actLeaves[i]? = some lf → ∃ v, cs[i]? = some v ∧ leafOk W lf v) : ∃ a H, AwE cs a H ∧ Here W H := by
  obtain ⟨v0, e0, m0, rfl, _⟩ := h 0 _ rfl
  obtain ⟨v14, e14, m14, rfl, _⟩ := h 14 _ rfl
  obtain ⟨v15, e15, m15, rfl, _⟩ := h 15 _ rfl
  obtain ⟨v16, e16, m16, rfl⟩ := h 16 _ rfl
  obtain ⟨L, H, ⟨vk, vd, hcs, h1, h2, h3, h4⟩, hh⟩ := letter_of (W := W) (cs := (cs.drop 1).take 13) (by simp; omega) (fun i lf hi => by
    have hlt : i < 13 := (List.getElem?_eq_some_iff.1 hi).1
    obtain ⟨v, hv, hok⟩ := h (i + 1) lf (by
      show (letterLeaves ++ [.int .i64, .int .i64, .bool])[i]? = some lf
      rw [List.getElem?_append_left hlt]
      exact hi)
    refine ⟨v, ?_, hok⟩
    rw [List.getElem?_take, if_pos hlt, List.getElem?_drop, Nat.add_comm]
    exact hv)
  refine ⟨⟨m0, L, m14, m15, m16⟩, H, ⟨vk, vd, ?_, h1, h2, h3, h4⟩, hh⟩
  unfold awc
  rw [← hcs]
  apply List.ext_getElem?
  intro i
  match i with
  | 0 => exact e0
  | i + 1 =>
    rw [List.getElem?_cons_succ]
    by_cases hi : i < 13
    · rw [List.getElem?_append_left (by simp; omega), List.getElem?_take, if_pos hi, List.getElem?_drop, Nat.add_comm]
    · rw [List.getElem?_append_right (by simp; omega)]
      have e : ((cs.drop 1).take 13).length = 13 := by simp; omega
      rw [e]
      match i, hi with
      | 13, _ => exact e14
      | 14, _ => exact e15
      | 15, _ => exact e16
      | i + 16, _ => rw [List.getElem?_eq_none (by omega), List.getElem?_eq_none (by simp)]
theorem open_aws {T E : TypeId} {fs : Array Field} {ao : Option Addr} {len cap : Nat} {d : DataW Hh} {p : List MemPlace} (hT : sliceOf P T = some E) (hu : P.underlying E = some (.struct fs)) (hL : leavesOf P 5 E = some actLeaves) (hc : P.cellsOf E = 17) (h : DataW.Trod enc P W base spare held T (.slice ao len cap) d p) :
    ∃ (xs : List Value) (as : List Aw) (H : List Ck), Rs (.slice ao len cap) len xs H ∧ xs.length = len * 17 ∧ as.length = len ∧ len ≤ maxLen ∧ Here W H ∧ ∀ i (h : i < as.length), AwE ((xs.drop (i * 17)).take 17) as[i] H :=
  open_list AwE.mono hT hc (by omega) (fun n cs y hy => act_of (by rw [← hc]; exact trod_len hu hy) (open_leaves 5 E _ n _ _ hL hc hy)) h

end Go.SL
