/-
  From the form's reading of an argument to what the walks know of it: fences, notes, steps that come.
-/
import Derived.Test.YtonnkgblligdkaaSLRow5
import Derived.Test.YtonnkgblligdkaaFenceMath4
set_option linter.unusedVariables false
set_option linter.unusedSimpArgs false
namespace Go.SL
open Go.ChangeShapes Go.WideShapes Go.ChangeAt Go.RowKit
variable {Hh : Type} {enc : TypeId × Value → Hh} {P : Program} {W : World} {base : Nat} {spare : Nat → Bool} {held : Bool} {t : TypeId}

/-! ### steps that come -/
def callLeaves : List Leaf := [.int .u32, .int .u32, .int .i64, .bool, .bytes, .bool]
def ClE (cs : List Value) (c : Cl) (H : List Ck) : Prop := ∃ v, cs = clc c v ∧ Bs v c.data H ∧ c.data.length ≤ maxLen ∧ -9223372036854775808 ≤ c.step ∧ c.step ≤ 9223372036854775807
theorem ClE.mono (cs : List Value) (c : Cl) (A B : List Ck) (h : ClE cs c A) (s : ∀ x ∈ A, x ∈ B) : ClE cs c B := by
  obtain ⟨v, h1, h2, h3⟩ := h
  exact ⟨v, h1, h2.mono s, h3⟩
theorem call_of {cs : List Value} (hl : cs.length = 6) (h : ∀ (i : Nat) (lf : Leaf), callLeaves[i]? = some lf → ∃ v, cs[i]? = some v ∧ leafOk W lf v) : ∃ c H, ClE cs c H ∧ Here W H := by
  obtain ⟨v0, e0, m0, rfl, w0⟩ := h 0 _ rfl
  obtain ⟨v1, e1, m1, rfl, w1⟩ := h 1 _ rfl
  obtain ⟨v2, e2, m2, rfl, w2⟩ := h 2 _ rfl
  obtain ⟨v3, e3, m3, rfl⟩ := h 3 _ rfl
  obtain ⟨v4, e4, bk, Hk, hk1, hk2, hk3⟩ := h 4 _ rfl
  obtain ⟨v5, e5, m5, rfl⟩ := h 5 _ rfl
  obtain ⟨x0, rfl⟩ := as_bits32 w0
  obtain ⟨x1, rfl⟩ := as_bits32 w1
  have hb := as_i64 w2
  refine ⟨⟨x0, x1, m2, m3, bk, m5⟩, Hk, ⟨v4, ?_, hk1, hk2, hb⟩, hk3⟩
  apply List.ext_getElem?
  intro i
  match i with
  | 0 => exact e0
  | 1 => exact e1
  | 2 => exact e2
  | 3 => exact e3
  | 4 => exact e4
  | 5 => exact e5
  | i + 6 => rw [List.getElem?_eq_none (by omega), List.getElem?_eq_none (by simp [clc])]
theorem open_calls {T E : TypeId} {fs : Array Field} {ao : Option Addr} {len cap : Nat} {d : DataW Hh} {p : List MemPlace} (hT : sliceOf P T = some E) (hu : P.underlying E = some (.struct fs)) (hL : leavesOf P 5 E = some callLeaves) (hc : P.cellsOf E = 6) (h : DataW.Trod enc P W base spare held T (.slice ao len cap) d p) :
    ∃ (xs : List Value) (as : List Cl) (H : List Ck), Rs (.slice ao len cap) len xs H ∧ xs.length = len * 6 ∧ as.length = len ∧ len ≤ maxLen ∧ Here W H ∧ ∀ i (h : i < as.length), ClE ((xs.drop (i * 6)).take 6) as[i] H :=
  open_list ClE.mono hT hc (by omega) (fun n cs y hy => call_of (by rw [← hc]; exact trod_len hu hy) (open_leaves 5 E _ n _ _ hL hc hy)) h

/-! ### fences -/
def keptLeaves : List Leaf := [.int .u32, .int .i64, .bool, .bytes, .int .i64, .bytes]
def KpE (cs : List Value) (k : Kp) (H : List Ck) : Prop := ∃ va vr, cs = kc k va vr ∧ Bs va k.asked H ∧ Bs vr k.reply H ∧ k.asked.length ≤ maxLen ∧ k.reply.length ≤ maxLen
theorem KpE.mono (cs : List Value) (c : Kp) (A B : List Ck) (h : KpE cs c A) (s : ∀ x ∈ A, x ∈ B) : KpE cs c B := by
  obtain ⟨va, vr, h1, h2, h3, h4⟩ := h
  exact ⟨va, vr, h1, h2.mono s, h3.mono s, h4⟩
theorem kept_of {cs : List Value} (hl : cs.length = 6) (h : ∀ (i : Nat) (lf : Leaf), keptLeaves[i]? = some lf → ∃ v, cs[i]? = some v ∧ leafOk W lf v) : ∃ c H, KpE cs c H ∧ Here W H := by
  obtain ⟨v0, e0, m0, rfl, w0⟩ := h 0 _ rfl
  obtain ⟨v1, e1, m1, rfl, w1⟩ := h 1 _ rfl
  obtain ⟨v2, e2, m2, rfl⟩ := h 2 _ rfl
  obtain ⟨v3, e3, ba, Ha, ha1, ha2, ha3⟩ := h 3 _ rfl
  obtain ⟨v4, e4, m4, rfl, w4⟩ := h 4 _ rfl
  obtain ⟨v5, e5, br, Hr, hr1, hr2, hr3⟩ := h 5 _ rfl
  obtain ⟨x0, rfl⟩ := as_bits32 w0
  refine ⟨⟨x0, m1, m2, ba, m4, br⟩, Ha ++ Hr, ⟨v3, v5, ?_, ha1.mono fun x hx => List.mem_append_left _ hx, hr1.mono fun x hx => List.mem_append_right _ hx, ha2, hr2⟩, ha3.append hr3⟩
  apply List.ext_getElem?
  intro i
  match i with
  | 0 => exact e0
  | 1 => exact e1
  | 2 => exact e2
  | 3 => exact e3
  | 4 => exact e4
  | 5 => exact e5
  | i + 6 => rw [List.getElem?_eq_none (by omega), List.getElem?_eq_none (by simp [kc])]
theorem KVs.of {H : List Ck} : ∀ (ks : List Kp) (xs : List Value), xs.length = ks.length * 6 → (∀ i (h : i < ks.length), KpE ((xs.drop (i * 6)).take 6) ks[i] H) → KVs H xs ks
  | [], xs, hl, _ => by
    have : xs = [] := List.eq_nil_of_length_eq_zero (by simpa using hl)
    subst this; exact .nil
  | k :: ks, xs, hl, h => by
    obtain ⟨va, vr, h1, h2, h3, _⟩ := h 0 (by simp)
    have h9 : xs = kc k va vr ++ xs.drop 6 := by
      simp only [Nat.zero_mul, List.drop_zero, List.getElem_cons_zero] at h1
      rw [← h1, List.take_append_drop]
    rw [h9]
    refine .cons h2 h3 (KVs.of ks _ (by rw [List.length_drop, hl]; simp only [List.length_cons]; omega) fun i hi => ?_)
    have := h (i + 1) (by simpa using hi)
    rw [List.drop_drop, show 6 + i * 6 = (i + 1) * 6 by omega]
    exact this
/-- what a fence that came in is -/
def KVb (v : Value) (ks : List Kp) (H : List Ck) : Prop := KV v ks H ∧ ks.length ≤ maxLen ∧ ∀ k ∈ ks, k.asked.length ≤ maxLen ∧ k.reply.length ≤ maxLen
theorem open_fence {T TL E : TypeId} {fs gs : Array Field} {f0 f1 : Field} {v : Value} {d : DataW Hh} {p : List MemPlace} (hu : P.underlying T = some (.struct fs)) (h0 : fs[0]? = some f0) (h1 : fs[1]? = some f1) (hs : fs.size = 2) (ho0 : f0.offset = 0) (ho1 : f1.offset = 1) (hc0 : P.cellsOf f0.type = 1) (hc1 : P.cellsOf f1.type = 1) (hcT : P.cellsOf T = 2)
    (hi : intOfTy P f0.type = some .u32) (hT : sliceOf P f1.type = some E) (hE : P.underlying E = some (.struct gs)) (hL : leavesOf P 5 E = some keptLeaves) (hc : P.cellsOf E = 6) {cs : Array Value} (hv : v = .agg cs) (h : DataW.Trod enc P W base spare held T v d p) :
    ∃ (e : BitVec 32) (vL : Value) (ks : List Kp) (H : List Ck), v = .agg #[.int .u32 e.toNat, vL] ∧ KVb vL ks H ∧ Here W H := by
  subst hv
  obtain ⟨n, hn⟩ := h
  obtain ⟨xs, m, hr1, hr2, hlen, hxs, hf⟩ := DataW.trod_struct hu hn
  have l0 : 0 < xs.length := by omega
  have l1 : 1 < xs.length := by omega
  have y0 := hf 0 f0 (by simpa using h0)
  have y1 := hf 1 f1 (by simpa using h1)
  rw [List.getElem?_eq_getElem l0] at y0
  rw [List.getElem?_eq_getElem l1] at y1
  rw [hcT] at hlen
  rw [ho0, hc0] at y0
  rw [ho1, hc1] at y1
  obtain ⟨m0, g1, _, g2⟩ := DataW.trod_int (underlying_int hi) y0
  obtain ⟨x0, rfl⟩ := as_bits32 g2
  have hTu := underlying_slice hT
  have hsl : ∃ ao len cap, ((Value.agg cs).cells.toList.drop 1).take 1 = [.slice ao len cap] := by
    rcases DataW.trod_slice hTu y1 with ⟨h1, _⟩ | ⟨a, l, c, elems, rest, n, _, h1, _⟩
    · exact ⟨_, _, _, h1⟩
    · exact ⟨_, _, _, h1⟩
  obtain ⟨ao, len, cap, hsl⟩ := hsl
  rw [hsl] at y1
  obtain ⟨ys, ks, H, k1, k2, k3, k4, k5, k6⟩ := open_list (enc := enc) (W := W) (base := base) (spare := spare) (held := held) (d := xs[1].1) (p := xs[1].2) KpE.mono hT hc (by omega) (fun n cs y hy => kept_of (by rw [← hc]; exact trod_len hE hy) (open_leaves 5 E _ n _ _ hL hc hy)) ⟨m, y1⟩
  subst k3
  refine ⟨x0, .slice ao ks.length cap, ks, H, ?_, ⟨⟨ys, k1, KVs.of ks ys k2 k6⟩, k4, fun k hk => ?_⟩, k5⟩
  · have hcs : cs.toList.length = 2 := hlen
    have e : cs.toList = [.int .u32 x0.toNat, .slice ao ks.length cap] := by
      have g1' : (cs.toList.drop 0).take 1 = [.int .u32 x0.toNat] := g1
      have hsl' : (cs.toList.drop 1).take 1 = [.slice ao ks.length cap] := hsl
      match hc9 : cs.toList, hcs with
      | [x, y], _ =>
        rw [hc9] at g1' hsl'
        simp at g1' hsl'
        rw [g1', hsl']
    congr 1
    apply Array.ext'
    exact e
  · obtain ⟨i, hi, rfl⟩ := List.mem_iff_getElem.1 hk
    obtain ⟨va, vr, _, _, _, q1, q2⟩ := k6 i hi
    exact ⟨q1, q2⟩

/-! ### notes -/
def noteLeaves : List Leaf := [.int .i64, .int .u32, .int .u32, .int .u64, .int .u64, .int .u32, .int .i64, .bool, .int .i64, .bytes, .bytes]
def NtE (cs : List Value) (n : Nt) (H : List Ck) : Prop := ∃ vk vd, cs = ntc n vk vd ∧ Bs vk n.key H ∧ Bs vd n.data H ∧ n.key.length ≤ maxLen ∧ n.data.length ≤ maxLen ∧ -9223372036854775808 ≤ n.step ∧ n.step ≤ 9223372036854775807
theorem note_of {cs : List Value} (hl : cs.length = 11) (h : ∀ (i : Nat) (lf : Leaf), noteLeaves[i]? = some lf → ∃ v, cs[i]? = some v ∧ leafOk W lf v) : ∃ n H, NtE cs n H ∧ Here W H := by
  obtain ⟨v2, e2, m2, rfl, _⟩ := h 0 _ rfl
  obtain ⟨v3, e3, m3, rfl, w3⟩ := h 1 _ rfl
  obtain ⟨v4, e4, m4, rfl, w4⟩ := h 2 _ rfl
  obtain ⟨v5, e5, m5, rfl, w5⟩ := h 3 _ rfl
  obtain ⟨v6, e6, m6, rfl, w6⟩ := h 4 _ rfl
  obtain ⟨v7, e7, m7, rfl, w7⟩ := h 5 _ rfl
  obtain ⟨v8, e8, m8, rfl, w8⟩ := h 6 _ rfl
  obtain ⟨v9, e9, m9, rfl⟩ := h 7 _ rfl
  obtain ⟨v10, e10, m10, rfl, _⟩ := h 8 _ rfl
  obtain ⟨v11, e11, bk, Hk, hk1, hk2, hk3⟩ := h 9 _ rfl
  obtain ⟨v12, e12, bd, Hd', hd1, hd2, hd3⟩ := h 10 _ rfl
  obtain ⟨x3, rfl⟩ := as_bits32 w3
  obtain ⟨x4, rfl⟩ := as_bits32 w4
  obtain ⟨x5, rfl⟩ := as_bits64 w5
  obtain ⟨x6, rfl⟩ := as_bits64 w6
  obtain ⟨x7, rfl⟩ := as_bits32 w7
  have hb := as_i64 w8
  refine ⟨⟨m2, x3, x4, x5, x6, x7, m8, m9, m10, bk, bd⟩, Hk ++ Hd', ⟨v11, v12, ?_, hk1.mono fun x hx => List.mem_append_left _ hx, hd1.mono fun x hx => List.mem_append_right _ hx, hk2, hd2, hb⟩, hk3.append hd3⟩
  apply List.ext_getElem?
  intro i
  match i with
  | 0 => exact e2
  | 1 => exact e3
  | 2 => exact e4
  | 3 => exact e5
  | 4 => exact e6
  | 5 => exact e7
  | 6 => exact e8
  | 7 => exact e9
  | 8 => exact e10
  | 9 => exact e11
  | 10 => exact e12
  | i + 11 => rw [List.getElem?_eq_none (by omega), List.getElem?_eq_none (by simp [ntc])]
theorem open_note {T : TypeId} {fs : Array Field} {cs : Array Value} {d : DataW Hh} {p : List MemPlace} (hu : P.underlying T = some (.struct fs)) (hL : leavesOf P 5 T = some noteLeaves) (hc : P.cellsOf T = 11) (h : DataW.Trod enc P W base spare held T (.agg cs) d p) : ∃ n H, NtE cs.toList n H ∧ Here W H := by
  obtain ⟨n, hf⟩ := h
  exact note_of (by rw [← hc]; exact trod_len hu hf) (open_leaves 5 T _ n _ _ hL hc hf)

end Go.SL
