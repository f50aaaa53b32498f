/-
  The plain law of fields, as the document's answer says it.
-/
import Derived.Test.YtonnkgblligdkaaFieldMath
import Derived.Test.YtonnkgblligdkaaSLMore7
set_option linter.unusedVariables false
set_option linter.unusedSimpArgs false
namespace Go.SL

/-- a number's bytes, the lowest first -/
def loW (n : BitVec 64) (i : Nat) : List (BitVec 8) := (List.range i).map fun j => (n >>> (8 * j)).setWidth 8
theorem loW_len (n : BitVec 64) (i : Nat) : (loW n i).length = i := by simp [loW]
theorem loW_next (n : BitVec 64) (i : Nat) : loW n (i + 1) = loW n i ++ [(n >>> (8 * i)).setWidth 8] := by simp [loW, List.range_succ]
theorem loW_get {n : BitVec 64} {i j : Nat} (h : j < i) : (loW n i)[j]? = some ((n >>> (8 * j)).setWidth 8) := by simp [loW, h]
theorem low_rem (x : BitVec 64) : (x % 256#64).setWidth 8 = x.setWidth 8 := by
  apply BitVec.eq_of_toNat_eq
  simp only [BitVec.toNat_setWidth, BitVec.toNat_umod]
  have : (256#64).toNat = 256 := rfl
  rw [this]
  omega
theorem low_quo (n : BitVec 64) (i : Nat) : (n >>> (8 * i)) / 256#64 = n >>> (8 * (i + 1)) := by
  apply BitVec.eq_of_toNat_eq
  simp only [BitVec.toNat_udiv, BitVec.toNat_ushiftRight, Nat.shiftRight_eq_div_pow]
  have : (256#64).toNat = 2 ^ 8 := rfl
  rw [this, Nat.div_div_eq_div_mul, ← Nat.pow_add, show 8 * i + 8 = 8 * (i + 1) by omega]
theorem of_step (n : BitVec 64) (c : BitVec 8) : n * 256#64 + c.setWidth 64 = (n <<< 8) ||| c.setWidth 64 := by
  have h1 : n * 256#64 = n <<< 8 := by
    rw [show (256#64) = BitVec.twoPow 64 8 from rfl, BitVec.mul_twoPow_eq_shiftLeft]
  rw [h1]
  apply BitVec.add_eq_or_of_and_eq_zero
  apply BitVec.eq_of_getLsbD_eq
  intro i hi
  simp only [BitVec.getLsbD_and, BitVec.getLsbD_shiftLeft, BitVec.getLsbD_setWidth, BitVec.getLsbD_zero]
  by_cases h : i < 8
  · simp [h]
  · rw [BitVec.getLsbD_of_ge c i (by omega)]; simp

/-- a field -/
structure Fld where
  size : Nat
  n : BitVec 64
  text : List (BitVec 8)
def fdc (f : Fld) (vt : Value) : List Value := [.int .i64 f.size, .int .u64 f.n.toNat, vt]
def limF (k : Nat) : Nat := (1#64 <<< (BitVec.ofInt 64 (8 * (k : Int))).toNat).toNat
def oneF (f : Fld) : List (BitVec 8) × Int :=
  if f.size = 0 then (if f.n ≠ 0#64 then ([], 2) else if 255 < f.text.length then ([], 3) else (tb f.text, 0))
  else if f.size = 1 ∨ f.size = 2 ∨ f.size = 4 then (if f.text.length ≠ 0 ∨ limF f.size ≤ f.n.toNat then ([], 2) else (beW f.n f.size, 0))
  else if f.size = 8 then (if f.text.length ≠ 0 then ([], 2) else (beW f.n 8, 0))
  else ([], 2)
section
variable {f : Fld}
theorem oneF_0a (h : f.size = 0) (h2 : f.n ≠ 0#64) : oneF f = ([], 2) := by unfold oneF; rw [if_pos h, if_pos h2]
theorem oneF_0b (h : f.size = 0) (h2 : ¬ f.n ≠ 0#64) (h3 : 255 < f.text.length) : oneF f = ([], 3) := by unfold oneF; rw [if_pos h, if_neg h2, if_pos h3]
theorem oneF_0c (h : f.size = 0) (h2 : ¬ f.n ≠ 0#64) (h3 : ¬ 255 < f.text.length) : oneF f = (tb f.text, 0) := by unfold oneF; rw [if_pos h, if_neg h2, if_neg h3]
theorem oneF_1a (h : ¬ f.size = 0) (h2 : f.size = 1 ∨ f.size = 2 ∨ f.size = 4) (h3 : f.text.length ≠ 0 ∨ limF f.size ≤ f.n.toNat) : oneF f = ([], 2) := by unfold oneF; rw [if_neg h, if_pos h2, if_pos h3]
theorem oneF_1b (h : ¬ f.size = 0) (h2 : f.size = 1 ∨ f.size = 2 ∨ f.size = 4) (h3 : ¬ (f.text.length ≠ 0 ∨ limF f.size ≤ f.n.toNat)) : oneF f = (beW f.n f.size, 0) := by unfold oneF; rw [if_neg h, if_pos h2, if_neg h3]
theorem oneF_8a (h : ¬ f.size = 0) (h2 : ¬ (f.size = 1 ∨ f.size = 2 ∨ f.size = 4)) (h8 : f.size = 8) (h3 : f.text.length ≠ 0) : oneF f = ([], 2) := by unfold oneF; rw [if_neg h, if_neg h2, if_pos h8, if_pos h3]
theorem oneF_8b (h : ¬ f.size = 0) (h2 : ¬ (f.size = 1 ∨ f.size = 2 ∨ f.size = 4)) (h8 : f.size = 8) (h3 : ¬ f.text.length ≠ 0) : oneF f = (beW f.n 8, 0) := by unfold oneF; rw [if_neg h, if_neg h2, if_pos h8, if_neg h3]
theorem oneF_no (h : ¬ f.size = 0) (h2 : ¬ (f.size = 1 ∨ f.size = 2 ∨ f.size = 4)) (h8 : ¬ f.size = 8) : oneF f = ([], 2) := by unfold oneF; rw [if_neg h, if_neg h2, if_neg h8]
theorem oneF_len (f : Fld) : (oneF f).1.length ≤ 256 := by
  unfold oneF
  split
  · split
    · simp
    · split
      · simp
      · simp [tb]; omega
  · split
    · split
      · simp
      · simp only [beW_length]; omega
    · split
      · split
        · simp
        · simp only [beW_length]; omega
      · simp
end
/-- fields, one behind the other -/
def putL : List Fld → List (BitVec 8) → List (BitVec 8) × Int
  | [], out => (out, 0)
  | f :: l, out => if (oneF f).2 ≠ 0 then ([], (oneF f).2) else putL l (out ++ (oneF f).1)
theorem putL_err {f : Fld} {l : List Fld} {out : List (BitVec 8)} (h : (oneF f).2 ≠ 0) : putL (f :: l) out = ([], (oneF f).2) := if_pos h
theorem putL_ok {f : Fld} {l : List Fld} {out : List (BitVec 8)} (h : ¬ (oneF f).2 ≠ 0) : putL (f :: l) out = putL l (out ++ (oneF f).1) := if_neg h
theorem putL_app : ∀ (l m : List Fld) (out : List (BitVec 8)), (putL l out).2 = 0 → putL (l ++ m) out = putL m (putL l out).1
  | [], m, out, _ => rfl
  | f :: l, m, out, h => by
    by_cases e : (oneF f).2 ≠ 0
    · rw [putL_err e] at h; exact absurd h e
    · rw [putL_ok e] at h ⊢
      rw [List.cons_append, putL_ok e]
      exact putL_app l m _ h
/-- fields that are looked at -/
inductive FVs (H : List Ck) : List Value → List Fld → Prop
  | nil : FVs H [] []
  | cons {f : Fld} {vt : Value} {cs : List Value} {fs : List Fld} : Bs vt f.text H → FVs H cs fs → FVs H (fdc f vt ++ cs) (f :: fs)
theorem FVs.len {H : List Ck} {cs : List Value} {fs : List Fld} (h : FVs H cs fs) : cs.length = fs.length * 3 := by
  induction h with
  | nil => rfl
  | cons _ _ ih => simp only [List.length_append, ih, List.length_cons]; simp only [fdc, List.length_cons, List.length_nil]; omega
theorem FVs.mono {A B : List Ck} {cs : List Value} {fs : List Fld} (h : FVs A cs fs) (s : ∀ c ∈ A, c ∈ B) : FVs B cs fs := by
  induction h with
  | nil => exact .nil
  | cons h1 _ ih => exact .cons (h1.mono s) ih
theorem FVs.at {H : List Ck} {cs : List Value} {fs : List Fld} (h : FVs H cs fs) : ∀ (i : Nat) (hi : i < fs.length), ∃ vt, (cs.drop (i * 3)).take 3 = fdc fs[i] vt ∧ Bs vt fs[i].text H := by
  induction h with
  | nil => intro i hi; simp at hi
  | @cons f vt cs fs h1 h2 ih =>
    intro i hi
    cases i with
    | zero => exact ⟨vt, by simp [List.take_append, fdc], h1⟩
    | succ i =>
      obtain ⟨vt', g1, g2⟩ := ih i (by simpa using hi)
      refine ⟨vt', ?_, g2⟩
      rw [show (i + 1) * 3 = (fdc f vt).length + i * 3 by simp only [fdc, List.length_cons, List.length_nil]; omega, List.drop_length_add_append]
      exact g1
theorem FVs.app {H : List Ck} {cs cs' : List Value} {fs fs' : List Fld} (h : FVs H cs fs) (k : FVs H cs' fs') : FVs H (cs ++ cs') (fs ++ fs') := by
  induction h with
  | nil => exact k
  | cons h1 h2 ih => rw [List.append_assoc, List.cons_append]; exact .cons h1 ih
theorem fdc_one {f : Fld} {vt : Value} (h : vt.oneCell' = true) : ∀ u ∈ fdc f vt, u.oneCell' = true := by
  intro u hu
  simp only [fdc, List.mem_cons, List.not_mem_nil, or_false] at hu
  rcases hu with rfl | rfl | rfl <;> first | rfl | exact h
theorem FVs.one {H : List Ck} {cs : List Value} {fs : List Fld} (h : FVs H cs fs) : ∀ u ∈ cs, u.oneCell' = true := by
  induction h with
  | nil => intro u hu; cases hu
  | cons h1 _ ih =>
    intro u hu
    rcases List.mem_append.1 hu with hu | hu
    · obtain ⟨ao, c, rfl, _⟩ := h1.form
      exact fdc_one rfl u hu
    · exact ih u hu
theorem putL_len : ∀ (l : List Fld) (out : List (BitVec 8)), (putL l out).1.length ≤ out.length + l.length * 256
  | [], out => by simp [putL]
  | f :: l, out => by
    by_cases e : (oneF f).2 ≠ 0
    · rw [putL_err e]; simp
    · rw [putL_ok e]
      have h1 := putL_len l (out ++ (oneF f).1)
      have h2 := oneF_len f
      rw [List.length_append] at h1
      rw [List.length_cons]
      omega
theorem one_ok {f : Fld} (h : ¬ (f.text.length : Int) ≠ 0) (h2 : ¬ (f.n.toNat : Int) ≥ ((1#64 <<< (BitVec.ofInt 64 (8 * (f.size : Int))).toNat).toNat : Nat)) : ¬ (f.text.length ≠ 0 ∨ limF f.size ≤ f.n.toNat) := by
  rintro (h3 | h3)
  · omega
  · exact h2 (Int.ofNat_le.2 h3)
theorem bc_at {l : List (BitVec 8)} {j : Nat} {b : BitVec 8} (h : l[j]? = some b) : (bc l)[j]? = some (.int .u8 b.toNat) := by
  obtain ⟨hj, rfl⟩ := List.getElem?_eq_some_iff.1 h
  exact bc_get hj
theorem Gr.get2 {A B : List Ck} {c : Ck} (h : ∀ x ∈ A, x ∈ B) (hm : c ∈ A) : c ∈ B := h c hm
section
variable {P : Program} {l : Sl} {H : List Ck} {d : Option Nat} {ty : TypeId} {pos : String} {aft : Array Edge} {g : Option (Nat × Bool)} {K : Next → List Ck → Prop}
theorem Hd.appendMany {x y : Operand} {T e sz bytes : Nat} {zs : List Value} {v : Value} {n m rb : Nat} {xs news : List Value} {C D : List Ck} (hT : sliceOf P T = some e) (hE : elemInfo P e = some (sz, zs, bytes)) (hz : zs.length = sz) (hsz : 0 < sz)
    (hx : ev l x = some v) (hy : ev l y = some (.slice (some ⟨rb, 0, none⟩) m m)) (own : Own v n xs e sz C) (hH : Sp H C D) (hm : row rb news e ∈ D) (hl : news.length = m * sz) (h1 : ∀ u ∈ news, u.oneCell' = true) (hmax : n + m ≤ maxLen) (hb : (n + m) * bytes ≤ 140737488355328)
    (k : ∀ v' C', Own v' (n + m) (xs ++ news) e sz C' → K (.value v') (C' ++ D)) : Hd P ⟨d, .call ⟨.builtin .append, #[x, y], #[T, T]⟩, ty, pos, aft, g⟩ l H K :=
  Hd.append hT hE hz hsz hx hy own (m := m) (news := news) (.inr ⟨rb, 0, m, news, e, (0, 0), true, rfl, Nat.le_refl _, List.mem_append_right _ hm, by simp⟩) hl h1 hmax hb hH.p fun v' C' h _ => k v' C' h
end
end Go.SL
