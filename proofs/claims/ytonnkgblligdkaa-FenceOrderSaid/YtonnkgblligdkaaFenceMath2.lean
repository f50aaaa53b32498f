/-
  The plain fence: steps' notes, the chapter's example, laws of Keep.
-/
import Derived.Test.YtonnkgblligdkaaFenceMath
set_option linter.unusedVariables false
set_option linter.unusedSimpArgs false
set_option linter.unusedSectionVars false
namespace Go.SL

def stepN (e o : BitVec 32) (s : Int) (u : Bool) (d : List (BitVec 8)) : Nt := ⟨7, e, 0#32, 0#64, 0#64, o, s, u, 0, [], d⟩
theorem KV_nil (H : List Ck) : KV (.slice none 0 0) [] H := ⟨[], .inl ⟨_, _, rfl, rfl, rfl⟩, .nil⟩
theorem Bs_nil (H : List Ck) : Bs (.slice none 0 0) [] H := .inl ⟨_, _, rfl, rfl, rfl⟩
theorem rest_stepN (e o : BitVec 32) (s : Int) (u : Bool) (d : List (BitVec 8)) : rest (stepN e o s u d) = ⟨7, 0#32, 0#32, 0#64, 0#64, 0#32, 0, false, 0, [], []⟩ := by
  have e1 : nm 7 = [69, 79, 83, 85, 68] := by decide
  unfold rest restTo
  show ((nm 7).take (nm 7).length).foldl _ _ = _
  rw [e1]
  simp [stepN, wo]
theorem noteBad_stepN {e o : BitVec 32} {s : Int} {u : Bool} {d : List (BitVec 8)} (h0 : 0 ≤ s) (h : s < 16) (hd : d.length ≤ 255) : noteBad (stepN e o s u d) = false := by
  unfold noteBad
  rw [rest_stepN]
  have e1 : decide (nm (stepN e o s u d).kind = []) = false := (by decide : decide (nm 7 = []) = false)
  have e2 : farB (stepN e o s u d) = false := by
    have h9 : ¬ (255 < (d.length : Int)) := by omega
    have h8 : ¬ (s < 0) := by omega
    have h7 : ¬ (16 ≤ s) := by omega
    simp [farB, stepN, h9, h8, h7]
  have e3 : (decide (10 ≤ (stepN e o s u d).kind)) = false := (by decide : decide ((10:Int) ≤ 7) = false)
  rw [e1, e2, e3]
  rfl
theorem good_stepN {ks : List Kp} {e o : BitVec 32} {s : Int} {u : Bool} {d : List (BitVec 8)} (hc : chk ks) (he : e ≠ 0#32) (ho : o ≠ 0#32) (h0 : 0 ≤ s) (h : s < 16) (hd : d.length ≤ 255) : ¬ askBad ks (stepN e o s u d) := by
  rintro (h1 | h1 | h1 | h1 | h1)
  · exact h1 hc
  · exact h1 rfl
  · rw [noteBad_stepN h0 h hd] at h1; cases h1
  · exact he h1
  · exact ho h1
def kx1 : Kp := ⟨1#32, 0, false, [97#8], 1, [114#8]⟩
def kx2 : Kp := ⟨1#32, 1, true, [], 1, []⟩
theorem kn1 : askK 0#32 [] (stepN 2#32 1#32 0 false [97#8]) = (1, Kp.z, 0) := by decide
theorem kn2 : keepK 0#32 [] (stepN 2#32 1#32 0 false [97#8]) 1 [114#8] = (2#32, [kx1], 0) := by decide
theorem kn3 : askK 2#32 [kx1] (stepN 2#32 1#32 0 false [97#8]) = (2, kx1, 0) := by decide
theorem kn4 : askK 2#32 [kx1] (stepN 2#32 1#32 0 false [98#8]) = (0, Kp.z, 80) := by decide
theorem kn5 : askK 2#32 [kx1] (stepN 1#32 1#32 0 false [97#8]) = (0, Kp.z, 72) := by decide
theorem kn6 : askK 2#32 [kx1] (stepN 2#32 1#32 0 true []) = (1, Kp.z, 0) := by decide
theorem kn7 : askK 2#32 [kx1] (stepN 2#32 1#32 1 true []) = (4, Kp.z, 0) := by decide
theorem kn8 : keepK 2#32 [kx1] (stepN 3#32 1#32 1 true []) 1 [] = (3#32, [kx1, kx2], 0) := by decide
theorem kn9 : askK 3#32 [kx1, kx2] (stepN 3#32 1#32 1 false [120#8]) = (3, Kp.z, 0) := by decide

theorem first_eq (order : BitVec 32) : (1#32 + order % 1000000#32).toNat = 1 + order.toNat % 1000000 := by
  rw [BitVec.toNat_add, BitVec.toNat_umod]
  show (1 + order.toNat % 1000000) % 4294967296 = _
  omega
/-! ### as many as the limit says -/
def kF (f : BitVec 32) (d : BitVec 8) (j : Nat) : Kp := ⟨f + BitVec.ofNat 32 j, 0, false, [120#8], 1, [d]⟩
def fullK (f : BitVec 32) (d : BitVec 8) (i : Nat) : List Kp := (List.range i).map (kF f d)
def eN (i : Nat) : BitVec 32 := if i = 0 then 0#32 else 1#32
theorem fullK_len (f : BitVec 32) (d : BitVec 8) (i : Nat) : (fullK f d i).length = i := by simp [fullK]
theorem fullK_succ (f : BitVec 32) (d : BitVec 8) (i : Nat) : fullK f d (i + 1) = fullK f d i ++ [kF f d i] := by simp [fullK, List.range_succ]
section
variable {f : BitVec 32} {d : BitVec 8} (hf0 : 0 < f.toNat) (hf : f.toNat ≤ 1000000)
include hf
theorem first_add {j : Nat} (hj : j ≤ 200) : (f + BitVec.ofNat 32 j).toNat = f.toNat + j := by
  rw [BitVec.toNat_add, BitVec.toNat_ofNat]; omega
theorem numb_first {j : Nat} (hj : j ≤ 200) (u : Bool) : numb (f + BitVec.ofNat 32 j) 0 u = (f.toNat + j) * 256 + (if u then 1 else 0) := by
  unfold numb; rw [first_add hf hj]; simp
include hf0
theorem fullK_chk {i : Nat} (hi : i ≤ 200) : chk (fullK f d i) := by
  refine ⟨by rw [fullK_len]; exact hi, fun k hk => ?_, ?_⟩
  · obtain ⟨j, hj, rfl⟩ := List.mem_map.1 hk
    have hj := List.mem_range.1 hj
    refine ⟨by show 0 < (f + BitVec.ofNat 32 j).toNat; rw [first_add hf (by omega)]; omega, (by decide : (0:Int) ≤ 0), (by decide : (0 : Int) < 16), by show 1 ≤ 255; decide, by show 1 ≤ 255; decide, .inl rfl⟩
  · refine List.pairwise_map.2 ?_
    refine List.Pairwise.imp_of_mem (R := (· < ·)) (fun {a b} ha hb h => ?_) List.pairwise_lt_range
    have ha := List.mem_range.1 ha
    have hb := List.mem_range.1 hb
    show numb (f + BitVec.ofNat 32 a) 0 false < numb (f + BitVec.ofNat 32 b) 0 false
    rw [numb_first hf (by omega), numb_first hf (by omega)]
    omega
theorem fullK_get {i j : Nat} (hi : i ≤ 200) (hj : j < i) : getK (fullK f d i) (numb (f + BitVec.ofNat 32 j) 0 false) = some (kF f d j) := by
  have h := getK_at (fullK_chk (d := d) hf0 hf hi) (i := j) (by rw [fullK_len]; exact hj)
  have e : (fullK f d i)[j]'(by rw [fullK_len]; exact hj) = kF f d j := by simp [fullK]
  rw [e] at h
  exact h
theorem fullK_none {i j : Nat} (hi : i ≤ 200) (hj : j ≤ 200) (hij : i ≤ j) (u : Bool) : getK (fullK f d i) (numb (f + BitVec.ofNat 32 j) 0 u) = none := by
  unfold getK
  refine List.find?_eq_none.2 fun k hk => ?_
  obtain ⟨t, ht, rfl⟩ := List.mem_map.1 hk
  have ht := List.mem_range.1 ht
  have e : (kF f d t).num = (f.toNat + t) * 256 + (if false = true then 1 else 0) := numb_first hf (by omega) false
  rw [e, numb_first hf hj]
  simp only [decide_eq_true_eq]
  cases u <;> simp <;> omega
theorem fullK_pos {i : Nat} (hi : i < 200) : pos (fullK f d i) (kF f d i).num = i := by
  refine pos_eq (by rw [fullK_len]; exact Nat.le_refl _) (fun t ht hti => ?_) (fun h => by rw [fullK_len] at h; omega)
  have e : (fullK f d i)[t] = kF f d t := by simp [fullK]
  rw [e]
  show numb (f + BitVec.ofNat 32 t) 0 false < numb (f + BitVec.ofNat 32 i) 0 false
  rw [numb_first hf (by omega), numb_first hf (by omega)]
  omega
theorem full_good {i j : Nat} (hi : i ≤ 200) (hj : j ≤ 200) : ¬ askBad (fullK f d i) (stepN 1#32 (f + BitVec.ofNat 32 j) 0 false [120#8]) :=
  good_stepN (fullK_chk hf0 hf hi) (by decide) (fun h => by
    have h2 : (f + BitVec.ofNat 32 j).toNat = 0 := by rw [h]; rfl
    rw [first_add hf hj] at h2
    omega) (by decide) (by decide) (by decide)
theorem eN_le (i : Nat) : ¬ (1#32).toNat < (eN i).toNat := by unfold eN; split <;> decide
theorem full_new {i j : Nat} (hi : i ≤ 200) (hj : j ≤ 200) (hij : i ≤ j) : askK (eN i) (fullK f d i) (stepN 1#32 (f + BitVec.ofNat 32 j) 0 false [120#8]) = (1, Kp.z, 0) :=
  (askK_new (full_good hf0 hf hi hj) (eN_le hf0 hf i) (fullK_none hf0 hf hi hj hij false) (fullK_none hf0 hf hi hj hij true)).trans (if_neg (by show ¬ false = true; decide))
theorem full_again {i j : Nat} (hi : i ≤ 200) (hj : j < i) : askK (eN i) (fullK f d i) (stepN 1#32 (f + BitVec.ofNat 32 j) 0 false [120#8]) = (2, kF f d j, 0) :=
  askK_again (full_good hf0 hf hi (by omega)) (eN_le hf0 hf i) (fullK_get hf0 hf hi hj) rfl
theorem full_right {j : Nat} (hj : j ≤ 200) {r : List (BitVec 8)} (hr : r.length ≤ 255) : rightP (stepK (stepN 1#32 (f + BitVec.ofNat 32 j) 0 false [120#8]) 1 r) :=
  ⟨by show 0 < (f + BitVec.ofNat 32 j).toNat; rw [first_add hf hj]; omega, (by decide : (0:Int) ≤ 0), (by decide : (0 : Int) < 16), (by decide : 1 ≤ 255), hr, .inl rfl⟩
theorem full_keep {i : Nat} (hi : i < 200) : keepK (eN i) (fullK f d i) (stepN 1#32 (f + BitVec.ofNat 32 i) 0 false [120#8]) 1 [d] = (1#32, fullK f d (i + 1), 0) := by
  have ha := full_new (d := d) hf0 hf (i := i) (j := i) (by omega) (by omega) (Nat.le_refl _)
  rw [keepK_ok (by rw [ha]; decide) (by rw [ha]; rintro (h | h | h); exact h (full_right hf0 hf (by omega) (by show 1 ≤ 255; decide)); exact absurd h.1 (by decide); exact absurd h.1 (by decide)) (by rw [ha]; decide) (by rw [fullK_len]; omega)]
  have e : pos (fullK f d i) (stepK (stepN 1#32 (f + BitVec.ofNat 32 i) 0 false [120#8]) 1 [d]).num = i := fullK_pos hf0 hf hi
  rw [e, fullK_succ]
  unfold insAt
  rw [List.take_of_length_le (by rw [fullK_len]; exact Nat.le_refl _), List.drop_of_length_le (by rw [fullK_len]; exact Nat.le_refl _)]
  rfl
theorem full_full : keepK (eN 200) (fullK f d 200) (stepN 1#32 (f + BitVec.ofNat 32 200) 0 false [120#8]) 1 [] = (0#32, [], 5) := by
  have ha := full_new (d := d) hf0 hf (i := 200) (j := 200) (by omega) (by omega) (Nat.le_refl _)
  exact keepK_full (by rw [ha]; decide) (by rw [ha]; rintro (h | h | h); exact h (full_right hf0 hf (by omega) (by decide)); exact absurd h.1 (by decide); exact absurd h.1 (by decide)) (by rw [ha]; decide) (by rw [fullK_len]; omega)
end
end Go.SL
