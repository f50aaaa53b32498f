/-
  The plain fence: the epoch.
-/
import Derived.Test.YtonnkgblligdkaaFenceMath4
set_option linter.unusedVariables false
set_option linter.unusedSimpArgs false
namespace Go.SL

theorem ep9 (ep : BitVec 32) : (ep % 9#32).toNat < 9 := by
  rw [BitVec.toNat_umod]
  exact Nat.mod_lt _ (by decide)
theorem see_of (e : BitVec 32) (ks : List Kp) (x : BitVec 32) (h : chk ks) : (seeK e ks x = (0#32, [], 72) ∧ x.toNat < e.toNat) ∨ (seeK e ks x = (x, ks, 0) ∧ ¬ x.toNat < e.toNat) := by
  unfold seeK
  rw [if_neg (not_not_intro h)]
  by_cases h2 : x.toNat < e.toNat
  · rw [if_pos h2]; exact .inl ⟨rfl, h2⟩
  · rw [if_neg h2]; exact .inr ⟨rfl, h2⟩
theorem see_err {q : BitVec 32 × List Kp × Int} {e x : BitVec 32} {ks : List Kp} (h : (q = (0#32, [], 72) ∧ x.toNat < e.toNat) ∨ (q = (x, ks, 0) ∧ ¬ x.toNat < e.toNat)) : (decide (q.2.2 = 0) != decide ((e.toNat : Int) ≤ (x.toNat : Int))) = false := by
  rcases h with ⟨rfl, h⟩ | ⟨rfl, h⟩
  · rw [decide_eq_false (show ¬ ((72 : Int) = 0) by decide), decide_eq_false (show ¬ ((e.toNat : Int) ≤ (x.toNat : Int)) by omega)]; rfl
  · rw [decide_eq_true (show ((0 : Int) = 0) from rfl), decide_eq_true (show ((e.toNat : Int) ≤ (x.toNat : Int)) by omega)]; rfl
def mx (x : BitVec 32) : BitVec 32 := if x.toNat < 1 then 1#32 else x
theorem mx_eq (x : BitVec 32) : (mx x).toNat = max x.toNat 1 := by
  unfold mx
  split
  · show 1 = _; omega
  · omega
theorem fe_ask {x e9 : BitVec 32} {ks : List Kp} (h : chk ks) (h9 : 1 ≤ e9.toNat) (hlt : e9.toNat < x.toNat) : askK x ks (stepN e9 1#32 0 false [120#8]) = (0, Kp.z, 72) :=
  askK_old (good_stepN h (fun h2 => by rw [h2] at h9; exact absurd h9 (by decide)) (by decide) (by decide) (by decide) (by decide)) hlt
theorem fe_keep {x e9 : BitVec 32} {ks : List Kp} (h : chk ks) (h9 : 1 ≤ e9.toNat) (hlt : e9.toNat < x.toNat) : keepK x ks (stepN e9 3#32 2 true []) 1 [] = (0#32, [], 72) := by
  have ha : askK x ks (stepN e9 3#32 2 true []) = (0, Kp.z, 72) := askK_old (good_stepN h (fun h2 => by rw [h2] at h9; exact absurd h9 (by decide)) (by decide) (by decide) (by decide) (by decide)) hlt
  have := keepK_err (code := 1) (reply := []) (show (askK x ks (stepN e9 3#32 2 true [])).2.2 ≠ 0 by rw [ha]; decide)
  rw [ha] at this
  exact this
theorem fe_new {x : BitVec 32} {ks : List Kp} (h : chk ks) (ho : ∀ k ∈ ks, k.order.toNat ≤ 4) : askK x ks (stepN (mx x) 90#32 0 false [120#8]) = (1, Kp.z, 0) := by
  have hn : ∀ u, getK ks (numb 90#32 0 u) = none := fun u => by
    cases e : getK ks (numb 90#32 0 u) with
    | none => rfl
    | some k =>
      have h1 := kept_key h (by decide) (by decide) e
      have h2 := ho k (getK_some e).1
      rw [h1.1] at h2
      exact absurd h2 (by decide)
  refine (askK_new (good_stepN h (fun h2 => ?_) (by decide) (by decide) (by decide) (by decide)) ?_ (hn false) (hn true)).trans (if_neg (by show ¬ false = true; decide))
  · have := mx_eq x
    rw [h2] at this
    have h3 : (0#32).toNat = 0 := rfl
    omega
  · have := mx_eq x
    show ¬ (mx x).toNat < x.toNat
    omega
end Go.SL
