/-
  The plain law of rows of frames, continued: bits that are turned.
-/
import Derived.Test.YtfacofbobmlmiaaRowMath2
set_option linter.unusedVariables false
set_option linter.unusedSimpArgs false
namespace Go.Sum

/-- where what stands there is not the frame of the body that stands there -/
theorem bodyAt_other (n : Nat) (s4 l' rest : List B8) (hn : n ≤ 2000) (h4 : s4.length = 4) (hl : l'.length = n) (hne : be4 (crcOf (be2 n ++ l')) ≠ s4) : bodyAt ([215#8, 166#8] ++ be2 n ++ s4 ++ l' ++ rest) = none := by
  obtain ⟨a, b, g1, g2⟩ := be2_get n hn
  obtain ⟨c, d, e, f, rfl⟩ : ∃ c d e f, s4 = [c, d, e, f] := by
    match s4, h4 with
    | [c, d, e, f], _ => exact ⟨c, d, e, f, rfl⟩
  have hx : [215#8, 166#8] ++ be2 n ++ [c, d, e, f] ++ l' ++ rest = 215#8 :: 166#8 :: a :: b :: c :: d :: e :: f :: (l' ++ rest) := by rw [g1]; simp
  rw [hx]
  unfold bodyAt
  have e2 : ((215#8 :: 166#8 :: a :: b :: c :: d :: e :: f :: (l' ++ rest)).getD 2 0#8) = a := rfl
  have e3 : ((215#8 :: 166#8 :: a :: b :: c :: d :: e :: f :: (l' ++ rest)).getD 3 0#8) = b := rfl
  have e8 : ((215#8 :: 166#8 :: a :: b :: c :: d :: e :: f :: (l' ++ rest)).drop 8) = l' ++ rest := rfl
  simp only [e2, e3, g2, e8]
  rw [take_front l' rest n hl.symm, if_neg]
  rintro ⟨_, _, h⟩
  have et : ((215#8 :: 166#8 :: a :: b :: c :: d :: e :: f :: (l' ++ rest)).take (8 + n)) = 215#8 :: 166#8 :: a :: b :: c :: d :: e :: f :: l' := by
    rw [Nat.add_comm]
    show 215#8 :: 166#8 :: a :: b :: c :: d :: e :: f :: (l' ++ rest).take n = _
    rw [take_front l' rest n hl.symm]
  rw [et, frameOf, hl, g1] at h
  obtain ⟨c', d', e', f', h5⟩ : ∃ c' d' e' f', be4 (crcOf ([a, b] ++ l')) = [c', d', e', f'] := ⟨_, _, _, _, be4_eq _⟩
  rw [h5] at h
  rw [g1, h5] at hne
  simp only [List.cons_append, List.nil_append, List.cons.injEq] at h
  obtain ⟨_, _, _, _, h6, h7, h8, h9, _⟩ := h
  apply hne
  rw [h6, h7, h8, h9]
theorem be4_inj {s t : B32} (h : be4 s = be4 t) : s = t := by
  obtain ⟨a, b, c, d, h1⟩ : ∃ a b c d, be4 t = [a, b, c, d] := ⟨_, _, _, _, be4_eq t⟩
  rw [h1] at h
  exact ((be4_iff s a b c d).1 h).symm.trans ((be4_iff t a b c d).1 h1)

/-- a region of a row of frames: where its bytes are others, the frame is bad -/
structure Reg (good : List (List B8)) (k : Nat) (P M S : List B8) : Prop where
  eq : flat good = P ++ (M ++ S)
  len : M.length ≤ 2000
  bad : ∀ M' : List B8, M'.length = M.length → (∀ r, crcRun r M' ≠ crcRun r M) → allOf (P ++ (M' ++ S)) = (good.take k, (flat (good.take k)).length, 31)
theorem crcOf_differ (x m m' : List B8) (h : ∀ r, crcRun r m' ≠ crcRun r m) : crcOf (x ++ m') ≠ crcOf (x ++ m) := by
  intro e
  simp only [crcOf, crcMore, crcRun_append] at e
  exact h _ (not_inj.1 e)
theorem Reg.body (good : List (List B8)) (hs : Short good) (k : Nat) (h : k < good.length) : Reg good k (flat (good.take k) ++ ([215#8, 166#8] ++ be2 good[k].length ++ be4 (crcOf (be2 good[k].length ++ good[k])))) good[k] (flat (good.drop (k + 1))) := by
  have hl := hs _ (List.getElem_mem h)
  refine ⟨?_, hl, fun M' hM hr => ?_⟩
  · conv => lhs; rw [flat_split good k h]
    rw [frameOf]; simp
  · have e : flat (good.take k) ++ ([215#8, 166#8] ++ be2 good[k].length ++ be4 (crcOf (be2 good[k].length ++ good[k]))) ++ (M' ++ flat (good.drop (k + 1))) = flat (good.take k) ++ ([215#8, 166#8] ++ be2 good[k].length ++ be4 (crcOf (be2 good[k].length ++ good[k])) ++ M' ++ flat (good.drop (k + 1))) := by simp
    rw [e]
    refine allOf_bad _ _ (hs.take k) (by simp) (by simp [List.getD]) ?_
    exact bodyAt_other _ _ M' _ hl (be4_length _) hM (fun e2 => crcOf_differ _ _ _ hr (be4_inj e2))
theorem Reg.sum (good : List (List B8)) (hs : Short good) (k : Nat) (h : k < good.length) : Reg good k (flat (good.take k) ++ ([215#8, 166#8] ++ be2 good[k].length)) (be4 (crcOf (be2 good[k].length ++ good[k]))) (good[k] ++ flat (good.drop (k + 1))) := by
  have hl := hs _ (List.getElem_mem h)
  refine ⟨?_, by rw [be4_length]; omega, fun M' hM hr => ?_⟩
  · conv => lhs; rw [flat_split good k h]
    rw [frameOf]; simp
  · have e : flat (good.take k) ++ ([215#8, 166#8] ++ be2 good[k].length) ++ (M' ++ (good[k] ++ flat (good.drop (k + 1)))) = flat (good.take k) ++ ([215#8, 166#8] ++ be2 good[k].length ++ M' ++ good[k] ++ flat (good.drop (k + 1))) := by simp
    rw [e]
    refine allOf_bad _ _ (hs.take k) (by simp) (by simp [List.getD]) ?_
    refine bodyAt_other _ M' good[k] _ hl (by rw [hM, be4_length]) rfl ?_
    rintro rfl
    exact hr 0#32 rfl
theorem turnedK_false (l : List B8) (s : Nat) (b : B32) : ∀ i, (turnedK l s b i).2 = false → (turnedK l s b i).1 = l
  | 0, _ => rfl
  | i + 1, h => by
    rw [turnedK] at h ⊢
    by_cases hc : s + i < 8 * l.length ∧ (b >>> i) &&& 1#32 = 1#32
    · rw [if_pos hc] at h; cases h
    · rw [if_neg hc] at h ⊢; exact turnedK_false l s b i h
theorem Reg.turned {good : List (List B8)} {k : Nat} {P M S : List B8} (r : Reg good k P M S) (s : Nat) (b : B32) (hs : s < 8 * M.length) (hw : (turnedAll M s b).2 = true) : allOf (P ++ ((turnedAll M s b).1 ++ S)) = (good.take k, (flat (good.take k)).length, 31) :=
  r.bad _ (turnedK_length M s b 32) fun x e => by
    have := (bursts M s b x hs).1 e
    rw [hw] at this
    cases this
theorem Reg.same {good : List (List B8)} {k : Nat} {P M S : List B8} (r : Reg good k P M S) (h : Short good) (s : Nat) (b : B32) (hw : (turnedAll M s b).2 = false) : allOf (P ++ ((turnedAll M s b).1 ++ S)) = (good, (flat good).length, 0) := by
  have : (turnedAll M s b).1 = M := turnedK_false M s b 32 hw
  rw [this, ← r.eq]
  have := allOf_stop good [] h (.inl rfl)
  rwa [List.append_nil] at this

end Go.Sum
