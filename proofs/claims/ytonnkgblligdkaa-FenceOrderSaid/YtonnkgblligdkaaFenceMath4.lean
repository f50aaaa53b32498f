/-
  Served, in memory.
-/
import Derived.Test.YtonnkgblligdkaaFenceMath3
set_option linter.unusedVariables false
set_option linter.unusedSimpArgs false
namespace Go.SL

/-- kept steps whose texts nobody reads -/
inductive KW : List Value → List Kp → Prop
  | nil : KW [] []
  | cons {k : Kp} {va vr : Value} {cs : List Value} {ks : List Kp} : va.oneCell' = true → vr.oneCell' = true → KW cs ks → KW (kc k va vr ++ cs) (k :: ks)
theorem KW.len {cs : List Value} {ks : List Kp} (h : KW cs ks) : cs.length = ks.length * 6 := by
  induction h with
  | nil => rfl
  | cons _ _ _ ih => simp only [List.length_append, kc_len, ih, List.length_cons]; omega
theorem KW.one {cs : List Value} {ks : List Kp} (h : KW cs ks) : ∀ u ∈ cs, u.oneCell' = true := by
  induction h with
  | nil => intro u hu; cases hu
  | cons h1 h2 _ ih =>
    intro u hu
    rcases List.mem_append.1 hu with hu | hu
    · exact kc_one h1 h2 u hu
    · exact ih u hu
theorem KW.append {cs cs' : List Value} {ks ks' : List Kp} (h : KW cs ks) (k : KW cs' ks') : KW (cs ++ cs') (ks ++ ks') := by
  induction h with
  | nil => exact k
  | cons h1 h2 _ ih => rw [List.append_assoc, List.cons_append]; exact .cons h1 h2 ih
theorem KW.one' {k : Kp} {va vr : Value} (h1 : va.oneCell' = true) (h2 : vr.oneCell' = true) : KW (kc k va vr) [k] := by
  have := KW.cons (k := k) h1 h2 KW.nil
  simpa using this
theorem KW.at {cs : List Value} {ks : List Kp} (h : KW cs ks) : ∀ (i : Nat) (hi : i < ks.length), ∃ va vr, (cs.drop (i * 6)).take 6 = kc ks[i] va vr ∧ va.oneCell' = true ∧ vr.oneCell' = true := by
  induction h with
  | nil => intro i hi; simp at hi
  | @cons k va vr cs ks h1 h2 h3 ih =>
    intro i hi
    cases i with
    | zero => exact ⟨va, vr, by simp [List.take_append, kc_len]; rfl, h1, h2⟩
    | succ i =>
      obtain ⟨va', vr', g1, g2, g3⟩ := ih i (by simpa using hi)
      refine ⟨va', vr', ?_, g2, g3⟩
      rw [show (i + 1) * 6 = (kc k va vr).length + i * 6 by rw [kc_len]; omega, List.drop_length_add_append]
      exact g1
theorem kc_cell {lcs cs vs : List Value} {v : Value} {o i j : Nat} (hcs : (lcs.drop o).take cs.length = cs) (hl : i * 6 + 6 ≤ cs.length) (hg : (cs.drop (i * 6)).take 6 = vs) (hv : vs[j]? = some v) : lcs[o + (i : Int).toNat * 6 + j]? = some v := by
  have h := rs_cell hcs hl hg
  rw [← h, List.getElem?_take] at hv
  split at hv
  · rw [List.getElem?_drop] at hv; exact hv
  · cases hv
def SvAt (TS TK T8 p : Nat) (s : Sv) (C : List Ck) : Prop :=
  ∃ vL CF vd cd Cd vt ct Ct Dt vo co Co, C = row p [.int .u32 s.e.toNat, vL, vd, vt, vo, .bool false] TS :: (CF ++ (Cd ++ (Ct ++ (Dt ++ Co)))) ∧ FAt T8 TK vL s.ks CF ∧ Own vd s.done.length cd TK 6 Cd ∧ KW cd s.done ∧ Own vt s.told.length ct TK 6 Ct ∧ Kts T8 ct s.told Dt ∧ Own vo s.over.length co TK 6 Co ∧ KW co s.over
theorem SvAt.start (TS TK T8 p : Nat) : SvAt TS TK T8 p Sv.zero [row p [.int .u32 0, .slice none 0 0, .slice none 0 0, .slice none 0 0, .slice none 0 0, .bool false] TS] :=
  ⟨_, [], _, [], [], _, [], [], [], _, [], [], rfl, FAt.nil _ _, Own.nil _ _, .nil, Own.nil _ _, .nil, Own.nil _ _, .nil⟩
theorem code_a {g : Bool} {act : Int} (h : g = true) (h2 : decide (act = 1) = true) : true = decide ((g = true ∧ act = 1) ∨ act = 4) := (decide_eq_true (.inl ⟨h, of_decide_eq_true h2⟩)).symm
theorem code_b {g : Bool} {act : Int} (h : g = true) (h2 : decide (act = 1) = false) : decide (act = 4) = decide ((g = true ∧ act = 1) ∨ act = 4) := by
  have := of_decide_eq_false h2
  simp [this]
theorem code_c {g : Bool} {act : Int} (h : g = false) : decide (act = 4) = decide ((g = true ∧ act = 1) ∨ act = 4) := by
  simp [h]
theorem code_yes {g z : Bool} {act : Int} (hz : z = decide ((g = true ∧ act = 1) ∨ act = 4)) (h : z = true) : 1 = codeS g act := by
  rw [hz] at h
  exact (if_pos (of_decide_eq_true h)).symm
theorem code_no {g z : Bool} {act : Int} (hz : z = decide ((g = true ∧ act = 1) ∨ act = 4)) (h : z = false) : 2 = codeS g act := by
  rw [hz] at h
  exact (if_neg (of_decide_eq_false h)).symm
end Go.SL
