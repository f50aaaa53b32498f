/-
  The plain served: a participant that keeps a fence.
-/
import Derived.Test.YtonnkgblligdkaaFenceMath2
set_option linter.unusedVariables false
set_option linter.unusedSimpArgs false
set_option linter.unusedSectionVars false
namespace Go.SL

/-- a step that comes -/
structure Cl where
  epoch : BitVec 32
  order : BitVec 32
  step : Int
  undo : Bool
  data : List (BitVec 8)
  good : Bool
def clc (c : Cl) (v : Value) : List Value := [.int .u32 c.epoch.toNat, .int .u32 c.order.toNat, .int .i64 c.step, .bool c.undo, v, .bool c.good]
def stp (s : Int) : Int := ((BitVec.ofInt 64 s % 3#64).toNat : Int)
theorem stp_lt (s : Int) : (BitVec.ofInt 64 s % 3#64).toNat < 3 := by
  rw [BitVec.toNat_umod]
  exact Nat.mod_lt _ (by decide)
def epN (c : Cl) : BitVec 32 := 1#32 + c.epoch % 6#32
def orN (c : Cl) : BitVec 32 := 1#32 + c.order % 4#32
theorem epN_eq (c : Cl) : (epN c).toNat = 1 + c.epoch.toNat % 6 := by
  unfold epN
  rw [BitVec.toNat_add, BitVec.toNat_umod]
  show (1 + c.epoch.toNat % 6) % 4294967296 = _
  omega
theorem orN_eq (c : Cl) : (orN c).toNat = 1 + c.order.toNat % 4 := by
  unfold orN
  rw [BitVec.toNat_add, BitVec.toNat_umod]
  show (1 + c.order.toNat % 4) % 4294967296 = _
  omega
def noteOf (c : Cl) : Nt := stepN (epN c) (orN c) (stp c.step) c.undo c.data
/-- what was done -/
structure Sv where
  e : BitVec 32
  ks : List Kp
  done : List Kp
  told : List Kp
  over : List Kp
def Sv.zero : Sv := ⟨0#32, [], [], [], []⟩
def codeS (g : Bool) (act : Int) : Int := if (g = true ∧ act = 1) ∨ act = 4 then 1 else 2
def replyS (s : Sv) : List (BitVec 8) := [BitVec.ofInt 8 (s.told.length : Int)]
def keptS (s : Sv) (c : Cl) : Kp := stepK (noteOf c) (codeS c.good (askK s.e s.ks (noteOf c)).1) (replyS s)
def doneK (c : Cl) : Kp := ⟨orN c, stp c.step, c.undo, c.data, 0, []⟩
def callS (s : Sv) (c : Cl) : Sv :=
  if (askK s.e s.ks (noteOf c)).2.2 ≠ 0 then s
  else if (askK s.e s.ks (noteOf c)).1 = 2 then { s with told := s.told ++ [(askK s.e s.ks (noteOf c)).2.1] }
  else ⟨epN c, insAt s.ks (pos s.ks (keptS s c).num) (keptS s c), if (askK s.e s.ks (noteOf c)).1 = 1 ∧ codeS c.good (askK s.e s.ks (noteOf c)).1 = 1 then s.done ++ [doneK c] else s.done, s.told ++ [keptS s c], if c.undo then s.over ++ [keptS s c] else s.over⟩
def serveS (cs : List Cl) : Sv := cs.foldl callS Sv.zero

/-! ### facts of insertion -/
theorem insAt_mem {ks : List Kp} {i : Nat} {k x : Kp} : x ∈ insAt ks i k ↔ x ∈ ks ∨ x = k := by
  unfold insAt
  rw [List.mem_append, List.mem_cons]
  constructor
  · rintro (h | h | h)
    · exact .inl (List.mem_of_mem_take h)
    · exact .inr h
    · exact .inl (List.mem_of_mem_drop h)
  · rintro (h | h)
    · rw [← List.take_append_drop i ks] at h
      rcases List.mem_append.1 h with h | h
      · exact .inl h
      · exact .inr (.inr h)
    · exact .inr (.inl h)
theorem insAt_chk {ks : List Kp} {k : Kp} (h : chk ks) (hl : ks.length < 200) (hr : rightP k) (hn : getK ks k.num = none) : chk (insAt ks (pos ks k.num) k) := by
  refine ⟨by rw [insAt_len _ (pos_le _ _)]; omega, fun x hx => ?_, ?_⟩
  · rcases insAt_mem.1 hx with hx | rfl
    · exact h.2.1 x hx
    · exact hr
  · unfold insAt
    have hA : (ks.take (pos ks k.num)).Pairwise fun a b => a.num < b.num := h.2.2.sublist (List.take_sublist _ _)
    have hB : (ks.drop (pos ks k.num)).Pairwise fun a b => a.num < b.num := h.2.2.sublist (List.drop_sublist _ _)
    have lo : ∀ x ∈ ks.take (pos ks k.num), x.num < k.num := fun x hx => by
      obtain ⟨t, ht, rfl⟩ := List.mem_take_iff_getElem.1 hx
      exact pos_below (by omega) (by omega)
    have hi : ∀ x ∈ ks.drop (pos ks k.num), k.num < x.num := fun x hx => by
      obtain ⟨t, ht, rfl⟩ := List.mem_drop_iff_getElem.1 hx
      have hp := pos_above (n := k.num) (ks := ks) (t := pos ks k.num) (by omega) rfl
      have hne : ks[pos ks k.num].num ≠ k.num := getK_none hn _ (List.getElem_mem _)
      rcases Nat.eq_zero_or_pos t with rfl | h0
      · simp only [Nat.add_zero]; omega
      · have := chk_lt h (i := pos ks k.num) (j := pos ks k.num + t) (by omega) (by omega)
        omega
    refine List.pairwise_append.2 ⟨hA, List.pairwise_cons.2 ⟨hi, hB⟩, fun x hx y hy => ?_⟩
    rcases List.mem_cons.1 hy with rfl | hy
    · exact lo x hx
    · have := lo x hx; have := hi y hy; omega
theorem getK_mem {ks : List Kp} (h : chk ks) {k : Kp} (hk : k ∈ ks) : getK ks k.num = some k := by
  obtain ⟨i, hi, rfl⟩ := List.mem_iff_getElem.1 hk
  exact getK_at h hi
/-- two that are kept with one number are one -/
theorem chk_one {ks : List Kp} (h : chk ks) {a b : Kp} (ha : a ∈ ks) (hb : b ∈ ks) (e : a.num = b.num) : a = b := by
  have h1 := getK_mem h ha
  have h2 := getK_mem h hb
  rw [e, h2] at h1
  exact (Option.some.inj h1).symm
theorem kept_key {ks : List Kp} (h : chk ks) {o : BitVec 32} {s : Int} {u : Bool} (h0 : 0 ≤ s) (h1 : s < 16) {k : Kp} (hk : getK ks (numb o s u) = some k) : k.order = o ∧ k.step = s ∧ k.undo = u := by
  obtain ⟨hm, hn⟩ := getK_some hk
  have hr := h.2.1 k hm
  exact numb_inj hr.2.1 hr.2.2.1 h0 h1 hn
theorem no_key {ks : List Kp} {o : BitVec 32} {s : Int} {u : Bool} (hk : getK ks (numb o s u) = none) {k : Kp} (hm : k ∈ ks) : ¬ (k.order = o ∧ k.step = s ∧ k.undo = u) := fun ⟨e1, e2, e3⟩ => getK_none hk k hm (by unfold Kp.num; rw [e1, e2, e3])

/-! ### what holds of what was done -/
def sameKey (a b : Kp) : Prop := a.order = b.order ∧ a.step = b.step ∧ a.undo = b.undo
structure SvInv (s : Sv) (i : Nat) : Prop where
  chk : chk s.ks
  few : s.ks.length ≤ i
  ord : ∀ k ∈ s.ks, k.order.toNat ≤ 4
  told : ∀ k ∈ s.told, k ∈ s.ks
  over : ∀ k ∈ s.over, k ∈ s.ks ∧ k.undo = true
  done : ∀ d ∈ s.done, ∃ k ∈ s.ks, sameKey d k
  apart : s.done.Pairwise fun a b => ¬ sameKey b a
  fwd : ∀ k ∈ s.ks, k.undo = false → k.code = 1 → ∃ d ∈ s.done, sameKey d k
  order : s.done.Pairwise fun a b => b.order = a.order → b.step = a.step → a.undo = false
  first : ∀ (i : Nat) (h : i < s.done.length), s.done[i].undo = true → ∃ (k : Nat) (hk : k < i), s.done[k].order = s.done[i].order ∧ s.done[k].step = s.done[i].step ∧ s.done[k].undo = false
  many : s.done.length ≤ i ∧ s.told.length ≤ i ∧ s.over.length ≤ i
theorem SvInv.start : SvInv Sv.zero 0 := ⟨chk_nil, Nat.le_refl _, fun _ h => absurd h List.not_mem_nil, fun _ h => absurd h List.not_mem_nil, fun _ h => absurd h List.not_mem_nil, fun _ h => absurd h List.not_mem_nil, List.Pairwise.nil, fun _ h => absurd h List.not_mem_nil, List.Pairwise.nil, fun i h => absurd h (Nat.not_lt_zero _), ⟨Nat.le_refl _, Nat.le_refl _, Nat.le_refl _⟩⟩
section
variable {s : Sv} {c : Cl} {i : Nat} (inv : SvInv s i) (hd : c.data.length ≤ 255)
include inv hd
theorem note_good : ¬ askBad s.ks (noteOf c) := by
  have h3 := stp_lt c.step
  refine good_stepN inv.chk (fun h => ?_) (fun h => ?_) (Int.natCast_nonneg _) (by unfold stp; omega) hd
  · have := epN_eq c; rw [h] at this; simp at this; omega
  · have := orN_eq c; rw [h] at this; simp at this; omega
theorem ask_err : (askK s.e s.ks (noteOf c)).2.2 = 0 ∨ ((askK s.e s.ks (noteOf c)).2.2 = 72 ∧ (epN c).toNat < s.e.toNat) ∨ (askK s.e s.ks (noteOf c)).2.2 = 80 := by
  have hg := note_good inv hd
  by_cases h2 : (noteOf c).epoch.toNat < s.e.toNat
  · rw [askK_old hg h2]; exact .inr (.inl ⟨rfl, h2⟩)
  · cases hk : getK s.ks (numb (noteOf c).order (noteOf c).step (noteOf c).undo) with
    | some k =>
      by_cases ha : k.asked = (noteOf c).data
      · rw [askK_again hg h2 hk ha]; exact .inl rfl
      · rw [askK_clash hg h2 hk ha]; exact .inr (.inr rfl)
    | none =>
      rw [askK_two hg h2 hk rfl]
      split
      · exact .inl rfl
      · split <;> exact .inl rfl
/-- what an answer without an error is -/
theorem ask_ok (h0 : (askK s.e s.ks (noteOf c)).2.2 = 0) : ¬ (epN c).toNat < s.e.toNat ∧
    (((askK s.e s.ks (noteOf c)).1 = 2 ∧ (askK s.e s.ks (noteOf c)).2.1 ∈ s.ks) ∨
      (getK s.ks (numb (orN c) (stp c.step) c.undo) = none ∧
        ((askK s.e s.ks (noteOf c)).1 = 3 ∧ c.undo = false ∨
          (askK s.e s.ks (noteOf c)).1 = 4 ∧ c.undo = true ∨
          (askK s.e s.ks (noteOf c)).1 = 1 ∧ (c.undo = false → getK s.ks (numb (orN c) (stp c.step) true) = none) ∧ (c.undo = true → ∃ k, getK s.ks (numb (orN c) (stp c.step) false) = some k ∧ k.code ≠ 2)))) := by
  have hg := note_good inv hd
  by_cases h2 : (noteOf c).epoch.toNat < s.e.toNat
  · rw [askK_old hg h2] at h0; exact absurd h0 (by decide)
  refine ⟨h2, ?_⟩
  cases hk : getK s.ks (numb (noteOf c).order (noteOf c).step (noteOf c).undo) with
  | some k =>
    by_cases ha : k.asked = (noteOf c).data
    · rw [askK_again hg h2 hk ha]; exact .inl ⟨rfl, (getK_some hk).1⟩
    · rw [askK_clash hg h2 hk ha] at h0; exact absurd h0 (by decide)
  | none =>
    right
    refine ⟨hk, ?_⟩
    rw [askK_two hg h2 hk rfl]
    split
    · rename_i h5; exact .inl ⟨rfl, h5.1⟩
    · rename_i h5
      split
      · rename_i h6; exact .inr (.inl ⟨rfl, h6.1⟩)
      · rename_i h6
        refine .inr (.inr ⟨rfl, fun hu => ?_, fun hu => ?_⟩)
        · have hu' : (noteOf c).undo = false := hu
          cases e9 : getK s.ks (numb (noteOf c).order (noteOf c).step (!(noteOf c).undo)) with
          | none => rw [hu'] at e9; exact e9
          | some k => exact absurd ⟨hu', by rw [e9]; rfl⟩ h5
        · have hu' : (noteOf c).undo = true := hu
          cases e9 : getK s.ks (numb (noteOf c).order (noteOf c).step (!(noteOf c).undo)) with
          | none => exact absurd ⟨hu', .inl (by rw [e9]; rfl)⟩ h6
          | some k =>
            refine ⟨k, by rw [hu'] at e9; exact e9, fun hc => h6 ⟨hu', .inr (by rw [e9]; exact hc)⟩⟩
theorem kept_right : rightP (keptS s c) := by
  have h3 := stp_lt c.step
  refine ⟨?_, ?_, ?_, hd, by show 1 ≤ 255; decide, ?_⟩
  · have := orN_eq c
    show 0 < (orN c).toNat
    omega
  · exact Int.natCast_nonneg _
  · show stp c.step < 16
    unfold stp; omega
  · show codeS _ _ = 1 ∨ codeS _ _ = 2
    unfold codeS
    split
    · exact .inl rfl
    · exact .inr rfl
theorem kept_num : (keptS s c).num = numb (orN c) (stp c.step) c.undo := rfl
theorem kept_bad (h0 : (askK s.e s.ks (noteOf c)).2.2 = 0) : ¬ keepBad (askK s.e s.ks (noteOf c)) (keptS s c) := by
  rintro (h | ⟨h, h2⟩ | ⟨h, h2⟩)
  · exact h (kept_right inv hd)
  · apply h2
    show codeS _ _ = 2
    unfold codeS
    rw [h, if_neg (by omega)]
  · apply h2
    show codeS _ _ = 1
    unfold codeS
    rw [h, if_pos (.inr rfl)]
theorem keep_call (hi : i < 200) (h0 : (askK s.e s.ks (noteOf c)).2.2 = 0) (h2 : (askK s.e s.ks (noteOf c)).1 ≠ 2) :
    keepK s.e s.ks (noteOf c) (codeS c.good (askK s.e s.ks (noteOf c)).1) (replyS s) = (epN c, insAt s.ks (pos s.ks (keptS s c).num) (keptS s c), 0) :=
  keepK_ok (fun h => h h0) (kept_bad inv hd h0) h2 (by have := inv.few; omega)
theorem new_none (h0 : (askK s.e s.ks (noteOf c)).2.2 = 0) (h2 : (askK s.e s.ks (noteOf c)).1 ≠ 2) : getK s.ks (keptS s c).num = none := by
  rcases (ask_ok inv hd h0).2 with h | h
  · exact absurd h.1 h2
  · exact h.1
theorem new_chk (hi : i < 200) (h0 : (askK s.e s.ks (noteOf c)).2.2 = 0) (h2 : (askK s.e s.ks (noteOf c)).1 ≠ 2) : chk (insAt s.ks (pos s.ks (keptS s c).num) (keptS s c)) :=
  insAt_chk inv.chk (by have := inv.few; omega) (kept_right inv hd) (new_none inv hd h0 h2)
theorem new_find (hi : i < 200) (h0 : (askK s.e s.ks (noteOf c)).2.2 = 0) (h2 : (askK s.e s.ks (noteOf c)).1 ≠ 2) : findB (insAt s.ks (pos s.ks (keptS s c).num) (keptS s c)) (orN c) (stp c.step) c.undo = some (keptS s c) := by
  have hc := new_chk inv hd hi h0 h2
  have h3 := stp_lt c.step
  rw [findB_ok hc (show 0 ≤ stp c.step from Int.natCast_nonneg _) (by unfold stp; omega), ← kept_num inv hd]
  exact getK_mem (k := keptS s c) hc (insAt_mem.2 (.inr rfl))
/-- what is over is none of the step that is done now -/
theorem over_no (h0 : (askK s.e s.ks (noteOf c)).2.2 = 0) (h1 : (askK s.e s.ks (noteOf c)).1 = 1) : ∀ k ∈ s.over, ¬ (k.order = orN c ∧ k.step = stp c.step) := fun k hk ⟨e1, e2⟩ => by
  obtain ⟨hm, hu⟩ := inv.over k hk
  rcases (ask_ok inv hd h0).2 with h | ⟨hn, h⟩
  · rw [h1] at h; exact absurd h.1 (by decide)
  · rcases h with h | h | h
    · rw [h1] at h; exact absurd h.1 (by decide)
    · rw [h1] at h; exact absurd h.1 (by decide)
    · cases hc : c.undo with
      | false => exact no_key (h.2.1 hc) hm ⟨e1, e2, hu⟩
      | true => rw [hc] at hn; exact no_key hn hm ⟨e1, e2, hu⟩
theorem SvInv.next (hi : i < 200) : SvInv (callS s c) (i + 1) := by
  have wk : SvInv s (i + 1) := ⟨inv.chk, by have := inv.few; omega, inv.ord, inv.told, inv.over, inv.done, inv.apart, inv.fwd, inv.order, inv.first, by have := inv.many; omega⟩
  unfold callS
  split
  · exact wk
  rename_i h0
  have h0 : (askK s.e s.ks (noteOf c)).2.2 = 0 := Classical.byContradiction h0
  obtain ⟨hep, hcs⟩ := ask_ok inv hd h0
  split
  · rename_i h2
    refine { wk with told := fun k hk => ?_, many := by have := inv.many; simp only [List.length_append, List.length_singleton]; omega }
    rcases List.mem_append.1 hk with hk | hk
    · exact inv.told k hk
    · rw [List.mem_singleton.1 hk]
      rcases hcs with h | ⟨hn, h⟩
      · exact h.2
      · rcases h with h | h | h <;> (rw [h2] at h; exact absurd h.1 (by decide))
  · rename_i h2
    have hnone : getK s.ks (numb (orN c) (stp c.step) c.undo) = none := new_none inv hd h0 h2
    have hfresh : ∀ k ∈ s.ks, ¬ (k.order = orN c ∧ k.step = stp c.step ∧ k.undo = c.undo) := fun k hk => no_key hnone hk
    have hdn : ∀ d ∈ s.done, ¬ sameKey (doneK c) d := fun d hdm ⟨e1, e2, e3⟩ => by
      obtain ⟨k, hk, f1, f2, f3⟩ := inv.done d hdm
      exact hfresh k hk ⟨f1.symm.trans e1.symm, f2.symm.trans e2.symm, f3.symm.trans e3.symm⟩
    have hcs2 : (askK s.e s.ks (noteOf c)).1 = 1 → (c.undo = false → getK s.ks (numb (orN c) (stp c.step) true) = none) ∧ (c.undo = true → ∃ k, getK s.ks (numb (orN c) (stp c.step) false) = some k ∧ k.code ≠ 2) := fun h1 => by
      rcases hcs with h | ⟨_, h⟩
      · rw [h1] at h; exact absurd h.1 (by decide)
      · rcases h with h | h | h
        · rw [h1] at h; exact absurd h.1 (by decide)
        · rw [h1] at h; exact absurd h.1 (by decide)
        · exact h.2
    have h3 := stp_lt c.step
    have hs0 : 0 ≤ stp c.step := Int.natCast_nonneg _
    have hs16 : stp c.step < 16 := by unfold stp; omega
    have hundone : (askK s.e s.ks (noteOf c)).1 = 1 → ∀ d ∈ s.done, (doneK c).order = d.order → (doneK c).step = d.step → d.undo = false := fun h1 d hdm e1 e2 => by
      cases hu : d.undo with
      | false => rfl
      | true =>
        exfalso
        obtain ⟨k, hk, f1, f2, f3⟩ := inv.done d hdm
        have g1 : k.order = orN c := f1.symm.trans e1.symm
        have g2 : k.step = stp c.step := f2.symm.trans e2.symm
        have g3 : k.undo = true := f3.symm.trans hu
        cases hc : c.undo with
        | false => exact no_key ((hcs2 h1).1 hc) hk ⟨g1, g2, g3⟩
        | true => exact hfresh k hk ⟨g1, g2, g3.trans hc.symm⟩
    refine ⟨new_chk inv hd hi h0 h2, ?_, fun k hk => ?_, fun k hk => ?_, fun k hk => ?_, fun d hdm => ?_, ?_, fun k hk hu hcode => ?_, ?_, ?_, ?_⟩
    · show (insAt _ _ _).length ≤ i + 1
      rw [insAt_len _ (pos_le _ _)]
      have := inv.few
      omega
    · rcases insAt_mem.1 hk with hk | rfl
      · exact inv.ord k hk
      · have := orN_eq c
        show (orN c).toNat ≤ 4
        omega
    · rcases List.mem_append.1 hk with hk | hk
      · exact insAt_mem.2 (.inl (inv.told k hk))
      · exact insAt_mem.2 (.inr (List.mem_singleton.1 hk))
    · dsimp only at hk
      split at hk
      · rename_i hu
        rcases List.mem_append.1 hk with hk | hk
        · exact ⟨insAt_mem.2 (.inl (inv.over k hk).1), (inv.over k hk).2⟩
        · rw [List.mem_singleton.1 hk]
          exact ⟨insAt_mem.2 (.inr rfl), hu⟩
      · exact ⟨insAt_mem.2 (.inl (inv.over k hk).1), (inv.over k hk).2⟩
    · dsimp only at hdm
      split at hdm
      · rcases List.mem_append.1 hdm with hdm | hdm
        · obtain ⟨k, hk, e⟩ := inv.done d hdm
          exact ⟨k, insAt_mem.2 (.inl hk), e⟩
        · rw [List.mem_singleton.1 hdm]
          exact ⟨keptS s c, insAt_mem.2 (.inr rfl), rfl, rfl, rfl⟩
      · obtain ⟨k, hk, e⟩ := inv.done d hdm
        exact ⟨k, insAt_mem.2 (.inl hk), e⟩
    · dsimp only
      split
      · exact List.pairwise_append.2 ⟨inv.apart, List.pairwise_singleton _ _, fun a ha b hb => by rw [List.mem_singleton.1 hb]; exact hdn a ha⟩
      · exact inv.apart
    · rcases insAt_mem.1 hk with hk | rfl
      · obtain ⟨d, hdm, e⟩ := inv.fwd k hk hu hcode
        refine ⟨d, ?_, e⟩
        dsimp only
        split
        · exact List.mem_append_left _ hdm
        · exact hdm
      · have hu' : c.undo = false := hu
        have hc' : codeS c.good (askK s.e s.ks (noteOf c)).1 = 1 := hcode
        have h1 : (askK s.e s.ks (noteOf c)).1 = 1 := by
          unfold codeS at hc'
          split at hc'
          · rename_i h9
            rcases h9 with h9 | h9
            · exact h9.2
            · rcases hcs with h | ⟨_, h⟩
              · exact absurd h.1 h2
              · rcases h with h | h | h
                · rw [h9] at h; exact absurd h.1 (by decide)
                · rw [hu'] at h; exact absurd h.2 (by decide)
                · exact h.1
          · exact absurd hc' (by decide)
        refine ⟨doneK c, ?_, rfl, rfl, rfl⟩
        dsimp only
        rw [if_pos ⟨h1, hc'⟩]
        exact List.mem_append_right _ (List.mem_singleton.2 rfl)
    · dsimp only
      split
      · rename_i h9
        exact List.pairwise_append.2 ⟨inv.order, List.pairwise_singleton _ _, fun a ha b hb => by rw [List.mem_singleton.1 hb]; exact hundone h9.1 a ha⟩
      · exact inv.order
    · dsimp only
      split
      · rename_i h9
        intro j hj hu
        rw [List.length_append, List.length_singleton] at hj
        by_cases hjl : j < s.done.length
        · rw [List.getElem_append_left hjl] at hu ⊢
          obtain ⟨k, hk, e⟩ := inv.first j hjl hu
          exact ⟨k, hk, by rw [List.getElem_append_left (by omega)]; exact e⟩
        · obtain rfl : j = s.done.length := by omega
          simp only [List.getElem_concat_length] at hu ⊢
          have hu' : c.undo = true := hu
          obtain ⟨k, hk, hcode⟩ := (hcs2 h9.1).2 hu'
          obtain ⟨hm, hnum⟩ := getK_some hk
          obtain ⟨f1, f2, f3⟩ := kept_key inv.chk hs0 hs16 hk
          have hr := inv.chk.2.1 k hm
          obtain ⟨d, hdm, e1, e2, e3⟩ := inv.fwd k hm f3 (by have := hr.2.2.2.2.2; omega)
          obtain ⟨t, ht, rfl⟩ := List.mem_iff_getElem.1 hdm
          refine ⟨t, ht, ?_⟩
          rw [List.getElem_append_left ht]
          exact ⟨e1.trans f1, e2.trans f2, e3.trans f3⟩
      · exact inv.first
    · have := inv.many
      refine ⟨?_, ?_, ?_⟩
      · dsimp only; split <;> (try simp only [List.length_append, List.length_singleton]) <;> omega
      · dsimp only; simp only [List.length_append, List.length_singleton]; omega
      · dsimp only; split <;> (try simp only [List.length_append, List.length_singleton]) <;> omega
end
theorem SvInv.serve : ∀ (cs : List Cl), (∀ c ∈ cs, c.data.length ≤ 255) → cs.length ≤ 150 → SvInv (serveS cs) cs.length := by
  intro cs
  have h : ∀ n, n ≤ cs.length → (∀ c ∈ cs, c.data.length ≤ 255) → cs.length ≤ 150 → SvInv (serveS (cs.take n)) n := by
    intro n
    induction n with
    | zero => intro _ _ _; rw [List.take_zero]; exact SvInv.start
    | succ n ih =>
      intro hn hd hl
      have := ih (by omega) hd hl
      rw [List.take_succ_eq_append_getElem (by omega)]
      unfold serveS at this ⊢
      rw [List.foldl_append]
      exact SvInv.next this (hd _ (List.getElem_mem _)) (by omega)
  intro hd hl
  have := h cs.length (Nat.le_refl _) hd hl
  rwa [List.take_length] at this
/-- a forward step's effect among the first -/
def fwdTo (L : List Kp) (y : Kp) (k : Nat) : Prop := ∃ x ∈ L.take k, x.order = y.order ∧ x.step = y.step ∧ x.undo = false
theorem fwdTo_zero (L : List Kp) (y : Kp) : ¬ fwdTo L y 0 := by
  rintro ⟨x, hx, _⟩
  simp at hx
theorem fwdTo_succ {L : List Kp} {y : Kp} {k : Nat} (hk : k < L.length) : fwdTo L y (k + 1) ↔ fwdTo L y k ∨ (L[k].order = y.order ∧ L[k].step = y.step ∧ L[k].undo = false) := by
  unfold fwdTo
  rw [List.take_succ_eq_append_getElem hk]
  constructor
  · rintro ⟨x, hx, e⟩
    rcases List.mem_append.1 hx with hx | hx
    · exact .inl ⟨x, hx, e⟩
    · rw [List.mem_singleton.1 hx] at e; exact .inr e
  · rintro (⟨x, hx, e⟩ | e)
    · exact ⟨x, List.mem_append_left _ hx, e⟩
    · exact ⟨_, List.mem_append_right _ (List.mem_singleton.2 rfl), e⟩
theorem fwd_first {s : Sv} {n i : Nat} (inv : SvInv s n) (hi : i < s.done.length) (hu : s.done[i].undo = true) : fwdTo s.done s.done[i] i := by
  obtain ⟨k, hk, e⟩ := inv.first i hi hu
  exact ⟨s.done[k], List.mem_take_iff_getElem.2 ⟨k, by omega, rfl⟩, e⟩
end Go.SL
