/-
  The plain fence, as the document's answer says it.
-/
import Derived.Test.YtonnkgblligdkaaFenceMath2
import Derived.Test.YtonnkgblligdkaaFenceMath3
set_option linter.unusedVariables false
set_option linter.unusedSimpArgs false
namespace Go.SL

theorem lists_step2 {α : Type} [DecidableEq α] {xs bs : List α} {i : Nat} (ha : i < xs.length) (hb : i < bs.length) (h : xs.take i = bs.take i) (e : (!decide (xs[i] = bs[i])) = false) : xs.take (i + 1) = bs.take (i + 1) := by
  rw [List.take_succ_eq_append_getElem ha, List.take_succ_eq_append_getElem hb, h, show xs[i] = bs[i] by simpa using e]
theorem right_z {k : Kp} {z : Bool} (h : z = true ↔ ¬ rightP k) : z = !decide (rightP k) := by
  rw [Bool.eq_iff_iff, h]
  simp
/-- does a key stand ahead of another one's? -/
def lessK (a b : Kp) : Bool := if a.order ≠ b.order then decide ((a.order.toNat : Int) < b.order.toNat) else if a.step ≠ b.step then decide (a.step < b.step) else (!a.undo && b.undo)
theorem lessK_num {a b : Kp} (ha : rightP a) (hb : rightP b) : lessK a b = decide (a.num < b.num) := by
  obtain ⟨_, a0, a1, _⟩ := ha
  obtain ⟨_, b0, b1, _⟩ := hb
  unfold lessK Kp.num numb
  rw [Bool.eq_iff_iff]
  by_cases h1 : a.order = b.order
  · rw [if_neg (not_not_intro h1), h1]
    by_cases h2 : a.step = b.step
    · rw [if_neg (not_not_intro h2), h2]
      cases a.undo <;> cases b.undo <;> simp
    · rw [if_pos h2, decide_eq_true_eq, decide_eq_true_eq]
      split <;> split <;> omega
  · rw [if_pos h1, decide_eq_true_eq, decide_eq_true_eq]
    have h3 : a.order.toNat ≠ b.order.toNat := fun e => h1 (BitVec.eq_of_toNat_eq e)
    split <;> split <;> omega
theorem findB_some {ks : List Kp} {o : BitVec 32} {s : Int} {u : Bool} (h : chk ks) {i : Nat} (hi : i < ks.length) (e1 : ks[i].order = o) (e2 : ks[i].step = s) (e3 : ks[i].undo = u) : findB ks o s u = some ks[i] := by
  subst e1 e2 e3
  have hr := chk_right h hi
  rw [findB_ok h hr.2.1 hr.2.2.1]
  exact getK_at h hi
theorem findB_nokey {ks : List Kp} {o : BitVec 32} {s : Int} {u : Bool} (h : chk ks → ∀ k ∈ ks, ¬ (k.order = o ∧ k.step = s ∧ k.undo = u)) : findB ks o s u = none := by
  by_cases hc : chk ks ∧ 0 ≤ s ∧ s < 16
  · rw [findB_ok hc.1 hc.2.1 hc.2.2]
    cases e : getK ks (numb o s u) with
    | none => rfl
    | some k => exact absurd (kept_key hc.1 hc.2.1 hc.2.2 e) (h hc.1 k (getK_some e).1)
  · exact findB_no hc
theorem find_next {ks : List Kp} {i : Nat} {o : BitVec 32} {s : Int} {u : Bool} (hi : i < ks.length) (h : ∀ k ∈ ks.take i, ¬ (k.order = o ∧ k.step = s ∧ k.undo = u)) (h2 : ¬ (ks[i].order = o ∧ ks[i].step = s ∧ ks[i].undo = u)) : ∀ k ∈ ks.take (i + 1), ¬ (k.order = o ∧ k.step = s ∧ k.undo = u) := by
  rw [List.take_succ_eq_append_getElem hi]
  intro k hk
  rcases List.mem_append.1 hk with hk | hk
  · exact h k hk
  · rw [List.mem_singleton.1 hk]; exact h2
theorem ask_z {ks : List Kp} {n : Nt} {z : Bool} (h : z = true ↔ askBad ks n) : z = decide (askBad ks n) := by
  rw [Bool.eq_iff_iff, h]
  simp
theorem chk_int {ks : List Kp} {p : Bool} (h : p = !decide (chk ks)) : p = !decide (chk ks) := h
/-! ### what is kept, as the document lays it -/
section
variable {ks : List Kp} {x : Kp} {i : Nat}
def layTo (ks : List Kp) (x : Kp) (i : Nat) : List Kp := if pos ks x.num < i then insAt (ks.take i) (pos ks x.num) x else ks.take i
theorem layTo_zero : layTo ks x 0 = [] := by unfold layTo; rw [if_neg (by omega), List.take_zero]
theorem pos_len (hck : chk ks) (hx : ∀ k ∈ ks, k.num ≠ x.num) (hi : i < ks.length) : pos ks x.num ≤ i ↔ x.num < ks[i].num := by
  constructor
  · intro h
    rcases Nat.lt_or_ge (pos ks x.num) ks.length with h1 | h1
    · have h2 := pos_above h1 rfl
      have h3 := hx _ (List.getElem_mem h1)
      rcases Nat.lt_or_ge (pos ks x.num) i with h4 | h4
      · have := chk_lt hck h4 hi; omega
      · have e : pos ks x.num = i := by omega
        have h5 : ks[pos ks x.num] = ks[i] := by congr 1
        rw [h5] at h2 h3
        omega
    · omega
  · intro h
    rcases Nat.lt_or_ge i (pos ks x.num) with h1 | h1
    · have := pos_below hi h1; omega
    · exact h1
theorem insAt_take {L : List Kp} {p : Nat} (hp : p ≤ L.length) (y : Kp) : insAt L p x ++ [y] = insAt (L ++ [y]) p x := by
  unfold insAt
  rw [List.take_append_of_le_length hp, List.drop_append_of_le_length hp]
  simp
/-- a step behind which x is laid already -/
theorem layTo_past (hi : i < ks.length) (h : pos ks x.num < i) : layTo ks x (i + 1) = layTo ks x i ++ [ks[i]] := by
  unfold layTo
  rw [if_pos (by omega), if_pos h, insAt_take (by rw [List.length_take]; omega), ← List.take_succ_eq_append_getElem hi]
theorem layTo_not (hi : i < ks.length) (h : i < pos ks x.num) : layTo ks x (i + 1) = layTo ks x i ++ [ks[i]] := by
  unfold layTo
  rw [if_neg (by omega), if_neg (by omega), ← List.take_succ_eq_append_getElem hi]
theorem layTo_now (hi : i < ks.length) (h : pos ks x.num = i) : layTo ks x (i + 1) = layTo ks x i ++ [x] ++ [ks[i]] := by
  unfold layTo
  rw [if_pos (by omega), if_neg (by omega), h, List.take_succ_eq_append_getElem hi]
  unfold insAt
  rw [List.take_append_of_le_length (by rw [List.length_take]; omega), List.drop_append_of_le_length (by rw [List.length_take]; omega)]
  rw [List.take_of_length_le (by rw [List.length_take]; omega), List.drop_of_length_le (by rw [List.length_take]; omega)]
  simp
theorem layTo_end (hp : pos ks x.num < ks.length) : layTo ks x ks.length = insAt ks (pos ks x.num) x := by
  unfold layTo
  rw [if_pos hp, List.take_length]
theorem layTo_last (hp : ¬ pos ks x.num < ks.length) : layTo ks x ks.length ++ [x] = insAt ks (pos ks x.num) x := by
  have := pos_le ks x.num
  have e : pos ks x.num = ks.length := by omega
  unfold layTo
  rw [if_neg hp, e]
  unfold insAt
  rw [List.take_length, List.drop_length]
theorem layTo_len (hi : i ≤ ks.length) : (layTo ks x i).length = if pos ks x.num < i then i + 1 else i := by
  unfold layTo
  split
  · rw [insAt_len _ (by rw [List.length_take]; omega), List.length_take]; omega
  · rw [List.length_take]; omega
end
section
variable {cs xc : List Value} {p i n : Nat}
def insC (cs xc : List Value) (p : Nat) : List Value := cs.take (p * 6) ++ (xc ++ cs.drop (p * 6))
def layC (cs xc : List Value) (p i : Nat) : List Value := if p < i then insC (cs.take (i * 6)) xc p else cs.take (i * 6)
theorem layC_zero : layC cs xc p 0 = [] := by simp [layC]
theorem take6 (h : cs.length = n * 6) (hi : i < n) : cs.take ((i + 1) * 6) = cs.take (i * 6) ++ (cs.drop (i * 6)).take 6 := by
  rw [show (i + 1) * 6 = i * 6 + 6 by omega, List.take_add]
theorem insC_app {L y : List Value} (hp : p * 6 ≤ L.length) : insC L xc p ++ y = insC (L ++ y) xc p := by
  unfold insC
  rw [List.take_append_of_le_length hp, List.drop_append_of_le_length hp]
  simp
theorem layC_past (h : cs.length = n * 6) (hi : i < n) (hp : p < i) : layC cs xc p (i + 1) = layC cs xc p i ++ (cs.drop (i * 6)).take 6 := by
  unfold layC
  rw [if_pos (by omega), if_pos hp, insC_app (by rw [List.length_take]; omega), ← take6 h hi]
theorem layC_not (h : cs.length = n * 6) (hi : i < n) (hp : i < p) : layC cs xc p (i + 1) = layC cs xc p i ++ (cs.drop (i * 6)).take 6 := by
  unfold layC
  rw [if_neg (by omega), if_neg (by omega), ← take6 h hi]
theorem layC_now (h : cs.length = n * 6) (hi : i < n) (hp : p = i) : layC cs xc p (i + 1) = layC cs xc p i ++ xc ++ (cs.drop (i * 6)).take 6 := by
  subst hp
  unfold layC
  rw [if_pos (by omega), if_neg (by omega), take6 h hi]
  unfold insC
  rw [List.take_append_of_le_length (by rw [List.length_take]; omega), List.drop_append_of_le_length (by rw [List.length_take]; omega)]
  rw [List.take_of_length_le (by rw [List.length_take]; omega), List.drop_of_length_le (by rw [List.length_take]; omega)]
  simp
theorem layC_end (h : cs.length = n * 6) (hp : p < n) : layC cs xc p n = insC cs xc p := by
  unfold layC
  rw [if_pos hp, List.take_of_length_le (by omega)]
theorem layC_last (h : cs.length = n * 6) (hp : p = n) : layC cs xc p n ++ xc = insC cs xc p := by
  subst hp
  unfold layC insC
  rw [if_neg (by omega), List.take_of_length_le (by omega), List.drop_of_length_le (by omega)]
  simp
theorem lay_at (hp : p ≤ i) (h2 : ¬ p < i) : p = i := by omega
end
theorem right_step {n : Nt} {ks : List Kp} {code : Int} {reply : List (BitVec 8)} (h : ¬ askBad ks n) : rightP (stepK n code reply) ↔ reply.length ≤ 255 ∧ (code = 1 ∨ code = 2) := by
  have h1 : noteBad n = false := by
    cases e : noteBad n with
    | false => rfl
    | true => exact absurd (.inr (.inr (.inl e))) h
  have h2 := noteBad_step h1
  have h3 : n.order ≠ 0#32 := fun e => h (.inr (.inr (.inr (.inr e))))
  have h4 : 0 < n.order.toNat := by
    have : n.order.toNat ≠ 0 := fun e => h3 (BitVec.eq_of_toNat_eq (by simpa using e))
    omega
  unfold rightP stepK
  simp only
  constructor
  · rintro ⟨_, _, _, _, h5, h6⟩; exact ⟨h5, h6⟩
  · rintro ⟨h5, h6⟩; exact ⟨h4, h2.1, h2.2.1, h2.2.2, h5, h6⟩
/-- behind an answer that is neither an error nor the same again the key is new -/
theorem new_key {e : BitVec 32} {ks : List Kp} {n : Nt} {code : Int} {reply : List (BitVec 8)} (h0 : (askK e ks n).2.2 = 0) (h2 : (askK e ks n).1 ≠ 2) : ∀ k ∈ ks, k.num ≠ (stepK n code reply).num := by
  have hg := askK_ok h0
  have hnone : getK ks (numb n.order n.step n.undo) = none := by
    cases hk : getK ks (numb n.order n.step n.undo) with
    | none => rfl
    | some k =>
      exfalso
      by_cases ha : k.asked = n.data
      · rw [askK_again hg.1 hg.2 hk ha] at h2; exact h2 rfl
      · rw [askK_clash hg.1 hg.2 hk ha] at h0; exact absurd h0 (by decide)
  exact getK_none hnone
/-! ### more than is looked at -/
def fewK (k : Kp) (m : Int) : Prop := min (k.asked.length : Int) 30000 / 100 + 1 ≤ m ∧ min (k.reply.length : Int) 30000 / 100 + 1 ≤ m
theorem few_next {ks : List Kp} {i : Nat} {m m' : Int} (hi : i < ks.length) (h : ∀ k ∈ ks.take i, fewK k m) (hm : m ≤ m') (h2 : fewK ks[i] m') : ∀ k ∈ ks.take (i + 1), fewK k m' := by
  rw [List.take_succ_eq_append_getElem hi]
  intro k hk
  rcases List.mem_append.1 hk with hk | hk
  · have := h k hk
    exact ⟨Int.le_trans this.1 hm, Int.le_trans this.2 hm⟩
  · rw [List.mem_singleton.1 hk]; exact h2
theorem few_bound {k : Kp} {m : Int} (h : fewK k m) (hm : m ≤ 300) : k.asked.length ≤ 30000 ∧ k.reply.length ≤ 30000 := by
  unfold fewK at h
  omega
theorem Kts.head {T : TypeId} {cs : List Value} {ks : List Kp} {D : List Ck} {j : Nat} (h : Kts T (cs.drop (j * 6)) (ks.drop j) D) (hj : j < ks.length) :
    ∃ va vr A B D', (cs.drop (j * 6)).take 6 = kc ks[j] va vr ∧ Ob T va ks[j].asked A ∧ Ob T vr ks[j].reply B ∧ D = A ++ (B ++ D') ∧ Kts T (cs.drop ((j + 1) * 6)) (ks.drop (j + 1)) D' := by
  rw [List.drop_eq_getElem_cons hj] at h
  generalize hc : cs.drop (j * 6) = c at h
  cases h with
  | @cons k va vr A B cs' ks' D' h1 h2 h3 =>
    refine ⟨va, vr, A, B, D', by simp [kc], h1, h2, rfl, ?_⟩
    have : cs.drop ((j + 1) * 6) = cs' := by
      rw [show (j + 1) * 6 = j * 6 + 6 by omega, ← List.drop_drop, hc]
      simp [kc]
    rw [this]
    exact h3
theorem Kts.set {T : TypeId} {cs : List Value} {ks : List Kp} {D : List Ck} {j i : Nat} {v : Value} (h : Kts T (cs.drop (j * 6)) ks D) (hi : i < j * 6) : Kts T ((cs.set i v).drop (j * 6)) ks D := by
  rw [List.drop_set_of_lt hi]
  exact h
theorem Own.put1 {so : Option Addr} {n c : Nat} {xs : List Value} {T : TypeId} {sz : Nat} {C : List Ck} (h : Own (.slice so n c) n xs T sz C) (hn : 0 < n) (j : Nat) (hj : j < n * sz) (v : Value) :
    ∃ b extra, so = some ⟨b, 0, none⟩ ∧ C = [row b (xs ++ extra) T] ∧ (xs ++ extra).set (0 + j) v = xs.set j v ++ extra ∧ Own (.slice so n c) n (xs.set j v) T sz [row b (xs.set j v ++ extra) T] := by
  rcases h with ⟨_, h0, _⟩ | ⟨b, cap, extra, he, hc1, hc2, hx1, hx2, hC⟩
  · omega
  · simp only [Value.slice.injEq] at he
    obtain ⟨rfl, _, rfl⟩ := he
    exact ⟨b, extra, rfl, hC, by rw [Nat.zero_add, set_front _ _ _ _ (by omega)], .inr ⟨b, c, extra, rfl, hc1, hc2, by rw [List.length_set]; exact hx1, hx2, rfl⟩⟩
/-! ### what comes out is small where what comes in is -/
section
variable {e : BitVec 32} {ks : List Kp}
theorem z_small : Kp.z.asked.length ≤ 1000000 ∧ Kp.z.reply.length ≤ 1000000 := ⟨by decide, by decide⟩
theorem get_small (hb : ∀ k ∈ ks, k.asked.length ≤ 1000000 ∧ k.reply.length ≤ 1000000) (m : Nat) : ((getK ks m).getD Kp.z).asked.length ≤ 1000000 ∧ ((getK ks m).getD Kp.z).reply.length ≤ 1000000 := by
  cases h : getK ks m with
  | none => exact z_small
  | some k => exact hb k (getK_some h).1
theorem find_small (hb : ∀ k ∈ ks, k.asked.length ≤ 1000000 ∧ k.reply.length ≤ 1000000) (o : BitVec 32) (s : Int) (u : Bool) : ((findB ks o s u).getD Kp.z).asked.length ≤ 1000000 ∧ ((findB ks o s u).getD Kp.z).reply.length ≤ 1000000 := by
  unfold findB
  split
  · exact get_small hb _
  · exact z_small
theorem ask_small (hb : ∀ k ∈ ks, k.asked.length ≤ 1000000 ∧ k.reply.length ≤ 1000000) (n : Nt) : (askK e ks n).2.1.asked.length ≤ 1000000 ∧ (askK e ks n).2.1.reply.length ≤ 1000000 := by
  unfold askK
  split
  · exact z_small
  · split
    · exact z_small
    · split
      · rename_i k hk
        split
        · exact hb k (getK_some hk).1
        · exact z_small
      · split
        · split
          · exact z_small
          · split <;> exact z_small
        · split <;> exact z_small
theorem see_len (hl : ks.length ≤ 1000) (x : BitVec 32) : (seeK e ks x).2.1.length ≤ 1000 := by
  unfold seeK
  split
  · simp
  · split
    · simp
    · exact hl
theorem see_small (hb : ∀ k ∈ ks, k.asked.length ≤ 1000000 ∧ k.reply.length ≤ 1000000) (x : BitVec 32) : ∀ k ∈ (seeK e ks x).2.1, k.asked.length ≤ 1000000 ∧ k.reply.length ≤ 1000000 := by
  unfold seeK
  split
  · intro k hk; cases hk
  · split
    · intro k hk; cases hk
    · exact hb
end
section
variable {e : BitVec 32} {ks : List Kp} {n : Nt} {code : Int} {reply : List (BitVec 8)}
theorem keep_cases (e : BitVec 32) (ks : List Kp) (n : Nt) (code : Int) (reply : List (BitVec 8)) : (keepK e ks n code reply).2.1 = [] ∨ (keepK e ks n code reply).2.1 = insAt ks (pos ks (stepK n code reply).num) (stepK n code reply) := by
  unfold keepK
  split
  · exact .inl rfl
  · split
    · exact .inl rfl
    · split
      · exact .inl rfl
      · split
        · exact .inl rfl
        · exact .inr rfl
theorem keep_len (hl : ks.length ≤ 1000) : (keepK e ks n code reply).2.1.length ≤ 1001 := by
  rcases keep_cases e ks n code reply with h | h <;> rw [h]
  · simp
  · rw [insAt_len _ (pos_le _ _)]; omega
theorem keep_small (hb : ∀ k ∈ ks, k.asked.length ≤ 1000000 ∧ k.reply.length ≤ 1000000) (hd : n.data.length ≤ 1000000) : ∀ k ∈ (keepK e ks n code reply).2.1, k.asked.length ≤ 1000000 := by
  intro k hk
  rcases keep_cases e ks n code reply with h | h <;> rw [h] at hk
  · cases hk
  · rcases insAt_mem.1 hk with h | rfl
    · exact (hb k h).1
    · exact hd
end
theorem lent_bs {T : TypeId} {ao : Option Addr} {cap : Nat} {bs : List (BitVec 8)} {C : List Ck} (h : Ob T (.slice ao (bs.length + 2) cap) (bs ++ [91#8, 92#8]) C) (hl : bs.length ≤ 9223372036854775807) : Bs (.slice ao bs.length cap) bs C := by
  have := Bs.upto (j := bs.length) h.bs (by omega)
  simpa using this
end Go.SL
