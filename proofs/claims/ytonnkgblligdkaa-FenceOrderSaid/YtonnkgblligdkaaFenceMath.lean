/-
  The plain fence: kept steps, keys' numbers, what a fence says.
-/
import Derived.Test.YtonnkgblligdkaaWireMath
import Derived.Test.YtonnkgblligdkaaSLMore8
set_option linter.unusedVariables false
set_option linter.unusedSimpArgs false
namespace Go.SL

/-- a kept step -/
structure Kp where
  order : BitVec 32
  step : Int
  undo : Bool
  asked : List (BitVec 8)
  code : Int
  reply : List (BitVec 8)
deriving DecidableEq
def kc (k : Kp) (va vr : Value) : List Value := [.int .u32 k.order.toNat, .int .i64 k.step, .bool k.undo, va, .int .i64 k.code, vr]
theorem kc_len (k : Kp) (va vr : Value) : (kc k va vr).length = 6 := rfl
def Kp.z : Kp := ⟨0#32, 0, false, [], 0, []⟩
def keyc (o : BitVec 32) (s : Int) (u : Bool) : List Value := [.int .u32 o.toNat, .int .i64 s, .bool u]
def numb (o : BitVec 32) (s : Int) (u : Bool) : Nat := o.toNat * 256 + s.toNat * 2 + (if u then 1 else 0)
def Kp.num (k : Kp) : Nat := numb k.order k.step k.undo
theorem numb_lt {o : BitVec 32} {s : Int} {u : Bool} (h : s < 16) : numb o s u < 1099511627776 := by
  unfold numb
  have := o.isLt
  split <;> omega
theorem numb_inj {o o' : BitVec 32} {s s' : Int} {u u' : Bool} (h0 : 0 ≤ s) (h : s < 16) (h0' : 0 ≤ s') (h' : s' < 16) (e : numb o s u = numb o' s' u') : o = o' ∧ s = s' ∧ u = u' := by
  unfold numb at e
  have e1 : o.toNat = o'.toNat := by revert e; split <;> split <;> omega
  have e2 : s = s' := by revert e; split <;> split <;> omega
  refine ⟨BitVec.eq_of_toNat_eq e1, e2, ?_⟩
  revert e
  cases u <;> cases u' <;> simp <;> omega
theorem numB_of {o : BitVec 32} {s : Int} (h0 : 0 ≤ s) (h : s < 16) : ((o.setWidth 64 <<< 8) ||| (BitVec.ofInt 64 s <<< 1)).toNat = o.toNat * 256 + s.toNat * 2 := by
  obtain ⟨n, rfl⟩ := Int.eq_ofNat_of_zero_le h0
  have hn : n < 16 := by omega
  have ho := o.isLt
  have e1 : (BitVec.ofInt 64 (n : Int) <<< 1).toNat = n * 2 := by
    simp [BitVec.toNat_shiftLeft, Nat.shiftLeft_eq]
    omega
  have e2 : (o.setWidth 64 <<< 8).toNat = 2 ^ 8 * o.toNat := by
    simp [BitVec.toNat_shiftLeft, Nat.shiftLeft_eq]
    omega
  rw [BitVec.toNat_or, e1, e2, ← Nat.two_pow_add_eq_or_of_lt (by omega)]
  simp
  omega
theorem numB_one {x : BitVec 64} (h : x.toNat % 2 = 0) : (x ||| 1#64).toNat = x.toNat + 1 := by
  have e : x.toNat = 2 ^ 1 * (x.toNat / 2) := by omega
  rw [BitVec.toNat_or, e]
  have := Nat.two_pow_add_eq_or_of_lt (i := 1) (b := 1) (by omega) (x.toNat / 2)
  simpa using this.symm
theorem numB_u {o : BitVec 32} {s : Int} (h0 : 0 ≤ s) (h : s < 16) : (((o.setWidth 64 <<< 8) ||| (BitVec.ofInt 64 s <<< 1)) ||| 1#64).toNat = o.toNat * 256 + s.toNat * 2 + 1 := by
  rw [numB_one (by rw [numB_of h0 h]; omega), numB_of h0 h]

/-- may one be kept? -/
def rightP (k : Kp) : Prop := 0 < k.order.toNat ∧ 0 ≤ k.step ∧ k.step < 16 ∧ k.asked.length ≤ 255 ∧ k.reply.length ≤ 255 ∧ (k.code = 1 ∨ k.code = 2)
instance (k : Kp) : Decidable (rightP k) := by unfold rightP; infer_instance
def chk (ks : List Kp) : Prop := ks.length ≤ 200 ∧ (∀ k ∈ ks, rightP k) ∧ ks.Pairwise fun a b => a.num < b.num
instance (ks : List Kp) : Decidable (chk ks) := by unfold chk; infer_instance
theorem chk_nil : chk [] := ⟨Nat.zero_le _, fun _ h => absurd h List.not_mem_nil, List.Pairwise.nil⟩
theorem chk_take0 (ks : List Kp) : chk (ks.take 0) := by rw [List.take_zero]; exact chk_nil
theorem chk_sub {a b : List Kp} (h : chk b) (s : a.Sublist b) : chk a := ⟨by have := s.length_le; have := h.1; omega, fun k hk => h.2.1 k (s.subset hk), h.2.2.sublist s⟩
theorem chk_right {ks : List Kp} (h : chk ks) {i : Nat} (hi : i < ks.length) : rightP ks[i] := h.2.1 _ (List.getElem_mem hi)
theorem chk_lt {ks : List Kp} (h : chk ks) {i j : Nat} (hij : i < j) (hj : j < ks.length) : (ks[i]'(by omega)).num < ks[j].num := List.pairwise_iff_getElem.1 h.2.2 i j (by omega) hj hij
theorem chk_step {ks : List Kp} {i : Nat} (h : chk (ks.take i)) (hl : ks.length ≤ 200) (hi : i < ks.length) (hr : rightP ks[i]) (ho : i = 0 ∨ (ks[i - 1]'(by omega)).num < ks[i].num) : chk (ks.take (i + 1)) := by
  rw [List.take_succ_eq_append_getElem hi]
  refine ⟨by simp; omega, fun k hk => ?_, List.pairwise_append.2 ⟨h.2.2, List.pairwise_singleton _ _, fun x hx y hy => ?_⟩⟩
  · rcases List.mem_append.1 hk with hk | hk
    · exact h.2.1 k hk
    · rw [List.mem_singleton.1 hk]; exact hr
  · rw [List.mem_singleton.1 hy]
    obtain ⟨j, hj, rfl⟩ := List.mem_iff_getElem.1 hx
    rw [List.length_take] at hj
    rcases ho with rfl | ho
    · omega
    · by_cases e : j = i - 1
      · subst e; simpa using ho
      · have := chk_lt h (i := j) (j := i - 1) (by omega) (by rw [List.length_take]; omega)
        simp only [List.getElem_take] at this ⊢
        omega
theorem chk_adj {ks : List Kp} (h : chk ks) {i : Nat} (h0 : 0 < i) (hi : i < ks.length) : (ks[i - 1]'(by omega)).num < ks[i].num := chk_lt h (by omega) hi

/-- how many numbers lie below -/
def pos (ks : List Kp) (n : Nat) : Nat := (ks.takeWhile fun k => decide (k.num < n)).length
def getK (ks : List Kp) (n : Nat) : Option Kp := ks.find? fun k => decide (k.num = n)
theorem pos_le (ks : List Kp) (n : Nat) : pos ks n ≤ ks.length := (List.takeWhile_sublist _).length_le
theorem pos_yes {k : Kp} {ks : List Kp} {n : Nat} (h : k.num < n) : pos (k :: ks) n = pos ks n + 1 := by
  unfold pos
  rw [List.takeWhile_cons_of_pos (by simpa using h), List.length_cons]
theorem pos_no {k : Kp} {ks : List Kp} {n : Nat} (h : ¬ k.num < n) : pos (k :: ks) n = 0 := by
  unfold pos
  rw [List.takeWhile_cons_of_neg (by simpa using h)]
  rfl
theorem pos_eq {n : Nat} : ∀ {ks : List Kp} {i : Nat}, i ≤ ks.length → (∀ t (h : t < ks.length), t < i → ks[t].num < n) → (∀ (h : i < ks.length), n ≤ ks[i].num) → pos ks n = i
  | [], i, h, _, _ => by simp at h; subst h; rfl
  | k :: ks, 0, _, _, h2 => pos_no (by have := h2 (by simp); simp only [List.getElem_cons_zero] at this; omega)
  | k :: ks, i + 1, h, h1, h2 => by
    have h0 := h1 0 (by simp) (by omega)
    simp only [List.getElem_cons_zero] at h0
    have ih := pos_eq (n := n) (ks := ks) (i := i) (by simpa using h) (fun t ht hti => by have := h1 (t + 1) (by simpa using ht) (by omega); rwa [List.getElem_cons_succ] at this) (fun hi => by have := h2 (by simpa using hi); rwa [List.getElem_cons_succ] at this)
    rw [pos_yes h0, ih]
theorem pos_below {n : Nat} : ∀ {ks : List Kp} {t : Nat} (h : t < ks.length), t < pos ks n → ks[t].num < n
  | k :: ks, t, h, ht => by
    by_cases e : k.num < n
    · cases t with
      | zero => exact e
      | succ t =>
        rw [pos_yes e] at ht
        exact pos_below (ks := ks) (by simpa using h) (by omega)
    · rw [pos_no e] at ht; omega
theorem pos_above {n : Nat} : ∀ {ks : List Kp} {t : Nat} (h : t < ks.length), t = pos ks n → n ≤ ks[t].num
  | k :: ks, t, h, ht => by
    by_cases e : k.num < n
    · rw [pos_yes e] at ht
      subst ht
      exact pos_above (ks := ks) (by simpa using h) rfl
    · rw [pos_no e] at ht
      subst ht
      simpa using e
theorem getK_at {ks : List Kp} (h : chk ks) {i : Nat} (hi : i < ks.length) : getK ks ks[i].num = some ks[i] := by
  unfold getK
  rw [List.find?_eq_some_iff_getElem]
  refine ⟨by simp, i, hi, rfl, fun j hj => ?_⟩
  have := chk_lt h hj hi
  simp
  omega
theorem getK_some {ks : List Kp} {n : Nat} {k : Kp} (h : getK ks n = some k) : k ∈ ks ∧ k.num = n := by
  unfold getK at h
  exact ⟨List.mem_of_find?_eq_some h, by simpa using List.find?_some h⟩
theorem getK_none {ks : List Kp} {n : Nat} (h : getK ks n = none) : ∀ k ∈ ks, k.num ≠ n := fun k hk e => by
  have := List.find?_eq_none.1 h k hk
  simp at this
  exact this e
theorem getK_pos {ks : List Kp} (h : chk ks) {n : Nat} : (getK ks n = none ∧ ∀ (hi : pos ks n < ks.length), ks[pos ks n].num ≠ n) ∨ ∃ hi : pos ks n < ks.length, ks[pos ks n].num = n ∧ getK ks n = some ks[pos ks n] := by
  cases e : getK ks n with
  | none => exact .inl ⟨rfl, fun hi => getK_none e _ (List.getElem_mem _)⟩
  | some k =>
    right
    obtain ⟨hk, hn⟩ := getK_some e
    obtain ⟨i, hi, rfl⟩ := List.mem_iff_getElem.1 hk
    have : pos ks n = i := pos_eq (by omega) (fun t ht hti => by have := chk_lt h hti hi; omega) (fun _ => by omega)
    subst this
    exact ⟨hi, hn, rfl⟩
def insAt (ks : List Kp) (i : Nat) (k : Kp) : List Kp := ks.take i ++ k :: ks.drop i
theorem insAt_len {ks : List Kp} {i : Nat} (k : Kp) (h : i ≤ ks.length) : (insAt ks i k).length = ks.length + 1 := by
  simp [insAt]
  omega

theorem Gr.get {A B : List Ck} {c : Ck} (h : ∀ x ∈ A, x ∈ B) (hm : c ∈ A) : c ∈ B := h c hm
/-! ### in memory -/
/-- kept steps that are looked at -/
inductive KVs (H : List Ck) : List Value → List Kp → Prop
  | nil : KVs H [] []
  | cons {k : Kp} {va vr : Value} {cs : List Value} {ks : List Kp} : Bs va k.asked H → Bs vr k.reply H → KVs H cs ks → KVs H (kc k va vr ++ cs) (k :: ks)
theorem KVs.len {H : List Ck} {cs : List Value} {ks : List Kp} (h : KVs H cs ks) : cs.length = ks.length * 6 := by
  induction h with
  | nil => rfl
  | cons _ _ _ ih => simp only [List.length_append, kc_len, ih, List.length_cons]; omega
theorem KVs.mono {A B : List Ck} {cs : List Value} {ks : List Kp} (h : KVs A cs ks) (s : ∀ c ∈ A, c ∈ B) : KVs B cs ks := by
  induction h with
  | nil => exact .nil
  | cons h1 h2 _ ih => exact .cons (h1.mono s) (h2.mono s) ih
theorem KVs.at {H : List Ck} {cs : List Value} {ks : List Kp} (h : KVs H cs ks) : ∀ (i : Nat) (hi : i < ks.length), ∃ va vr, (cs.drop (i * 6)).take 6 = kc ks[i] va vr ∧ Bs va ks[i].asked H ∧ Bs vr ks[i].reply H := by
  induction h with
  | nil => intro i hi; simp at hi
  | @cons k va vr cs ks h1 h2 h3 ih =>
    intro i hi
    cases i with
    | zero => exact ⟨va, vr, by simp [List.take_append, kc_len]; rfl, h1, h2⟩
    | succ i =>
      obtain ⟨va', vr', g1, g2, g3⟩ := ih i (by simpa using hi)
      refine ⟨va', vr', ?_, g2, g3⟩
      rw [show (i + 1) * 6 = (kc k va vr).length + i * 6 by rw [kc_len]; omega, List.drop_length_add_append]
      exact g1
def KV (v : Value) (ks : List Kp) (H : List Ck) : Prop := ∃ cs, Rs v ks.length cs H ∧ KVs H cs ks
theorem KV.mono {v : Value} {ks : List Kp} {A B : List Ck} (h : KV v ks A) (s : ∀ c ∈ A, c ∈ B) : KV v ks B := by
  obtain ⟨cs, h1, h2⟩ := h
  exact ⟨cs, h1.mono s, h2.mono s⟩
theorem KV.form {v : Value} {ks : List Kp} {A : List Ck} (h : KV v ks A) : ∃ ao cap, v = .slice ao ks.length cap ∧ ks.length ≤ cap := by
  obtain ⟨cs, h1, _⟩ := h
  exact h1.form
theorem IsSl.of {v : Value} {l : List (BitVec 8)} {A : List Ck} (h : Bs v l A) : IsSl v l.length := by
  obtain ⟨ao, c, rfl, _⟩ := h.form
  exact ⟨ao, c, rfl⟩
/-- kept steps that are our own -/
inductive Kts (T : TypeId) : List Value → List Kp → List Ck → Prop
  | nil : Kts T [] [] []
  | cons {k : Kp} {va vr : Value} {A B : List Ck} {cs : List Value} {ks : List Kp} {D : List Ck} : Ob T va k.asked A → Ob T vr k.reply B → Kts T cs ks D → Kts T (kc k va vr ++ cs) (k :: ks) (A ++ (B ++ D))
theorem Kts.len {T : TypeId} {cs : List Value} {ks : List Kp} {D : List Ck} (h : Kts T cs ks D) : cs.length = ks.length * 6 := by
  induction h with
  | nil => rfl
  | cons _ _ _ ih => simp only [List.length_append, kc_len, ih, List.length_cons]; omega
theorem kc_one {k : Kp} {va vr : Value} (h1 : va.oneCell' = true) (h2 : vr.oneCell' = true) : ∀ u ∈ kc k va vr, u.oneCell' = true := by
  intro u hu
  simp only [kc, List.mem_cons, List.not_mem_nil, or_false] at hu
  rcases hu with rfl | rfl | rfl | rfl | rfl | rfl <;> first | rfl | exact h1 | exact h2
theorem Kts.one {T : TypeId} {cs : List Value} {ks : List Kp} {D : List Ck} (h : Kts T cs ks D) : ∀ u ∈ cs, u.oneCell' = true := by
  induction h with
  | nil => intro u hu; cases hu
  | cons h1 h2 _ ih =>
    intro u hu
    rcases List.mem_append.1 hu with hu | hu
    · exact kc_one h1.one_cell h2.one_cell u hu
    · exact ih u hu
theorem Kts.append {T : TypeId} {cs cs' : List Value} {ks ks' : List Kp} {D D' : List Ck} (h : Kts T cs ks D) (k : Kts T cs' ks' D') : Kts T (cs ++ cs') (ks ++ ks') (D ++ D') := by
  induction h with
  | nil => exact k
  | cons h1 h2 _ ih =>
    rw [List.append_assoc, List.cons_append, List.append_assoc, List.append_assoc]
    exact .cons h1 h2 ih
theorem Kts.one' {T : TypeId} {k : Kp} {va vr : Value} {A B : List Ck} (h1 : Ob T va k.asked A) (h2 : Ob T vr k.reply B) : Kts T (kc k va vr) [k] (A ++ B) := by
  have := Kts.cons h1 h2 Kts.nil
  simpa using this
theorem Kts.split {T : TypeId} {cs : List Value} {ks : List Kp} {D : List Ck} (h : Kts T cs ks D) : ∀ (i : Nat), i ≤ ks.length → ∃ D1 D2, D = D1 ++ D2 ∧ Kts T (cs.take (i * 6)) (ks.take i) D1 ∧ Kts T (cs.drop (i * 6)) (ks.drop i) D2 := by
  induction h with
  | nil => intro i hi; simp at hi; subst hi; exact ⟨[], [], rfl, .nil, .nil⟩
  | @cons k va vr A B cs ks D h1 h2 h3 ih =>
    intro i hi
    cases i with
    | zero => exact ⟨[], A ++ (B ++ D), rfl, .nil, .cons h1 h2 h3⟩
    | succ i =>
      obtain ⟨D1, D2, rfl, g1, g2⟩ := ih i (by simpa using hi)
      refine ⟨A ++ (B ++ D1), D2, by simp, ?_, ?_⟩
      · rw [show (i + 1) * 6 = (kc k va vr).length + i * 6 by rw [kc_len]; omega, List.take_length_add_append, List.take_succ_cons]
        exact .cons h1 h2 g1
      · rw [show (i + 1) * 6 = (kc k va vr).length + i * 6 by rw [kc_len]; omega, List.drop_length_add_append, List.drop_succ_cons]
        exact g2
theorem Kts.ins {T : TypeId} {cs : List Value} {ks : List Kp} {D : List Ck} (h : Kts T cs ks D) {i : Nat} (hi : i ≤ ks.length) {k : Kp} {va vr : Value} {A B : List Ck} (h1 : Ob T va k.asked A) (h2 : Ob T vr k.reply B) :
    ∃ D', Kts T (cs.take (i * 6) ++ (kc k va vr ++ cs.drop (i * 6))) (insAt ks i k) D' ∧ D'.Perm (D ++ (A ++ B)) := by
  obtain ⟨D1, D2, rfl, g1, g2⟩ := h.split i hi
  refine ⟨_, g1.append (.cons h1 h2 g2), ?_⟩
  classical
  exact List.perm_iff_count.2 fun q => by simp only [List.count_append]; omega
theorem Kts.views {T : TypeId} {cs : List Value} {ks : List Kp} {D : List Ck} (h : Kts T cs ks D) : KVs D cs ks := by
  induction h with
  | nil => exact .nil
  | @cons k va vr A B cs ks D h1 h2 h3 ih => exact .cons (h1.bs.mono fun c hc => List.mem_append_left _ hc) (h2.bs.mono fun c hc => List.mem_append_right _ (List.mem_append_left _ hc)) (ih.mono fun c hc => List.mem_append_right _ (List.mem_append_right _ hc))
/-- a row of kept steps that is our own, with all that hangs on it -/
def FAt (T8 TK : TypeId) (v : Value) (ks : List Kp) (H : List Ck) : Prop := ∃ cs C D, Own v ks.length cs TK 6 C ∧ Kts T8 cs ks D ∧ H = C ++ D
theorem FAt.kv {T8 TK : TypeId} {v : Value} {ks : List Kp} {H : List Ck} (h : FAt T8 TK v ks H) : KV v ks H := by
  obtain ⟨cs, C, D, h1, h2, rfl⟩ := h
  exact ⟨cs, h1.rs.mono fun c hc => List.mem_append_left _ hc, h2.views.mono fun c hc => List.mem_append_right _ hc⟩
theorem FAt.nil (T8 TK : TypeId) : FAt T8 TK (.slice none 0 0) [] [] := ⟨[], [], [], Own.nil _ _, .nil, rfl⟩
theorem FAt.one_cell {T8 TK : TypeId} {v : Value} {ks : List Kp} {H : List Ck} (h : FAt T8 TK v ks H) : v.oneCell' = true := by
  obtain ⟨cs, C, D, h1, h2, rfl⟩ := h
  obtain ⟨ao, c, rfl, _⟩ := h1.form
  rfl

theorem FAt.form {T8 TK : TypeId} {v : Value} {ks : List Kp} {H : List Ck} (h : FAt T8 TK v ks H) : ∃ ao c, v = .slice ao ks.length c := by
  obtain ⟨cs, C, D, h1, h2, rfl⟩ := h
  obtain ⟨ao, c, rfl, _⟩ := h1.form
  exact ⟨ao, c, rfl⟩
/-! ### what a fence says -/
def findB (ks : List Kp) (o : BitVec 32) (s : Int) (u : Bool) : Option Kp := if chk ks ∧ 0 ≤ s ∧ s < 16 then getK ks (numb o s u) else none
def askBad (ks : List Kp) (n : Nt) : Prop := ¬ chk ks ∨ n.kind ≠ 7 ∨ noteBad n = true ∨ n.epoch = 0#32 ∨ n.order = 0#32
instance (ks : List Kp) (n : Nt) : Decidable (askBad ks n) := by unfold askBad; infer_instance
def askK (e : BitVec 32) (ks : List Kp) (n : Nt) : Int × Kp × Int :=
  if askBad ks n then (0, Kp.z, 2)
  else if n.epoch.toNat < e.toNat then (0, Kp.z, 72)
  else match getK ks (numb n.order n.step n.undo) with
    | some k => if k.asked = n.data then (2, k, 0) else (0, Kp.z, 80)
    | none => match getK ks (numb n.order n.step (!n.undo)) with
      | some k => if n.undo = false then (3, Kp.z, 0) else if k.code = 2 then (4, Kp.z, 0) else (1, Kp.z, 0)
      | none => if n.undo = true then (4, Kp.z, 0) else (1, Kp.z, 0)
def stepK (n : Nt) (code : Int) (reply : List (BitVec 8)) : Kp := ⟨n.order, n.step, n.undo, n.data, code, reply⟩
def keepK (e : BitVec 32) (ks : List Kp) (n : Nt) (code : Int) (reply : List (BitVec 8)) : BitVec 32 × List Kp × Int :=
  if (askK e ks n).2.2 ≠ 0 then (0#32, [], (askK e ks n).2.2)
  else if ¬ rightP (stepK n code reply) ∨ ((askK e ks n).1 = 3 ∧ code ≠ 2) ∨ ((askK e ks n).1 = 4 ∧ code ≠ 1) then (0#32, [], 2)
  else if (askK e ks n).1 = 2 then (0#32, [], 81)
  else if 200 ≤ ks.length then (0#32, [], 5)
  else (n.epoch, insAt ks (pos ks (stepK n code reply).num) (stepK n code reply), 0)
def seeK (e : BitVec 32) (ks : List Kp) (x : BitVec 32) : BitVec 32 × List Kp × Int :=
  if ¬ chk ks then (0#32, [], 2) else if x.toNat < e.toNat then (0#32, [], 72) else (x, ks, 0)
/-- a step's note that may be -/
theorem noteBad_step {n : Nt} (h : noteBad n = false) : 0 ≤ n.step ∧ n.step < 16 ∧ n.data.length ≤ 255 := by
  have h2 : farB n = false := by
    cases e : farB n
    · rfl
    · rw [noteBad, e] at h; simp at h
  simp only [farB, Bool.or_eq_false_iff, decide_eq_false_iff_not] at h2
  omega
theorem findB_ok {ks : List Kp} {o : BitVec 32} {s : Int} {u : Bool} (h : chk ks) (h0 : 0 ≤ s) (h1 : s < 16) : findB ks o s u = getK ks (numb o s u) := if_pos ⟨h, h0, h1⟩
theorem findB_no {ks : List Kp} {o : BitVec 32} {s : Int} {u : Bool} (h : ¬ (chk ks ∧ 0 ≤ s ∧ s < 16)) : findB ks o s u = none := if_neg h
section
variable {e : BitVec 32} {ks : List Kp} {n : Nt}
theorem askK_arg (h : askBad ks n) : askK e ks n = (0, Kp.z, 2) := if_pos h
theorem askK_old (h : ¬ askBad ks n) (h2 : n.epoch.toNat < e.toNat) : askK e ks n = (0, Kp.z, 72) := by
  unfold askK; rw [if_neg h, if_pos h2]
theorem askK_again (h : ¬ askBad ks n) (h2 : ¬ n.epoch.toNat < e.toNat) {k : Kp} (hk : getK ks (numb n.order n.step n.undo) = some k) (ha : k.asked = n.data) : askK e ks n = (2, k, 0) := by
  unfold askK; rw [if_neg h, if_neg h2]; simp only [hk, ha, if_true]
theorem askK_clash (h : ¬ askBad ks n) (h2 : ¬ n.epoch.toNat < e.toNat) {k : Kp} (hk : getK ks (numb n.order n.step n.undo) = some k) (ha : k.asked ≠ n.data) : askK e ks n = (0, Kp.z, 80) := by
  unfold askK; rw [if_neg h, if_neg h2]; simp only [hk, if_neg ha]
theorem askK_refuse (h : ¬ askBad ks n) (h2 : ¬ n.epoch.toNat < e.toNat) (hk : getK ks (numb n.order n.step n.undo) = none) {k : Kp} (hk2 : getK ks (numb n.order n.step (!n.undo)) = some k) (hu : n.undo = false) : askK e ks n = (3, Kp.z, 0) := by
  unfold askK; rw [if_neg h, if_neg h2]; simp only [hk, hk2, if_pos hu]
theorem askK_undone (h : ¬ askBad ks n) (h2 : ¬ n.epoch.toNat < e.toNat) (hk : getK ks (numb n.order n.step n.undo) = none) {k : Kp} (hk2 : getK ks (numb n.order n.step (!n.undo)) = some k) (hu : n.undo = true) : askK e ks n = (if k.code = 2 then (4, Kp.z, 0) else (1, Kp.z, 0)) := by
  unfold askK; rw [if_neg h, if_neg h2]; simp only [hk, hk2, if_neg (show ¬ n.undo = false by rw [hu]; decide)]
theorem askK_new (h : ¬ askBad ks n) (h2 : ¬ n.epoch.toNat < e.toNat) (hk : getK ks (numb n.order n.step n.undo) = none) (hk2 : getK ks (numb n.order n.step (!n.undo)) = none) : askK e ks n = (if n.undo = true then (4, Kp.z, 0) else (1, Kp.z, 0)) := by
  unfold askK; rw [if_neg h, if_neg h2]; simp only [hk, hk2]
theorem askK_two (h : ¬ askBad ks n) (h2 : ¬ n.epoch.toNat < e.toNat) (hk : getK ks (numb n.order n.step n.undo) = none) {g : Option Kp} (hg : g = getK ks (numb n.order n.step (!n.undo))) :
    askK e ks n = if n.undo = false ∧ g.isSome = true then (3, Kp.z, 0) else if n.undo = true ∧ (g.isSome = false ∨ (g.getD Kp.z).code = 2) then (4, Kp.z, 0) else (1, Kp.z, 0) := by
  cases g with
  | none =>
    rw [askK_new h h2 hk hg.symm]
    simp
  | some k =>
    cases hu : n.undo with
    | false => rw [askK_refuse h h2 hk hg.symm hu]; simp
    | true => rw [askK_undone h h2 hk hg.symm hu]; simp
theorem askK_ok (h : (askK e ks n).2.2 = 0) : ¬ askBad ks n ∧ ¬ n.epoch.toNat < e.toNat := by
  refine ⟨fun hb => ?_, fun hb => ?_⟩
  · rw [askK_arg hb] at h; exact absurd h (by decide)
  · by_cases h2 : askBad ks n
    · rw [askK_arg h2] at h; exact absurd h (by decide)
    · rw [askK_old h2 hb] at h; exact absurd h (by decide)
theorem good_chk (h : ¬ askBad ks n) : chk ks := Classical.byContradiction fun h2 => h (.inl h2)
end
def keepBad (q : Int × Kp × Int) (k : Kp) : Prop := ¬ rightP k ∨ (q.1 = 3 ∧ k.code ≠ 2) ∨ (q.1 = 4 ∧ k.code ≠ 1)
instance (q : Int × Kp × Int) (k : Kp) : Decidable (keepBad q k) := by unfold keepBad; infer_instance
section
variable {e : BitVec 32} {ks : List Kp} {n : Nt} {code : Int} {reply : List (BitVec 8)}
theorem keepK_err (h : (askK e ks n).2.2 ≠ 0) : keepK e ks n code reply = (0#32, [], (askK e ks n).2.2) := if_pos h
theorem keepK_bad (h : ¬ (askK e ks n).2.2 ≠ 0) (h2 : keepBad (askK e ks n) (stepK n code reply)) : keepK e ks n code reply = (0#32, [], 2) := by
  unfold keepK; rw [if_neg h]; exact if_pos h2
theorem keepK_twice (h : ¬ (askK e ks n).2.2 ≠ 0) (h2 : ¬ keepBad (askK e ks n) (stepK n code reply)) (h3 : (askK e ks n).1 = 2) : keepK e ks n code reply = (0#32, [], 81) := by
  unfold keepK; rw [if_neg h]; exact (if_neg h2).trans (if_pos h3)
theorem keepK_full (h : ¬ (askK e ks n).2.2 ≠ 0) (h2 : ¬ keepBad (askK e ks n) (stepK n code reply)) (h3 : ¬ (askK e ks n).1 = 2) (h4 : 200 ≤ ks.length) : keepK e ks n code reply = (0#32, [], 5) := by
  unfold keepK; rw [if_neg h]; exact (if_neg h2).trans ((if_neg h3).trans (if_pos h4))
theorem keepK_ok (h : ¬ (askK e ks n).2.2 ≠ 0) (h2 : ¬ keepBad (askK e ks n) (stepK n code reply)) (h3 : ¬ (askK e ks n).1 = 2) (h4 : ¬ 200 ≤ ks.length) : keepK e ks n code reply = (n.epoch, insAt ks (pos ks (stepK n code reply).num) (stepK n code reply), 0) := by
  unfold keepK; rw [if_neg h]; exact (if_neg h2).trans ((if_neg h3).trans (if_neg h4))
end
end Go.SL
