/-
  The plain note, as the document's answer checks it.
-/
import Derived.Test.YtonnkgblligdkaaWireMath
import Derived.Test.YtonnkgblligdkaaSLMore9
set_option linter.unusedVariables false
set_option linter.unusedSimpArgs false
namespace Go.SL

def nb (k : Int) : List (BitVec 8) := (nm k).map (BitVec.ofNat 8)
theorem nmS_str (k : Int) : nmS k = str (nb k) := by
  unfold nmS str nb
  rw [List.map_map]
  congr 2
  refine List.map_congr_left fun x hx => ?_
  have := nm_small k x hx
  simp only [Function.comp]
  apply UInt8.toNat_inj.1
  simp [UInt8.toNat_ofNat]
theorem nb_mem (k : Int) (b : BitVec 8) : b ∈ nb k ↔ b.toNat ∈ nm k := by
  unfold nb
  rw [List.mem_map]
  constructor
  · rintro ⟨x, hx, rfl⟩
    have := nm_small k x hx
    rw [BitVec.toNat_ofNat, Nat.mod_eq_of_lt (by omega)]
    exact hx
  · intro h
    exact ⟨b.toNat, h, by simp⟩
def allP : List (BitVec 8) := [69#8, 80#8, 76#8, 84#8, 79#8, 83#8, 85#8, 67#8, 75#8, 68#8]
def zeroP (n : Nt) (b : BitVec 8) : Bool :=
  if b = 69#8 then decide (n.epoch = 0#32) else if b = 80#8 then decide (n.old = 0#32) else if b = 76#8 then decide (n.lsn = 0#64) else if b = 84#8 then decide (n.tick = 0#64) else if b = 79#8 then decide (n.order = 0#32)
  else if b = 83#8 then decide (n.step = 0) else if b = 85#8 then !n.undo else if b = 67#8 then decide (n.code = 0) else if b = 75#8 then decide ((n.key.length : Int) = 0) else decide ((n.data.length : Int) = 0)
section
theorem fold_epoch : ∀ (L : List Nat) (n : Nt), (L.foldl (fun m (c : Nat) => wo m (c : Int)) n).epoch = if 69 ∈ L then 0#32 else n.epoch
  | [], n => by simp
  | c :: L, n => by
    rw [List.foldl_cons, fold_epoch L]
    by_cases h : 69 ∈ L
    · simp [h]
    · by_cases hc : c = 69
      · subst hc; simp [h, wo]
      · have : (wo n (c : Int)).epoch = n.epoch := by
          unfold wo
          repeat' split
          all_goals first | rfl | omega
        simp [h, this, Ne.symm hc]
theorem fold_old : ∀ (L : List Nat) (n : Nt), (L.foldl (fun m (c : Nat) => wo m (c : Int)) n).old = if 80 ∈ L then 0#32 else n.old
  | [], n => by simp
  | c :: L, n => by
    rw [List.foldl_cons, fold_old L]
    by_cases h : 80 ∈ L
    · simp [h]
    · by_cases hc : c = 80
      · subst hc; simp [h, wo]
      · have : (wo n (c : Int)).old = n.old := by
          unfold wo
          repeat' split
          all_goals first | rfl | omega
        simp [h, this, Ne.symm hc]
theorem fold_lsn : ∀ (L : List Nat) (n : Nt), (L.foldl (fun m (c : Nat) => wo m (c : Int)) n).lsn = if 76 ∈ L then 0#64 else n.lsn
  | [], n => by simp
  | c :: L, n => by
    rw [List.foldl_cons, fold_lsn L]
    by_cases h : 76 ∈ L
    · simp [h]
    · by_cases hc : c = 76
      · subst hc; simp [h, wo]
      · have : (wo n (c : Int)).lsn = n.lsn := by
          unfold wo
          repeat' split
          all_goals first | rfl | omega
        simp [h, this, Ne.symm hc]
theorem fold_tick : ∀ (L : List Nat) (n : Nt), (L.foldl (fun m (c : Nat) => wo m (c : Int)) n).tick = if 84 ∈ L then 0#64 else n.tick
  | [], n => by simp
  | c :: L, n => by
    rw [List.foldl_cons, fold_tick L]
    by_cases h : 84 ∈ L
    · simp [h]
    · by_cases hc : c = 84
      · subst hc; simp [h, wo]
      · have : (wo n (c : Int)).tick = n.tick := by
          unfold wo
          repeat' split
          all_goals first | rfl | omega
        simp [h, this, Ne.symm hc]
theorem fold_order : ∀ (L : List Nat) (n : Nt), (L.foldl (fun m (c : Nat) => wo m (c : Int)) n).order = if 79 ∈ L then 0#32 else n.order
  | [], n => by simp
  | c :: L, n => by
    rw [List.foldl_cons, fold_order L]
    by_cases h : 79 ∈ L
    · simp [h]
    · by_cases hc : c = 79
      · subst hc; simp [h, wo]
      · have : (wo n (c : Int)).order = n.order := by
          unfold wo
          repeat' split
          all_goals first | rfl | omega
        simp [h, this, Ne.symm hc]
theorem fold_step : ∀ (L : List Nat) (n : Nt), (L.foldl (fun m (c : Nat) => wo m (c : Int)) n).step = if 83 ∈ L then 0 else n.step
  | [], n => by simp
  | c :: L, n => by
    rw [List.foldl_cons, fold_step L]
    by_cases h : 83 ∈ L
    · simp [h]
    · by_cases hc : c = 83
      · subst hc; simp [h, wo]
      · have : (wo n (c : Int)).step = n.step := by
          unfold wo
          repeat' split
          all_goals first | rfl | omega
        simp [h, this, Ne.symm hc]
theorem fold_undo : ∀ (L : List Nat) (n : Nt), (L.foldl (fun m (c : Nat) => wo m (c : Int)) n).undo = if 85 ∈ L then false else n.undo
  | [], n => by simp
  | c :: L, n => by
    rw [List.foldl_cons, fold_undo L]
    by_cases h : 85 ∈ L
    · simp [h]
    · by_cases hc : c = 85
      · subst hc; simp [h, wo]
      · have : (wo n (c : Int)).undo = n.undo := by
          unfold wo
          repeat' split
          all_goals first | rfl | omega
        simp [h, this, Ne.symm hc]
theorem fold_code : ∀ (L : List Nat) (n : Nt), (L.foldl (fun m (c : Nat) => wo m (c : Int)) n).code = if 67 ∈ L then 0 else n.code
  | [], n => by simp
  | c :: L, n => by
    rw [List.foldl_cons, fold_code L]
    by_cases h : 67 ∈ L
    · simp [h]
    · by_cases hc : c = 67
      · subst hc; simp [h, wo]
      · have : (wo n (c : Int)).code = n.code := by
          unfold wo
          repeat' split
          all_goals first | rfl | omega
        simp [h, this, Ne.symm hc]
theorem fold_key : ∀ (L : List Nat) (n : Nt), (L.foldl (fun m (c : Nat) => wo m (c : Int)) n).key = if 75 ∈ L then [] else n.key
  | [], n => by simp
  | c :: L, n => by
    rw [List.foldl_cons, fold_key L]
    by_cases h : 75 ∈ L
    · simp [h]
    · by_cases hc : c = 75
      · subst hc; simp [h, wo]
      · have : (wo n (c : Int)).key = n.key := by
          unfold wo
          repeat' split
          all_goals first | rfl | omega
        simp [h, this, Ne.symm hc]
theorem fold_data : ∀ (L : List Nat) (n : Nt), (L.foldl (fun m (c : Nat) => wo m (c : Int)) n).data = if 68 ∈ L then [] else n.data
  | [], n => by simp
  | c :: L, n => by
    rw [List.foldl_cons, fold_data L]
    by_cases h : 68 ∈ L
    · simp [h]
    · by_cases hc : c = 68
      · subst hc; simp [h, wo]
      · have : (wo n (c : Int)).data = n.data := by
          unfold wo
          repeat' split
          all_goals first | rfl | omega
        simp [h, this, Ne.symm hc]
end
theorem toNat_pos32 (x : BitVec 32) : 0 < (x.toNat : Int) ↔ x ≠ 0#32 := by
  constructor
  · intro h e; subst e; simp at h
  · intro h
    have : x.toNat ≠ 0 := fun e => h (BitVec.eq_of_toNat_eq (by simpa using e))
    omega
theorem toNat_pos64 (x : BitVec 64) : 0 < (x.toNat : Int) ↔ x ≠ 0#64 := by
  constructor
  · intro h e; subst e; simp at h
  · intro h
    have : x.toNat ≠ 0 := fun e => h (BitVec.eq_of_toNat_eq (by simpa using e))
    omega
theorem more_iff (n : Nt) : moreB (rest n) = true ↔ ∃ b ∈ allP, zeroP n b = false ∧ b ∉ nb n.kind := by
  have e : rest n = (nm n.kind).foldl (fun m (c : Nat) => wo m (c : Int)) n := by
    unfold rest restTo; rw [List.take_length]
  have h1 := fold_epoch (nm n.kind) n
  have h2 := fold_old (nm n.kind) n
  have h3 := fold_lsn (nm n.kind) n
  have h4 := fold_tick (nm n.kind) n
  have h5 := fold_order (nm n.kind) n
  have h6 := fold_step (nm n.kind) n
  have h7 := fold_undo (nm n.kind) n
  have h8 := fold_code (nm n.kind) n
  have h9 := fold_key (nm n.kind) n
  have h10 := fold_data (nm n.kind) n
  rw [← e] at h1 h2 h3 h4 h5 h6 h7 h8 h9 h10
  unfold moreB
  rw [h1, h2, h3, h4, h5, h6, h7, h8, h9, h10]
  simp only [Bool.or_eq_true, decide_eq_true_eq, toNat_pos32, toNat_pos64]
  have z : ∀ b : BitVec 8, b ∉ nb n.kind ↔ b.toNat ∉ nm n.kind := fun b => not_congr (nb_mem _ _)
  simp only [allP, List.mem_cons, List.not_mem_nil, or_false, exists_eq_or_imp, exists_eq_left, z]
  have g1 : zeroP n 69#8 = decide (n.epoch = 0#32) := rfl
  have g2 : zeroP n 80#8 = decide (n.old = 0#32) := rfl
  have g3 : zeroP n 76#8 = decide (n.lsn = 0#64) := rfl
  have g4 : zeroP n 84#8 = decide (n.tick = 0#64) := rfl
  have g5 : zeroP n 79#8 = decide (n.order = 0#32) := rfl
  have g6 : zeroP n 83#8 = decide (n.step = 0) := rfl
  have g7 : zeroP n 85#8 = !n.undo := rfl
  have g8 : zeroP n 67#8 = decide (n.code = 0) := rfl
  have g9 : zeroP n 75#8 = decide ((n.key.length : Int) = 0) := rfl
  have g10 : zeroP n 68#8 = decide ((n.data.length : Int) = 0) := rfl
  rw [g1, g2, g3, g4, g5, g6, g7, g8, g9, g10]
  have q : ∀ {α : Type} [DecidableEq α] (p : Prop) [Decidable p] (x y : α), ((if p then y else x) ≠ y) ↔ (decide (x = y) = false ∧ ¬ p) := fun p _ x y => by
    by_cases hp : p <;> simp [hp]
  have q2 : ∀ (p : Prop) [Decidable p] (x : Bool), ((if p then false else x) = true) ↔ ((!x) = false ∧ ¬ p) := fun p _ x => by
    by_cases hp : p <;> simp [hp]
  have q3 : ∀ (p : Prop) [Decidable p] (x : List (BitVec 8)), (0 < ((if p then [] else x).length : Int)) ↔ (decide ((x.length : Int) = 0) = false ∧ ¬ p) := fun p _ x => by
    by_cases hp : p
    · simp [hp]
    · rw [if_neg hp]
      simp only [decide_eq_false_iff_not, hp, not_false_eq_true, and_true]
      omega
  rw [q, q, q, q, q, q, q2, q, q3, q3]
  exact Iff.rfl
theorem ite_len {p : Prop} [Decidable p] {a b : List Nat} (h : a.length ≤ 6) (k : b.length ≤ 6) : (if p then a else b).length ≤ 6 := by
  split <;> assumption
theorem nb_len (k : Int) : (nb k).length ≤ 6 := by
  unfold nb nm
  rw [List.length_map]
  repeat (first | exact Nat.le_refl _ | exact Nat.zero_le _ | refine ite_len (by decide) ?_)
theorem names_cell {k : Int} (h0 : 1 ≤ k) (h1 : k ≤ 13) : ([.string ⟨#[]⟩, .string ⟨#[69, 80, 76, 68]⟩, .string ⟨#[69, 76]⟩, .string ⟨#[69, 76]⟩, .string ⟨#[69, 67]⟩, .string ⟨#[69, 84, 67]⟩, .string ⟨#[69, 67]⟩, .string ⟨#[69, 79, 83, 85, 68]⟩, .string ⟨#[69, 79, 83, 85, 67, 68]⟩, .string ⟨#[69, 79, 83, 85]⟩, .string ⟨#[75, 68]⟩, .string ⟨#[75]⟩, .string ⟨#[75]⟩, .string ⟨#[79, 67, 75, 68]⟩] : List Value)[k.toNat]? = some (.string (nmS k)) := by
  have h : k = 1 ∨ k = 2 ∨ k = 3 ∨ k = 4 ∨ k = 5 ∨ k = 6 ∨ k = 7 ∨ k = 8 ∨ k = 9 ∨ k = 10 ∨ k = 11 ∨ k = 12 ∨ k = 13 := by omega
  rcases h with rfl | rfl | rfl | rfl | rfl | rfl | rfl | rfl | rfl | rfl | rfl | rfl | rfl <;> rfl
theorem names_no {k : Int} (h : ¬ (1 ≤ k ∧ k ≤ 13)) : nmS k = ⟨#[]⟩ := by
  rw [nmS_empty]
  unfold nm
  rw [if_neg (by omega), if_neg (by omega), if_neg (by omega), if_neg (by omega), if_neg (by omega), if_neg (by omega), if_neg (by omega), if_neg (by omega), if_neg (by omega), if_neg (by omega), if_neg (by omega), if_neg (by omega), if_neg (by omega)]
/-- the document's check -/
def refBad (n : Nt) : Bool := decide (nm n.kind = []) || (farB n || (decide (∃ b ∈ allP, zeroP n b = false ∧ b ∉ nb n.kind) || (decide (10 ≤ n.kind) && (decide (n.kind ≤ 12) && decide ((n.key.length : Int) = 0)))))
theorem refBad_eq (n : Nt) : refBad n = noteBad n := by
  have h : decide (∃ b ∈ allP, zeroP n b = false ∧ b ∉ nb n.kind) = moreB (rest n) := by
    rw [Bool.eq_iff_iff, decide_eq_true_eq]
    exact (more_iff n).symm
  unfold refBad noteBad
  rw [h]
  cases decide (nm n.kind = []) <;> cases farB n <;> cases moreB (rest n) <;> rfl
/-- a part, as the document's field -/
def partV (n : Nt) (vk vd : Value) (b : BitVec 8) : List Value :=
  if b = 69#8 then [.int .i64 4, .int .u64 (n.epoch.setWidth 64).toNat, .slice none 0 0] else if b = 80#8 then [.int .i64 4, .int .u64 (n.old.setWidth 64).toNat, .slice none 0 0]
  else if b = 76#8 then [.int .i64 8, .int .u64 n.lsn.toNat, .slice none 0 0] else if b = 84#8 then [.int .i64 8, .int .u64 n.tick.toNat, .slice none 0 0]
  else if b = 79#8 then [.int .i64 4, .int .u64 (n.order.setWidth 64).toNat, .slice none 0 0] else if b = 83#8 then [.int .i64 1, .int .u64 (BitVec.ofInt 64 n.step).toNat, .slice none 0 0]
  else if b = 85#8 then [.int .i64 1, .int .u64 (if n.undo then 1 else 0), .slice none 0 0] else if b = 67#8 then [.int .i64 1, .int .u64 (BitVec.ofInt 64 n.code).toNat, .slice none 0 0]
  else if b = 75#8 then [.int .i64 0, .int .u64 0, vk] else [.int .i64 0, .int .u64 0, vd]
theorem partV_len (n : Nt) (vk vd : Value) (b : BitVec 8) : (partV n vk vd b).length = 3 := by
  unfold partV
  repeat' split
  all_goals rfl
theorem partV_one (n : Nt) (vk vd : Value) (b : BitVec 8) (h1 : vk.oneCell' = true) (h2 : vd.oneCell' = true) : ∀ u ∈ partV n vk vd b, u.oneCell' = true := by
  have key : ∀ x y z : Value, x.oneCell' = true → y.oneCell' = true → z.oneCell' = true → ∀ u ∈ [x, y, z], u.oneCell' = true := by
    intro x y z hx hy hz u hu
    simp only [List.mem_cons, List.not_mem_nil, or_false] at hu
    rcases hu with rfl | rfl | rfl <;> assumption
  unfold partV
  repeat' split
  all_goals first | exact key _ _ _ rfl rfl rfl | exact key _ _ _ rfl rfl h1 | exact key _ _ _ rfl rfl h2
theorem rtake {n : Nt} {L : List (BitVec 8)} {i : Nat} (hlt : i < L.length) (h : ∀ b ∈ L.take i, zeroP n b = true ∨ b ∈ nb n.kind) (h2 : zeroP n L[i] = true ∨ L[i] ∈ nb n.kind) : ∀ b ∈ L.take (i + 1), zeroP n b = true ∨ b ∈ nb n.kind := by
  rw [List.take_succ_eq_append_getElem hlt]
  intro b hb
  rcases List.mem_append.1 hb with hb | hb
  · exact h b hb
  · rw [List.mem_singleton.1 hb]; exact h2
section
variable {n : Nt}
theorem ref_bad1 (h : (decide (nm n.kind = []) || farB n) = true) : refBad n = true := by
  unfold refBad
  rw [Bool.or_eq_true] at h ⊢
  rcases h with h | h
  · exact .inl h
  · exact .inr (by rw [h]; rfl)
theorem ref_bad2 {b : BitVec 8} (hb : b ∈ allP) (h : zeroP n b = false) (h2 : b ∉ nb n.kind) : refBad n = true := by
  unfold refBad
  rw [decide_eq_true (show ∃ b ∈ allP, zeroP n b = false ∧ b ∉ nb n.kind from ⟨b, hb, h, h2⟩)]
  simp
theorem ref_bad3 (h : (decide (10 ≤ n.kind) && (decide (n.kind ≤ 12) && decide ((n.key.length : Int) = 0))) = true) : refBad n = true := by
  unfold refBad
  rw [h]
  simp
theorem ref_ok (h : (decide (nm n.kind = []) || farB n) = false) (h2 : ∀ b ∈ allP, zeroP n b = true ∨ b ∈ nb n.kind) (h3 : (decide (10 ≤ n.kind) && (decide (n.kind ≤ 12) && decide ((n.key.length : Int) = 0))) = false) : ¬ refBad n = true := by
  unfold refBad
  rw [Bool.or_eq_false_iff] at h
  rw [h.1, h.2, h3, decide_eq_false (by
    rintro ⟨b, hb, h4, h5⟩
    rcases h2 b hb with h6 | h6
    · rw [h4] at h6; cases h6
    · exact h5 h6)]
  decide
end
end Go.SL
