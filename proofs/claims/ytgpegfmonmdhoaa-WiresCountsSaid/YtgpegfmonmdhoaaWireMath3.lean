/-
  The plain wires, continued: WiresFull, WiresCut.
-/
import Derived.Test.YtgpegfmonmdhoaaWireMath2
set_option linter.unusedVariables false
set_option linter.unusedSimpArgs false
namespace Go.SL

/-! ### WiresFull -/
def fullL (i : Nat) : List Lt := (List.range i).map fun (j : Nat) => ackL ((j : Int) % 3) (((j : Int) + 1) % 3) (BitVec.ofInt 64 (j : Int))
theorem fullL_next (i : Nat) : fullL (i + 1) = fullL i ++ [ackL ((i : Int) % 3) (((i : Int) + 1) % 3) (BitVec.ofInt 64 (i : Int))] := by simp [fullL, List.range_succ]
theorem fullL_len (i : Nat) : (fullL i).length = i := by simp [fullL]
theorem sendE_full {W : Wn} {f t : Int} {x : BitVec 64} (h : 200 ≤ W.ls.length) (hf : isNode W f = true) (ht : isNode W t = true) : sendE W (ackL f t x) = 5 ∧ sendW W (ackL f t x) = W := by
  have e : sendE W (ackL f t x) = 5 := by
    unfold sendE
    rw [if_neg (by
      rintro (h1 | h1 | h1)
      · rw [show (ackL f t x).f = f from rfl, hf] at h1; cases h1
      · rw [show (ackL f t x).t = t from rfl, ht] at h1; cases h1
      · rw [noteBad_ack] at h1; cases h1), if_pos (by omega)]
  refine ⟨e, ?_⟩
  unfold sendW
  rw [if_neg (by rw [e]; rintro ⟨h1, _⟩; cases h1)]
theorem copy_full {W : Wn} {k : Int} (h : 200 ≤ W.ls.length) : copyB W k = false ∧ copyW W k = W := by
  have e : copyB W k = false := by
    unfold copyB
    rw [Bool.and_eq_false_iff]
    right
    simpa using by omega
  exact ⟨e, by simp [copyW, e]⟩
theorem out_len {W : Wn} {k : Nat} (h : k < W.ls.length) : (outW W (k : Int)).ls.length = W.ls.length - 1 ∧ (outW W (k : Int)).n = W.n := by
  have ht : thereB W (k : Int) = true := by simp [thereB, h]
  unfold outW
  rw [if_pos ht]
  exact ⟨List.length_eraseIdx_of_lt h, rfl⟩
theorem copy_room {W : Wn} (h : W.ls.length < 200) (h0 : 0 < W.ls.length) : copyB W 0 = true ∧ (copyW W 0).ls.length = W.ls.length + 1 ∧ (copyW W 0).n = W.n := by
  have e : copyB W 0 = true := by simp [copyB, thereB, h0]; omega
  refine ⟨e, ?_⟩
  unfold copyW
  rw [if_pos e]
  exact ⟨by simp, rfl⟩

/-! ### WiresCut -/
def pairL (i : Nat) : List Lt := (List.range i).flatMap fun (j : Nat) => [ackL 0 1 (BitVec.ofInt 64 (j : Int)), ackL 1 0 (BitVec.ofInt 64 (j : Int))]
theorem pairL_next (i : Nat) : pairL (i + 1) = pairL i ++ [ackL 0 1 (BitVec.ofInt 64 (i : Int))] ++ [ackL 1 0 (BitVec.ofInt 64 (i : Int))] := by simp [pairL, List.range_succ]
theorem pairL_len (i : Nat) : (pairL i).length = 2 * i := by
  induction i with
  | zero => rfl
  | succ i ih => rw [pairL_next]; simp [ih]; omega
def cutL (k : Nat) : List Lt := pairL k ++ [ackL 0 2 98#64]
theorem cutL_len (k : Nat) : (cutL k).length = 2 * k + 1 := by simp [cutL, pairL_len]
def way01 (L : Lt) : Bool := decide (L.f = 0) && decide (L.t = 1)
def cnt01 (l : List Lt) : Nat := l.countP way01
theorem cnt_pair (k : Nat) : cnt01 (pairL k) = k := by
  induction k with
  | zero => rfl
  | succ k ih =>
    rw [pairL_next]
    simp only [cnt01] at *
    rw [List.countP_append, List.countP_append, ih]
    rfl
theorem cnt_cutL (k : Nat) : cnt01 (cutL k) = k := by
  have := cnt_pair k
  simp only [cutL, cnt01, List.countP_append] at *
  rw [this]
  rfl
/-- the cuts behind the law's: the way is opened again, or not -/
def cutV (b : Bool) : List Int := if b then List.replicate 36 0 else (List.replicate 36 0).set 1 1
theorem cutL_mem {k : Nat} {L : Lt} (h : L ∈ cutL k) : (L.f = 0 ∧ L.t = 1) ∨ (L.f = 1 ∧ L.t = 0) ∨ (L.f = 0 ∧ L.t = 2) := by
  simp only [cutL, pairL, List.mem_append, List.mem_flatMap, List.mem_singleton, List.mem_cons, List.not_mem_nil, or_false] at h
  rcases h with ⟨j, _, rfl | rfl⟩ | rfl
  · exact .inl ⟨rfl, rfl⟩
  · exact .inr (.inl ⟨rfl, rfl⟩)
  · exact .inr (.inr ⟨rfl, rfl⟩)
theorem open_cut (n : Int) (ls : List Lt) (b : Bool) (L : Lt) (h : (L.f = 0 ∧ L.t = 1) ∨ (L.f = 1 ∧ L.t = 0) ∨ (L.f = 0 ∧ L.t = 2)) : openB (netW n ls (cutV b)) L = (b || !way01 L) := by
  unfold openB cutAt way01 netW cutV
  rcases h with ⟨h1, h2⟩ | ⟨h1, h2⟩ | ⟨h1, h2⟩ <;> rw [h1, h2] <;> cases b <;> rfl
theorem pick_gen {n : Int} {L : Lt} {ls : List Lt} {cut : List Int} : pickB (netW n (L :: ls) cut) 0 = openB (netW n (L :: ls) cut) L ∧ pickL (netW n (L :: ls) cut) 0 = (if openB (netW n (L :: ls) cut) L then L else zeroL) ∧ outW (netW n (L :: ls) cut) 0 = netW n ls cut := by
  have ht : thereB (netW n (L :: ls) cut) 0 = true := by simp [thereB, netW]
  have hp : pickB (netW n (L :: ls) cut) 0 = openB (netW n (L :: ls) cut) L := by
    unfold pickB
    rw [ht]
    rfl
  refine ⟨hp, ?_, ?_⟩
  · unfold pickL; rw [hp]; rfl
  · unfold outW; rw [if_pos ht]; rfl
/-- one round of the law -/
theorem cut_round {k i : Nat} (b : Bool) (hi : i < 2 * k + 1) : ∃ L, (cutL k).drop i = L :: (cutL k).drop (i + 1) ∧ cnt01 ((cutL k).take (i + 1)) = cnt01 ((cutL k).take i) + (if way01 L then 1 else 0) ∧
    ((way01 L = true ∧ b = true ∧ L.f = 0 ∧ L.t = 1) ∨ (way01 L = true ∧ b = false) ∨ (way01 L = false ∧ L.f = 1) ∨ (way01 L = false ∧ L.f = 0 ∧ L.t = 2)) ∧ pickB (netW 3 (L :: (cutL k).drop (i + 1)) (cutV b)) 0 = (b || !way01 L) ∧
    pickL (netW 3 (L :: (cutL k).drop (i + 1)) (cutV b)) 0 = (if (b || !way01 L) then L else zeroL) ∧ outW (netW 3 (L :: (cutL k).drop (i + 1)) (cutV b)) 0 = netW 3 ((cutL k).drop (i + 1)) (cutV b) := by
  have hl : i < (cutL k).length := by rw [cutL_len]; exact hi
  have hm := cutL_mem (List.getElem_mem hl)
  refine ⟨(cutL k)[i], List.drop_eq_getElem_cons hl, ?_, ?_, ?_⟩
  · rw [List.take_succ_eq_append_getElem hl]
    simp only [cnt01, List.countP_append]
    congr 1
    simp [List.countP_cons]
  · rcases hm with ⟨h1, h2⟩ | ⟨h1, h2⟩ | ⟨h1, h2⟩
    · have e : way01 (cutL k)[i] = true := by simp [way01, h1, h2]
      cases b with
      | true => exact .inl ⟨e, rfl, h1, h2⟩
      | false => exact .inr (.inl ⟨e, rfl⟩)
    · exact .inr (.inr (.inl ⟨by simp [way01, h1], h1⟩))
    · exact .inr (.inr (.inr ⟨by simp [way01, h2], h1, h2⟩))
  · obtain ⟨h1, h2, h3⟩ := pick_gen (n := 3) (L := (cutL k)[i]) (ls := (cutL k).drop (i + 1)) (cut := cutV b)
    rw [open_cut _ _ _ _ hm] at h1 h2
    exact ⟨h1, h2, h3⟩
theorem cut_first (ls : List Lt) : cutW (netW 3 ls (List.replicate 36 0)) 0 1 true = netW 3 ls (cutV false) := rfl
theorem cut_again (ls : List Lt) : cutW (netW 3 ls (cutV false)) 0 1 false = netW 3 ls (cutV true) := rfl
theorem send_shut {ls : List Lt} (x : BitVec 64) (hl : ls.length < 200) : sendE (netW 3 ls (cutV false)) (ackL 0 1 x) = 0 ∧ sendW (netW 3 ls (cutV false)) (ackL 0 1 x) = netW 3 ls (cutV false) := by
  have e : sendE (netW 3 ls (cutV false)) (ackL 0 1 x) = 0 := sendE_ok (isNode_iff.2 (show (0 : Int) ≤ 0 ∧ (0 : Int) < 3 by decide)) (isNode_iff.2 (show (0 : Int) ≤ 1 ∧ (1 : Int) < 3 by decide)) (noteBad_ack _ _ _) hl
  refine ⟨e, ?_⟩
  unfold sendW
  rw [if_neg]
  rintro ⟨_, h⟩
  rw [open_cut _ _ _ _ (.inl ⟨rfl, rfl⟩)] at h
  cases h
theorem send_02 {ls : List Lt} (x : BitVec 64) (hl : ls.length < 200) : sendE (netW 3 ls (cutV false)) (ackL 0 2 x) = 0 ∧ sendW (netW 3 ls (cutV false)) (ackL 0 2 x) = netW 3 (ls ++ [ackL 0 2 x]) (cutV false) := by
  have e : sendE (netW 3 ls (cutV false)) (ackL 0 2 x) = 0 := sendE_ok (isNode_iff.2 (show (0 : Int) ≤ 0 ∧ (0 : Int) < 3 by decide)) (isNode_iff.2 (show (0 : Int) ≤ 2 ∧ (2 : Int) < 3 by decide)) (noteBad_ack _ _ _) hl
  refine ⟨e, ?_⟩
  unfold sendW
  rw [if_pos ⟨e, by rw [open_cut _ _ _ _ (.inr (.inr ⟨rfl, rfl⟩))]; rfl⟩]
  rfl

end Go.SL
