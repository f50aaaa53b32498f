/-
  The plain wires, continued: the invariant; letters in a row.
-/
import Derived.Test.YtgpegfmonmdhoaaWireMath
set_option linter.unusedVariables false
set_option linter.unusedSimpArgs false
namespace Go.SL

theorem noteBad_ack (f t : Int) (x : BitVec 64) : noteBad (ackL f t x).n = false := by
  simp [noteBad, rest, restTo, nm, ackL, wo, moreB, farB]
theorem far_small {n : Nt} (h : noteBad n = false) : n.key.length ≤ 32 ∧ n.data.length ≤ 255 := by
  simp only [noteBad, farB, Bool.or_eq_false_iff, decide_eq_false_iff_not] at h
  omega
theorem isNode_iff {W : Wn} {k : Int} : isNode W k = true ↔ 0 ≤ k ∧ k < W.n := by simp [isNode]
theorem sendE_zero {W : Wn} {L : Lt} (h : sendE W L = 0) : isNode W L.f = true ∧ isNode W L.t = true ∧ noteBad L.n = false ∧ W.ls.length < 200 := by
  unfold sendE at h
  split at h
  · cases h
  · rename_i h1
    split at h
    · cases h
    · rename_i h2
      refine ⟨?_, ?_, ?_, by omega⟩
      · cases h3 : isNode W L.f with
        | true => rfl
        | false => exact absurd (.inl h3) h1
      · cases h3 : isNode W L.t with
        | true => rfl
        | false => exact absurd (.inr (.inl h3)) h1
      · cases h3 : noteBad L.n with
        | false => rfl
        | true => exact absurd (.inr (.inr h3)) h1
theorem sendE_ok {W : Wn} {L : Lt} (h1 : isNode W L.f = true) (h2 : isNode W L.t = true) (h3 : noteBad L.n = false) (h4 : W.ls.length < 200) : sendE W L = 0 := by
  unfold sendE
  rw [if_neg (by simp [h1, h2, h3]), if_neg (by omega)]
theorem WInv.send {W : Wn} (h : WInv W) (L : Lt) : WInv (sendW W L) := by
  unfold sendW
  split
  · rename_i hc
    obtain ⟨h1, h2, h3, h4⟩ := sendE_zero hc.1
    have h5 := far_small h3
    rw [isNode_iff] at h1 h2
    refine ⟨h.n, h.cut, h.clk, by simp; omega, ?_, ?_⟩
    · intro M hM
      rcases List.mem_append.1 hM with hM | hM
      · exact h.way M hM
      · rw [List.mem_singleton.1 hM]; exact ⟨h1.1, h1.2, h2.1, h2.2⟩
    · intro M hM
      rcases List.mem_append.1 hM with hM | hM
      · exact h.small M hM
      · rw [List.mem_singleton.1 hM]; exact h5
  · exact h
theorem WInv.sub {W : Wn} (h : WInv W) {ls : List Lt} (hl : ls.length ≤ 200) (hs : ∀ L ∈ ls, L ∈ W.ls) : WInv { W with ls := ls } :=
  ⟨h.n, h.cut, h.clk, hl, fun M hM => h.way M (hs M hM), fun M hM => h.small M (hs M hM)⟩
theorem WInv.out {W : Wn} (h : WInv W) (k : Int) : WInv (outW W k) := by
  unfold outW
  split
  · refine h.sub ?_ (fun L hL => List.mem_of_mem_eraseIdx hL)
    have := List.length_eraseIdx_le W.ls k.toNat
    have := h.few
    omega
  · exact h
theorem atW_mem {W : Wn} {k : Int} (h : thereB W k = true) : atW W k ∈ W.ls := by
  simp only [thereB, Bool.and_eq_true, decide_eq_true_eq] at h
  have h2 : k.toNat < W.ls.length := by omega
  simp [atW, List.getD, h2]
theorem WInv.copy {W : Wn} (h : WInv W) (k : Int) : WInv (copyW W k) := by
  unfold copyW
  split
  · rename_i hc
    simp only [copyB, Bool.and_eq_true, decide_eq_true_eq] at hc
    refine h.sub (by simp; omega) (fun L hL => ?_)
    rcases List.mem_append.1 hL with hL | hL
    · exact hL
    · rw [List.mem_singleton.1 hL]; exact atW_mem hc.1
  · exact h
theorem WInv.late {W : Wn} (h : WInv W) (k : Int) : WInv (lateW W k) := by
  unfold lateW
  split
  · rename_i hc
    refine h.sub ?_ (fun L hL => ?_)
    · have h0 := hc
      simp only [thereB, Bool.and_eq_true, decide_eq_true_eq] at h0
      have := h.few
      rw [List.length_append, List.length_eraseIdx_of_lt (by omega)]
      simp
      omega
    · rcases List.mem_append.1 hL with hL | hL
      · exact List.mem_of_mem_eraseIdx hL
      · rw [List.mem_singleton.1 hL]; exact atW_mem hc
  · exact h
theorem WInv.cut' {W : Wn} (h : WInv W) (f t : Int) (b : Bool) : WInv (cutW W f t b) := by
  unfold cutW
  split
  · exact ⟨h.n, by simp [h.cut], h.clk, h.few, h.way, h.small⟩
  · exact h
theorem WInv.tick {W : Wn} (h : WInv W) (k : Int) : WInv (tickW W k) := by
  unfold tickW
  split
  · exact h
  · exact ⟨h.n, h.cut, by simp [h.clk], h.few, h.way, h.small⟩

/-- a net with these letters under way, and no clock that ticked -/
def netW (n : Int) (ls : List Lt) (cut : List Int) : Wn := ⟨n, ls, cut, List.replicate 6 0#64⟩
theorem thereB_net {n : Int} {ls : List Lt} {cut : List Int} {k : Nat} : thereB (netW n ls cut) (k : Int) = decide (k < ls.length) := by
  simp [thereB, netW]
theorem openB_zero (n : Int) (ls : List Lt) (clk : List (BitVec 64)) (L : Lt) : openB ⟨n, ls, List.replicate 36 0, clk⟩ L = true := by
  simp only [openB, cutAt, decide_eq_true_eq, List.getD, List.getElem?_replicate]
  split <;> rfl
theorem send_net {n : Int} {ls : List Lt} (f t : Int) (x : BitVec 64) (hf : 0 ≤ f ∧ f < n) (ht : 0 ≤ t ∧ t < n) (hl : ls.length < 200) :
    sendE (netW n ls (List.replicate 36 0)) (ackL f t x) = 0 ∧ sendW (netW n ls (List.replicate 36 0)) (ackL f t x) = netW n (ls ++ [ackL f t x]) (List.replicate 36 0) := by
  have e : sendE (netW n ls (List.replicate 36 0)) (ackL f t x) = 0 := sendE_ok (isNode_iff.2 hf) (isNode_iff.2 ht) (noteBad_ack _ _ _) hl
  refine ⟨e, ?_⟩
  unfold sendW
  rw [if_pos ⟨e, openB_zero _ _ _ _⟩]
  rfl
theorem pick_net {n : Int} {L : Lt} {ls : List Lt} : pickB (netW n (L :: ls) (List.replicate 36 0)) 0 = true ∧ pickL (netW n (L :: ls) (List.replicate 36 0)) 0 = L ∧ outW (netW n (L :: ls) (List.replicate 36 0)) 0 = netW n ls (List.replicate 36 0) := by
  have ht : thereB (netW n (L :: ls) (List.replicate 36 0)) 0 = true := by simp [thereB, netW]
  have hp : pickB (netW n (L :: ls) (List.replicate 36 0)) 0 = true := by
    unfold pickB
    rw [ht]
    exact openB_zero _ _ _ _
  refine ⟨hp, ?_, ?_⟩
  · unfold pickL; rw [if_pos hp]; rfl
  · unfold outW; rw [if_pos ht]; rfl
theorem pick_none {n : Int} {cut : List Int} (k : Int) : pickB (netW n [] cut) k = false ∧ outW (netW n [] cut) k = netW n [] cut := by
  have ht : thereB (netW n [] cut) k = false := by
    cases h : thereB (netW n [] cut) k with
    | false => rfl
    | true =>
      unfold thereB netW at h
      simp only [Bool.and_eq_true, decide_eq_true_eq] at h
      obtain ⟨h1, h2⟩ := h
      have h3 : k < 0 := h2
      omega
  refine ⟨by simp [pickB, ht], by simp [outW, ht]⟩

/-! ### WiresOrder -/
def sentL (i : Nat) : List Lt := (List.range i).map fun (j : Nat) => ackL 0 1 (BitVec.ofInt 64 (j : Int))
theorem sentL_next (i : Nat) : sentL (i + 1) = sentL i ++ [ackL 0 1 (BitVec.ofInt 64 (i : Int))] := by simp [sentL, List.range_succ]
theorem sentL_len (i : Nat) : (sentL i).length = i := by simp [sentL]
/-- where one of k comes late: which comes as the i-th -/
def wantAt (k a i : Nat) : Nat := if i + 1 = k then a else if a ≤ i then i + 1 else i
def lateL (k a : Nat) : List Lt := (sentL k).eraseIdx a ++ [ackL 0 1 (BitVec.ofInt 64 (a : Int))]
theorem lateL_len {k a : Nat} (h : a < k) : (lateL k a).length = k := by
  simp only [lateL, List.length_append, List.length_eraseIdx_of_lt (show a < (sentL k).length by rw [sentL_len]; exact h), sentL_len, List.length_singleton]
  omega
theorem lateL_drop {k a i : Nat} (h : a < k) (hi : i < k) : (lateL k a).drop i = ackL 0 1 (BitVec.ofInt 64 (wantAt k a i : Int)) :: (lateL k a).drop (i + 1) := by
  have hl := lateL_len h
  rw [List.drop_eq_getElem_cons (by omega)]
  congr 1
  have he : (lateL k a)[i]? = some (ackL 0 1 (BitVec.ofInt 64 (wantAt k a i : Int))) := by
    have hs : ((sentL k).eraseIdx a).length = k - 1 := by rw [List.length_eraseIdx_of_lt (by rw [sentL_len]; exact h), sentL_len]
    by_cases h1 : i + 1 = k
    · rw [lateL, List.getElem?_append_right (by omega), hs, show i - (k - 1) = 0 by omega]
      simp [wantAt, h1]
    · rw [lateL, List.getElem?_append_left (by omega), List.getElem?_eraseIdx]
      by_cases h2 : a ≤ i
      · rw [if_neg (by omega)]
        simp [sentL, wantAt, h1, h2, show i + 1 < k by omega]
        rw [show ((i : Int) + 1) = ((i + 1 : Nat) : Int) from rfl, BitVec.ofInt_natCast]
      · rw [if_pos (by omega)]
        simp [sentL, wantAt, h1, h2, hi]
  rw [List.getElem?_eq_getElem (by omega)] at he
  simpa using he
theorem late_net {k a : Nat} (h : a < k) : lateW (netW 2 (sentL k) (List.replicate 36 0)) (a : Int) = netW 2 (lateL k a) (List.replicate 36 0) := by
  have ht : thereB (netW 2 (sentL k) (List.replicate 36 0)) (a : Int) = true := by rw [thereB_net, sentL_len]; simpa using h
  unfold lateW
  rw [if_pos ht]
  have e : atW (netW 2 (sentL k) (List.replicate 36 0)) (a : Int) = ackL 0 1 (BitVec.ofInt 64 (a : Int)) := by
    simp [atW, netW, sentL, List.getD, h]
  rw [e]
  rfl

end Go.SL
