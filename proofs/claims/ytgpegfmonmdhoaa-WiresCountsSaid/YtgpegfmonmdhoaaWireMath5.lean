/-
  The plain wires, continued: the same letters; WiresCounts.
-/
import Derived.Test.YtgpegfmonmdhoaaWireMath4
set_option linter.unusedVariables false
set_option linter.unusedSimpArgs false
namespace Go.SL

def sameN (a b : Nt) : Bool := decide (a.kind = b.kind) && (decide (a.epoch = b.epoch) && (decide (a.old = b.old) && (decide (a.lsn = b.lsn) && (decide (a.tick = b.tick) && (decide (a.order = b.order) && (decide (a.step = b.step) && ((a.undo == b.undo) && (decide (a.code = b.code) && (decide (str a.key = str b.key) && decide (str a.data = str b.data))))))))))
def sameL (a b : Lt) : Bool := decide (a.f = b.f) && (decide (a.t = b.t) && sameN a.n b.n)
theorem sameL_refl (a : Lt) : sameL a a = true := by simp [sameL, sameN]

/-- what the law knows behind i acts -/
structure CI (i : Nat) (W : Wn) (a b : Int) (sn : List Lt) (cm : List Bool) : Prop where
  n4 : W.n = 4
  inv : WInv W
  cnt : a - b = W.ls.length
  la : 0 ≤ a ∧ a ≤ i
  lb : 0 ≤ b ∧ b ≤ i
  sl : sn.length ≤ i
  sub : ∀ L ∈ W.ls, L ∈ sn
  cl : cm.length = 16
  cuts : ∀ f t : Nat, f < 4 → t < 4 → (W.cut.getD (f * 6 + t) 0 = 0 ↔ cm.getD (f * 4 + t) false = false)
variable {i : Nat} {W : Wn} {a b : Int} {sn : List Lt} {cm : List Bool}
theorem CI.same (h : CI i W a b sn cm) : CI (i + 1) W a b sn cm := ⟨h.n4, h.inv, h.cnt, by have := h.la; omega, by have := h.lb; omega, by have := h.sl; omega, h.sub, h.cl, h.cuts⟩
theorem CI.sendNo (h : CI i W a b sn cm) {L : Lt} (e : ¬ sendE W L = 0) : CI (i + 1) (sendW W L) a b sn cm := by
  have : sendW W L = W := by unfold sendW; rw [if_neg (fun x => e x.1)]
  rw [this]; exact h.same
theorem CI.bounds (h : CI i W a b sn cm) {L : Lt} (e : sendE W L = 0) : 0 ≤ L.f ∧ L.f < 4 ∧ 0 ≤ L.t ∧ L.t < 4 := by
  obtain ⟨h1, h2, _⟩ := sendE_zero e
  rw [isNode_iff, h.n4] at h1 h2
  omega
theorem CI.open_iff (h : CI i W a b sn cm) {L : Lt} (hf : 0 ≤ L.f ∧ L.f < 4) (ht : 0 ≤ L.t ∧ L.t < 4) : openB W L = !(cm.getD (L.f.toNat * 4 + L.t.toNat) false) := by
  have := h.cuts L.f.toNat L.t.toNat (by omega) (by omega)
  unfold openB cutAt
  cases hc : cm.getD (L.f.toNat * 4 + L.t.toNat) false with
  | false => rw [hc] at this; simpa using this.2 rfl
  | true => rw [hc] at this; simpa using this
theorem CI.sendOpen (h : CI i W a b sn cm) {L : Lt} (e : sendE W L = 0) (ho : openB W L = true) : CI (i + 1) (sendW W L) (a + 1) b (sn ++ [L]) cm := by
  have hi := h.inv.send L
  have : sendW W L = { W with ls := W.ls ++ [L] } := by unfold sendW; rw [if_pos ⟨e, ho⟩]
  rw [this] at hi ⊢
  refine ⟨h.n4, hi, ?_, ?_, ?_, ?_, ?_, h.cl, h.cuts⟩
  · have := h.cnt; simp; omega
  · have := h.la; omega
  · have := h.lb; omega
  · have := h.sl; simp; omega
  · intro M hM
    rcases List.mem_append.1 hM with hM | hM
    · exact List.mem_append_left _ (h.sub M hM)
    · exact List.mem_append_right _ hM
theorem CI.sendShut (h : CI i W a b sn cm) {L : Lt} (ho : openB W L = false) : CI (i + 1) (sendW W L) a b sn cm := by
  have : sendW W L = W := by unfold sendW; rw [if_neg (fun x => by rw [ho] at x; cases x.2)]
  rw [this]; exact h.same
theorem there_lt {k : Int} (h : thereB W k = true) : k.toNat < W.ls.length := by
  simp only [thereB, Bool.and_eq_true, decide_eq_true_eq] at h
  omega
theorem CI.out (h : CI i W a b sn cm) {k : Int} (ht : thereB W k = true) : CI (i + 1) (outW W k) a (b + 1) sn cm ∧ ((outW W k).ls.length : Int) = W.ls.length - 1 := by
  have hi := h.inv.out k
  have hlt := there_lt ht
  have e : outW W k = { W with ls := W.ls.eraseIdx k.toNat } := by unfold outW; rw [if_pos ht]
  rw [e] at hi ⊢
  have hl : (W.ls.eraseIdx k.toNat).length = W.ls.length - 1 := List.length_eraseIdx_of_lt hlt
  refine ⟨⟨h.n4, hi, ?_, ?_, ?_, ?_, fun M hM => h.sub M (List.mem_of_mem_eraseIdx hM), h.cl, h.cuts⟩, ?_⟩
  · have := h.cnt
    show a - (b + 1) = ((W.ls.eraseIdx k.toNat).length : Int)
    omega
  · have := h.la; omega
  · have := h.lb; omega
  · have := h.sl; omega
  · show ((W.ls.eraseIdx k.toNat).length : Int) = _
    omega
theorem CI.outNo (h : CI i W a b sn cm) {k : Int} (ht : thereB W k = false) : CI (i + 1) (outW W k) a b sn cm ∧ outW W k = W := by
  have e : outW W k = W := by unfold outW; rw [ht]; rfl
  rw [e]; exact ⟨h.same, rfl⟩
theorem CI.copy (h : CI i W a b sn cm) {k : Int} (hc : copyB W k = true) : CI (i + 1) (copyW W k) (a + 1) b sn cm := by
  have hi := h.inv.copy k
  have e : copyW W k = { W with ls := W.ls ++ [atW W k] } := by unfold copyW; rw [if_pos hc]
  rw [e] at hi ⊢
  have ht : thereB W k = true := by simp only [copyB, Bool.and_eq_true] at hc; exact hc.1
  refine ⟨h.n4, hi, ?_, ?_, ?_, ?_, ?_, h.cl, h.cuts⟩
  · have := h.cnt; simp; omega
  · have := h.la; omega
  · have := h.lb; omega
  · have := h.sl; omega
  · intro M hM
    rcases List.mem_append.1 hM with hM | hM
    · exact h.sub M hM
    · rw [List.mem_singleton.1 hM]; exact h.sub _ (atW_mem ht)
theorem CI.copyNo (h : CI i W a b sn cm) {k : Int} (hc : copyB W k = false) : CI (i + 1) (copyW W k) a b sn cm := by
  have e : copyW W k = W := by unfold copyW; rw [hc]; rfl
  rw [e]; exact h.same
theorem CI.late (h : CI i W a b sn cm) (k : Int) : CI (i + 1) (lateW W k) a b sn cm := by
  have hi := h.inv.late k
  cases ht : thereB W k with
  | false =>
    have e : lateW W k = W := by unfold lateW; rw [ht]; rfl
    rw [e]; exact h.same
  | true =>
    have hlt := there_lt ht
    have e : lateW W k = { W with ls := W.ls.eraseIdx k.toNat ++ [atW W k] } := by unfold lateW; rw [if_pos ht]
    rw [e] at hi ⊢
    refine ⟨h.n4, hi, ?_, ?_, ?_, ?_, ?_, h.cl, h.cuts⟩
    · have := h.cnt
      have hl : (W.ls.eraseIdx k.toNat).length = W.ls.length - 1 := List.length_eraseIdx_of_lt hlt
      simp only [List.length_append, hl, List.length_singleton]
      omega
    · have := h.la; omega
    · have := h.lb; omega
    · have := h.sl; omega
    · intro M hM
      rcases List.mem_append.1 hM with hM | hM
      · exact h.sub M (List.mem_of_mem_eraseIdx hM)
      · rw [List.mem_singleton.1 hM]; exact h.sub _ (atW_mem ht)
theorem CI.cutNo (h : CI i W a b sn cm) {f t : Int} {o : Bool} (e : ¬ cutE W f t = 0) : CI (i + 1) (cutW W f t o) a b sn cm := by
  have e2 : cutW W f t o = W := by unfold cutW; rw [if_neg e]
  rw [e2]; exact h.same
theorem CI.cutB (h : CI i W a b sn cm) {f t : Int} (e : cutE W f t = 0) : 0 ≤ f ∧ f < 4 ∧ 0 ≤ t ∧ t < 4 := by
  unfold cutE at e
  split at e
  · cases e
  · rename_i hc
    have h1 : isNode W f = true := by
      cases h1 : isNode W f with
      | true => rfl
      | false => exact absurd (.inl h1) hc
    have h2 : isNode W t = true := by
      cases h2 : isNode W t with
      | true => rfl
      | false => exact absurd (.inr h2) hc
    rw [isNode_iff, h.n4] at h1 h2
    omega
theorem CI.cut (h : CI i W a b sn cm) {f t : Int} {o : Bool} (e : cutE W f t = 0) : CI (i + 1) (cutW W f t o) a b sn (cm.set (f.toNat * 4 + t.toNat) o) := by
  have hi := h.inv.cut' f t o
  have hb := h.cutB e
  have e2 : cutW W f t o = { W with cut := W.cut.set (f.toNat * 6 + t.toNat) (if o then 1 else 0) } := by unfold cutW; rw [if_pos e]
  rw [e2] at hi ⊢
  refine ⟨h.n4, hi, h.cnt, ?_, ?_, ?_, h.sub, by simp [h.cl], ?_⟩
  · have := h.la; omega
  · have := h.lb; omega
  · have := h.sl; omega
  · intro f' t' hf' ht'
    have hc := h.inv.cut
    have h0 := h.cuts f' t' hf' ht'
    simp only [List.getD, List.getElem?_set] at h0 ⊢
    by_cases he : f.toNat = f' ∧ t.toNat = t'
    · obtain ⟨rfl, rfl⟩ := he
      simp only [if_true, show f.toNat * 6 + t.toNat < W.cut.length by omega, show f.toNat * 4 + t.toNat < cm.length by rw [h.cl]; omega]
      cases o <;> simp
    · rw [if_neg (by omega), if_neg (by omega)]
      exact h0
theorem CI.pick (h : CI i W a b sn cm) {k : Int} (hp : pickB W k = true) : pickL W k ∈ sn ∧ (0 ≤ (pickL W k).f ∧ (pickL W k).f < 4) ∧ (0 ≤ (pickL W k).t ∧ (pickL W k).t < 4) ∧ cm.getD ((pickL W k).f.toNat * 4 + (pickL W k).t.toNat) false = false := by
  have e : pickL W k = atW W k := by unfold pickL; rw [if_pos hp]
  have hp' := hp
  simp only [pickB, Bool.and_eq_true] at hp'
  have hm := atW_mem hp'.1
  have hw := h.inv.way _ hm
  have h4 := h.n4
  rw [e]
  refine ⟨h.sub _ hm, by omega, by omega, ?_⟩
  have ho := h.open_iff (L := atW W k) (by omega) (by omega)
  rw [hp'.2] at ho
  simpa using ho.symm
theorem CI.sendZ (h : CI i W a b sn cm) {L : Lt} (hz : (decide (sendE W L = 0) && !(cm.getD (L.f.toNat * 4 + L.t.toNat) false)) = true) : CI (i + 1) (sendW W L) (a + 1) b (sn ++ [L]) cm := by
  simp only [Bool.and_eq_true, decide_eq_true_eq] at hz
  have hb := h.bounds hz.1
  exact h.sendOpen hz.1 (by rw [h.open_iff (by omega) (by omega)]; exact hz.2)
theorem CI.sendN (h : CI i W a b sn cm) {L : Lt} (hz : (decide (sendE W L = 0) && !(cm.getD (L.f.toNat * 4 + L.t.toNat) false)) = false) : CI (i + 1) (sendW W L) a b sn cm := by
  by_cases he : sendE W L = 0
  · have hb := h.bounds he
    rw [he] at hz
    exact h.sendShut (by rw [h.open_iff (by omega) (by omega)]; simpa using hz)
  · exact h.sendNo he
theorem CI.pickYes (h : CI i W a b sn cm) {k : Int} (hn : (W.ls.length : Int) ≠ (outW W k).ls.length) : CI (i + 1) (outW W k) a (b + 1) sn cm := by
  cases ht : thereB W k with
  | true => exact (h.out ht).1
  | false => exact absurd (by rw [(h.outNo ht).2]) hn
theorem CI.pickNo (h : CI i W a b sn cm) {k : Int} (hn : ¬ (W.ls.length : Int) ≠ (outW W k).ls.length) : CI (i + 1) (outW W k) a b sn cm := by
  cases ht : thereB W k with
  | true => exact absurd (fun e => by have := (h.out ht).2; omega) hn
  | false => exact (h.outNo ht).1
theorem CI.start (h : WInv W) (hn : W.n = 4) (hl : W.ls = []) (hc : W.cut = List.replicate 36 0) : CI 0 W 0 0 [] (List.replicate 16 false) := by
  refine ⟨hn, h, by rw [hl]; rfl, by omega, by omega, by simp, by rw [hl]; simp, by simp, ?_⟩
  intro f t hf ht
  rw [hc]
  have e1 : ∀ k, (List.replicate 36 (0 : Int)).getD k 0 = 0 := fun k => by simp only [List.getD, List.getElem?_replicate]; split <;> rfl
  have e2 : ∀ k, (List.replicate 16 false).getD k false = false := fun k => by simp only [List.getD, List.getElem?_replicate]; split <;> rfl
  rw [e1, e2]
  exact ⟨fun _ => rfl, fun _ => rfl⟩
theorem any_same {sn : List Lt} {L : Lt} (h : L ∈ sn) : (sn.any fun M => sameL M L) = true := List.any_eq_true.2 ⟨L, h, sameL_refl L⟩

end Go.SL
