/-
  The plain fence: whatever order steps are kept in, the same steps make the same fence.
-/
import Derived.Test.YtonnkgblligdkaaFenceCode
import Derived.Test.YtonnkgblligdkaaFenceMath4
set_option linter.unusedVariables false
set_option linter.unusedSimpArgs false
namespace Go.SL

def st16 (cs : List Cl) (j : Nat) : Int := match cs[j]? with | some c => ((BitVec.ofInt 64 c.step % 16#64).toNat : Int) | none => 0
theorem st16_at {cs : List Cl} {j : Nat} (h : j < cs.length) : st16 cs j = ((BitVec.ofInt 64 cs[j].step % 16#64).toNat : Int) := by
  unfold st16; rw [List.getElem?_eq_getElem h]
theorem st16_lt (cs : List Cl) (j : Nat) : 0 ≤ st16 cs j ∧ st16 cs j < 16 := by
  unfold st16
  split
  · rename_i c _
    have : (BitVec.ofInt 64 c.step % 16#64).toNat < 16 := by
      rw [BitVec.toNat_umod]
      exact Nat.mod_lt _ (by decide)
    omega
  · omega
def orO (j : Nat) : BitVec 32 := 1#32 + BitVec.ofInt 32 (j : Int)
theorem orO_eq {j : Nat} (h : j < 1000) : (orO j).toNat = 1 + j := by
  unfold orO
  rw [BitVec.toNat_add, BitVec.toNat_ofInt]
  show (1 + _) % 4294967296 = _
  omega
def noteO (cs : List Cl) (j : Nat) : Nt := stepN 1#32 (orO j) (st16 cs j) false [120#8]
def kO (cs : List Cl) (j : Nat) : Kp := stepK (noteO cs j) 2 []
theorem kO_num {cs : List Cl} {j : Nat} (h : j < 1000) : (kO cs j).num = (1 + j) * 256 + (st16 cs j).toNat * 2 := by
  show numb (orO j) (st16 cs j) false = _
  unfold numb
  rw [orO_eq h, if_neg (by decide)]
  omega
theorem kO_right {cs : List Cl} {j : Nat} (h : j < 1000) : rightP (kO cs j) := by
  refine ⟨?_, (st16_lt cs j).1, (st16_lt cs j).2, by show ([120#8] : List (BitVec 8)).length ≤ 255; decide, Nat.zero_le _, .inr rfl⟩
  show 0 < (orO j).toNat
  rw [orO_eq h]; omega
theorem kO_ne {cs : List Cl} {i j : Nat} (hi : i < 1000) (hj : j < 1000) (h : i ≠ j) : (kO cs i).num ≠ (kO cs j).num := by
  rw [kO_num hi, kO_num hj]
  have := st16_lt cs i
  have := st16_lt cs j
  omega
theorem eN_old (i : Nat) {cs : List Cl} {j : Nat} : ¬ (noteO cs j).epoch.toNat < (eN i).toNat := by
  show ¬ (1#32).toNat < (eN i).toNat
  unfold eN
  split <;> decide
/-- what is kept are the steps at these places -/
structure OrdInv (cs : List Cl) (n : Nat) (σ : Nat → Nat) (ks : List Kp) (i : Nat) : Prop where
  chk : chk ks
  len : ks.length = i
  mem : ∀ x, x ∈ ks ↔ ∃ j, j < i ∧ x = kO cs (σ j)
theorem OrdInv.start (cs : List Cl) (n : Nat) (σ : Nat → Nat) : OrdInv cs n σ [] 0 := ⟨chk_nil, rfl, fun x => ⟨fun h => absurd h List.not_mem_nil, fun ⟨j, h, _⟩ => by omega⟩⟩
section
variable {cs : List Cl} {n : Nat} {σ : Nat → Nat} {ks : List Kp} {i : Nat}
theorem OrdInv.fresh (h : OrdInv cs n σ ks i) (hs : ∀ j, j < n → σ j < 100) (hj : ∀ a b, a < n → b < n → a ≠ b → σ a ≠ σ b) (hi : i < n) : ∀ k ∈ ks, k.num ≠ (kO cs (σ i)).num := fun k hk => by
  obtain ⟨j, hji, rfl⟩ := (h.mem k).1 hk
  exact kO_ne (by have := hs j (by omega); omega) (by have := hs i hi; omega) (hj j i (by omega) hi (by omega))
theorem OrdInv.keep (h : OrdInv cs n σ ks i) (hs : ∀ j, j < n → σ j < 100) (hj : ∀ a b, a < n → b < n → a ≠ b → σ a ≠ σ b) (hi : i < n) (hn : n ≤ 12) :
    keepK (eN i) ks (noteO cs (σ i)) 2 [] = (1#32, insAt ks (pos ks (kO cs (σ i)).num) (kO cs (σ i)), 0) ∧ OrdInv cs n σ (insAt ks (pos ks (kO cs (σ i)).num) (kO cs (σ i))) (i + 1) := by
  have hsi : σ i < 1000 := by have := hs i hi; omega
  have hfr := h.fresh hs hj hi
  have hlen := h.len
  have hst := st16_lt cs (σ i)
  have hgood : ¬ askBad ks (noteO cs (σ i)) := good_stepN h.chk (by decide) (fun e => by
    have := orO_eq (j := σ i) hsi
    rw [e] at this
    simp at this
    omega) hst.1 hst.2 (by decide)
  have hg1 : getK ks (numb (noteO cs (σ i)).order (noteO cs (σ i)).step (noteO cs (σ i)).undo) = none := by
    cases e : getK ks (numb (noteO cs (σ i)).order (noteO cs (σ i)).step (noteO cs (σ i)).undo) with
    | none => rfl
    | some k => exact absurd (getK_some e).2 (hfr k (getK_some e).1)
  have hg2 : getK ks (numb (noteO cs (σ i)).order (noteO cs (σ i)).step (!(noteO cs (σ i)).undo)) = none := by
    cases e : getK ks (numb (noteO cs (σ i)).order (noteO cs (σ i)).step (!(noteO cs (σ i)).undo)) with
    | none => rfl
    | some k =>
      exfalso
      obtain ⟨h1, h2⟩ := getK_some e
      obtain ⟨j, hji, rfl⟩ := (h.mem k).1 h1
      rw [kO_num (by have := hs j (by omega); omega)] at h2
      have h3 : numb (noteO cs (σ i)).order (noteO cs (σ i)).step (!(noteO cs (σ i)).undo) = (orO (σ i)).toNat * 256 + (st16 cs (σ i)).toNat * 2 + 1 := rfl
      rw [h3] at h2
      omega
  have hask : askK (eN i) ks (noteO cs (σ i)) = (1, Kp.z, 0) := by
    rw [askK_new hgood (eN_old i) hg1 hg2]
    exact if_neg (show ¬ (false = true) by decide)
  have hr : rightP (kO cs (σ i)) := kO_right hsi
  have hk : ¬ keepBad (askK (eN i) ks (noteO cs (σ i))) (stepK (noteO cs (σ i)) 2 []) := by
    rw [hask]
    rintro (h1 | ⟨h1, _⟩ | ⟨h1, _⟩)
    · exact h1 hr
    · exact absurd h1 (by decide)
    · exact absurd h1 (by decide)
  refine ⟨?_, ?_, ?_, ?_⟩
  · rw [keepK_ok (by rw [hask]; decide) hk (by rw [hask]; decide) (by omega)]
    rfl
  · refine insAt_chk h.chk (by omega) hr ?_
    cases e : getK ks (kO cs (σ i)).num with
    | none => rfl
    | some k => exact absurd (getK_some e).2 (hfr k (getK_some e).1)
  · rw [insAt_len _ (pos_le _ _), hlen]
  · intro x
    rw [insAt_mem, h.mem]
    constructor
    · rintro (⟨j, h1, h2⟩ | h1)
      · exact ⟨j, by omega, h2⟩
      · exact ⟨i, by omega, h1⟩
    · rintro ⟨j, h1, h2⟩
      by_cases e : j = i
      · subst e; exact .inr h2
      · exact .inl ⟨j, by omega, h2⟩
end
/-- sorted lists with the same members are one -/
theorem sorted_eq : ∀ {a b : List Kp}, a.Pairwise (fun x y => x.num < y.num) → b.Pairwise (fun x y => x.num < y.num) → (∀ x, x ∈ a ↔ x ∈ b) → a = b
  | [], [], _, _, _ => rfl
  | [], y :: b, _, _, h => absurd ((h y).2 List.mem_cons_self) List.not_mem_nil
  | x :: a, [], _, _, h => absurd ((h x).1 List.mem_cons_self) List.not_mem_nil
  | x :: a, y :: b, ha, hb, h => by
    obtain ⟨ha1, ha2⟩ := List.pairwise_cons.1 ha
    obtain ⟨hb1, hb2⟩ := List.pairwise_cons.1 hb
    have hxy : x = y := by
      rcases List.mem_cons.1 ((h x).1 List.mem_cons_self) with h1 | h1
      · exact h1
      · rcases List.mem_cons.1 ((h y).2 List.mem_cons_self) with h2 | h2
        · exact h2.symm
        · have := hb1 x h1
          have := ha1 y h2
          omega
    subst hxy
    congr 1
    refine sorted_eq ha2 hb2 fun z => ?_
    constructor
    · intro hz
      rcases List.mem_cons.1 ((h z).1 (List.mem_cons_of_mem _ hz)) with h1 | h1
      · subst h1; have := ha1 z hz; omega
      · exact h1
    · intro hz
      rcases List.mem_cons.1 ((h z).2 (List.mem_cons_of_mem _ hz)) with h1 | h1
      · subst h1; have := hb1 z hz; omega
      · exact h1
def rot (n k : Nat) (j : Nat) : Nat := (j + k) % n
theorem rot_int (n k j : Nat) : ((j : Int) + (k : Int)) % (n : Int) = ((rot n k j : Nat) : Int) := by
  unfold rot
  rw [Int.natCast_emod, Int.natCast_add]
theorem rot_lt {n k j : Nat} (hn : 0 < n) : rot n k j < n := Nat.mod_lt _ hn
theorem rot_inj {n k a b : Nat} (hk : k < n) (ha : a < n) (hb : b < n) (h : a ≠ b) : rot n k a ≠ rot n k b := by
  unfold rot
  intro e
  apply h
  rcases Nat.lt_or_ge (a + k) n with h1 | h1 <;> rcases Nat.lt_or_ge (b + k) n with h2 | h2
  · rw [Nat.mod_eq_of_lt h1, Nat.mod_eq_of_lt h2] at e; omega
  · rw [Nat.mod_eq_of_lt h1, Nat.mod_eq_sub_mod h2, Nat.mod_eq_of_lt (by omega)] at e; omega
  · rw [Nat.mod_eq_of_lt h2, Nat.mod_eq_sub_mod h1, Nat.mod_eq_of_lt (by omega)] at e; omega
  · rw [Nat.mod_eq_sub_mod h1, Nat.mod_eq_of_lt (by omega), Nat.mod_eq_sub_mod h2, Nat.mod_eq_of_lt (by omega)] at e; omega
theorem rot_onto {n k m : Nat} (hk : k < n) (hm : m < n) : ∃ j, j < n ∧ rot n k j = m := by
  unfold rot
  rcases Nat.lt_or_ge m k with h | h
  · exact ⟨m + n - k, by omega, by rw [show m + n - k + k = m + n by omega, Nat.add_mod_right, Nat.mod_eq_of_lt hm]⟩
  · exact ⟨m - k, by omega, by rw [show m - k + k = m by omega, Nat.mod_eq_of_lt hm]⟩
theorem ord_same {cs : List Cl} {n k : Nat} {a b : List Kp} (hk : k < n ∨ n = 0) (h1 : OrdInv cs n id a n) (h2 : OrdInv cs n (rot n k) b n) : a = b := by
  refine sorted_eq h1.chk.2.2 h2.chk.2.2 fun x => ?_
  rw [h1.mem, h2.mem]
  constructor
  · rintro ⟨j, hj, rfl⟩
    obtain ⟨m, hm, e⟩ := rot_onto (hk.resolve_right (by omega)) hj
    exact ⟨m, hm, by rw [e]; rfl⟩
  · rintro ⟨j, hj, rfl⟩
    exact ⟨rot n k j, rot_lt (by omega), rfl⟩
/-! ### notes in a row -/
inductive NVs (H : List Ck) : List Value → List Nt → Prop
  | nil : NVs H [] []
  | cons {n : Nt} {vd : Value} {cs : List Value} {ns : List Nt} : n.key = [] → Bs vd n.data H → NVs H cs ns → NVs H (ntc n (.slice none 0 0) vd ++ cs) (n :: ns)
theorem NVs.len {H : List Ck} {cs : List Value} {ns : List Nt} (h : NVs H cs ns) : cs.length = ns.length * 11 := by
  induction h with
  | nil => rfl
  | cons _ _ _ ih => simp only [List.length_append, ih, List.length_cons]; simp only [ntc, List.length_cons, List.length_nil]; omega
theorem NVs.mono {A B : List Ck} {cs : List Value} {ns : List Nt} (h : NVs A cs ns) (s : ∀ c ∈ A, c ∈ B) : NVs B cs ns := by
  induction h with
  | nil => exact .nil
  | cons h0 h1 _ ih => exact .cons h0 (h1.mono s) ih
theorem NVs.at {H : List Ck} {cs : List Value} {ns : List Nt} (h : NVs H cs ns) : ∀ (i : Nat) (hi : i < ns.length), ∃ vd, (cs.drop (i * 11)).take 11 = ntc ns[i] (.slice none 0 0) vd ∧ Bs vd ns[i].data H ∧ ns[i].key = [] := by
  induction h with
  | nil => intro i hi; simp at hi
  | @cons n vd cs ns h0 h1 h2 ih =>
    intro i hi
    cases i with
    | zero => exact ⟨vd, by simp [List.take_append, ntc], h1, h0⟩
    | succ i =>
      obtain ⟨vd', g1, g2, g3⟩ := ih i (by simpa using hi)
      refine ⟨vd', ?_, g2, g3⟩
      rw [show (i + 1) * 11 = (ntc n (.slice none 0 0) vd).length + i * 11 by simp only [ntc, List.length_cons, List.length_nil]; omega, List.drop_length_add_append]
      exact g1
theorem NVs.snoc {A B : List Ck} {cs : List Value} {ns : List Nt} {n : Nt} {vd : Value} (h : NVs A cs ns) (h0 : n.key = []) (h1 : Bs vd n.data B) : NVs (A ++ B) (cs ++ ntc n (.slice none 0 0) vd) (ns ++ [n]) := by
  have key : ∀ {cs : List Value} {ns : List Nt}, NVs (A ++ B) cs ns → NVs (A ++ B) (cs ++ ntc n (.slice none 0 0) vd) (ns ++ [n]) := by
    intro cs ns h
    induction h with
    | nil =>
      have := NVs.cons (H := A ++ B) h0 (h1.mono fun c hc => List.mem_append_right _ hc) .nil
      simpa using this
    | cons g0 g1 _ ih => rw [List.append_assoc, List.cons_append]; exact .cons g0 g1 ih
  exact key (h.mono fun c hc => List.mem_append_left _ hc)
def nsO (cs : List Cl) (i : Nat) : List Nt := (List.range i).map (noteO cs)
theorem nsO_len (cs : List Cl) (i : Nat) : (nsO cs i).length = i := by simp [nsO]
theorem nsO_next (cs : List Cl) (i : Nat) : nsO cs (i + 1) = nsO cs i ++ [noteO cs i] := by simp [nsO, List.range_succ]
theorem nsO_at (cs : List Cl) {i j : Nat} (h : j < (nsO cs i).length) : (nsO cs i)[j] = noteO cs j := by simp [nsO]
end Go.SL
