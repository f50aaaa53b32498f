/-
  The plain fence's bytes.
-/
import Derived.Test.YtonnkgblligdkaaFieldRef
import Derived.Test.YtonnkgblligdkaaFenceRef
set_option linter.unusedVariables false
set_option linter.unusedSimpArgs false
namespace Go.SL

def ub (u : Bool) : BitVec 8 := if u then 1#8 else 0#8
/-- a kept step's bytes -/
def kb (k : Kp) : List (BitVec 8) := beW (k.order.setWidth 64) 4 ++ ([BitVec.ofInt 8 k.step] ++ ([ub k.undo] ++ ([BitVec.ofInt 8 k.code] ++ (tb k.asked ++ tb k.reply))))
def putB (e : BitVec 32) (ks : List Kp) : List (BitVec 8) := beW (e.setWidth 64) 4 ++ ([BitVec.ofInt 8 ks.length] ++ ks.flatMap kb)
def putTo (e : BitVec 32) (ks : List Kp) (i : Nat) : List (BitVec 8) := beW (e.setWidth 64) 4 ++ ([BitVec.ofInt 8 ks.length] ++ (ks.take i).flatMap kb)
theorem putTo_all (e : BitVec 32) (ks : List Kp) : putTo e ks ks.length = putB e ks := by unfold putTo putB; rw [List.take_length]
theorem putTo_next {e : BitVec 32} {ks : List Kp} {i : Nat} (h : i < ks.length) : putTo e ks (i + 1) = putTo e ks i ++ kb ks[i] := by
  unfold putTo
  rw [List.take_succ_eq_append_getElem h, List.flatMap_append]
  simp
theorem kb_app (l : List (BitVec 8)) (k : Kp) : l ++ kb k = ((((((l ++ beW (k.order.setWidth 64) 4) ++ [BitVec.ofInt 8 k.step]) ++ [ub k.undo]) ++ [BitVec.ofInt 8 k.code]) ++ tb k.asked) ++ tb k.reply) := by simp [kb]
theorem kb_len (k : Kp) : (kb k).length = 9 + k.asked.length + k.reply.length := by
  simp [kb, tb, beW_length]
  omega
theorem putTo_len {e : BitVec 32} {ks : List Kp} (h : chk ks) (i : Nat) : (putTo e ks i).length ≤ 5 + i * 519 := by
  induction i with
  | zero =>
    unfold putTo
    rw [List.take_zero, List.flatMap_nil, List.length_append, beW_length]
    exact Nat.le_refl _
  | succ i ih =>
    rcases Nat.lt_or_ge i ks.length with h1 | h1
    · rw [putTo_next h1, List.length_append, kb_len]
      have := chk_right h h1
      have h2 := this.2.2.2.1
      have h3 := this.2.2.2.2.1
      omega
    · have : putTo e ks (i + 1) = putTo e ks i := by
        unfold putTo
        rw [List.take_of_length_le (by omega), List.take_of_length_le h1]
      rw [this]
      exact Nat.le_trans ih (Nat.add_le_add_left (Nat.mul_le_mul_right _ (Nat.le_succ i)) _)
/-! ### reading -/
def unb (r : Rst) : BitVec 8 := ((r.on 4).on 1).u8
def onK (r : Rst) : Rst := (((((r.on 4).on 1).on 1).on 1).onT).onT
def kpOf (u : BitVec 8 → Bool) (r : Rst) : Kp := ⟨r.u32, ((r.on 4).u8.toNat : Int), u (unb r), ((((r.on 4).on 1).on 1).on 1).text, ((((r.on 4).on 1).on 1).u8.toNat : Int), (((((r.on 4).on 1).on 1).on 1).onT).text⟩
def uOne (b : BitVec 8) : Bool := decide (b = 1#8)
def uPos (b : BitVec 8) : Bool := decide (0 < (b.toNat : Int))
def rIt : Nat → Rst → Rst
  | 0, r => r
  | n + 1, r => onK (rIt n r)
def ksTo (u : BitVec 8 → Bool) (r : Rst) (n : Nat) : List Kp := (List.range n).map fun j => kpOf u (rIt j r)
def oddTo (r : Rst) (n : Nat) : Bool := (List.range n).any fun j => decide ((unb (rIt j r)).toNat > 1)
theorem ksTo_len (u : BitVec 8 → Bool) (r : Rst) (n : Nat) : (ksTo u r n).length = n := by simp [ksTo]
theorem ksTo_zero (u : BitVec 8 → Bool) (r : Rst) : ksTo u r 0 = [] := rfl
theorem ksTo_next (u : BitVec 8 → Bool) (r : Rst) (n : Nat) : ksTo u r (n + 1) = ksTo u r n ++ [kpOf u (rIt n r)] := by simp [ksTo, List.range_succ]
theorem oddTo_next (r : Rst) (n : Nat) : oddTo r (n + 1) = (oddTo r n || decide ((unb (rIt n r)).toNat > 1)) := by simp [oddTo, List.range_succ, List.any_append]
theorem onK_len (r : Rst) : (onK r).bs.length ≤ r.bs.length := by
  unfold onK Rst.onT
  have h1 := r.on_len 4
  have h2 := (r.on 4).on_len 1
  have h3 := ((r.on 4).on 1).on_len 1
  have h4 := (((r.on 4).on 1).on 1).on_len 1
  have h5 := ((((r.on 4).on 1).on 1).on 1).on_len (txN ((((r.on 4).on 1).on 1).on 1).bs)
  have h6 := (((((r.on 4).on 1).on 1).on 1).on (txN ((((r.on 4).on 1).on 1).on 1).bs)).on_len (txN (((((r.on 4).on 1).on 1).on 1).on (txN ((((r.on 4).on 1).on 1).on 1).bs)).bs)
  omega
theorem rIt_len (r : Rst) : ∀ n, (rIt n r).bs.length ≤ r.bs.length
  | 0 => Nat.le_refl _
  | n + 1 => Nat.le_trans (onK_len _) (rIt_len r n)
theorem kpOf_small (u : BitVec 8 → Bool) (r : Rst) : (kpOf u r).asked.length ≤ 255 ∧ (kpOf u r).reply.length ≤ 255 := ⟨txGot_len _ _, txGot_len _ _⟩
theorem ksTo_small (u : BitVec 8 → Bool) (r : Rst) (n : Nat) : ∀ k ∈ ksTo u r n, k.asked.length ≤ 255 ∧ k.reply.length ≤ 255 := by
  intro k hk
  obtain ⟨j, _, rfl⟩ := List.mem_map.1 hk
  exact kpOf_small _ _
/-- where the steps begin -/
def rB (b : List (BitVec 8)) : Rst := ((Rst.mk b false).on 4).on 1
def cntB (b : List (BitVec 8)) : Nat := ((Rst.mk b false).on 4).u8.toNat
def epB (b : List (BitVec 8)) : BitVec 32 := (Rst.mk b false).u32
theorem cntB_le (b : List (BitVec 8)) : cntB b ≤ 255 := by
  have := (((Rst.mk b false).on 4).u8).isLt
  unfold cntB
  omega
theorem rB_len (b : List (BitVec 8)) : (rB b).bs.length ≤ b.length := Nat.le_trans (Rst.on_len _ _) (Rst.on_len _ _)
def endB (b : List (BitVec 8)) : Rst := rIt (cntB b) (rB b)
def getBad (b : List (BitVec 8)) : Prop := oddTo (rB b) (cntB b) = true ∨ (endB b).sh = true ∨ 0 < (endB b).bs.length ∨ ¬ chk (ksTo uOne (rB b) (cntB b))
instance (b : List (BitVec 8)) : Decidable (getBad b) := by unfold getBad; infer_instance
def getF (b : List (BitVec 8)) : BitVec 32 × List Kp × Int := if getBad b then (0#32, [], 82) else (epB b, ksTo uOne (rB b) (cntB b), 0)
theorem decide_int (m : Nat) : decide ((m : Int) > 1) = (false || decide (m > 1)) := by
  rw [Bool.false_or, Bool.eq_iff_iff, decide_eq_true_eq, decide_eq_true_eq]
  omega
section
variable {b : List (BitVec 8)}
theorem bad_a (h : oddTo (rB b) (cntB b) = true) : true = decide (getBad b) := (decide_eq_true (.inl h)).symm
theorem bad_b (h : (if (endB b).sh then (10 : Int) else if 0 < (endB b).bs.length then 11 else 0) ≠ 0) : true = decide (getBad b) := by
  refine (decide_eq_true ?_).symm
  by_cases h1 : (endB b).sh = true
  · exact .inr (.inl h1)
  · by_cases h2 : 0 < (endB b).bs.length
    · exact .inr (.inr (.inl h2))
    · rw [if_neg h1, if_neg h2] at h
      exact absurd rfl h
theorem bad_c (h : oddTo (rB b) (cntB b) = false) (h2 : ¬ (if (endB b).sh then (10 : Int) else if 0 < (endB b).bs.length then 11 else 0) ≠ 0) : decide ((if chk (ksTo uOne (rB b) (cntB b)) then (0 : Int) else 2) ≠ 0) = decide (getBad b) := by
  have h3 : ¬ (endB b).sh = true := fun e => h2 (by rw [if_pos e]; decide)
  have h4 : ¬ 0 < (endB b).bs.length := fun e => h2 (by rw [if_neg h3, if_pos e]; decide)
  rw [Bool.eq_iff_iff, decide_eq_true_eq, decide_eq_true_eq]
  unfold getBad
  rw [h]
  by_cases hc : chk (ksTo uOne (rB b) (cntB b))
  · rw [if_pos hc]
    exact ⟨fun e => absurd rfl e, fun e => by rcases e with e | e | e | e; exact absurd e (by decide); exact absurd e h3; exact absurd e h4; exact absurd hc e⟩
  · rw [if_neg hc]
    exact ⟨fun _ => .inr (.inr (.inr hc)), fun _ => by decide⟩
end
/-! ### the document's bytes -/
def ub64 (u : Bool) : BitVec 64 := if u then 1#64 else 0#64
def fK (k : Kp) : List Fld := [⟨4, k.order.setWidth 64, []⟩, ⟨1, BitVec.ofInt 64 k.step, []⟩, ⟨1, ub64 k.undo, []⟩, ⟨1, BitVec.ofInt 64 k.code, []⟩, ⟨0, 0#64, k.asked⟩, ⟨0, 0#64, k.reply⟩]
def fsTo (e : BitVec 32) (ks : List Kp) (i : Nat) : List Fld := [⟨4, e.setWidth 64, []⟩, ⟨1, BitVec.ofInt 64 ks.length, []⟩] ++ (ks.take i).flatMap fK
theorem fsTo_next {e : BitVec 32} {ks : List Kp} {i : Nat} (h : i < ks.length) : fsTo e ks (i + 1) = fsTo e ks i ++ fK ks[i] := by
  unfold fsTo
  rw [List.take_succ_eq_append_getElem h, List.flatMap_append]
  simp
theorem fsTo_len {e : BitVec 32} {ks : List Kp} {i : Nat} (h : i ≤ ks.length) : (fsTo e ks i).length = 2 + i * 6 := by
  induction i with
  | zero => rfl
  | succ i ih =>
    rw [fsTo_next (by omega), List.length_append, ih (by omega)]
    show 2 + i * 6 + 6 = _
    omega
theorem fsTo_small {e : BitVec 32} {ks : List Kp} (h : chk ks) {i : Nat} : ∀ f ∈ fsTo e ks i, f.text.length ≤ 1000000 ∧ f.size ≤ 8 := by
  intro f hf
  unfold fsTo at hf
  rcases List.mem_append.1 hf with hf | hf
  · simp only [List.mem_cons, List.not_mem_nil, or_false] at hf
    rcases hf with rfl | rfl <;> exact ⟨by simp, by simp⟩
  · obtain ⟨k, hk, hf⟩ := List.mem_flatMap.1 hf
    have hr := h.2.1 k (List.mem_of_mem_take hk)
    have h1 := hr.2.2.2.1
    have h2 := hr.2.2.2.2.1
    simp only [fK, List.mem_cons, List.not_mem_nil, or_false] at hf
    rcases hf with rfl | rfl | rfl | rfl | rfl | rfl <;> refine ⟨?_, ?_⟩ <;> simp <;> omega
theorem beW_1 (n : BitVec 64) : beW n 1 = [n.setWidth 8] := by simp [beW]
theorem ofInt_8 {m : Int} (h0 : 0 ≤ m) (h1 : m < 256) : (BitVec.ofInt 64 m).setWidth 8 = BitVec.ofInt 8 m := by
  apply BitVec.eq_of_toNat_eq
  rw [BitVec.toNat_setWidth, BitVec.toNat_ofInt, BitVec.toNat_ofInt]
  omega
theorem lim1 : limF 1 = 256 := by decide
theorem lim4 : limF 4 = 4294967296 := by decide
theorem one_4 (x : BitVec 32) : oneF ⟨4, x.setWidth 64, []⟩ = (beW (x.setWidth 64) 4, 0) := by
  refine oneF_1b (by simp) (by simp) ?_
  have := x.isLt
  simp only [lim4, List.length_nil, BitVec.toNat_setWidth]
  omega
theorem one_1 {x : BitVec 64} (h : x.toNat < 256) : oneF ⟨1, x, []⟩ = ([x.setWidth 8], 0) := by
  rw [← beW_1]
  refine oneF_1b (by simp) (by simp) ?_
  simp only [lim1, List.length_nil]
  omega
theorem one_t {s : List (BitVec 8)} (h : s.length ≤ 255) : oneF ⟨0, 0#64, s⟩ = (tb s, 0) := oneF_0c rfl (by simp) (by show ¬ 255 < s.length; omega)
theorem ofInt_lt {m : Int} (h0 : 0 ≤ m) (h1 : m < 256) : (BitVec.ofInt 64 m).toNat < 256 := by
  rw [BitVec.toNat_ofInt]; omega
theorem putL_K {k : Kp} (h : rightP k) (l : List Fld) (out : List (BitVec 8)) : putL (fK k ++ l) out = putL l (out ++ kb k) := by
  obtain ⟨_, h1, h2, h3, h4, h5⟩ := h
  have hc : 0 ≤ k.code ∧ k.code < 256 := by omega
  have hu : (ub64 k.undo).toNat < 256 ∧ (ub64 k.undo).setWidth 8 = ub k.undo := by cases k.undo <;> exact ⟨by decide, by decide⟩
  unfold fK
  simp only [List.cons_append, List.nil_append]
  rw [putL_ok (fun h9 => h9 (by rw [one_4])), putL_ok (fun h9 => h9 (by rw [one_1 (ofInt_lt h1 (by omega))])), putL_ok (fun h9 => h9 (by rw [one_1 hu.1])), putL_ok (fun h9 => h9 (by rw [one_1 (ofInt_lt hc.1 hc.2)])), putL_ok (fun h9 => h9 (by rw [one_t h3])), putL_ok (fun h9 => h9 (by rw [one_t h4]))]
  rw [one_4, one_1 (ofInt_lt h1 (by omega)), one_1 hu.1, one_1 (ofInt_lt hc.1 hc.2), one_t h3, one_t h4, hu.2, ofInt_8 h1 (by omega), ofInt_8 hc.1 hc.2]
  congr 1
  unfold kb
  simp only [List.append_assoc]
theorem putL_ks : ∀ (ks : List Kp), (∀ k ∈ ks, rightP k) → ∀ out : List (BitVec 8), putL (ks.flatMap fK) out = (out ++ ks.flatMap kb, 0)
  | [], _, out => by rw [List.flatMap_nil, List.flatMap_nil, List.append_nil]; rfl
  | k :: ks, h, out => by
    rw [List.flatMap_cons, putL_K (h k List.mem_cons_self), putL_ks ks (fun x hx => h x (List.mem_cons_of_mem _ hx)), List.flatMap_cons, List.append_assoc]
theorem putL_fs {e : BitVec 32} {ks : List Kp} (h : chk ks) : putL (fsTo e ks ks.length) [] = (putB e ks, 0) := by
  unfold fsTo
  rw [List.take_length]
  have hl := h.1
  have e1 : oneF ⟨1, BitVec.ofInt 64 (ks.length : Int), []⟩ = ([BitVec.ofInt 8 ks.length], 0) := by
    rw [one_1 (ofInt_lt (by omega) (by omega)), ofInt_8 (by omega) (by omega)]
  simp only [List.cons_append, List.nil_append]
  rw [putL_ok (fun h9 => h9 (by rw [one_4])), putL_ok (fun h9 => h9 (by rw [e1])), putL_ks ks h.2.1, one_4, e1]
  unfold putB
  simp only [List.nil_append, List.append_assoc]
theorem Rst.u8_nat (r : Rst) : (beN (r.got 1)).toNat = r.u8.toNat := by
  unfold Rst.u8
  have h := rdGot_len r.bs r.sh 1
  rw [BitVec.toNat_setWidth]
  have : (beN (r.got 1)).toNat < 256 := by
    show (beN (rdGot r.bs r.sh 1)).toNat < 256
    generalize rdGot r.bs r.sh 1 = g at h ⊢
    match g, h with
    | [], _ => decide
    | [x], _ =>
      have := x.isLt
      show (((0#64 : BitVec 64) <<< 8) ||| x.setWidth 64).toNat < 256
      rw [step_nat _ _ (by decide)]
      simp
      exact this
  omega
/-- what the document's answer reads -/
def rgetF (b : List (BitVec 8)) : BitVec 32 × List Kp × Int := if chk (ksTo uPos (rB b) (cntB b)) ∧ putB (epB b) (ksTo uPos (rB b) (cntB b)) = b then (epB b, ksTo uPos (rB b) (cntB b), 0) else (0#32, [], 82)
/-! reading what was written -/
theorem onK_app {k : Kp} (h : rightP k) (l : List (BitVec 8)) {u : BitVec 8 → Bool} (hu : ∀ c, u (ub c) = c) : kpOf u ⟨kb k ++ l, false⟩ = k ∧ onK ⟨kb k ++ l, false⟩ = ⟨l, false⟩ ∧ unb ⟨kb k ++ l, false⟩ = ub k.undo := by
  obtain ⟨_, h1, h2, h3, h4, h5⟩ := h
  have hc : 0 ≤ k.code ∧ k.code < 256 := by omega
  have e0 : kb k ++ l = beW (k.order.setWidth 64) 4 ++ (BitVec.ofInt 8 k.step :: (ub k.undo :: (BitVec.ofInt 8 k.code :: (tb k.asked ++ (tb k.reply ++ l))))) := by
    unfold kb; simp only [List.append_assoc, List.cons_append, List.nil_append]
  rw [e0]
  have a1 := Rst.u32_app k.order (BitVec.ofInt 8 k.step :: (ub k.undo :: (BitVec.ofInt 8 k.code :: (tb k.asked ++ (tb k.reply ++ l)))))
  have a2 := Rst.u8_app (BitVec.ofInt 8 k.step) (ub k.undo :: (BitVec.ofInt 8 k.code :: (tb k.asked ++ (tb k.reply ++ l))))
  have a3 := Rst.u8_app (ub k.undo) (BitVec.ofInt 8 k.code :: (tb k.asked ++ (tb k.reply ++ l)))
  have a4 := Rst.u8_app (BitVec.ofInt 8 k.code) (tb k.asked ++ (tb k.reply ++ l))
  have a5 := Rst.text_app h3 (tb k.reply ++ l)
  have a6 := Rst.text_app h4 l
  refine ⟨?_, ?_, ?_⟩
  · unfold kpOf unb
    rw [a1.1, a1.2, a2.1, a2.2, a3.1, a3.2, a4.1, a4.2, a5.1, a5.2, a6.1, hu]
    have s8 : ((BitVec.ofInt 8 k.step).toNat : Int) = k.step := by rw [BitVec.toNat_ofInt]; omega
    have c8 : ((BitVec.ofInt 8 k.code).toNat : Int) = k.code := by rw [BitVec.toNat_ofInt]; omega
    rw [s8, c8]
  · unfold onK
    rw [a1.2, a2.2, a3.2, a4.2, a5.2, a6.2]
  · unfold unb
    rw [a1.2, a2.2, a3.1]
theorem rIt_app {u : BitVec 8 → Bool} (hu : ∀ c, u (ub c) = c) {ks : List Kp} (h : ∀ k ∈ ks, rightP k) (l : List (BitVec 8)) : ∀ i, i ≤ ks.length →
    rIt i ⟨ks.flatMap kb ++ l, false⟩ = ⟨(ks.drop i).flatMap kb ++ l, false⟩ ∧ ksTo u ⟨ks.flatMap kb ++ l, false⟩ i = ks.take i ∧ oddTo ⟨ks.flatMap kb ++ l, false⟩ i = false := by
  intro i
  induction i with
  | zero => intro _; exact ⟨rfl, rfl, rfl⟩
  | succ i ih =>
    intro hi
    obtain ⟨h1, h2, h3⟩ := ih (by omega)
    have hk := h _ (List.getElem_mem (show i < ks.length by omega))
    have hd : (ks.drop i).flatMap kb ++ l = kb ks[i] ++ ((ks.drop (i + 1)).flatMap kb ++ l) := by
      rw [List.drop_eq_getElem_cons (by omega), List.flatMap_cons, List.append_assoc]
    rw [hd] at h1
    obtain ⟨g1, g2, g3⟩ := onK_app hk ((ks.drop (i + 1)).flatMap kb ++ l) hu
    refine ⟨?_, ?_, ?_⟩
    · show onK (rIt i _) = _
      rw [h1, g2]
    · rw [ksTo_next, h2, h1, g1, List.take_succ_eq_append_getElem (by omega)]
    · rw [oddTo_next, h3, h1, g3]
      cases ks[i].undo <;> rfl
theorem uOne_ub (c : Bool) : uOne (ub c) = c := by cases c <;> rfl
theorem uPos_ub (c : Bool) : uPos (ub c) = c := by cases c <;> rfl
theorem rB_put {e : BitVec 32} {ks : List Kp} (h : chk ks) : rB (putB e ks) = ⟨ks.flatMap kb ++ [], false⟩ ∧ cntB (putB e ks) = ks.length ∧ epB (putB e ks) = e := by
  have hl := h.1
  have a1 := Rst.u32_app e ([BitVec.ofInt 8 ks.length] ++ ks.flatMap kb)
  have a2 := Rst.u8_app (BitVec.ofInt 8 ks.length) (ks.flatMap kb)
  unfold rB cntB epB putB
  rw [a1.2]
  rw [List.singleton_append, a2.1, a2.2, List.append_nil]
  refine ⟨rfl, by rw [BitVec.toNat_ofInt]; omega, ?_⟩
  rw [List.singleton_append] at a1
  exact a1.1
theorem ks_put {u : BitVec 8 → Bool} (hu : ∀ c, u (ub c) = c) {e : BitVec 32} {ks : List Kp} (h : chk ks) : ksTo u (rB (putB e ks)) (cntB (putB e ks)) = ks ∧ oddTo (rB (putB e ks)) (cntB (putB e ks)) = false ∧ endB (putB e ks) = ⟨[], false⟩ := by
  obtain ⟨h1, h2, _⟩ := rB_put (e := e) h
  obtain ⟨g1, g2, g3⟩ := rIt_app hu h.2.1 [] ks.length (Nat.le_refl _)
  refine ⟨?_, ?_, ?_⟩
  · rw [h1, h2, g2, List.take_length]
  · rw [h1, h2, g3]
  · unfold endB
    rw [h1, h2, g1, List.drop_length]
    rfl
theorem getF_put {e : BitVec 32} {ks : List Kp} (h : chk ks) : getF (putB e ks) = (e, ks, 0) := by
  obtain ⟨h1, h2, h3⟩ := ks_put uOne_ub (e := e) h
  have hb : ¬ getBad (putB e ks) := by
    unfold getBad
    rw [h2, h3, h1]
    simp [h]
  unfold getF
  rw [if_neg hb, h1, (rB_put h).2.2]
theorem rgetF_put {e : BitVec 32} {ks : List Kp} (h : chk ks) : rgetF (putB e ks) = (e, ks, 0) := by
  obtain ⟨h1, _, _⟩ := ks_put uPos_ub (e := e) h
  unfold rgetF
  rw [h1, (rB_put h).2.2, if_pos ⟨h, rfl⟩]
/-! what was read whole was so written -/
theorem onK_whole {r : Rst} (h : (onK r).sh = false) (hu : (unb r).toNat ≤ 1) : r.sh = false ∧ r.bs = kb (kpOf uOne r) ++ (onK r).bs := by
  unfold onK at h ⊢
  obtain ⟨s6, e6, _⟩ := Rst.text_whole h
  obtain ⟨s5, e5, _⟩ := Rst.text_whole s6
  obtain ⟨s4, e4⟩ := Rst.u8_whole s5
  obtain ⟨s3, e3⟩ := Rst.u8_whole s4
  obtain ⟨s2, e2⟩ := Rst.u8_whole s3
  obtain ⟨s1, e1⟩ := Rst.u32_whole s2
  refine ⟨s1, ?_⟩
  have eu : ub (uOne (unb r)) = unb r := by
    unfold uOne
    have : unb r = 0#8 ∨ unb r = 1#8 := by
      rcases Nat.lt_or_ge (unb r).toNat 1 with h1 | h1
      · exact .inl (BitVec.eq_of_toNat_eq (by simp; omega))
      · exact .inr (BitVec.eq_of_toNat_eq (by simp; omega))
    rcases this with h1 | h1 <;> rw [h1] <;> rfl
  have o8 : ∀ x : BitVec 8, BitVec.ofInt 8 (x.toNat : Int) = x := fun x => by
    apply BitVec.eq_of_toNat_eq
    rw [BitVec.toNat_ofInt]
    have := x.isLt
    omega
  unfold kb kpOf
  simp only
  rw [eu, o8, o8]
  unfold unb
  simp only [List.append_assoc, List.cons_append, List.nil_append]
  rw [← e6, ← e5, ← e4, ← e3, ← e2, ← e1]
theorem rIt_whole {r : Rst} : ∀ n, (rIt n r).sh = false → oddTo r n = false → r.sh = false ∧ r.bs = (ksTo uOne r n).flatMap kb ++ (rIt n r).bs
  | 0, h, _ => ⟨h, rfl⟩
  | n + 1, h, ho => by
    rw [oddTo_next, Bool.or_eq_false_iff, decide_eq_false_iff_not] at ho
    obtain ⟨h1, h2⟩ := onK_whole (r := rIt n r) h (by omega)
    obtain ⟨h3, h4⟩ := rIt_whole n h1 ho.1
    refine ⟨h3, ?_⟩
    rw [ksTo_next, List.flatMap_append, List.append_assoc]
    show _ = _ ++ ([kpOf uOne (rIt n r)].flatMap kb ++ (onK (rIt n r)).bs)
    rw [List.flatMap_cons, List.flatMap_nil, List.append_nil, ← h2]
    exact h4
theorem getF_whole {b : List (BitVec 8)} (h : ¬ getBad b) : putB (epB b) (ksTo uOne (rB b) (cntB b)) = b ∧ chk (ksTo uOne (rB b) (cntB b)) := by
  have h1 : oddTo (rB b) (cntB b) = false := by cases e : oddTo (rB b) (cntB b) with | false => rfl | true => exact absurd (.inl e) h
  have h2 : (endB b).sh = false := by cases e : (endB b).sh with | false => rfl | true => exact absurd (.inr (.inl e)) h
  have h3 : (endB b).bs = [] := by
    refine List.eq_nil_of_length_eq_zero ?_
    have : ¬ 0 < (endB b).bs.length := fun e => h (.inr (.inr (.inl e)))
    omega
  have h4 : chk (ksTo uOne (rB b) (cntB b)) := Classical.byContradiction fun e => h (.inr (.inr (.inr e)))
  refine ⟨?_, h4⟩
  obtain ⟨g1, g2⟩ := rIt_whole (cntB b) h2 h1
  obtain ⟨s1, e1⟩ := Rst.u8_whole (r := (Rst.mk b false).on 4) g1
  obtain ⟨s0, e0⟩ := Rst.u32_whole (r := Rst.mk b false) s1
  have e2 : b = beW ((epB b).setWidth 64) 4 ++ ((Rst.mk b false).on 4).bs := e0
  have e3 : ((Rst.mk b false).on 4).bs = ((Rst.mk b false).on 4).u8 :: (rB b).bs := e1
  have e4 : (rB b).bs = (ksTo uOne (rB b) (cntB b)).flatMap kb := by
    have : (rIt (cntB b) (rB b)).bs = [] := h3
    rw [this, List.append_nil] at g2
    exact g2
  have e5 : BitVec.ofInt 8 ((ksTo uOne (rB b) (cntB b)).length : Int) = ((Rst.mk b false).on 4).u8 := by
    rw [ksTo_len]
    apply BitVec.eq_of_toNat_eq
    rw [BitVec.toNat_ofInt]
    have := (((Rst.mk b false).on 4).u8).isLt
    unfold cntB
    omega
  unfold putB
  rw [← e4, e5, List.singleton_append, ← e3]
  exact e2.symm
theorem rgetF_eq (b : List (BitVec 8)) : rgetF b = getF b := by
  by_cases hb : getBad b
  · rw [show getF b = (0#32, [], 82) from if_pos hb]
    refine if_neg ?_
    rintro ⟨h1, h2⟩
    refine hb.elim ?_ ?_ <;> have := ks_put uOne_ub (e := epB b) h1 <;> rw [h2] at this
    · intro h3; rw [this.2.1] at h3; cases h3
    · intro h3
      rw [this.2.2, this.1] at h3
      rcases h3 with h3 | h3 | h3
      · cases h3
      · exact absurd h3 (by decide)
      · exact h3 h1
  · obtain ⟨h1, h2⟩ := getF_whole hb
    have h3 := rgetF_put (e := epB b) h2
    have h4 := getF_put (e := epB b) h2
    rw [h1] at h3 h4
    rw [h3, h4]
theorem KVs.snoc {A B1 B2 : List Ck} {cs : List Value} {ks : List Kp} {k : Kp} {va vr : Value} (h : KVs A cs ks) (h1 : Bs va k.asked B1) (h2 : Bs vr k.reply B2) : KVs (A ++ (B1 ++ B2)) (cs ++ kc k va vr) (ks ++ [k]) := by
  have key : ∀ {cs : List Value} {ks : List Kp}, KVs (A ++ (B1 ++ B2)) cs ks → KVs (A ++ (B1 ++ B2)) (cs ++ kc k va vr) (ks ++ [k]) := by
    intro cs ks h
    induction h with
    | nil =>
      have := KVs.cons (H := A ++ (B1 ++ B2)) (k := k) (h1.mono fun c hc => List.mem_append_right _ (List.mem_append_left _ hc)) (h2.mono fun c hc => List.mem_append_right _ (List.mem_append_right _ hc)) .nil
      simpa using this
    | cons g1 g2 _ ih => rw [List.append_assoc, List.cons_append]; exact .cons g1 g2 ih
  exact key (h.mono fun c hc => List.mem_append_left _ hc)
section
variable {b : List (BitVec 8)}
theorem rg_a (h : (if chk (ksTo uPos (rB b) (cntB b)) then (0 : Int) else 2) ≠ 0) : true = !decide (chk (ksTo uPos (rB b) (cntB b)) ∧ putB (epB b) (ksTo uPos (rB b) (cntB b)) = b) := by
  have : ¬ chk (ksTo uPos (rB b) (cntB b)) := fun e => h (if_pos e)
  simp [this]
theorem rg_b (h : ¬ (if chk (ksTo uPos (rB b) (cntB b)) then (0 : Int) else 2) ≠ 0) : decide (str (if chk (ksTo uPos (rB b) (cntB b)) then putB (epB b) (ksTo uPos (rB b) (cntB b)) else []) ≠ str b) = !decide (chk (ksTo uPos (rB b) (cntB b)) ∧ putB (epB b) (ksTo uPos (rB b) (cntB b)) = b) := by
  have hc : chk (ksTo uPos (rB b) (cntB b)) := Classical.byContradiction fun e => h (by rw [if_neg e]; decide)
  rw [if_pos hc]
  simp [hc, str_inj]
end
theorem rg_no {p : Prop} [Decidable p] (h : (!decide p) = true) : ¬ p := by simpa using h
theorem rg_yes {p : Prop} [Decidable p] (h : (!decide p) = false) : p := by simpa using h
theorem getF_len (b : List (BitVec 8)) : (getF b).2.1.length ≤ 255 := by
  unfold getF
  split
  · simp
  · simp only [ksTo_len]; exact cntB_le b
theorem getF_ok {b : List (BitVec 8)} (h : (getF b).2.2 = 0) : chk (getF b).2.1 ∧ putB (getF b).1 (getF b).2.1 = b := by
  have hb : ¬ getBad b := fun hb => by
    rw [show getF b = (0#32, [], 82) from if_pos hb] at h
    exact absurd h (by decide)
  obtain ⟨h1, h2⟩ := getF_whole hb
  rw [show getF b = (epB b, ksTo uOne (rB b) (cntB b), 0) from if_neg hb]
  exact ⟨h2, h1⟩
end Go.SL
