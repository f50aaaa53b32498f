/-
  Lemmas and walks that CrewServes stands on (part 2); no condition.
-/
import Derived.Orders
import Derived.Tactics
import Derived.Scope
import Derived.Below
import Derived.WalkKit
import Derived.KernelRfl
import Derived.Laws.RangeString
import Derived.Laws.StructEq
import Derived.Lib.AppendZerosOnto
import Derived.Laws.CopyRow
import Derived.Lib.Overlaps
import Derived.Laws.IdiomStrings
import Derived.Deep.Quiet
import Derived.Lib.Bytealg
import Derived.Shelf.SlSortCmp.NoneTotal
import Derived.ProofKit
import Derived.OpenShut
import Derived.ShutString
import Derived.ChangeOld
import Derived.Test.YtkamlondepceiaaGreatCrewServesB1

set_option linter.unusedVariables false
set_option linter.unusedSimpArgs false
namespace Go.SL
structure Wk where
  what : Int
  n : Int
  name : List (BitVec 8)
deriving DecidableEq
def Wk.z : Wk := ⟨0, 0, []⟩
def wkc (w : Wk) (v : Value) : List Value := [.int .i64 w.what, .int .i64 w.n, v]
def wkGood (w : Wk) : Prop := 1 ≤ w.what ∧ w.what ≤ 6 ∧ 0 ≤ w.n ∧ w.n ≤ 1000000000 ∧ w.name.length ≤ 32
instance (w : Wk) : Decidable (wkGood w) := by unfold wkGood; infer_instance
def wkB (w : Wk) : List (BitVec 8) := [BitVec.ofInt 8 w.what] ++ (beW ((BitVec.ofInt 32 w.n).setWidth 64) 4 ++ tb w.name)
def ewkB (w : Wk) : List (BitVec 8) := if wkGood w then wkB w else []
def encE (w : Wk) : Int := if wkGood w then 0 else 120
theorem wk_z {w : Wk} {z : Bool} (h : z = true ↔ ¬ wkGood w) : z = !decide (wkGood w) := by
  rw [Bool.eq_iff_iff, h]; simp
theorem enc_good {w : Wk} (h : wkGood w) : ewkB w = wkB w ∧ encE w = 0 := ⟨if_pos h, if_pos h⟩
theorem enc_bad {w : Wk} (h : ¬ wkGood w) : ewkB w = [] ∧ encE w = 120 := ⟨if_neg h, if_neg h⟩
theorem wkB_len (w : Wk) : (wkB w).length = 6 + w.name.length := by
  unfold wkB tb
  simp only [List.length_append, List.length_cons, List.length_nil, beW_length]
  omega
theorem ewkB_len (w : Wk) : (ewkB w).length ≤ 38 := by
  unfold ewkB
  split
  · rename_i h
    rw [wkB_len]
    have := h.2.2.2.2
    omega
  · simp
def rW (b : List (BitVec 8)) : Rst := Rst.mk b false
def wkOf (b : List (BitVec 8)) : Wk := ⟨((rW b).u8.toNat : Int), (((rW b).on 1).u32.toNat : Int), (((rW b).on 1).on 4).text⟩
def endW (b : List (BitVec 8)) : Rst := (((rW b).on 1).on 4).onT
def decBad (b : List (BitVec 8)) : Prop := (endW b).sh = true ∨ 0 < (endW b).bs.length ∨ ¬ wkGood (wkOf b)
instance (b : List (BitVec 8)) : Decidable (decBad b) := by unfold decBad; infer_instance
def decW (b : List (BitVec 8)) : Wk := if decBad b then Wk.z else wkOf b
def decE (b : List (BitVec 8)) : Int := if decBad b then 120 else 0
def rdecOk (b : List (BitVec 8)) : Prop := wkGood (wkOf b) ∧ wkB (wkOf b) = b
theorem wk_read {w : Wk} (h : wkGood w) : wkOf (wkB w) = w ∧ endW (wkB w) = ⟨[], false⟩ := by
  obtain ⟨h1, h2, h3, h4, h5⟩ := h
  have a1 := Rst.u8_app (BitVec.ofInt 8 w.what) (beW ((BitVec.ofInt 32 w.n).setWidth 64) 4 ++ tb w.name)
  have a2 := Rst.u32_app (BitVec.ofInt 32 w.n) (tb w.name)
  have a3 := Rst.text_app (s := w.name) (by omega) []
  rw [List.append_nil] at a3
  have e8 : ((BitVec.ofInt 8 w.what).toNat : Int) = w.what := by rw [BitVec.toNat_ofInt]; omega
  have e32 : ((BitVec.ofInt 32 w.n).toNat : Int) = w.n := by rw [BitVec.toNat_ofInt]; omega
  constructor
  · unfold wkOf rW wkB
    rw [List.singleton_append, a1.1, a1.2, a2.1, a2.2, a3.1, e8, e32]
  · unfold endW rW wkB
    rw [List.singleton_append, a1.2, a2.2, a3.2]
theorem wk_whole {b : List (BitVec 8)} (h : ¬ decBad b) : wkB (wkOf b) = b ∧ wkGood (wkOf b) := by
  have h1 : (endW b).sh = false := by cases e : (endW b).sh with | false => rfl | true => exact absurd (.inl e) h
  have h2 : (endW b).bs = [] := by
    refine List.eq_nil_of_length_eq_zero ?_
    have : ¬ 0 < (endW b).bs.length := fun e => h (.inr (.inl e))
    omega
  have h3 : wkGood (wkOf b) := Classical.byContradiction fun e => h (.inr (.inr e))
  refine ⟨?_, h3⟩
  obtain ⟨s3, e3, _⟩ := Rst.text_whole (r := ((rW b).on 1).on 4) h1
  obtain ⟨s2, e2⟩ := Rst.u32_whole s3
  obtain ⟨s1, e1⟩ := Rst.u8_whole s2
  have e0 : b = (rW b).u8 :: ((rW b).on 1).bs := e1
  rw [show (((rW b).on 1).on 4).onT.bs = [] from h2, List.append_nil] at e3
  have o8 : BitVec.ofInt 8 ((rW b).u8.toNat : Int) = (rW b).u8 := by
    apply BitVec.eq_of_toNat_eq
    rw [BitVec.toNat_ofInt]
    have := ((rW b).u8).isLt
    omega
  have o32 : BitVec.ofInt 32 ((((rW b).on 1).u32).toNat : Int) = ((rW b).on 1).u32 := by
    apply BitVec.eq_of_toNat_eq
    rw [BitVec.toNat_ofInt]
    have := (((rW b).on 1).u32).isLt
    omega
  unfold wkB wkOf
  simp only
  rw [o8, o32, ← e3, ← e2, List.singleton_append]
  exact e0.symm
theorem rdec_iff (b : List (BitVec 8)) : rdecOk b ↔ ¬ decBad b := by
  constructor
  · rintro ⟨h1, h2⟩ hb
    have h3 := wk_read h1
    rw [h2] at h3
    rcases hb with hb | hb | hb
    · rw [h3.2] at hb; cases hb
    · rw [h3.2] at hb; exact absurd hb (by decide)
    · exact hb h1
  · intro h
    obtain ⟨h1, h2⟩ := wk_whole h
    exact ⟨h2, h1⟩
def fsW (w : Wk) : List Fld := [⟨1, BitVec.ofInt 64 w.what, []⟩, ⟨4, BitVec.ofInt 64 w.n, []⟩, ⟨0, 0#64, w.name⟩]
theorem wlim1 : limF 1 = 256 := by decide
theorem wlim4 : limF 4 = 4294967296 := by decide
theorem wone_1 {x : BitVec 64} (h : x.toNat < 256) : oneF ⟨1, x, []⟩ = ([x.setWidth 8], 0) := by
  have e : beW x 1 = [x.setWidth 8] := by simp [beW]
  rw [← e]
  refine oneF_1b (by simp) (by simp) ?_
  simp only [wlim1, List.length_nil]
  omega
theorem wone_4 {x : BitVec 64} (h : x.toNat < 4294967296) : oneF ⟨4, x, []⟩ = (beW x 4, 0) := by
  refine oneF_1b (by simp) (by simp) ?_
  simp only [wlim4, List.length_nil]
  omega
theorem wone_t {s : List (BitVec 8)} (h : s.length ≤ 255) : oneF ⟨0, 0#64, s⟩ = (tb s, 0) := oneF_0c rfl (by simp) (by show ¬ 255 < s.length; omega)
theorem putL_W {w : Wk} (h : wkGood w) : putL (fsW w) [] = (wkB w, 0) := by
  obtain ⟨h1, h2, h3, h4, h5⟩ := h
  have e1 : (BitVec.ofInt 64 w.what).toNat < 256 := by rw [BitVec.toNat_ofInt]; omega
  have e4 : (BitVec.ofInt 64 w.n).toNat < 4294967296 := by rw [BitVec.toNat_ofInt]; omega
  have w1 : (BitVec.ofInt 64 w.what).setWidth 8 = BitVec.ofInt 8 w.what := by
    apply BitVec.eq_of_toNat_eq
    rw [BitVec.toNat_setWidth, BitVec.toNat_ofInt, BitVec.toNat_ofInt]
    omega
  have w4 : BitVec.ofInt 64 w.n = (BitVec.ofInt 32 w.n).setWidth 64 := by
    apply BitVec.eq_of_toNat_eq
    rw [BitVec.toNat_setWidth, BitVec.toNat_ofInt, BitVec.toNat_ofInt]
    omega
  unfold fsW
  rw [putL_ok (fun h9 => h9 (by rw [wone_1 e1])), putL_ok (fun h9 => h9 (by rw [wone_4 e4])), putL_ok (fun h9 => h9 (by rw [wone_t (by omega)])), wone_1 e1, wone_4 e4, wone_t (by omega), w1, w4]
  unfold putL wkB
  simp only [List.nil_append, List.append_assoc]
theorem wfs_small (w : Wk) (h : w.name.length ≤ 1000000) : ∀ f ∈ fsW w, f.text.length ≤ 1000000 ∧ f.size ≤ 8 := by
  intro f hf
  simp only [fsW, List.mem_cons, List.not_mem_nil, or_false] at hf
  rcases hf with rfl | rfl | rfl
  · exact ⟨by simp, by simp⟩
  · exact ⟨by simp, by simp⟩
  · exact ⟨h, by simp⟩
section
variable {b : List (BitVec 8)}
theorem wbad_a (h : (if (endW b).sh then (10 : Int) else if 0 < (endW b).bs.length then 11 else 0) ≠ 0) : true = decide (decBad b) := by
  refine (decide_eq_true ?_).symm
  by_cases h1 : (endW b).sh = true
  · exact .inl h1
  · by_cases h2 : 0 < (endW b).bs.length
    · exact .inr (.inl h2)
    · rw [if_neg h1, if_neg h2] at h
      exact absurd rfl h
theorem wbad_b (h2 : ¬ (if (endW b).sh then (10 : Int) else if 0 < (endW b).bs.length then 11 else 0) ≠ 0) : decide (encE (wkOf b) ≠ 0) = decide (decBad b) := by
  have h3 : ¬ (endW b).sh = true := fun e => h2 (by rw [if_pos e]; decide)
  have h4 : ¬ 0 < (endW b).bs.length := fun e => h2 (by rw [if_neg h3, if_pos e]; decide)
  rw [Bool.eq_iff_iff, decide_eq_true_eq, decide_eq_true_eq]
  unfold decBad
  by_cases hc : wkGood (wkOf b)
  · rw [(enc_good hc).2]
    exact ⟨fun e => absurd rfl e, fun e => by rcases e with e | e | e; exact absurd e h3; exact absurd e h4; exact absurd hc e⟩
  · rw [(enc_bad hc).2]
    exact ⟨fun _ => .inr (.inr hc), fun _ => by decide⟩
theorem wrg_a (h : encE (wkOf b) ≠ 0) : true = decide (decBad b) := by
  have : ¬ wkGood (wkOf b) := fun e => h (enc_good e).2
  exact (decide_eq_true (.inr (.inr this))).symm
theorem wrg_b (h : ¬ encE (wkOf b) ≠ 0) : decide (str (ewkB (wkOf b)) ≠ str b) = decide (decBad b) := by
  have hc : wkGood (wkOf b) := Classical.byContradiction fun e => h (by rw [(enc_bad e).2]; decide)
  rw [(enc_good hc).1, Bool.eq_iff_iff, decide_eq_true_eq, decide_eq_true_eq]
  have h1 := rdec_iff b
  unfold rdecOk at h1
  constructor
  · intro h2
    exact Classical.byContradiction fun h3 => h2 (congrArg str (h1.2 h3).2)
  · intro h2 h3
    exact h1.1 ⟨hc, str_inj.1 h3⟩ h2
end
theorem decW_name (b : List (BitVec 8)) : (decW b).name.length ≤ 32 := by
  unfold decW
  split
  · exact Nat.zero_le _
  · rename_i h
    exact (wk_whole h).2.2.2.2.2
theorem Rst.u8_nat2 (r : Rst) : (beN (r.got 1)).toNat = r.u8.toNat := by
  unfold Rst.u8
  have h := rdGot_len r.bs r.sh 1
  rw [BitVec.toNat_setWidth]
  have : (beN (r.got 1)).toNat < 256 := by
    show (beN (rdGot r.bs r.sh 1)).toNat < 256
    generalize rdGot r.bs r.sh 1 = g at h ⊢
    match g, h with
    | [], _ => decide
    | [x], _ =>
      have := x.isLt
      show (((0#64 : BitVec 64) <<< 8) ||| x.setWidth 64).toNat < 256
      rw [step_nat _ _ (by decide)]
      simp
      exact this
  omega
theorem Rst.u32_nat (r : Rst) : (beN (r.got 4)).toNat = r.u32.toNat := by
  unfold Rst.u32
  rw [BitVec.toNat_setWidth]
  have h : (r.got 4).length = 4 ∨ r.got 4 = [] := by
    show (rdGot r.bs r.sh 4).length = 4 ∨ rdGot r.bs r.sh 4 = []
    unfold rdGot rdShort
    cases r.sh
    · by_cases h : r.bs.length < 4
      · right; simp [h]
      · left; simp [h]; omega
    · right; rfl
  have : (beN (r.got 4)).toNat < 4294967296 := by
    generalize r.got 4 = g at h ⊢
    rcases h with h | rfl
    · match g, h with
      | [a, b, c, d], _ =>
        rw [beN4]
        have := a.isLt; have := b.isLt; have := c.isLt; have := d.isLt
        omega
    · decide
  omega
end Go.SL

set_option linter.unusedVariables false
set_option linter.unusedSimpArgs false
namespace Go.SL
structure Kp where
  order : BitVec 32
  step : Int
  undo : Bool
  asked : List (BitVec 8)
  code : Int
  reply : List (BitVec 8)
deriving DecidableEq
def kc (k : Kp) (va vr : Value) : List Value := [.int .u32 k.order.toNat, .int .i64 k.step, .bool k.undo, va, .int .i64 k.code, vr]
theorem kc_len (k : Kp) (va vr : Value) : (kc k va vr).length = 6 := rfl
def Kp.z : Kp := ⟨0#32, 0, false, [], 0, []⟩
def keyc (o : BitVec 32) (s : Int) (u : Bool) : List Value := [.int .u32 o.toNat, .int .i64 s, .bool u]
def numb (o : BitVec 32) (s : Int) (u : Bool) : Nat := o.toNat * 256 + s.toNat * 2 + (if u then 1 else 0)
def Kp.num (k : Kp) : Nat := numb k.order k.step k.undo
theorem numb_inj {o o' : BitVec 32} {s s' : Int} {u u' : Bool} (h0 : 0 ≤ s) (h : s < 16) (h0' : 0 ≤ s') (h' : s' < 16) (e : numb o s u = numb o' s' u') : o = o' ∧ s = s' ∧ u = u' := by
  unfold numb at e
  have e1 : o.toNat = o'.toNat := by revert e; split <;> split <;> omega
  have e2 : s = s' := by revert e; split <;> split <;> omega
  refine ⟨BitVec.eq_of_toNat_eq e1, e2, ?_⟩
  revert e
  cases u <;> cases u' <;> simp <;> omega
theorem numB_of {o : BitVec 32} {s : Int} (h0 : 0 ≤ s) (h : s < 16) : ((o.setWidth 64 <<< 8) ||| (BitVec.ofInt 64 s <<< 1)).toNat = o.toNat * 256 + s.toNat * 2 := by
  obtain ⟨n, rfl⟩ := Int.eq_ofNat_of_zero_le h0
  have hn : n < 16 := by omega
  have ho := o.isLt
  have e1 : (BitVec.ofInt 64 (n : Int) <<< 1).toNat = n * 2 := by
    simp [BitVec.toNat_shiftLeft, Nat.shiftLeft_eq]
    omega
  have e2 : (o.setWidth 64 <<< 8).toNat = 2 ^ 8 * o.toNat := by
    simp [BitVec.toNat_shiftLeft, Nat.shiftLeft_eq]
    omega
  rw [BitVec.toNat_or, e1, e2, ← Nat.two_pow_add_eq_or_of_lt (by omega)]
  simp
  omega
theorem numB_one {x : BitVec 64} (h : x.toNat % 2 = 0) : (x ||| 1#64).toNat = x.toNat + 1 := by
  have e : x.toNat = 2 ^ 1 * (x.toNat / 2) := by omega
  rw [BitVec.toNat_or, e]
  have := Nat.two_pow_add_eq_or_of_lt (i := 1) (b := 1) (by omega) (x.toNat / 2)
  simpa using this.symm
theorem numB_u {o : BitVec 32} {s : Int} (h0 : 0 ≤ s) (h : s < 16) : (((o.setWidth 64 <<< 8) ||| (BitVec.ofInt 64 s <<< 1)) ||| 1#64).toNat = o.toNat * 256 + s.toNat * 2 + 1 := by
  rw [numB_one (by rw [numB_of h0 h]; omega), numB_of h0 h]
def rightP (k : Kp) : Prop := 0 < k.order.toNat ∧ 0 ≤ k.step ∧ k.step < 16 ∧ k.asked.length ≤ 255 ∧ k.reply.length ≤ 255 ∧ (k.code = 1 ∨ k.code = 2)
instance (k : Kp) : Decidable (rightP k) := by unfold rightP; infer_instance
def chk (ks : List Kp) : Prop := ks.length ≤ 200 ∧ (∀ k ∈ ks, rightP k) ∧ ks.Pairwise fun a b => a.num < b.num
instance (ks : List Kp) : Decidable (chk ks) := by unfold chk; infer_instance
theorem chk_nil : chk [] := ⟨Nat.zero_le _, fun _ h => absurd h List.not_mem_nil, List.Pairwise.nil⟩
theorem chk_take0 (ks : List Kp) : chk (ks.take 0) := by rw [List.take_zero]; exact chk_nil
theorem chk_right {ks : List Kp} (h : chk ks) {i : Nat} (hi : i < ks.length) : rightP ks[i] := h.2.1 _ (List.getElem_mem hi)
theorem chk_lt {ks : List Kp} (h : chk ks) {i j : Nat} (hij : i < j) (hj : j < ks.length) : (ks[i]'(by omega)).num < ks[j].num := List.pairwise_iff_getElem.1 h.2.2 i j (by omega) hj hij
theorem chk_step {ks : List Kp} {i : Nat} (h : chk (ks.take i)) (hl : ks.length ≤ 200) (hi : i < ks.length) (hr : rightP ks[i]) (ho : i = 0 ∨ (ks[i - 1]'(by omega)).num < ks[i].num) : chk (ks.take (i + 1)) := by
  rw [List.take_succ_eq_append_getElem hi]
  refine ⟨by simp; omega, fun k hk => ?_, List.pairwise_append.2 ⟨h.2.2, List.pairwise_singleton _ _, fun x hx y hy => ?_⟩⟩
  · rcases List.mem_append.1 hk with hk | hk
    · exact h.2.1 k hk
    · rw [List.mem_singleton.1 hk]; exact hr
  · rw [List.mem_singleton.1 hy]
    obtain ⟨j, hj, rfl⟩ := List.mem_iff_getElem.1 hx
    rw [List.length_take] at hj
    rcases ho with rfl | ho
    · omega
    · by_cases e : j = i - 1
      · subst e; simpa using ho
      · have := chk_lt h (i := j) (j := i - 1) (by omega) (by rw [List.length_take]; omega)
        simp only [List.getElem_take] at this ⊢
        omega
theorem chk_adj {ks : List Kp} (h : chk ks) {i : Nat} (h0 : 0 < i) (hi : i < ks.length) : (ks[i - 1]'(by omega)).num < ks[i].num := chk_lt h (by omega) hi
def pos (ks : List Kp) (n : Nat) : Nat := (ks.takeWhile fun k => decide (k.num < n)).length
def getK (ks : List Kp) (n : Nat) : Option Kp := ks.find? fun k => decide (k.num = n)
theorem pos_le (ks : List Kp) (n : Nat) : pos ks n ≤ ks.length := (List.takeWhile_sublist _).length_le
theorem pos_yes {k : Kp} {ks : List Kp} {n : Nat} (h : k.num < n) : pos (k :: ks) n = pos ks n + 1 := by
  unfold pos
  rw [List.takeWhile_cons_of_pos (by simpa using h), List.length_cons]
theorem pos_no {k : Kp} {ks : List Kp} {n : Nat} (h : ¬ k.num < n) : pos (k :: ks) n = 0 := by
  unfold pos
  rw [List.takeWhile_cons_of_neg (by simpa using h)]
  rfl
theorem pos_eq {n : Nat} : ∀ {ks : List Kp} {i : Nat}, i ≤ ks.length → (∀ t (h : t < ks.length), t < i → ks[t].num < n) → (∀ (h : i < ks.length), n ≤ ks[i].num) → pos ks n = i
  | [], i, h, _, _ => by simp at h; subst h; rfl
  | k :: ks, 0, _, _, h2 => pos_no (by have := h2 (by simp); simp only [List.getElem_cons_zero] at this; omega)
  | k :: ks, i + 1, h, h1, h2 => by
    have h0 := h1 0 (by simp) (by omega)
    simp only [List.getElem_cons_zero] at h0
    have ih := pos_eq (n := n) (ks := ks) (i := i) (by simpa using h) (fun t ht hti => by have := h1 (t + 1) (by simpa using ht) (by omega); rwa [List.getElem_cons_succ] at this) (fun hi => by have := h2 (by simpa using hi); rwa [List.getElem_cons_succ] at this)
    rw [pos_yes h0, ih]
theorem pos_below {n : Nat} : ∀ {ks : List Kp} {t : Nat} (h : t < ks.length), t < pos ks n → ks[t].num < n
  | k :: ks, t, h, ht => by
    by_cases e : k.num < n
    · cases t with
      | zero => exact e
      | succ t =>
        rw [pos_yes e] at ht
        exact pos_below (ks := ks) (by simpa using h) (by omega)
    · rw [pos_no e] at ht; omega
theorem pos_above {n : Nat} : ∀ {ks : List Kp} {t : Nat} (h : t < ks.length), t = pos ks n → n ≤ ks[t].num
  | k :: ks, t, h, ht => by
    by_cases e : k.num < n
    · rw [pos_yes e] at ht
      subst ht
      exact pos_above (ks := ks) (by simpa using h) rfl
    · rw [pos_no e] at ht
      subst ht
      simpa using e
theorem getK_at {ks : List Kp} (h : chk ks) {i : Nat} (hi : i < ks.length) : getK ks ks[i].num = some ks[i] := by
  unfold getK
  rw [List.find?_eq_some_iff_getElem]
  refine ⟨by simp, i, hi, rfl, fun j hj => ?_⟩
  have := chk_lt h hj hi
  simp
  omega
theorem getK_some {ks : List Kp} {n : Nat} {k : Kp} (h : getK ks n = some k) : k ∈ ks ∧ k.num = n := by
  unfold getK at h
  exact ⟨List.mem_of_find?_eq_some h, by simpa using List.find?_some h⟩
theorem getK_none {ks : List Kp} {n : Nat} (h : getK ks n = none) : ∀ k ∈ ks, k.num ≠ n := fun k hk e => by
  have := List.find?_eq_none.1 h k hk
  simp at this
  exact this e
theorem getK_pos {ks : List Kp} (h : chk ks) {n : Nat} : (getK ks n = none ∧ ∀ (hi : pos ks n < ks.length), ks[pos ks n].num ≠ n) ∨ ∃ hi : pos ks n < ks.length, ks[pos ks n].num = n ∧ getK ks n = some ks[pos ks n] := by
  cases e : getK ks n with
  | none => exact .inl ⟨rfl, fun hi => getK_none e _ (List.getElem_mem _)⟩
  | some k =>
    right
    obtain ⟨hk, hn⟩ := getK_some e
    obtain ⟨i, hi, rfl⟩ := List.mem_iff_getElem.1 hk
    have : pos ks n = i := pos_eq (by omega) (fun t ht hti => by have := chk_lt h hti hi; omega) (fun _ => by omega)
    subst this
    exact ⟨hi, hn, rfl⟩
def insAt (ks : List Kp) (i : Nat) (k : Kp) : List Kp := ks.take i ++ k :: ks.drop i
theorem insAt_len {ks : List Kp} {i : Nat} (k : Kp) (h : i ≤ ks.length) : (insAt ks i k).length = ks.length + 1 := by
  simp [insAt]
  omega
theorem Gr.get {A B : List Ck} {c : Ck} (h : ∀ x ∈ A, x ∈ B) (hm : c ∈ A) : c ∈ B := h c hm
inductive KVs (H : List Ck) : List Value → List Kp → Prop
  | nil : KVs H [] []
  | cons {k : Kp} {va vr : Value} {cs : List Value} {ks : List Kp} : Bs va k.asked H → Bs vr k.reply H → KVs H cs ks → KVs H (kc k va vr ++ cs) (k :: ks)
theorem KVs.len {H : List Ck} {cs : List Value} {ks : List Kp} (h : KVs H cs ks) : cs.length = ks.length * 6 := by
  induction h with
  | nil => rfl
  | cons _ _ _ ih => simp only [List.length_append, kc_len, ih, List.length_cons]; omega
theorem KVs.mono {A B : List Ck} {cs : List Value} {ks : List Kp} (h : KVs A cs ks) (s : ∀ c ∈ A, c ∈ B) : KVs B cs ks := by
  induction h with
  | nil => exact .nil
  | cons h1 h2 _ ih => exact .cons (h1.mono s) (h2.mono s) ih
theorem KVs.at {H : List Ck} {cs : List Value} {ks : List Kp} (h : KVs H cs ks) : ∀ (i : Nat) (hi : i < ks.length), ∃ va vr, (cs.drop (i * 6)).take 6 = kc ks[i] va vr ∧ Bs va ks[i].asked H ∧ Bs vr ks[i].reply H := by
  induction h with
  | nil => intro i hi; simp at hi
  | @cons k va vr cs ks h1 h2 h3 ih =>
    intro i hi
    cases i with
    | zero => exact ⟨va, vr, by simp [List.take_append, kc_len]; rfl, h1, h2⟩
    | succ i =>
      obtain ⟨va', vr', g1, g2, g3⟩ := ih i (by simpa using hi)
      refine ⟨va', vr', ?_, g2, g3⟩
      rw [show (i + 1) * 6 = (kc k va vr).length + i * 6 by rw [kc_len]; omega, List.drop_length_add_append]
      exact g1
def KV (v : Value) (ks : List Kp) (H : List Ck) : Prop := ∃ cs, Rs v ks.length cs H ∧ KVs H cs ks
theorem KV.mono {v : Value} {ks : List Kp} {A B : List Ck} (h : KV v ks A) (s : ∀ c ∈ A, c ∈ B) : KV v ks B := by
  obtain ⟨cs, h1, h2⟩ := h
  exact ⟨cs, h1.mono s, h2.mono s⟩
theorem KV.form {v : Value} {ks : List Kp} {A : List Ck} (h : KV v ks A) : ∃ ao cap, v = .slice ao ks.length cap ∧ ks.length ≤ cap := by
  obtain ⟨cs, h1, _⟩ := h
  exact h1.form
theorem IsSl.of {v : Value} {l : List (BitVec 8)} {A : List Ck} (h : Bs v l A) : IsSl v l.length := by
  obtain ⟨ao, c, rfl, _⟩ := h.form
  exact ⟨ao, c, rfl⟩
inductive Kts (T : TypeId) : List Value → List Kp → List Ck → Prop
  | nil : Kts T [] [] []
  | cons {k : Kp} {va vr : Value} {A B : List Ck} {cs : List Value} {ks : List Kp} {D : List Ck} : Ob T va k.asked A → Ob T vr k.reply B → Kts T cs ks D → Kts T (kc k va vr ++ cs) (k :: ks) (A ++ (B ++ D))
theorem Kts.len {T : TypeId} {cs : List Value} {ks : List Kp} {D : List Ck} (h : Kts T cs ks D) : cs.length = ks.length * 6 := by
  induction h with
  | nil => rfl
  | cons _ _ _ ih => simp only [List.length_append, kc_len, ih, List.length_cons]; omega
theorem kc_one {k : Kp} {va vr : Value} (h1 : va.oneCell' = true) (h2 : vr.oneCell' = true) : ∀ u ∈ kc k va vr, u.oneCell' = true := by
  intro u hu
  simp only [kc, List.mem_cons, List.not_mem_nil, or_false] at hu
  rcases hu with rfl | rfl | rfl | rfl | rfl | rfl <;> first | rfl | exact h1 | exact h2
theorem Kts.one {T : TypeId} {cs : List Value} {ks : List Kp} {D : List Ck} (h : Kts T cs ks D) : ∀ u ∈ cs, u.oneCell' = true := by
  induction h with
  | nil => intro u hu; cases hu
  | cons h1 h2 _ ih =>
    intro u hu
    rcases List.mem_append.1 hu with hu | hu
    · exact kc_one h1.one_cell h2.one_cell u hu
    · exact ih u hu
theorem Kts.append {T : TypeId} {cs cs' : List Value} {ks ks' : List Kp} {D D' : List Ck} (h : Kts T cs ks D) (k : Kts T cs' ks' D') : Kts T (cs ++ cs') (ks ++ ks') (D ++ D') := by
  induction h with
  | nil => exact k
  | cons h1 h2 _ ih =>
    rw [List.append_assoc, List.cons_append, List.append_assoc, List.append_assoc]
    exact .cons h1 h2 ih
theorem Kts.one' {T : TypeId} {k : Kp} {va vr : Value} {A B : List Ck} (h1 : Ob T va k.asked A) (h2 : Ob T vr k.reply B) : Kts T (kc k va vr) [k] (A ++ B) := by
  have := Kts.cons h1 h2 Kts.nil
  simpa using this
theorem Kts.split {T : TypeId} {cs : List Value} {ks : List Kp} {D : List Ck} (h : Kts T cs ks D) : ∀ (i : Nat), i ≤ ks.length → ∃ D1 D2, D = D1 ++ D2 ∧ Kts T (cs.take (i * 6)) (ks.take i) D1 ∧ Kts T (cs.drop (i * 6)) (ks.drop i) D2 := by
  induction h with
  | nil => intro i hi; simp at hi; subst hi; exact ⟨[], [], rfl, .nil, .nil⟩
  | @cons k va vr A B cs ks D h1 h2 h3 ih =>
    intro i hi
    cases i with
    | zero => exact ⟨[], A ++ (B ++ D), rfl, .nil, .cons h1 h2 h3⟩
    | succ i =>
      obtain ⟨D1, D2, rfl, g1, g2⟩ := ih i (by simpa using hi)
      refine ⟨A ++ (B ++ D1), D2, by simp, ?_, ?_⟩
      · rw [show (i + 1) * 6 = (kc k va vr).length + i * 6 by rw [kc_len]; omega, List.take_length_add_append, List.take_succ_cons]
        exact .cons h1 h2 g1
      · rw [show (i + 1) * 6 = (kc k va vr).length + i * 6 by rw [kc_len]; omega, List.drop_length_add_append, List.drop_succ_cons]
        exact g2
theorem Kts.ins {T : TypeId} {cs : List Value} {ks : List Kp} {D : List Ck} (h : Kts T cs ks D) {i : Nat} (hi : i ≤ ks.length) {k : Kp} {va vr : Value} {A B : List Ck} (h1 : Ob T va k.asked A) (h2 : Ob T vr k.reply B) :
    ∃ D', Kts T (cs.take (i * 6) ++ (kc k va vr ++ cs.drop (i * 6))) (insAt ks i k) D' ∧ D'.Perm (D ++ (A ++ B)) := by
  obtain ⟨D1, D2, rfl, g1, g2⟩ := h.split i hi
  refine ⟨_, g1.append (.cons h1 h2 g2), ?_⟩
  classical
  exact List.perm_iff_count.2 fun q => by simp only [List.count_append]; omega
theorem Kts.views {T : TypeId} {cs : List Value} {ks : List Kp} {D : List Ck} (h : Kts T cs ks D) : KVs D cs ks := by
  induction h with
  | nil => exact .nil
  | @cons k va vr A B cs ks D h1 h2 h3 ih => exact .cons (h1.bs.mono fun c hc => List.mem_append_left _ hc) (h2.bs.mono fun c hc => List.mem_append_right _ (List.mem_append_left _ hc)) (ih.mono fun c hc => List.mem_append_right _ (List.mem_append_right _ hc))
def FAt (T8 TK : TypeId) (v : Value) (ks : List Kp) (H : List Ck) : Prop := ∃ cs C D, Own v ks.length cs TK 6 C ∧ Kts T8 cs ks D ∧ H = C ++ D
theorem FAt.kv {T8 TK : TypeId} {v : Value} {ks : List Kp} {H : List Ck} (h : FAt T8 TK v ks H) : KV v ks H := by
  obtain ⟨cs, C, D, h1, h2, rfl⟩ := h
  exact ⟨cs, h1.rs.mono fun c hc => List.mem_append_left _ hc, h2.views.mono fun c hc => List.mem_append_right _ hc⟩
theorem FAt.nil (T8 TK : TypeId) : FAt T8 TK (.slice none 0 0) [] [] := ⟨[], [], [], Own.nil _ _, .nil, rfl⟩
theorem FAt.form {T8 TK : TypeId} {v : Value} {ks : List Kp} {H : List Ck} (h : FAt T8 TK v ks H) : ∃ ao c, v = .slice ao ks.length c := by
  obtain ⟨cs, C, D, h1, h2, rfl⟩ := h
  obtain ⟨ao, c, rfl, _⟩ := h1.form
  exact ⟨ao, c, rfl⟩
def findF (ks : List Kp) (o : BitVec 32) (s : Int) (u : Bool) : Option Kp := if chk ks ∧ 0 ≤ s ∧ s < 16 then getK ks (numb o s u) else none
def askBad (ks : List Kp) (n : Nt) : Prop := ¬ chk ks ∨ n.kind ≠ 7 ∨ noteBad n = true ∨ n.epoch = 0#32 ∨ n.order = 0#32
instance (ks : List Kp) (n : Nt) : Decidable (askBad ks n) := by unfold askBad; infer_instance
def askK (e : BitVec 32) (ks : List Kp) (n : Nt) : Int × Kp × Int :=
  if askBad ks n then (0, Kp.z, 2)
  else if n.epoch.toNat < e.toNat then (0, Kp.z, 72)
  else match getK ks (numb n.order n.step n.undo) with
    | some k => if k.asked = n.data then (2, k, 0) else (0, Kp.z, 80)
    | none => match getK ks (numb n.order n.step (!n.undo)) with
      | some k => if n.undo = false then (3, Kp.z, 0) else if k.code = 2 then (4, Kp.z, 0) else (1, Kp.z, 0)
      | none => if n.undo = true then (4, Kp.z, 0) else (1, Kp.z, 0)
def stepK (n : Nt) (code : Int) (reply : List (BitVec 8)) : Kp := ⟨n.order, n.step, n.undo, n.data, code, reply⟩
def keepK (e : BitVec 32) (ks : List Kp) (n : Nt) (code : Int) (reply : List (BitVec 8)) : BitVec 32 × List Kp × Int :=
  if (askK e ks n).2.2 ≠ 0 then (0#32, [], (askK e ks n).2.2)
  else if ¬ rightP (stepK n code reply) ∨ ((askK e ks n).1 = 3 ∧ code ≠ 2) ∨ ((askK e ks n).1 = 4 ∧ code ≠ 1) then (0#32, [], 2)
  else if (askK e ks n).1 = 2 then (0#32, [], 81)
  else if 200 ≤ ks.length then (0#32, [], 5)
  else (n.epoch, insAt ks (pos ks (stepK n code reply).num) (stepK n code reply), 0)
def seeK (e : BitVec 32) (ks : List Kp) (x : BitVec 32) : BitVec 32 × List Kp × Int :=
  if ¬ chk ks then (0#32, [], 2) else if x.toNat < e.toNat then (0#32, [], 72) else (x, ks, 0)
theorem noteBad_step {n : Nt} (h : noteBad n = false) : 0 ≤ n.step ∧ n.step < 16 ∧ n.data.length ≤ 255 := by
  have h2 : farB n = false := by
    cases e : farB n
    · rfl
    · rw [noteBad, e] at h; simp at h
  simp only [farB, Bool.or_eq_false_iff, decide_eq_false_iff_not] at h2
  omega
theorem findF_ok {ks : List Kp} {o : BitVec 32} {s : Int} {u : Bool} (h : chk ks) (h0 : 0 ≤ s) (h1 : s < 16) : findF ks o s u = getK ks (numb o s u) := if_pos ⟨h, h0, h1⟩
theorem findF_no {ks : List Kp} {o : BitVec 32} {s : Int} {u : Bool} (h : ¬ (chk ks ∧ 0 ≤ s ∧ s < 16)) : findF ks o s u = none := if_neg h
section
variable {e : BitVec 32} {ks : List Kp} {n : Nt}
theorem askK_arg (h : askBad ks n) : askK e ks n = (0, Kp.z, 2) := if_pos h
theorem askK_old (h : ¬ askBad ks n) (h2 : n.epoch.toNat < e.toNat) : askK e ks n = (0, Kp.z, 72) := by
  unfold askK; rw [if_neg h, if_pos h2]
theorem askK_again (h : ¬ askBad ks n) (h2 : ¬ n.epoch.toNat < e.toNat) {k : Kp} (hk : getK ks (numb n.order n.step n.undo) = some k) (ha : k.asked = n.data) : askK e ks n = (2, k, 0) := by
  unfold askK; rw [if_neg h, if_neg h2]; simp only [hk, ha, if_true]
theorem askK_clash (h : ¬ askBad ks n) (h2 : ¬ n.epoch.toNat < e.toNat) {k : Kp} (hk : getK ks (numb n.order n.step n.undo) = some k) (ha : k.asked ≠ n.data) : askK e ks n = (0, Kp.z, 80) := by
  unfold askK; rw [if_neg h, if_neg h2]; simp only [hk, if_neg ha]
theorem askK_refuse (h : ¬ askBad ks n) (h2 : ¬ n.epoch.toNat < e.toNat) (hk : getK ks (numb n.order n.step n.undo) = none) {k : Kp} (hk2 : getK ks (numb n.order n.step (!n.undo)) = some k) (hu : n.undo = false) : askK e ks n = (3, Kp.z, 0) := by
  unfold askK; rw [if_neg h, if_neg h2]; simp only [hk, hk2, if_pos hu]
theorem askK_undone (h : ¬ askBad ks n) (h2 : ¬ n.epoch.toNat < e.toNat) (hk : getK ks (numb n.order n.step n.undo) = none) {k : Kp} (hk2 : getK ks (numb n.order n.step (!n.undo)) = some k) (hu : n.undo = true) : askK e ks n = (if k.code = 2 then (4, Kp.z, 0) else (1, Kp.z, 0)) := by
  unfold askK; rw [if_neg h, if_neg h2]; simp only [hk, hk2, if_neg (show ¬ n.undo = false by rw [hu]; decide)]
theorem askK_new (h : ¬ askBad ks n) (h2 : ¬ n.epoch.toNat < e.toNat) (hk : getK ks (numb n.order n.step n.undo) = none) (hk2 : getK ks (numb n.order n.step (!n.undo)) = none) : askK e ks n = (if n.undo = true then (4, Kp.z, 0) else (1, Kp.z, 0)) := by
  unfold askK; rw [if_neg h, if_neg h2]; simp only [hk, hk2]
theorem askK_two (h : ¬ askBad ks n) (h2 : ¬ n.epoch.toNat < e.toNat) (hk : getK ks (numb n.order n.step n.undo) = none) {g : Option Kp} (hg : g = getK ks (numb n.order n.step (!n.undo))) :
    askK e ks n = if n.undo = false ∧ g.isSome = true then (3, Kp.z, 0) else if n.undo = true ∧ (g.isSome = false ∨ (g.getD Kp.z).code = 2) then (4, Kp.z, 0) else (1, Kp.z, 0) := by
  cases g with
  | none =>
    rw [askK_new h h2 hk hg.symm]
    simp
  | some k =>
    cases hu : n.undo with
    | false => rw [askK_refuse h h2 hk hg.symm hu]; simp
    | true => rw [askK_undone h h2 hk hg.symm hu]; simp
theorem askK_ok (h : (askK e ks n).2.2 = 0) : ¬ askBad ks n ∧ ¬ n.epoch.toNat < e.toNat := by
  refine ⟨fun hb => ?_, fun hb => ?_⟩
  · rw [askK_arg hb] at h; exact absurd h (by decide)
  · by_cases h2 : askBad ks n
    · rw [askK_arg h2] at h; exact absurd h (by decide)
    · rw [askK_old h2 hb] at h; exact absurd h (by decide)
theorem good_chk (h : ¬ askBad ks n) : chk ks := Classical.byContradiction fun h2 => h (.inl h2)
end
def keepBad (q : Int × Kp × Int) (k : Kp) : Prop := ¬ rightP k ∨ (q.1 = 3 ∧ k.code ≠ 2) ∨ (q.1 = 4 ∧ k.code ≠ 1)
instance (q : Int × Kp × Int) (k : Kp) : Decidable (keepBad q k) := by unfold keepBad; infer_instance
section
variable {e : BitVec 32} {ks : List Kp} {n : Nt} {code : Int} {reply : List (BitVec 8)}
theorem keepK_err (h : (askK e ks n).2.2 ≠ 0) : keepK e ks n code reply = (0#32, [], (askK e ks n).2.2) := if_pos h
theorem keepK_bad (h : ¬ (askK e ks n).2.2 ≠ 0) (h2 : keepBad (askK e ks n) (stepK n code reply)) : keepK e ks n code reply = (0#32, [], 2) := by
  unfold keepK; rw [if_neg h]; exact if_pos h2
theorem keepK_twice (h : ¬ (askK e ks n).2.2 ≠ 0) (h2 : ¬ keepBad (askK e ks n) (stepK n code reply)) (h3 : (askK e ks n).1 = 2) : keepK e ks n code reply = (0#32, [], 81) := by
  unfold keepK; rw [if_neg h]; exact (if_neg h2).trans (if_pos h3)
theorem keepK_full (h : ¬ (askK e ks n).2.2 ≠ 0) (h2 : ¬ keepBad (askK e ks n) (stepK n code reply)) (h3 : ¬ (askK e ks n).1 = 2) (h4 : 200 ≤ ks.length) : keepK e ks n code reply = (0#32, [], 5) := by
  unfold keepK; rw [if_neg h]; exact (if_neg h2).trans ((if_neg h3).trans (if_pos h4))
theorem keepK_ok (h : ¬ (askK e ks n).2.2 ≠ 0) (h2 : ¬ keepBad (askK e ks n) (stepK n code reply)) (h3 : ¬ (askK e ks n).1 = 2) (h4 : ¬ 200 ≤ ks.length) : keepK e ks n code reply = (n.epoch, insAt ks (pos ks (stepK n code reply).num) (stepK n code reply), 0) := by
  unfold keepK; rw [if_neg h]; exact (if_neg h2).trans ((if_neg h3).trans (if_neg h4))
end
end Go.SL

set_option linter.unusedVariables false
set_option linter.unusedSimpArgs false
namespace Go.SL
variable {P : Program} {l : Sl} {d : Option Nat} {ty : TypeId} {pos : String} {aft : Array Edge} {g : Option (Nat × Bool)}
theorem lt_spec : ∀ a b : List UInt8, (Go.Lib.compareBytes a b < 0) ↔ Op.bytesLess a b = true
  | [], [] => by simp [Go.Lib.compareBytes, Op.bytesLess]
  | [], _ :: _ => by simp [Go.Lib.compareBytes, Op.bytesLess]
  | _ :: _, [] => by simp [Go.Lib.compareBytes, Op.bytesLess]
  | a :: x, b :: y => by
    have ih := lt_spec x y
    simp only [Go.Lib.compareBytes, Op.bytesLess, Bool.or_eq_true, Bool.and_eq_true, decide_eq_true_eq, beq_iff_eq]
    by_cases h : a < b
    · simp [h]
    · by_cases h2 : b < a
      · have hne : a ≠ b := fun e => by subst e; exact h h2
        simp [h, h2, hne]
      · have : a = b := UInt8.le_antisymm (UInt8.not_lt.1 h2) (UInt8.not_lt.1 h)
        subst this
        simp [h, ih]
theorem bl_irrefl : ∀ a : List UInt8, Op.bytesLess a a = false
  | [] => rfl
  | a :: x => by simp [Op.bytesLess, bl_irrefl x, UInt8.lt_irrefl]
theorem bl_trans : ∀ a b c : List UInt8, Op.bytesLess a b = true → Op.bytesLess b c = true → Op.bytesLess a c = true
  | _, [], _, h, _ => by simp [Op.bytesLess] at h
  | _, _ :: _, [], _, h => by simp [Op.bytesLess] at h
  | [], _ :: _, _ :: _, _, _ => by simp [Op.bytesLess]
  | a :: x, b :: y, c :: z, h1, h2 => by
    simp only [Op.bytesLess, Bool.or_eq_true, Bool.and_eq_true, decide_eq_true_eq, beq_iff_eq] at *
    rcases h1 with h1 | ⟨rfl, h1⟩
    · rcases h2 with h2 | ⟨rfl, h2⟩
      · exact .inl (UInt8.lt_trans h1 h2)
      · exact .inl h1
    · rcases h2 with h2 | ⟨rfl, h2⟩
      · exact .inl h2
      · exact .inr ⟨rfl, bl_trans x y z h1 h2⟩
theorem bl_tri : ∀ a b : List UInt8, Op.bytesLess a b = true ∨ a = b ∨ Op.bytesLess b a = true
  | [], [] => by simp
  | [], _ :: _ => by simp [Op.bytesLess]
  | _ :: _, [] => by simp [Op.bytesLess]
  | a :: x, b :: y => by
    simp only [Op.bytesLess, Bool.or_eq_true, Bool.and_eq_true, decide_eq_true_eq, beq_iff_eq, List.cons.injEq]
    by_cases h : a < b
    · exact .inl (.inl h)
    · by_cases h2 : b < a
      · exact .inr (.inr (.inl h2))
      · have : a = b := UInt8.le_antisymm (UInt8.not_lt.1 h2) (UInt8.not_lt.1 h)
        subst this
        rcases bl_tri x y with h3 | h3 | h3
        · exact .inl (.inr ⟨rfl, h3⟩)
        · exact .inr (.inl ⟨rfl, h3⟩)
        · exact .inr (.inr (.inr ⟨rfl, h3⟩))
def sLt (a b : ByteArray) : Bool := Op.bytesLess a.data.toList b.data.toList
theorem toList_data (a : ByteArray) : a.toList = a.data.toList := ByteArray.toList_eq a
theorem sLt_irrefl (a : ByteArray) : sLt a a = false := bl_irrefl _
theorem sLt_trans {a b c : ByteArray} (h1 : sLt a b = true) (h2 : sLt b c = true) : sLt a c = true := bl_trans _ _ _ h1 h2
theorem sLt_tri (a b : ByteArray) : sLt a b = true ∨ a = b ∨ sLt b a = true := by
  rcases bl_tri a.data.toList b.data.toList with h | h | h
  · exact .inl h
  · refine .inr (.inl ?_)
    cases a; cases b
    simp only at h
    congr 1
    exact Array.ext' h
  · exact .inr (.inr h)
def cmpS (a b : ByteArray) : Int := Go.Lib.compareBytes a.data.toList b.data.toList
theorem cmpS_lt (a b : ByteArray) : (cmpS a b < 0) ↔ sLt a b = true := lt_spec _ _
theorem Yd.lssS {T T' : TypeId} {x y : Operand} {s s' : ByteArray} (hx : ev l x = some (.string s)) (hy : ev l y = some (.string s')) : Yd P ⟨d, .binOp .lss T x y T', ty, pos, aft, g⟩ l (.bool (sLt s s')) := fun a kn w => by
  have hg : (eqGuard .lss T x y (.string s) (.string s')).run P w = .ok () w := by unfold eqGuard; simp
  simp [execOp, kn.ev hx, kn.ev hy, hg, binOp, Op.stringOp, sLt, toList_data]
end Go.SL

set_option linter.unusedVariables false
set_option linter.unusedSimpArgs false
set_option linter.unusedSectionVars false
namespace Go.SL
section
variable {ρ κ : Type} [DecidableEq κ] (key : ρ → κ)
def findK (L : List ρ) (k : κ) : Option ρ := L.find? fun r => decide (k = key r)
def putK (L : List ρ) (r : ρ) : List ρ := if (findK key L (key r)).isSome then L.map (fun x => if key r = key x then r else x) else L ++ [r]
def delK (L : List ρ) (k : κ) : List ρ := L.filter fun r => decide (k ≠ key r)
def kvs (enc : ρ → Value) (L : List ρ) : List (κ × Value) := L.map fun r => (key r, enc r)
variable {key}
theorem findK_mem {L : List ρ} {k : κ} {r : ρ} (h : findK key L k = some r) : r ∈ L ∧ key r = k := by
  have h1 := List.mem_of_find?_eq_some h
  have h2 := List.find?_some h
  exact ⟨h1, by simpa using (of_decide_eq_true h2).symm⟩
theorem findK_none {L : List ρ} {k : κ} (h : findK key L k = none) : ∀ r ∈ L, key r ≠ k := by
  intro r hr e
  have := List.find?_eq_none.1 h r hr
  simp [e] at this
theorem findK_of {L : List ρ} (hn : (L.map key).Nodup) {r : ρ} (hr : r ∈ L) : findK key L (key r) = some r := by
  induction L with
  | nil => cases hr
  | cons x L ih =>
    simp only [List.map_cons, List.nodup_cons] at hn
    rcases List.mem_cons.1 hr with rfl | hr
    · simp [findK]
    · have hne : key r ≠ key x := fun e => hn.1 (List.mem_map.2 ⟨r, hr, e⟩)
      unfold findK
      rw [List.find?_cons_of_neg (by simpa using hne)]
      exact ih hn.2 hr
theorem getG_kvs (enc : ρ → Value) (L : List ρ) (k : κ) : getG (kvs key enc L) k = (findK key L k).map enc := by
  induction L with
  | nil => rfl
  | cons r L ih =>
    by_cases h : k = key r
    · simp [getG, kvs, findK, h]
    · simp only [getG, kvs, findK, List.map_cons] at *
      rw [List.find?_cons_of_neg (by simpa using h), List.find?_cons_of_neg (by simpa using h)]
      exact ih
theorem setG_kvs (enc : ρ → Value) (L : List ρ) (r : ρ) (k : κ) (v : Value) (hk : k = key r) (hv : v = enc r) : setG (kvs key enc L) k v = kvs key enc (putK key L r) := by
  subst hk hv
  unfold setG putK
  rw [getG_kvs]
  simp only [Option.isSome_map]
  split
  · simp only [kvs, List.map_map]
    apply List.map_congr_left
    intro x _
    simp only [Function.comp]
    by_cases h : key r = key x
    · simp [h]
    · simp [h]
  · simp [kvs]
theorem delG_kvs (enc : ρ → Value) (L : List ρ) (k : κ) : delG (kvs key enc L) k = kvs key enc (delK key L k) := by
  induction L with
  | nil => rfl
  | cons r L ih =>
    simp only [delG, kvs, delK, List.map_cons] at *
    by_cases h : k = key r
    · rw [List.filter_cons_of_neg (by simp [h]), List.filter_cons_of_neg (by simp [h])]; exact ih
    · rw [List.filter_cons_of_pos (by simpa using h), List.filter_cons_of_pos (by simpa using h), List.map_cons]; rw [ih]
theorem kvs_keys (enc : ρ → Value) (L : List ρ) : (kvs key enc L).map (·.1) = L.map key := by simp [kvs, Function.comp_def]
theorem putK_keys (L : List ρ) (r : ρ) : (putK key L r).map key = if (findK key L (key r)).isSome then L.map key else L.map key ++ [key r] := by
  unfold putK
  split
  · rw [List.map_map]
    apply List.map_congr_left
    intro x _
    simp only [Function.comp]
    split
    · assumption
    · rfl
  · simp
theorem delK_nodup {L : List ρ} (h : (L.map key).Nodup) (k : κ) : ((delK key L k).map key).Nodup := h.sublist (List.filter_sublist.map _)
theorem map_find (r : ρ) (k : κ) : ∀ L : List ρ, findK key (L.map fun x => if key r = key x then r else x) k = if k = key r then (if (findK key L (key r)).isSome then some r else none) else findK key L k
  | [] => by simp [findK]
  | x :: L => by
    have ih := map_find r k L
    unfold findK at *
    by_cases h : key r = key x
    · rw [List.map_cons, if_pos h]
      by_cases hk : k = key r
      · rw [List.find?_cons_of_pos (by simpa using hk), if_pos hk, List.find?_cons_of_pos (by simpa using h)]
        rfl
      · rw [List.find?_cons_of_neg (by simpa using hk), ih, if_neg hk, if_neg hk, List.find?_cons_of_neg (by rw [← h]; simpa using hk)]
    · rw [List.map_cons, if_neg h]
      by_cases hk : k = key x
      · have hkr : k ≠ key r := fun e => h (by rw [← e, hk])
        rw [List.find?_cons_of_pos (by simpa using hk), if_neg hkr, List.find?_cons_of_pos (by simpa using hk)]
      · rw [List.find?_cons_of_neg (by simpa using hk), ih, List.find?_cons_of_neg (by simpa using h), List.find?_cons_of_neg (by simpa using hk)]
theorem putK_find (L : List ρ) (r : ρ) (k : κ) : findK key (putK key L r) k = if k = key r then some r else findK key L k := by
  unfold putK
  cases hf : findK key L (key r) with
  | some x =>
    simp only [Option.isSome_some, if_true]
    rw [map_find, hf]
    rfl
  | none =>
    simp only [Option.isSome_none, Bool.false_eq_true, if_false]
    unfold findK at *
    rw [List.find?_append]
    by_cases hk : k = key r
    · subst hk
      rw [hf, if_pos rfl]
      simp
    · rw [if_neg hk, List.find?_cons_of_neg (by simpa using hk)]
      simp
theorem delK_mem {L : List ρ} {k : κ} {r : ρ} : r ∈ delK key L k ↔ r ∈ L ∧ key r ≠ k := by
  unfold delK
  rw [List.mem_filter, decide_eq_true_eq]
  exact ⟨fun h => ⟨h.1, fun e => h.2 e.symm⟩, fun h => ⟨h.1, fun e => h.2 e.symm⟩⟩
theorem putK_mem {L : List ρ} {r x : ρ} (h : x ∈ putK key L r) : x = r ∨ (x ∈ L ∧ key x ≠ key r) ∨ (x ∈ L ∧ findK key L (key r) = none) := by
  unfold putK at h
  split at h
  · obtain ⟨y, hy, rfl⟩ := List.mem_map.1 h
    split
    · exact .inl rfl
    · rename_i hne
      exact .inr (.inl ⟨hy, fun e => hne e.symm⟩)
  · rename_i hn
    rcases List.mem_append.1 h with h | h
    · exact .inr (.inr ⟨h, by simpa using hn⟩)
    · exact .inl (List.mem_singleton.1 h)
variable {k0 : Kk κ} {enc : ρ → Value}
theorem entsK {es : Array MapEntry} {L : List ρ} (h : EntsG k0 es (kvs key enc L)) : es.toList.map (fun e => (e.key, e.val)) = L.map fun r => (k0.kv (key r), enc r) := by
  unfold EntsG kvs at h
  rw [h, List.map_map]
  rfl
theorem entsK_one {es : Array MapEntry} {L : List ρ} (h : EntsG k0 es (kvs key enc L)) {e : MapEntry} (he : e ∈ es.toList) : ∃ r ∈ L, e.key = k0.kv (key r) ∧ e.val = enc r := by
  have h1 : (e.key, e.val) ∈ es.toList.map (fun e => (e.key, e.val)) := List.mem_map.2 ⟨e, he, rfl⟩
  rw [entsK h] at h1
  obtain ⟨r, hr, e2⟩ := List.mem_map.1 h1
  simp only [Prod.mk.injEq] at e2
  exact ⟨r, hr, e2.1.symm, e2.2.symm⟩
theorem map_inj_eq {α β : Type} (f : α → β) (hf : ∀ a b, f a = f b → a = b) : ∀ (A B : List α), A.map f = B.map f → A = B
  | [], [], _ => rfl
  | [], _ :: _, h => by simp at h
  | _ :: _, [], h => by simp at h
  | a :: A, b :: B, h => by
    simp only [List.map_cons, List.cons.injEq] at h
    rw [hf a b h.1, map_inj_eq f hf A B h.2]
theorem entsK_all {es : Array MapEntry} {L B : List ρ} {col : List MapEntry} (hinj : ∀ a b : ρ, (k0.kv (key a), enc a) = (k0.kv (key b), enc b) → a = b) (h : EntsG k0 es (kvs key enc L)) (hp : col.Perm es.toList) (hB : col.map (fun e => (e.key, e.val)) = B.map fun r => (k0.kv (key r), enc r)) : B.Perm L := by
  obtain ⟨m, hm, e⟩ := perm_map_of (fun e : MapEntry => (e.key, e.val)) (fun r => (k0.kv (key r), enc r)) hp L (entsK h)
  rw [hB] at e
  rw [map_inj_eq _ hinj B m e]; exact hm
end
section
variable {ρ κ : Type} (key : ρ → κ) (lt : κ → κ → Bool)
structure ToldK (L S : List ρ) : Prop where
  perm : S.Perm L
  sorted : S.Pairwise fun x y => lt (key y) (key x) = false
variable {key lt}
theorem ToldK.strict (htri : ∀ a b, lt a b = true ∨ a = b ∨ lt b a = true) {L S : List ρ} (h : ToldK key lt L S) (hn : (L.map key).Nodup) : S.Pairwise fun x y => lt (key x) (key y) = true := by
  have hS : (S.map key).Nodup := (h.perm.map key).nodup_iff.2 hn
  unfold List.Nodup at hS
  rw [List.pairwise_map] at hS
  refine (h.sorted.and hS).imp ?_
  rintro a b ⟨h1, h2⟩
  rcases htri (key a) (key b) with h3 | h3 | h3
  · exact h3
  · exact absurd h3 h2
  · rw [h1] at h3; cases h3
theorem ToldK.unique (hirr : ∀ a, lt a a = false) (htrans : ∀ a b c, lt a b = true → lt b c = true → lt a c = true) (htri : ∀ a b, lt a b = true ∨ a = b ∨ lt b a = true) {L S S' : List ρ} (hn : (L.map key).Nodup) (h : ToldK key lt L S) (h' : ToldK key lt L S') : S = S' := by
  have h1 := h.strict htri hn
  have h2 := h'.strict htri hn
  have hp : S.Perm S' := h.perm.trans h'.perm.symm
  clear h h' hn
  induction S generalizing S' with
  | nil => exact hp.nil_eq
  | cons a S ih =>
    cases S' with
    | nil => exact absurd hp.length_eq (by simp)
    | cons b S' =>
      have ha := List.pairwise_cons.1 h1
      have hb := List.pairwise_cons.1 h2
      have hab : a = b := by
        have g1 : a ∈ b :: S' := hp.mem_iff.1 List.mem_cons_self
        have g2 : b ∈ a :: S := hp.mem_iff.2 List.mem_cons_self
        rcases List.mem_cons.1 g1 with g1 | g1
        · exact g1
        · rcases List.mem_cons.1 g2 with g2 | g2
          · exact g2.symm
          · have := htrans _ _ _ (hb.1 a g1) (ha.1 b g2)
            rw [hirr] at this; cases this
      subst hab
      rw [ih ha.2 hb.2 ((List.perm_cons a).1 hp)]
end
end Go.SL

set_option linter.unusedVariables false
set_option linter.unusedSimpArgs false
namespace Go.SL
open Go.Proofs Go.Shelf Go.Lib Go.Sort
variable {P : Program}
theorem Tells.grown {f : FuncId} {args : List Value} {Post : Value → List Ck → Prop} (h : Tells P f args [] Post) (w : World) :
    Calls P f args.toArray w fun e w' => ∃ v H', e = .returned v ∧ Post v H' ∧ ∃ q os', w' = grow (w.drewN q) os' := by
  let R : List Ck := (List.range w.heap.size).map fun k => ⟨k, (w.heap[k]?).getD default, false⟩
  have hsat : Sat w ([] ++ R) := by
    refine ⟨fun c hc => ?_, ?_⟩
    · obtain ⟨k, hk, rfl⟩ := List.mem_map.1 hc
      have hk := List.mem_range.1 hk
      simp [hk]
    · have hall : ∀ c ∈ R, c.ex = false := fun c hc => by
        obtain ⟨k, hk, rfl⟩ := List.mem_map.1 hc; rfl
      rw [List.nil_append, List.pairwise_iff_forall_sublist]
      intro c d hs e
      have h1 := hall c (hs.subset (by simp))
      have h2 := hall d (hs.subset (by simp))
      rw [h1, h2] at e
      simp at e
  refine (h w R hsat).mono fun e w' ⟨v, H', he, hp, hs, hk⟩ => ⟨v, H', he, hp, w'.drawn - w.drawn, w'.heap.extract w.heap.size w'.heap.size, ?_⟩
  have hheap : w'.heap = w.heap ++ w'.heap.extract w.heap.size w'.heap.size := by
    apply Array.ext_getElem?
    intro k
    by_cases hlt : k < w.heap.size
    · have := hs.holds ⟨k, (w.heap[k]?).getD default, false⟩ (List.mem_append_right _ (List.mem_map.2 ⟨k, List.mem_range.2 hlt, rfl⟩))
      rw [this, Array.getElem?_append_left hlt]
      simp [hlt]
    · rw [Array.getElem?_append_right (by omega), Array.getElem?_extract]
      have hsz := hk.size
      by_cases h2 : k < w'.heap.size
      · rw [if_pos (by omega), show w.heap.size + (k - w.heap.size) = k by omega]
      · rw [if_neg (by omega), Array.getElem?_eq_none (by omega)]
  have e1 := hk.os
  have e2 := hk.tape
  have e3 := hk.output
  have e4 := hk.drawn
  cases w' with
  | mk heap' tape' drawn' os' output' =>
    simp only at hheap e1 e2 e3 e4
    subst e1 e2 e3
    unfold grow World.drewN
    simp only [World.mk.injEq, true_and, and_true]
    exact ⟨hheap, by omega⟩
theorem flat_get {α : Type} (enc : α → List Value) (k : Nat) (hk : ∀ x, (enc x).length = k) : ∀ (ds : List α) (i c : Nat), c < k → (ds.flatMap enc)[i * k + c]? = (ds[i]?).bind fun x => (enc x)[c]?
  | [], i, c, _ => by simp
  | d :: ds, 0, c, h => by
    rw [List.flatMap_cons, Nat.zero_mul, Nat.zero_add, List.getElem?_append_left (by rw [hk]; exact h)]
    rfl
  | d :: ds, i + 1, c, h => by
    have ih := flat_get enc k hk ds i c h
    rw [List.flatMap_cons, List.getElem?_append_right (by rw [hk, Nat.add_mul, Nat.one_mul]; omega), hk, List.getElem?_cons_succ, ← ih]
    congr 1
    rw [Nat.add_mul, Nat.one_mul]
    omega
theorem flat_len {α : Type} (enc : α → List Value) (k : Nat) (hk : ∀ x, (enc x).length = k) (ds : List α) : (ds.flatMap enc).length = ds.length * k := by
  induction ds with
  | nil => simp
  | cons d ds ih => rw [List.flatMap_cons, List.length_append, ih, hk, List.length_cons, Nat.add_mul, Nat.one_mul]; omega
variable {α : Type} [Inhabited α]
theorem flatK_list (enc : α → List Value) (k : Nat) (hk : ∀ x, (enc x).length = k) (hk0 : 0 < k) (ds : List α) : flatK enc k ds.toArray = (ds.flatMap enc).toArray := by
  apply Array.ext
  · simp [flat_len enc k hk]
  · intro t h1 h2
    have ht : t < ds.length * k := by simpa using h1
    have hi : t / k < ds.length := by rw [Nat.div_lt_iff_lt_mul hk0]; exact ht
    have hc : t % k < k := Nat.mod_lt _ hk0
    have := flat_get enc k hk ds (t / k) (t % k) hc
    rw [show t / k * k + t % k = t by rw [Nat.mul_comm]; exact Nat.div_add_mod t k, List.getElem?_eq_getElem hi] at this
    simp only [Option.bind_some] at this
    rw [List.getElem?_eq_getElem (by rw [flat_len enc k hk]; exact ht), List.getElem?_eq_getElem (by rw [hk]; exact hc)] at this
    simp only [Option.some.injEq] at this
    simp only [List.getElem_toArray, this]
    have e := get_flatK enc k ds.toArray t (by simpa using ht)
    rw [getElem!_pos _ t h1] at e
    rw [e, getElem!_pos ds.toArray (t / k) (by simpa using hi)]
    simp only [List.getElem_toArray]
    rw [getElem!_pos (enc ds[t / k]) (t % k) (by rw [hk]; exact hc)]
theorem sort_tells {ρ : Ren} (L : SlLaysF0.n6 P ρ) (k : Nat) (hk0 : 0 < k) (aE : ∀ w, (isAgg (ρ.t 24)).run P w = .ok true w) (zE : ∀ w, (Go.sizeOf (ρ.t 24)).run P w = .ok k w) (enc : α → List Value) (hk : ∀ x, (enc x).length = k) (h1 : ∀ x, ∀ v ∈ enc x, v.oneCell' = true) (cf : α → α → Int) (hO : SWO (ltOf cf)) (g : Nat)
    (eg : ∀ args w, (callFunc g args).run P w = .ok (.enter g args) w) (hc : ∀ x y, Tells P g [.agg (enc x).toArray, .agg (enc y).toArray] [] fun r H' => r = .int .i64 (cf x y)) {v : Value} {ds : List α} {T : TypeId} {C : List Ck} (own : Own v ds.length (ds.flatMap enc) T k C) (hsz : ds.length < 4611686018427387904) :
    Tells P (ρ.f 6) [v, .func (.func g) #[] #[]] C fun r C' => r = .tuple #[] ∧ ∃ ds' : List α, ds'.Perm ds ∧ ds'.Pairwise (fun x y => ltOf cf y x = false) ∧ Own v ds'.length (ds'.flatMap enc) T k C' := by
  intro w R s
  rcases own with ⟨rfl, h0, _, rfl⟩ | ⟨b, cap, extra, rfl, hc1, hc2, hx1, hx2, rfl⟩
  · have hd : ds = [] := List.eq_nil_of_length_eq_zero h0
    subst hd
    have h := AnyF.slices_SortFunc_none (P := P) (ρ := ρ) { L with } none 0 (.func (.func g) #[] #[]) w
    exact h.mono fun e w' ⟨he, hw⟩ => ⟨_, [], he, ⟨rfl, [], List.Perm.refl _, List.Pairwise.nil, .inl ⟨rfl, rfl, rfl, rfl⟩⟩, by rw [hw]; exact s, by rw [hw]; exact Kept.refl w⟩
  · have hg := s.holds _ (List.mem_append_left R List.mem_cons_self)
    have hblk : b < w.heap.size := s.lt (c := row b (ds.flatMap enc ++ extra) T) (List.mem_append_left R List.mem_cons_self)
    have hH : HoldsK enc k w b 0 ds.toArray := by
      unfold HoldsK
      rw [flatK_list enc k hk hk0]
      intro j hj
      have hj' : j < (ds.flatMap enc).length := by simpa using hj
      refine ⟨?_, ?_⟩
      · rw [cell_at hg, Nat.zero_add]
        simp only [List.getElem?_toArray]
        rw [List.getElem?_append_left hj', getElem!_pos _ j (by simpa using hj')]
        simp [hj']
      · simp only [World.frozen?]
        rw [show w.heap[b]? = _ from hg]
        simp
    have hcmp : CmpLays P g #[] enc k cf b 0 ds.toArray.size w := fun m os dk hdk x y => by
      have h := (hc x y).grown (sortWorldK enc k w b 0 m dk os)
      exact h.mono fun e w' ⟨v, H', he, hp, hq⟩ => ⟨by rw [he, hp], hq⟩
    have h := AnyQ.slices_SortFunc L k aE zE enc hk h1 cf hO g #[] b 0 cap ds.toArray w eg hcmp hH hblk (by simpa using hsz)
    rw [show ds.toArray.size = ds.length by simp] at h
    refine h.mono fun e w' ⟨he, d', n, os, hp, hs, hw⟩ => ?_
    obtain ⟨hsz', _, hperm⟩ := hp
    have hl : d'.toList.length = ds.length := by simpa using hsz'
    have hperm' : d'.toList.Perm ds := by
      have e1 : (d'.extract 0 ds.length).toList = d'.toList := by simp [← hl]
      have e2 : (ds.toArray.extract 0 ds.length).toList = ds := by simp
      rwa [e1, e2] at hperm
    have hpw : d'.toList.Pairwise (fun x y => ltOf cf y x = false) := by
      rw [List.pairwise_iff_getElem]
      intro i j hi hj hij
      have := hs i j (Nat.zero_le _) hij (by omega)
      rw [getElem!_pos d' i (by simpa using hi), getElem!_pos d' j (by simpa using hj)] at this
      simpa using this
    have hd' : d' = d'.toList.toArray := by simp
    have hobj : w'.heap[b]? = some (.cells (d'.toList.flatMap enc ++ extra).toArray T (0, 0)) := by
      rw [hw]
      unfold sortWorldK grow putRowK putRow mapBlock
      have hb2 : b < (w.heap.modify b (onCells (putCells id 0 (flatK enc k d')))).size := by simpa using hblk
      rw [show (Sort.ahead w n).heap = w.heap from rfl]
      rw [Array.getElem?_append_left hb2, Array.getElem?_modify, if_pos rfl, show w.heap[b]? = _ from hg]
      simp only [Option.map_some, onCells]
      congr 2
      rw [hd', flatK_list enc k hk hk0]
      have hfl : (d'.toList.flatMap enc).length = (ds.flatMap enc).length := by rw [flat_len enc k hk, flat_len enc k hk, hl]
      apply Array.ext
      · simp [putCells, hfl]
      · intro i h1 h2
        simp only [putCells, Array.getElem_mapIdx, Nat.zero_le, true_and, Nat.zero_add, List.size_toArray, Nat.sub_zero, id]
        by_cases hi : i < (d'.toList.flatMap enc).length
        · rw [if_pos (by simpa using hi)]
          rw [getElem!_pos _ i (by simpa using hi)]
          simp only [List.getElem_toArray]
          rw [List.getElem_append_left (by simpa using hi)]
        · rw [if_neg (by simpa using hi)]
          simp only [List.getElem_toArray]
          rw [List.getElem_append_right (by omega), List.getElem_append_right (by simpa using hi)]
          congr 1
          simp [hfl]
    have hother : ∀ j, j ≠ b → j < w.heap.size → w'.heap[j]? = w.heap[j]? := by
      intro j hj hlt
      rw [hw]
      unfold sortWorldK grow putRowK putRow mapBlock
      rw [show (Sort.ahead w n).heap = w.heap from rfl]
      rw [Array.getElem?_append_left (by simpa using hlt), Array.getElem?_modify, if_neg (by omega)]
    refine ⟨.tuple #[], [row b (d'.toList.flatMap enc ++ extra) T], he, ⟨rfl, d'.toList, hperm', hpw, .inr ⟨b, cap, extra, by rw [hl], by rw [hl]; exact hc1, hc2, flat_len enc k hk _, by rw [hl]; exact hx2, rfl⟩⟩, ?_, ?_⟩
    · have hpa := List.pairwise_cons.1 s.apart
      refine ⟨fun c hcm => ?_, List.pairwise_cons.2 ⟨fun d hd e => hpa.1 d hd e, hpa.2⟩⟩
      rcases List.mem_cons.1 hcm with rfl | hcm
      · exact hobj
      · have hne : b ≠ c.b := hpa.1 c hcm (.inl rfl)
        rw [hother c.b (Ne.symm hne) (s.lt (List.mem_cons_of_mem _ hcm))]
        exact s.holds c (List.mem_cons_of_mem _ hcm)
    · rw [hw]
      refine ⟨rfl, rfl, rfl, ?_, ?_⟩
      · unfold sortWorldK grow putRowK putRow mapBlock
        simp [Sort.ahead]
      · unfold sortWorldK grow putRowK putRow mapBlock
        simp [Sort.ahead]
end Go.SL

set_option linter.unusedVariables false
set_option linter.unusedSimpArgs false
namespace Go.SL
structure Gd where
  name : ByteArray
  free : Int
  gone : Int
deriving DecidableEq
structure Ho where
  o : BitVec 32
  name : ByteArray
  n : Int
deriving DecidableEq
def encG (g : Gd) : Value := .agg #[.int .i64 g.free, .int .i64 g.gone]
def encH (h : Ho) : Value := .agg #[.int .u32 h.o.toNat, .string h.name, .int .i64 h.n]
def cellsG (g : Gd) : List Value := [.string g.name, .int .i64 g.free]
def cellsH (h : Ho) : List Value := [.int .u32 h.o.toNat, .string h.name, .int .i64 h.n]
def freeOf (K : List Gd) (nm : ByteArray) : Int := ((findK Gd.name K nm).map Gd.free).getD 0
def goneOf (K : List Gd) (nm : ByteArray) : Int := ((findK Gd.name K nm).map Gd.gone).getD 0
def adj (K : List Gd) (nm : ByteArray) (df dg : Int) : List Gd := putK Gd.name K ⟨nm, freeOf K nm + df, goneOf K nm + dg⟩
def sumN (L : List Ho) (nm : ByteArray) : Int := (L.map fun h => if h.name = nm then h.n else 0).sum
def holdB (K : List Gd) (L : List Ho) (o : BitVec 32) (nm : ByteArray) (n : Int) : Bool := decide (o ≠ 0#32) && (decide (1 ≤ n) && (!(findK Ho.o L o).isSome && decide (n ≤ freeOf K nm)))
def holdKs (K : List Gd) (L : List Ho) (o : BitVec 32) (nm : ByteArray) (n : Int) : List Gd := if holdB K L o nm n then adj K nm (-n) 0 else K
def holdLs (K : List Gd) (L : List Ho) (o : BitVec 32) (nm : ByteArray) (n : Int) : List Ho := if holdB K L o nm n then L ++ [⟨o, nm, n⟩] else L
def vd (b : Bool) : Int := if b then 1 else 2
def leaveKs (K : List Gd) (L : List Ho) (o : BitVec 32) (gone : Bool) : List Gd := match findK Ho.o L o with | none => K | some h => if gone then adj K h.name 0 h.n else adj K h.name h.n 0
theorem adj_free (K : List Gd) (nm nm' : ByteArray) (df dg : Int) : freeOf (adj K nm df dg) nm' = if nm' = nm then freeOf K nm + df else freeOf K nm' := by
  unfold adj
  rw [freeOf, putK_find]
  split
  · rfl
  · rfl
theorem adj_gone (K : List Gd) (nm nm' : ByteArray) (df dg : Int) : goneOf (adj K nm df dg) nm' = if nm' = nm then goneOf K nm + dg else goneOf K nm' := by
  unfold adj
  rw [goneOf, putK_find]
  split
  · rfl
  · rfl
theorem adj_names {K : List Gd} {nm : ByteArray} (h : (findK Gd.name K nm).isSome) (df dg : Int) : (adj K nm df dg).map Gd.name = K.map Gd.name := by
  unfold adj
  rw [putK_keys, if_pos h]
theorem find_names {K : List Gd} {nm : ByteArray} (h : nm ∈ K.map Gd.name) : (findK Gd.name K nm).isSome := by
  cases hf : findK Gd.name K nm with
  | some x => rfl
  | none =>
    obtain ⟨g, hg, rfl⟩ := List.mem_map.1 h
    exact absurd rfl (findK_none hf g hg)
theorem names_find {K : List Gd} {nm : ByteArray} (h : (findK Gd.name K nm).isSome) : nm ∈ K.map Gd.name := by
  obtain ⟨g, hg⟩ := Option.isSome_iff_exists.1 h
  obtain ⟨h1, h2⟩ := findK_mem hg
  exact List.mem_map.2 ⟨g, h1, h2⟩
theorem free_of {K : List Gd} (hn : (K.map Gd.name).Nodup) {g : Gd} (hg : g ∈ K) : freeOf K g.name = g.free ∧ goneOf K g.name = g.gone := by
  unfold freeOf goneOf
  rw [findK_of hn hg]
  exact ⟨rfl, rfl⟩
theorem free_none {K : List Gd} {nm : ByteArray} (h : ¬ nm ∈ K.map Gd.name) : freeOf K nm = 0 ∧ goneOf K nm = 0 := by
  have : findK Gd.name K nm = none := by
    cases hf : findK Gd.name K nm with
    | none => rfl
    | some g => exact absurd (names_find (by rw [hf]; rfl)) h
  unfold freeOf goneOf
  rw [this]
  exact ⟨rfl, rfl⟩
theorem sumN_snoc (L : List Ho) (h : Ho) (nm : ByteArray) : sumN (L ++ [h]) nm = sumN L nm + if h.name = nm then h.n else 0 := by simp [sumN]
theorem sumN_del {L : List Ho} (hn : (L.map Ho.o).Nodup) {o : BitVec 32} {h : Ho} (hf : findK Ho.o L o = some h) (nm : ByteArray) : sumN (delK Ho.o L o) nm + (if h.name = nm then h.n else 0) = sumN L nm := by
  induction L with
  | nil => cases hf
  | cons c L ih =>
    simp only [List.map_cons, List.nodup_cons] at hn
    unfold findK delK sumN at *
    by_cases e : o = c.o
    · rw [List.find?_cons_of_pos (by simpa using e)] at hf
      obtain rfl : c = h := by simpa using hf
      rw [List.filter_cons_of_neg (by simp [e]), List.filter_eq_self.2 (fun x hx => by
        simp only [decide_eq_true_eq]
        intro e2
        exact hn.1 (List.mem_map.2 ⟨x, hx, by rw [← e2, e]⟩))]
      simp only [List.map_cons, List.sum_cons]
      omega
    · rw [List.find?_cons_of_neg (by simpa using e)] at hf
      rw [List.filter_cons_of_pos (by simpa using e)]
      have := ih hn.2 hf
      simp only [List.map_cons, List.sum_cons]
      omega
theorem sumN_nonneg {L : List Ho} (h : ∀ x ∈ L, 1 ≤ x.n) (nm : ByteArray) : 0 ≤ sumN L nm := by
  induction L with
  | nil => simp [sumN]
  | cons b L ih =>
    have h1 := ih (fun c hc => h c (List.mem_cons_of_mem _ hc))
    have h2 := h b List.mem_cons_self
    simp only [sumN, List.map_cons, List.sum_cons] at *
    split <;> omega
def goodB (g : Gd) : Prop := g.name ≠ ⟨#[]⟩ ∧ g.name.size ≤ 32 ∧ 0 ≤ g.free ∧ g.free ≤ 1000000
structure SInv (first K : List Gd) (L : List Ho) : Prop where
  names : K.map Gd.name = first.map Gd.name
  nd : (first.map Gd.name).Nodup
  few : first.length ≤ 50
  ok : ∀ g ∈ first, goodB g ∧ g.gone = 0
  holds : ∀ h ∈ L, 1 ≤ h.n ∧ h.o ≠ 0#32 ∧ h.name ∈ first.map Gd.name
  keys : (L.map Ho.o).Nodup
  sums : ∀ nm, 0 ≤ freeOf K nm ∧ 0 ≤ goneOf K nm ∧ freeOf K nm + goneOf K nm + sumN L nm = freeOf first nm
def GoodL (gs : List Gd) : Prop := gs.length ≤ 50 ∧ (gs.map Gd.name).Nodup ∧ ∀ g ∈ gs, goodB g
theorem SInv.top {first K : List Gd} {L : List Ho} (h : SInv first K L) (nm : ByteArray) : freeOf first nm ≤ 1000000 := by
  by_cases hm : nm ∈ first.map Gd.name
  · obtain ⟨g, hg, rfl⟩ := List.mem_map.1 hm
    rw [(free_of h.nd hg).1]
    exact (h.ok g hg).1.2.2.2
  · rw [(free_none hm).1]; omega
theorem SInv.knd {first K : List Gd} {L : List Ho} (h : SInv first K L) : (K.map Gd.name).Nodup := by rw [h.names]; exact h.nd
theorem SInv.start {first : List Gd} (h1 : first.length ≤ 50) (h2 : (first.map Gd.name).Nodup) (h3 : ∀ g ∈ first, goodB g ∧ g.gone = 0) : SInv first first [] := by
  refine ⟨rfl, h2, h1, h3, fun h hh => (by cases hh), by simp, fun nm => ?_⟩
  by_cases hm : nm ∈ first.map Gd.name
  · obtain ⟨g, hg, rfl⟩ := List.mem_map.1 hm
    have h4 := free_of h2 hg
    have h5 := h3 g hg
    have h6 : 0 ≤ g.free := h5.1.2.2.1
    simp only [sumN, List.map_nil, List.sum_nil]
    rw [h4.1, h4.2, h5.2]
    omega
  · have := free_none hm
    simp only [sumN, List.map_nil, List.sum_nil]
    omega
theorem SInv.hold {first K : List Gd} {L : List Ho} (h : SInv first K L) (o : BitVec 32) (nm : ByteArray) (n : Int) : SInv first (holdKs K L o nm n) (holdLs K L o nm n) := by
  unfold holdKs holdLs
  cases hb : holdB K L o nm n with
  | false => exact h
  | true =>
    simp only [if_true]
    unfold holdB at hb
    simp only [Bool.and_eq_true, decide_eq_true_eq, Bool.not_eq_true'] at hb
    obtain ⟨ho, hn, hf, hle⟩ := hb
    have hf' : findK Ho.o L o = none := by simpa using hf
    have hin : nm ∈ K.map Gd.name := by
      apply Classical.byContradiction
      intro hc
      have := (free_none hc).1
      omega
    refine ⟨by rw [adj_names (find_names hin)]; exact h.names, h.nd, h.few, h.ok, ?_, ?_, fun nm' => ?_⟩
    · intro x hx
      rcases List.mem_append.1 hx with hx | hx
      · exact h.holds x hx
      · rw [List.mem_singleton.1 hx]
        exact ⟨hn, ho, by rw [← h.names]; exact hin⟩
    · rw [List.map_append, List.nodup_append]
      refine ⟨h.keys, by simp, ?_⟩
      intro x hx y hy
      obtain ⟨c, hc, rfl⟩ := List.mem_map.1 hx
      simp only [List.map_cons, List.map_nil, List.mem_singleton] at hy
      subst hy
      exact findK_none hf' c hc
    · have h1 := h.sums nm'
      rw [adj_free, adj_gone, sumN_snoc]
      by_cases e : nm' = nm
      · subst e
        simp only [if_true]
        omega
      · have e2 : ¬ nm = nm' := fun x => e x.symm
        simp only [if_neg e, if_neg e2]
        omega
theorem SInv.leave {first K : List Gd} {L : List Ho} (h : SInv first K L) (o : BitVec 32) (gone : Bool) : SInv first (leaveKs K L o gone) (delK Ho.o L o) := by
  unfold leaveKs
  cases hf : findK Ho.o L o with
  | none =>
    have e : delK Ho.o L o = L := by
      unfold delK
      rw [List.filter_eq_self]
      intro x hx
      have := findK_none hf x hx
      simp only [decide_eq_true_eq]
      exact fun e => this e.symm
    rw [e]; exact h
  | some x =>
    obtain ⟨hx, hxo⟩ := findK_mem hf
    have hh := h.holds x hx
    have hin : x.name ∈ K.map Gd.name := by rw [h.names]; exact hh.2.2
    have hnm : ∀ df dg, (adj K x.name df dg).map Gd.name = first.map Gd.name := fun df dg => by rw [adj_names (find_names hin)]; exact h.names
    have hsum : ∀ nm', sumN (delK Ho.o L o) nm' + (if x.name = nm' then x.n else 0) = sumN L nm' := fun nm' => sumN_del h.keys hf nm'
    have hrest : ∀ y ∈ delK Ho.o L o, 1 ≤ y.n ∧ y.o ≠ 0#32 ∧ y.name ∈ first.map Gd.name := fun y hy => h.holds y (delK_mem.1 hy).1
    cases gone
    · refine ⟨hnm _ _, h.nd, h.few, h.ok, hrest, delK_nodup h.keys o, fun nm' => ?_⟩
      have h1 := h.sums nm'
      have h2 := hsum nm'
      simp only [Bool.false_eq_true, if_false]
      rw [adj_free, adj_gone]
      by_cases e : nm' = x.name
      · subst e
        simp only [if_true] at h2 ⊢
        omega
      · have e2 : ¬ x.name = nm' := fun z => e z.symm
        simp only [if_neg e, if_neg e2] at h2 ⊢
        omega
    · refine ⟨hnm _ _, h.nd, h.few, h.ok, hrest, delK_nodup h.keys o, fun nm' => ?_⟩
      have h1 := h.sums nm'
      have h2 := hsum nm'
      simp only [if_true]
      rw [adj_free, adj_gone]
      by_cases e : nm' = x.name
      · subst e
        simp only [if_true] at h2 ⊢
        omega
      · have e2 : ¬ x.name = nm' := fun z => e z.symm
        simp only [if_neg e, if_neg e2] at h2 ⊢
        omega
theorem SInv.mid {first K : List Gd} {L : List Ho} (h : SInv first K L) (nm : ByteArray) : 0 ≤ freeOf K nm ∧ freeOf K nm ≤ 1000000 ∧ 0 ≤ goneOf K nm ∧ goneOf K nm ≤ 1000000 ∧ 0 ≤ sumN L nm ∧ sumN L nm ≤ 1000000 := by
  have h1 := h.sums nm
  have h2 := h.top nm
  have h3 := sumN_nonneg (fun x hx => (h.holds x hx).1) nm
  omega
theorem SInv.nle {first K : List Gd} {L : List Ho} (h : SInv first K L) {x : Ho} (hx : x ∈ L) : 1 ≤ x.n ∧ x.n ≤ 1000000 := by
  have h1 := sumN_del h.keys (findK_of h.keys hx) x.name
  have h2 := sumN_nonneg (L := delK Ho.o L x.o) (fun y hy => (h.holds y (delK_mem.1 hy).1).1) x.name
  have h3 := h.mid x.name
  have h4 := (h.holds x hx).1
  rw [if_pos rfl] at h1
  omega
theorem delK_none {L : List Ho} {o : BitVec 32} (hf : findK Ho.o L o = none) : delK Ho.o L o = L := by
  unfold delK
  rw [List.filter_eq_self]
  intro x hx
  have := findK_none hf x hx
  simp only [decide_eq_true_eq]
  exact fun e => this e.symm
def StAt (TD p : Nat) (K : List Gd) (L : List Ho) (C : List Ck) : Prop :=
  ∃ b1 b2 C1 C2, C = row p [.map (some b1), .map (some b2)] TD :: (C1 ++ C2) ∧ MpG kStr b1 (kvs Gd.name encG K) C1 ∧ MpG kU32 b2 (kvs Ho.o encH L) C2
theorem lkG (K : List Gd) (nm : ByteArray) : (if false = true then Value.tuple #[(getG (kvs Gd.name encG K) nm).getD (.agg #[.int .i64 0, .int .i64 0]), .bool (getG (kvs Gd.name encG K) nm).isSome] else (getG (kvs Gd.name encG K) nm).getD (.agg #[.int .i64 0, .int .i64 0])) = .agg #[.int .i64 (freeOf K nm), .int .i64 (goneOf K nm)] := by
  rw [if_neg (by simp), getG_kvs]
  unfold freeOf goneOf
  cases findK Gd.name K nm <;> rfl
theorem lkG2 (K : List Gd) (nm : ByteArray) : (if true = true then Value.tuple #[(getG (kvs Gd.name encG K) nm).getD (.agg #[.int .i64 0, .int .i64 0]), .bool (getG (kvs Gd.name encG K) nm).isSome] else (getG (kvs Gd.name encG K) nm).getD (.agg #[.int .i64 0, .int .i64 0])) = .tuple #[.agg #[.int .i64 (freeOf K nm), .int .i64 (goneOf K nm)], .bool (findK Gd.name K nm).isSome] := by
  rw [if_pos rfl, getG_kvs]
  unfold freeOf goneOf
  cases findK Gd.name K nm <;> rfl
def zeroH : Ho := ⟨0#32, ⟨#[]⟩, 0⟩
theorem lkH2 (L : List Ho) (o : BitVec 32) : (if true = true then Value.tuple #[(getG (kvs Ho.o encH L) o).getD (.agg #[.int .u32 0, .string ⟨#[]⟩, .int .i64 0]), .bool (getG (kvs Ho.o encH L) o).isSome] else (getG (kvs Ho.o encH L) o).getD (.agg #[.int .u32 0, .string ⟨#[]⟩, .int .i64 0])) = .tuple #[.agg (cellsH ((findK Ho.o L o).getD zeroH)).toArray, .bool (findK Ho.o L o).isSome] := by
  rw [if_pos rfl, getG_kvs]
  cases findK Ho.o L o <;> rfl
theorem putG (K : List Gd) (nm : ByteArray) (a b : Int) : setG (kvs Gd.name encG K) nm (.agg #[.int .i64 a, .int .i64 b]) = kvs Gd.name encG (putK Gd.name K ⟨nm, a, b⟩) := setG_kvs encG K ⟨nm, a, b⟩ nm _ rfl rfl
theorem putH (L : List Ho) (o : BitVec 32) (nm : ByteArray) (n : Int) (h : findK Ho.o L o = none) : setG (kvs Ho.o encH L) o (.agg #[.int .u32 o.toNat, .string nm, .int .i64 n]) = kvs Ho.o encH (L ++ [⟨o, nm, n⟩]) := by
  have e : setG (kvs Ho.o encH L) o (.agg #[.int .u32 o.toNat, .string nm, .int .i64 n]) = kvs Ho.o encH (putK Ho.o L ⟨o, nm, n⟩) := setG_kvs encH L ⟨o, nm, n⟩ o _ rfl rfl
  rw [e]
  unfold putK
  rw [show (findK Ho.o L (Ho.o ⟨o, nm, n⟩)) = none from h]
  rfl
def cfG (x y : Gd) : Int := cmpS x.name y.name
theorem ltG (x y : Gd) : Go.Proofs.ltOf cfG x y = sLt x.name y.name := by
  unfold Go.Proofs.ltOf cfG
  rw [Bool.eq_iff_iff, decide_eq_true_eq]
  exact cmpS_lt _ _
theorem swoG : Go.Sort.SWO (Go.Proofs.ltOf cfG) := by
  refine ⟨fun x => by rw [ltG]; exact sLt_irrefl _, fun x y z h1 h2 => ?_, fun x y z h1 h2 => ?_⟩
  · rw [ltG] at *; exact sLt_trans h1 h2
  · rw [ltG] at *
    rcases sLt_tri y.name x.name with h | h | h
    · cases h3 : sLt x.name z.name with
      | false => rfl
      | true => have := sLt_trans h h3; rw [h2] at this; cases this
    · rw [← h]; exact h2
    · rw [h] at h1; cases h1
theorem cellsG_len (g : Gd) : (cellsG g).length = 2 := rfl
theorem cellsH_len (g : Ho) : (cellsH g).length = 3 := rfl
theorem cellsG_one (g : Gd) : ∀ v ∈ cellsG g, v.oneCell' = true := by
  intro v hv
  simp only [cellsG, List.mem_cons, List.not_mem_nil, or_false] at hv
  rcases hv with rfl | rfl <;> rfl
instance : Inhabited Gd := ⟨⟨⟨#[]⟩, 0, 0⟩⟩
theorem injG (a b : Gd) (h : (kStr.kv a.name, encG a) = (kStr.kv b.name, encG b)) : a = b := by
  cases a; cases b
  simp only [kStr, encG, Prod.mk.injEq, Value.string.injEq, Value.agg.injEq, Array.mk.injEq, List.cons.injEq, Value.int.injEq, true_and, and_true] at h
  obtain ⟨rfl, rfl, rfl⟩ := h
  rfl
theorem once_more {L : List Gd} {g : Gd} (h : (L.map Gd.name).Nodup) (hn : findK Gd.name L g.name = none) : ((L ++ [g]).map Gd.name).Nodup := by
  rw [List.map_append, List.nodup_append]
  refine ⟨h, by simp, ?_⟩
  intro x hx y hy
  obtain ⟨c, hc, rfl⟩ := List.mem_map.1 hx
  simp only [List.map_cons, List.map_nil, List.mem_singleton] at hy
  subst hy
  exact findK_none hn c hc
theorem put_more {b : Nat} {L : List Gd} {g : Gd} {C : List Ck} (h0 : g.gone = 0) (hn : findK Gd.name L g.name = none) (h : MpG kStr b (setG (kvs Gd.name encG L) g.name (.agg #[.int .i64 g.free, .int .i64 0])) C) : MpG kStr b (kvs Gd.name encG (L ++ [g])) C := by
  rw [putG] at h
  have e : putK Gd.name L ⟨g.name, g.free, 0⟩ = L ++ [g] := by
    unfold putK
    rw [show findK Gd.name L (Gd.name ⟨g.name, g.free, 0⟩) = none from hn]
    cases g
    simp only at h0
    subst h0
    rfl
  rwa [e] at h
theorem twice_no {gs : List Gd} {i : Nat} (hi : i < gs.length) (h : (findK Gd.name (gs.take i) gs[i].name).isSome = true) : ¬ (gs.map Gd.name).Nodup := by
  intro hn
  obtain ⟨g, hg⟩ := Option.isSome_iff_exists.1 h
  obtain ⟨h1, h2⟩ := findK_mem hg
  obtain ⟨j, hj, rfl⟩ := List.getElem_of_mem h1
  simp only [List.length_take] at hj
  rw [List.getElem_take] at h2
  have := List.pairwise_iff_getElem.1 hn j i (by simp; omega) (by simpa using hi) (by omega)
  simp at this
  exact this h2
end Go.SL

set_option linter.unusedVariables false
set_option linter.unusedSimpArgs false
namespace Go.SL
structure Au where
  name : ByteArray
  money : Int
  held : Int
deriving DecidableEq
structure Py where
  o : BitVec 32
  name : ByteArray
  n : Int
  st : Int
deriving DecidableEq
def cellsU (a : Au) : List Value := [.string a.name, .int .i64 a.money, .int .i64 a.held]
def cellsP (x : Py) : List Value := [.int .u32 x.o.toNat, .string x.name, .int .i64 x.n, .int .i64 x.st]
def encU (a : Au) : Value := .agg #[.string a.name, .int .i64 a.money, .int .i64 a.held]
def encP (x : Py) : Value := .agg #[.int .u32 x.o.toNat, .string x.name, .int .i64 x.n, .int .i64 x.st]
def zeroU : Au := ⟨⟨#[]⟩, 0, 0⟩
def zeroP : Py := ⟨0#32, ⟨#[]⟩, 0, 0⟩
instance : Inhabited Au := ⟨zeroU⟩
theorem cellsU_len (g : Au) : (cellsU g).length = 3 := rfl
theorem cellsP_len (g : Py) : (cellsP g).length = 4 := rfl
theorem cellsU_one (g : Au) : ∀ v ∈ cellsU g, v.oneCell' = true := by
  intro v hv
  simp only [cellsU, List.mem_cons, List.not_mem_nil, or_false] at hv
  rcases hv with rfl | rfl | rfl <;> rfl
theorem injU (a b : Au) (h : (kStr.kv a.name, encU a) = (kStr.kv b.name, encU b)) : a = b := by
  cases a; cases b
  simp only [kStr, encU, Prod.mk.injEq, Value.string.injEq, Value.agg.injEq, Array.mk.injEq, List.cons.injEq, Value.int.injEq, true_and, and_true] at h
  obtain ⟨_, rfl, rfl, rfl⟩ := h
  rfl
def cfU (x y : Au) : Int := cmpS x.name y.name
theorem ltU (x y : Au) : Go.Proofs.ltOf cfU x y = sLt x.name y.name := by
  unfold Go.Proofs.ltOf cfU
  rw [Bool.eq_iff_iff, decide_eq_true_eq]
  exact cmpS_lt _ _
theorem swoU : Go.Sort.SWO (Go.Proofs.ltOf cfU) := by
  refine ⟨fun x => by rw [ltU]; exact sLt_irrefl _, fun x y z h1 h2 => ?_, fun x y z h1 h2 => ?_⟩
  · rw [ltU] at *; exact sLt_trans h1 h2
  · rw [ltU] at *
    rcases sLt_tri y.name x.name with h | h | h
    · cases h3 : sLt x.name z.name with
      | false => rfl
      | true => have := sLt_trans h h3; rw [h2] at this; cases this
    · rw [← h]; exact h2
    · rw [h] at h1; cases h1
def acc (K : List Au) (nm : ByteArray) : Au := (findK Au.name K nm).getD zeroU
def moneyOf (K : List Au) (nm : ByteArray) : Int := (acc K nm).money
def heldU (K : List Au) (nm : ByteArray) : Int := (acc K nm).held
def adjU (K : List Au) (nm : ByteArray) (dm dh : Int) : List Au := putK Au.name K ⟨nm, moneyOf K nm + dm, heldU K nm + dh⟩
def sumP (L : List Py) (nm : ByteArray) (s : Int) : Int := (L.map fun x => if x.name = nm ∧ x.st = s then x.n else 0).sum
def authB (K : List Au) (L : List Py) (o : BitVec 32) (nm : ByteArray) (n : Int) : Bool := decide (o ≠ 0#32) && (decide (1 ≤ n) && (!(findK Py.o L o).isSome && decide (n ≤ moneyOf K nm - heldU K nm)))
def authKs (K : List Au) (L : List Py) (o : BitVec 32) (nm : ByteArray) (n : Int) : List Au := if authB K L o nm n then adjU K nm 0 n else K
def authLs (K : List Au) (L : List Py) (o : BitVec 32) (nm : ByteArray) (n : Int) : List Py := if authB K L o nm n then L ++ [⟨o, nm, n, 1⟩] else L
def vdP (b : Bool) : Int := if b then 1 else 2
def turnB (L : List Py) (o : BitVec 32) (s : Int) : Bool := match findK Py.o L o with | none => false | some x => decide (x.st = s)
def turnKs (K : List Au) (L : List Py) (o : BitVec 32) (s dm dh : Int) : List Au := match findK Py.o L o with | none => K | some x => if x.st = s then adjU K x.name (dm * x.n) (dh * x.n) else K
def turnLs (L : List Py) (o : BitVec 32) (s t : Int) : List Py := match findK Py.o L o with | none => L | some x => if x.st = s then putK Py.o L ⟨x.o, x.name, x.n, t⟩ else L
theorem adjU_acc (K : List Au) (nm nm' : ByteArray) (dm dh : Int) : acc (adjU K nm dm dh) nm' = if nm' = nm then ⟨nm, moneyOf K nm + dm, heldU K nm + dh⟩ else acc K nm' := by
  unfold adjU acc
  rw [putK_find]
  split <;> rfl
theorem adjU_names {K : List Au} {nm : ByteArray} (h : (findK Au.name K nm).isSome) (dm dh : Int) : (adjU K nm dm dh).map Au.name = K.map Au.name := by
  unfold adjU
  rw [putK_keys, if_pos h]
theorem find_namesU {K : List Au} {nm : ByteArray} (h : nm ∈ K.map Au.name) : (findK Au.name K nm).isSome := by
  cases hf : findK Au.name K nm with
  | some x => rfl
  | none =>
    obtain ⟨g, hg, rfl⟩ := List.mem_map.1 h
    exact absurd rfl (findK_none hf g hg)
theorem acc_of {K : List Au} (hn : (K.map Au.name).Nodup) {g : Au} (hg : g ∈ K) : acc K g.name = g := by
  unfold acc
  rw [findK_of hn hg]
  rfl
theorem acc_in {K : List Au} {nm : ByteArray} (h : nm ∈ K.map Au.name) : (acc K nm).name = nm := by
  unfold acc
  obtain ⟨x, hx⟩ := Option.isSome_iff_exists.1 (find_namesU h)
  rw [hx]
  exact (findK_mem hx).2
theorem acc_none {K : List Au} {nm : ByteArray} (h : ¬ nm ∈ K.map Au.name) : acc K nm = zeroU := by
  unfold acc
  cases hf : findK Au.name K nm with
  | none => rfl
  | some g => exact absurd (List.mem_map.2 ⟨g, (findK_mem hf).1, (findK_mem hf).2⟩) h
theorem sumP_snoc (L : List Py) (x : Py) (nm : ByteArray) (s : Int) : sumP (L ++ [x]) nm s = sumP L nm s + if x.name = nm ∧ x.st = s then x.n else 0 := by simp [sumP]
theorem sumP_nonneg {L : List Py} (h : ∀ x ∈ L, 1 ≤ x.n) (nm : ByteArray) (s : Int) : 0 ≤ sumP L nm s := by
  induction L with
  | nil => simp [sumP]
  | cons b L ih =>
    have h1 := ih (fun c hc => h c (List.mem_cons_of_mem _ hc))
    have h2 := h b List.mem_cons_self
    simp only [sumP, List.map_cons, List.sum_cons] at *
    split <;> omega
theorem mem_le_sumP {L : List Py} (h : ∀ x ∈ L, 1 ≤ x.n) {x : Py} (hx : x ∈ L) : x.n ≤ sumP L x.name x.st := by
  induction L with
  | nil => cases hx
  | cons b L ih =>
    have hh := fun c hc => h c (List.mem_cons_of_mem b hc)
    have h2 := h b List.mem_cons_self
    have h3 := sumP_nonneg hh x.name x.st
    rcases List.mem_cons.1 hx with rfl | hx
    · simp only [sumP, List.map_cons, List.sum_cons] at *
      rw [if_pos (by simp)]; omega
    · have := ih hh hx
      simp only [sumP, List.map_cons, List.sum_cons] at *
      split <;> omega
theorem putP_here : ∀ {L : List Py} (hn : (L.map Py.o).Nodup) {x y : Py} (hx : x ∈ L) (he : y.o = x.o) (f : Py → Int), ((putK Py.o L y).map f).sum = (L.map f).sum - f x + f y := by
  intro L hn x y hx he f
  have hf : (findK Py.o L y.o).isSome = true := by rw [he, findK_of hn hx]; rfl
  unfold putK
  rw [if_pos hf, List.map_map]
  clear hf
  induction L with
  | nil => cases hx
  | cons b L ih =>
    simp only [List.map_cons, List.nodup_cons] at hn
    simp only [List.map_cons, List.sum_cons, Function.comp]
    rcases List.mem_cons.1 hx with rfl | hx
    · rw [if_pos he]
      have e : L.map (f ∘ fun z => if y.o = z.o then y else z) = L.map f := List.map_congr_left fun z hz => by
        simp only [Function.comp]
        rw [if_neg (fun e => hn.1 (List.mem_map.2 ⟨z, hz, by rw [← e, he]⟩))]
      have e2 : (List.map (fun z => f (if y.o = z.o then y else z)) L) = L.map f := e
      rw [show (L.map (f ∘ fun z => if y.o = z.o then y else z)) = L.map f from e]
      omega
    · have hne : ¬ y.o = b.o := fun e => hn.1 (List.mem_map.2 ⟨x, hx, by rw [← he, e]⟩)
      rw [if_neg hne]
      have := ih hn.2 hx
      simp only [Function.comp_def] at this ⊢
      omega
theorem sumP_put {L : List Py} (hn : (L.map Py.o).Nodup) {x y : Py} (hx : x ∈ L) (he : y.o = x.o) (nm : ByteArray) (s : Int) : sumP (putK Py.o L y) nm s = sumP L nm s - (if x.name = nm ∧ x.st = s then x.n else 0) + (if y.name = nm ∧ y.st = s then y.n else 0) := putP_here hn hx he _
def accB (g : Au) : Prop := g.name ≠ ⟨#[]⟩ ∧ g.name.size ≤ 32 ∧ 0 ≤ g.money ∧ g.money ≤ 1000000000 ∧ g.held = 0
structure PInv (first K : List Au) (L : List Py) : Prop where
  names : K.map Au.name = first.map Au.name
  nd : (first.map Au.name).Nodup
  few : first.length ≤ 50
  ok : ∀ g ∈ first, accB g
  pays : ∀ x ∈ L, 1 ≤ x.n ∧ x.n ≤ 1000000000 ∧ x.o ≠ 0#32 ∧ x.name ∈ first.map Au.name ∧ 1 ≤ x.st ∧ x.st ≤ 3
  keys : (L.map Py.o).Nodup
  sums : ∀ nm, heldU K nm = sumP L nm 1 ∧ moneyOf K nm = moneyOf first nm - sumP L nm 2 ∧ heldU K nm ≤ moneyOf K nm
def AccL (gs : List Au) : Prop := gs.length ≤ 50 ∧ (gs.map Au.name).Nodup ∧ ∀ g ∈ gs, accB g
theorem PInv.knd {first K : List Au} {L : List Py} (h : PInv first K L) : (K.map Au.name).Nodup := by rw [h.names]; exact h.nd
theorem PInv.top {first K : List Au} {L : List Py} (h : PInv first K L) (nm : ByteArray) : 0 ≤ moneyOf first nm ∧ moneyOf first nm ≤ 1000000000 := by
  by_cases hm : nm ∈ first.map Au.name
  · obtain ⟨g, hg, rfl⟩ := List.mem_map.1 hm
    unfold moneyOf
    rw [acc_of h.nd hg]
    exact ⟨(h.ok g hg).2.2.1, (h.ok g hg).2.2.2.1⟩
  · unfold moneyOf
    rw [acc_none hm]
    exact ⟨Int.le_refl _, by decide⟩
theorem PInv.mid {first K : List Au} {L : List Py} (h : PInv first K L) (nm : ByteArray) : 0 ≤ heldU K nm ∧ heldU K nm ≤ moneyOf K nm ∧ moneyOf K nm ≤ 1000000000 ∧ 0 ≤ sumP L nm 1 ∧ sumP L nm 1 ≤ 1000000000 ∧ 0 ≤ sumP L nm 2 ∧ sumP L nm 2 ≤ 1000000000 := by
  have h1 := h.sums nm
  have h2 := h.top nm
  have h3 := sumP_nonneg (fun x hx => (h.pays x hx).1) nm 1
  have h4 := sumP_nonneg (fun x hx => (h.pays x hx).1) nm 2
  omega
theorem PInv.start {first : List Au} (h : AccL first) : PInv first first [] := by
  refine ⟨rfl, h.2.1, h.1, h.2.2, fun h hh => (by cases hh), by simp, fun nm => ?_⟩
  simp only [sumP, List.map_nil, List.sum_nil]
  unfold heldU moneyOf
  by_cases hm : nm ∈ first.map Au.name
  · obtain ⟨g, hg, rfl⟩ := List.mem_map.1 hm
    rw [acc_of h.2.1 hg]
    have := h.2.2 g hg
    unfold accB at this
    omega
  · rw [acc_none hm]
    exact ⟨rfl, rfl, Int.le_refl _⟩
theorem authB_parts {K : List Au} {L : List Py} {o : BitVec 32} {nm : ByteArray} {n : Int} (hb : authB K L o nm n = true) : o ≠ 0#32 ∧ 1 ≤ n ∧ findK Py.o L o = none ∧ n ≤ moneyOf K nm - heldU K nm ∧ nm ∈ K.map Au.name := by
  unfold authB at hb
  simp only [Bool.and_eq_true, decide_eq_true_eq, Bool.not_eq_true'] at hb
  obtain ⟨ho, hn, hf, hle⟩ := hb
  refine ⟨ho, hn, by simpa using hf, hle, ?_⟩
  apply Classical.byContradiction
  intro hc
  unfold moneyOf heldU at hle
  rw [acc_none hc] at hle
  simp only [zeroU] at hle
  omega
theorem auth_no {K : List Au} {L : List Py} {o : BitVec 32} {nm : ByteArray} {n : Int} (hb : authB K L o nm n = false) : authKs K L o nm n = K ∧ authLs K L o nm n = L := by
  unfold authKs authLs
  rw [hb]
  exact ⟨rfl, rfl⟩
theorem auth_yes {K : List Au} {L : List Py} {o : BitVec 32} {nm : ByteArray} {n : Int} (hb : authB K L o nm n = true) : authKs K L o nm n = adjU K nm 0 n ∧ authLs K L o nm n = L ++ [⟨o, nm, n, 1⟩] := by
  unfold authKs authLs
  rw [hb]
  exact ⟨rfl, rfl⟩
theorem PInv.auth {first K : List Au} {L : List Py} (h : PInv first K L) (o : BitVec 32) (nm : ByteArray) (n : Int) : PInv first (authKs K L o nm n) (authLs K L o nm n) := by
  cases hb : authB K L o nm n with
  | false => rw [(auth_no hb).1, (auth_no hb).2]; exact h
  | true =>
    rw [(auth_yes hb).1, (auth_yes hb).2]
    obtain ⟨ho, hn, hf, hle, hin⟩ := authB_parts hb
    have hm0 := h.mid nm
    refine ⟨by rw [adjU_names (find_namesU hin)]; exact h.names, h.nd, h.few, h.ok, ?_, ?_, fun nm' => ?_⟩
    · intro x hx
      rcases List.mem_append.1 hx with hx | hx
      · exact h.pays x hx
      · rw [List.mem_singleton.1 hx]
        exact ⟨hn, (by show n ≤ 1000000000; omega), ho, by rw [← h.names]; exact hin, by show (1 : Int) ≤ 1; omega, by show (1 : Int) ≤ 3; omega⟩
    · rw [List.map_append, List.nodup_append]
      refine ⟨h.keys, by simp, ?_⟩
      intro x hx y hy
      obtain ⟨c, hc, rfl⟩ := List.mem_map.1 hx
      simp only [List.map_cons, List.map_nil, List.mem_singleton] at hy
      subst hy
      exact findK_none hf c hc
    · have h1 := h.sums nm'
      rw [sumP_snoc, sumP_snoc]
      unfold heldU moneyOf at *
      rw [adjU_acc]
      by_cases e : nm' = nm
      · subst e
        simp only [if_true, true_and]
        unfold heldU moneyOf
        rw [if_neg (by decide : ¬ (1 : Int) = 2)]
        omega
      · have e2 : ¬ nm = nm' := fun x => e x.symm
        simp only [if_neg e, e2, false_and, if_false]
        omega
def turnOk (s t dm dh : Int) : Prop := (s = 1 ∧ t = 2 ∧ dm = -1 ∧ dh = -1) ∨ (s = 1 ∧ t = 3 ∧ dm = 0 ∧ dh = -1) ∨ (s = 2 ∧ t = 3 ∧ dm = 1 ∧ dh = 0)
theorem turn_no {K : List Au} {L : List Py} {o : BitVec 32} {s : Int} (t dm dh : Int) (hb : turnB L o s = false) : turnKs K L o s dm dh = K ∧ turnLs L o s t = L := by
  unfold turnB at hb
  unfold turnKs turnLs
  cases hf : findK Py.o L o with
  | none => exact ⟨rfl, rfl⟩
  | some x =>
    rw [hf] at hb
    simp only [decide_eq_false_iff_not] at hb
    simp only [if_neg hb, and_self]
theorem turn_yes {K : List Au} {L : List Py} {o : BitVec 32} {s : Int} (t dm dh : Int) (hb : turnB L o s = true) : ∃ x, x ∈ L ∧ x.o = o ∧ x.st = s ∧ findK Py.o L o = some x ∧ turnKs K L o s dm dh = adjU K x.name (dm * x.n) (dh * x.n) ∧ turnLs L o s t = putK Py.o L ⟨x.o, x.name, x.n, t⟩ := by
  unfold turnB at hb
  unfold turnKs turnLs
  cases hf : findK Py.o L o with
  | none => rw [hf] at hb; cases hb
  | some x =>
    rw [hf] at hb
    simp only [decide_eq_true_eq] at hb
    obtain ⟨h1, h2⟩ := findK_mem hf
    exact ⟨x, h1, h2, hb, rfl, by simp only [if_pos hb], by simp only [if_pos hb]⟩
theorem putP_keys {L : List Py} (hn : (L.map Py.o).Nodup) {x : Py} (hx : x ∈ L) (y : Py) (he : y.o = x.o) : (putK Py.o L y).map Py.o = L.map Py.o := by
  rw [putK_keys, he, findK_of hn hx]; rfl
theorem PInv.turn {first K : List Au} {L : List Py} (h : PInv first K L) (o : BitVec 32) (s t dm dh : Int) (hok : turnOk s t dm dh) : PInv first (turnKs K L o s dm dh) (turnLs L o s t) := by
  cases hb : turnB L o s with
  | false => rw [(turn_no t dm dh hb).1, (turn_no (K := K) t dm dh hb).2]; exact h
  | true =>
    obtain ⟨x, hx, hxo, hxs, hf, eK, eL⟩ := turn_yes (K := K) t dm dh hb
    rw [eK, eL]
    have hp := h.pays x hx
    have hin : x.name ∈ K.map Au.name := by rw [h.names]; exact hp.2.2.2.1
    have hkeys : (putK Py.o L ⟨x.o, x.name, x.n, t⟩).map Py.o = L.map Py.o := putP_keys h.keys hx _ rfl
    refine ⟨by rw [adjU_names (find_namesU hin)]; exact h.names, h.nd, h.few, h.ok, ?_, by rw [hkeys]; exact h.keys, fun nm' => ?_⟩
    · intro y hy
      rcases putK_mem hy with rfl | ⟨hy, _⟩ | ⟨hy, _⟩
      · refine ⟨hp.1, hp.2.1, hp.2.2.1, hp.2.2.2.1, ?_, ?_⟩
        · show 1 ≤ t
          rcases hok with ⟨_, rfl, _⟩ | ⟨_, rfl, _⟩ | ⟨_, rfl, _⟩ <;> decide
        · show t ≤ 3
          rcases hok with ⟨_, rfl, _⟩ | ⟨_, rfl, _⟩ | ⟨_, rfl, _⟩ <;> decide
      · exact h.pays y hy
      · exact h.pays y hy
    · have h1 := h.sums nm'
      have hle := mem_le_sumP (fun x hx => (h.pays x hx).1) hx
      have hmid := h.mid x.name
      have hp1 := sumP_put (y := ⟨x.o, x.name, x.n, t⟩) h.keys hx rfl nm' 1
      have hp2 := sumP_put (y := ⟨x.o, x.name, x.n, t⟩) h.keys hx rfl nm' 2
      rw [hp1, hp2]
      unfold heldU moneyOf at *
      rw [adjU_acc]
      by_cases e : nm' = x.name
      · subst e
        simp only [if_true, true_and]
        unfold heldU moneyOf
        rw [hxs] at hle ⊢
        rcases hok with ⟨rfl, rfl, rfl, rfl⟩ | ⟨rfl, rfl, rfl, rfl⟩ | ⟨rfl, rfl, rfl, rfl⟩
        · simp only [if_true, show ¬ (1 : Int) = 2 by decide, show ¬ (2 : Int) = 1 by decide, if_false]; omega
        · simp only [if_true, show ¬ (1 : Int) = 2 by decide, show ¬ (3 : Int) = 1 by decide, show ¬ (3 : Int) = 2 by decide, if_false]; omega
        · simp only [if_true, show ¬ (2 : Int) = 1 by decide, show ¬ (3 : Int) = 1 by decide, show ¬ (3 : Int) = 2 by decide, if_false]; omega
      · have e2 : ¬ x.name = nm' := fun z => e z.symm
        simp only [if_neg e, e2, false_and, if_false]
        omega
def PsAt (TD p : Nat) (K : List Au) (L : List Py) (C : List Ck) : Prop :=
  ∃ b1 b2 C1 C2, C = row p [.map (some b1), .map (some b2)] TD :: (C1 ++ C2) ∧ MpG kStr b1 (kvs Au.name encU K) C1 ∧ MpG kU32 b2 (kvs Py.o encP L) C2
theorem lkU (K : List Au) (nm : ByteArray) : (if false = true then Value.tuple #[(getG (kvs Au.name encU K) nm).getD (.agg #[.string ⟨#[]⟩, .int .i64 0, .int .i64 0]), .bool (getG (kvs Au.name encU K) nm).isSome] else (getG (kvs Au.name encU K) nm).getD (.agg #[.string ⟨#[]⟩, .int .i64 0, .int .i64 0])) = .agg (cellsU (acc K nm)).toArray := by
  rw [if_neg (by simp), getG_kvs]
  unfold acc
  cases findK Au.name K nm <;> rfl
theorem lkU2 (K : List Au) (nm : ByteArray) : (if true = true then Value.tuple #[(getG (kvs Au.name encU K) nm).getD (.agg #[.string ⟨#[]⟩, .int .i64 0, .int .i64 0]), .bool (getG (kvs Au.name encU K) nm).isSome] else (getG (kvs Au.name encU K) nm).getD (.agg #[.string ⟨#[]⟩, .int .i64 0, .int .i64 0])) = .tuple #[.agg (cellsU (acc K nm)).toArray, .bool (findK Au.name K nm).isSome] := by
  rw [if_pos rfl, getG_kvs]
  unfold acc
  cases findK Au.name K nm <;> rfl
theorem lkP2 (L : List Py) (o : BitVec 32) : (if true = true then Value.tuple #[(getG (kvs Py.o encP L) o).getD (.agg #[.int .u32 0, .string ⟨#[]⟩, .int .i64 0, .int .i64 0]), .bool (getG (kvs Py.o encP L) o).isSome] else (getG (kvs Py.o encP L) o).getD (.agg #[.int .u32 0, .string ⟨#[]⟩, .int .i64 0, .int .i64 0])) = .tuple #[.agg (cellsP ((findK Py.o L o).getD zeroP)).toArray, .bool (findK Py.o L o).isSome] := by
  rw [if_pos rfl, getG_kvs]
  cases findK Py.o L o <;> rfl
theorem putU (K : List Au) (a : Au) (nm : ByteArray) (he : nm = a.name) : setG (kvs Au.name encU K) nm (.agg #[.string a.name, .int .i64 a.money, .int .i64 a.held]) = kvs Au.name encU (putK Au.name K a) := setG_kvs encU K a nm _ he rfl
theorem putP (L : List Py) (x : Py) (o : BitVec 32) (he : o = x.o) : setG (kvs Py.o encP L) o (.agg #[.int .u32 x.o.toNat, .string x.name, .int .i64 x.n, .int .i64 x.st]) = kvs Py.o encP (putK Py.o L x) := setG_kvs encP L x o _ he rfl
theorem putP_new {L : List Py} {x : Py} (h : findK Py.o L x.o = none) : putK Py.o L x = L ++ [x] := by
  unfold putK
  rw [h]
  rfl
theorem putU_new {L : List Au} {x : Au} (h : findK Au.name L x.name = none) : putK Au.name L x = L ++ [x] := by
  unfold putK
  rw [h]
  rfl
theorem once_moreU {L : List Au} {g : Au} (h : (L.map Au.name).Nodup) (hn : findK Au.name L g.name = none) : ((L ++ [g]).map Au.name).Nodup := by
  rw [List.map_append, List.nodup_append]
  refine ⟨h, by simp, ?_⟩
  intro x hx y hy
  obtain ⟨c, hc, rfl⟩ := List.mem_map.1 hx
  simp only [List.map_cons, List.map_nil, List.mem_singleton] at hy
  subst hy
  exact findK_none hn c hc
theorem twice_noU {gs : List Au} {i : Nat} (hi : i < gs.length) (h : (findK Au.name (gs.take i) gs[i].name).isSome = true) : ¬ (gs.map Au.name).Nodup := by
  intro hn
  obtain ⟨g, hg⟩ := Option.isSome_iff_exists.1 h
  obtain ⟨h1, h2⟩ := findK_mem hg
  obtain ⟨j, hj, rfl⟩ := List.getElem_of_mem h1
  simp only [List.length_take] at hj
  rw [List.getElem_take] at h2
  have := List.pairwise_iff_getElem.1 hn j i (by simp; omega) (by simpa using hi) (by omega)
  simp at this
  exact this h2
end Go.SL

set_option linter.unusedVariables false
set_option linter.unusedSimpArgs false
namespace Go.SL
structure Bk where
  o : BitVec 32
  day : Nat
  n : Int
deriving DecidableEq
def Bk.val (b : Bk) : Value := .agg #[.int .u32 b.o.toNat, .int .i64 b.day, .int .i64 b.n]
def bks (L : List Bk) : List (Int × Value) := L.map fun b => ((b.o.toNat : Int), b.val)
def findB (L : List Bk) (o : BitVec 32) : Option Bk := L.find? fun b => decide (o = b.o)
theorem getM_bks (L : List Bk) (o : BitVec 32) : getM (bks L) (o.toNat : Int) = (findB L o).map Bk.val := by
  induction L with
  | nil => rfl
  | cons b L ih =>
    have h : ((o.toNat : Int) = (b.o.toNat : Int)) ↔ o = b.o := by
      constructor
      · intro e; exact BitVec.eq_of_toNat_eq (by omega)
      · rintro rfl; rfl
    by_cases e : o = b.o
    · simp [getM, bks, findB, e]
    · have e2 : ¬ ((o.toNat : Int) = (b.o.toNat : Int)) := fun x => e (h.1 x)
      have h1 : getM (bks (b :: L)) (o.toNat : Int) = getM (bks L) (o.toNat : Int) := by
        simp only [getM, bks, List.map_cons]
        rw [List.find?_cons_of_neg (by simpa using e2)]
      have h2 : findB (b :: L) o = findB L o := by
        simp only [findB]
        rw [List.find?_cons_of_neg (by simpa using e)]
      rw [h1, h2, ih]
theorem getD_val (L : List Bk) (o : BitVec 32) : (getM (bks L) (o.toNat : Int)).getD (.agg #[.int .u32 0, .int .i64 0, .int .i64 0]) = ((findB L o).getD ⟨0#32, 0, 0⟩).val := by
  rw [getM_bks]
  cases findB L o <;> rfl
theorem isSome_val (L : List Bk) (o : BitVec 32) : (getM (bks L) (o.toNat : Int)).isSome = (findB L o).isSome := by
  rw [getM_bks]
  cases findB L o <;> rfl
theorem bks_snoc (L : List Bk) (b : Bk) : bks L ++ [((b.o.toNat : Int), b.val)] = bks (L ++ [b]) := by simp [bks]
theorem nodup_snoc {L : List Bk} {b : Bk} (h : (L.map (·.o)).Nodup) (hn : findB L b.o = none) : ((L ++ [b]).map (·.o)).Nodup := by
  rw [List.map_append, List.nodup_append]
  refine ⟨h, by simp, ?_⟩
  intro x hx y hy
  obtain ⟨c, hc, rfl⟩ := List.mem_map.1 hx
  simp at hy
  subst hy
  have := List.find?_eq_none.1 hn c hc
  intro e
  simp at this
  exact this e.symm
def delB (L : List Bk) (o : BitVec 32) : List Bk := L.filter fun b => decide (o ≠ b.o)
theorem delM_bks (L : List Bk) (o : BitVec 32) : delM (bks L) (o.toNat : Int) = bks (delB L o) := by
  induction L with
  | nil => rfl
  | cons b L ih =>
    have h : ((o.toNat : Int) = (b.o.toNat : Int)) ↔ o = b.o := by
      constructor
      · intro e; exact BitVec.eq_of_toNat_eq (by omega)
      · rintro rfl; rfl
    have e1 : bks (b :: L) = ((b.o.toNat : Int), b.val) :: bks L := rfl
    rw [e1]
    by_cases e : o = b.o
    · have h1 : delM (((b.o.toNat : Int), b.val) :: bks L) (o.toNat : Int) = delM (bks L) (o.toNat : Int) := by
        unfold delM; rw [List.filter_cons_of_neg (by simp [e])]
      have h2 : delB (b :: L) o = delB L o := by unfold delB; rw [List.filter_cons_of_neg (by simp [e])]
      rw [h1, h2, ih]
    · have e2 : ¬ ((o.toNat : Int) = (b.o.toNat : Int)) := fun x => e (h.1 x)
      have h1 : delM (((b.o.toNat : Int), b.val) :: bks L) (o.toNat : Int) = ((b.o.toNat : Int), b.val) :: delM (bks L) (o.toNat : Int) := by
        unfold delM; rw [List.filter_cons_of_pos (by simpa using e2)]
      have h2 : delB (b :: L) o = b :: delB L o := by unfold delB; rw [List.filter_cons_of_pos (by simpa using e)]
      rw [h1, h2, ih]
      rfl
theorem delB_nodup {L : List Bk} (o : BitVec 32) (h : (L.map (·.o)).Nodup) : ((delB L o).map (·.o)).Nodup := h.sublist (List.filter_sublist.map _)
def RoomsOk (rs : List Int) : Prop := ∀ j, 0 ≤ rs.getD j 0 ∧ rs.getD j 0 ≤ 1000000
def roomOf (rs : List Int) (day : Int) : Int := if 0 ≤ day ∧ day < rs.length then rs.getD day.toNat 0 else 0
def dayOf (rs : List Int) (from_ : Int) (n : Int) : Option Nat := (List.range rs.length).find? fun d => decide (from_ ≤ (d : Int)) && decide (n ≤ rs.getD d 0)
def bookOf (rs : List Int) (L : List Bk) (o : BitVec 32) (from_ n : Int) : Option Nat :=
  if o = 0#32 ∨ n < 1 ∨ from_ < 0 ∨ (findB L o).isSome then none else dayOf rs from_ n
theorem dayOf_yes (rs : List Int) (from_ n : Int) (d : Nat) (hd : d < rs.length) (h1 : from_ ≤ d) (h2 : n ≤ rs.getD d 0) (hno : ∀ j, j < d → ¬ (from_ ≤ (j : Int) ∧ n ≤ rs.getD j 0)) : dayOf rs from_ n = some d := by
  unfold dayOf
  rw [List.find?_eq_some_iff_getElem]
  refine ⟨by simp [h1]; simpa using h2, d, by simpa using hd, by simp, fun j hj => ?_⟩
  have := hno j hj
  simp only [List.getElem_range]
  simp only [Bool.not_eq_true', Bool.and_eq_false_iff, decide_eq_false_iff_not]
  by_cases h : from_ ≤ (j : Int)
  · right; intro h3; exact this ⟨h, h3⟩
  · left; exact h
theorem dayOf_no (rs : List Int) (from_ n : Int) (hno : ∀ j, j < rs.length → ¬ (from_ ≤ (j : Int) ∧ n ≤ rs.getD j 0)) : dayOf rs from_ n = none := by
  unfold dayOf
  rw [List.find?_eq_none]
  intro j hj
  have := hno j (by simpa using hj)
  simp only [Bool.and_eq_true, decide_eq_true_eq]
  exact this
theorem ic_set (l : List Int) (i : Nat) (x : Int) : (ic l).set i (.int .i64 x) = ic (l.set i x) := by simp [ic, List.map_set]
def DockAt (TD TI p : Nat) (rs : List Int) (L : List Bk) (C : List Ck) : Prop :=
  ∃ vr Cr bm Cm, C = row p [vr, .map (some bm)] TD :: (Cr ++ Cm) ∧ Own vr rs.length (ic rs) TI 1 Cr ∧ Mp bm .u32 (bks L) Cm ∧ (L.map (·.o)).Nodup
theorem keys_nodup {L : List Bk} (h : (L.map (·.o)).Nodup) : ((bks L).map (·.1)).Nodup := by
  have e : (bks L).map (·.1) = (L.map (·.o)).map fun o => (o.toNat : Int) := by simp [bks]
  rw [e]
  unfold List.Nodup at *
  rw [List.pairwise_map]
  exact h.imp fun {a b} hab e => hab (BitVec.eq_of_toNat_eq (by omega))
theorem run_equal_nilS {P : Program} {T e : TypeId} (hT : P.underlying T = some (.slice e)) (ao : Option Addr) (n c : Nat) (w : World) : (Op.equal T (.slice ao n c) (.slice none 0 0)).run P w = .ok ao.isNone w := by
  have h : ∀ d, (Op.equalIn (d + 1) T (.slice ao n c) (.slice none 0 0)).run P w = .ok ao.isNone w := fun d => by cases ao <;> simp [Op.equalIn, run_underlying hT]
  exact h 9999
theorem Yd.eqlNilS {P : Program} {l : Sl} {d : Option Nat} {ty : TypeId} {pos : String} {aft : Array Edge} {g : Option (Nat × Bool)} {T T' e : TypeId} {x y : Operand} {ao : Option Addr} {n c : Nat} (hT : P.underlying T = some (.slice e)) (hx : ev l x = some (.slice ao n c)) (hy : ev l y = some (.slice none 0 0)) : Yd P ⟨d, .binOp .eql T x y T', ty, pos, aft, g⟩ l (.bool ao.isNone) := fun a kn w => by
  have : (eqGuard .eql T x y (.slice ao n c) (.slice none 0 0)).run P w = .ok () w := by unfold eqGuard; simp
  cases ao <;> simp [execOp, kn.ev hx, kn.ev hy, this, binOp, run_equal_nilS hT]
def resOf (r : Option Nat) : Int × Int := match r with | none => (0, 2) | some d => ((d : Int), 1)
def roomsB (rs : List Int) (r : Option Nat) (n : Int) : List Int := match r with | none => rs | some d => rs.set d (rs.getD d 0 - n)
def listB (L : List Bk) (r : Option Nat) (o : BitVec 32) (n : Int) : List Bk := match r with | none => L | some d => L ++ [⟨o, d, n⟩]
def resC (b : Option Bk) : Int := match b with | none => 2 | some _ => 1
def roomsC (rs : List Int) (b : Option Bk) : List Int := match b with | none => rs | some b => rs.set b.day (rs.getD b.day 0 + b.n)
def listC (L : List Bk) (b : Option Bk) (o : BitVec 32) : List Bk := match b with | none => L | some _ => delB L o
theorem roomsOk_of {rs : List Int} (h : rs.all (fun x => decide (0 ≤ x) && decide (x ≤ 1000000)) = true) : RoomsOk rs := by
  intro j
  by_cases hj : j < rs.length
  · have := List.all_eq_true.1 h rs[j] (List.getElem_mem hj)
    simp only [List.getD, List.getElem?_eq_getElem hj, Option.getD_some]
    simpa using this
  · have e : rs[j]? = none := List.getElem?_eq_none (by omega)
    simp [List.getD, e]
theorem dayOf_spec {rs : List Int} {from_ n : Int} {d : Nat} (h : dayOf rs from_ n = some d) : d < rs.length ∧ from_ ≤ d ∧ n ≤ rs.getD d 0 ∧ ∀ j, j < d → ¬ (from_ ≤ (j : Int) ∧ n ≤ rs.getD j 0) := by
  unfold dayOf at h
  rw [List.find?_eq_some_iff_getElem] at h
  obtain ⟨h1, i, hi, h2, h3⟩ := h
  simp only [List.getElem_range] at h2
  subst h2
  simp only [List.length_range] at hi
  simp only [Bool.and_eq_true, decide_eq_true_eq] at h1
  refine ⟨hi, h1.1, h1.2, fun j hj hh => ?_⟩
  have := h3 j hj
  simp only [List.getElem_range] at this
  simp [hh.1] at this
  have := hh.2
  simp only [List.getD] at this
  omega
end Go.SL

set_option linter.unusedVariables false
set_option linter.unusedSimpArgs false
namespace Go.SL
def sumDay (L : List Bk) (d : Nat) : Int := (L.map fun b => if b.day = d then b.n else 0).sum
structure DInv (first rs : List Int) (L : List Bk) : Prop where
  len : rs.length = first.length
  few : first.length ≤ 60
  ok : RoomsOk first
  bks : ∀ b ∈ L, b.day < rs.length ∧ 1 ≤ b.n ∧ b.o ≠ 0#32
  sums : ∀ d, 0 ≤ rs.getD d 0 ∧ rs.getD d 0 + sumDay L d = first.getD d 0
  keys : (L.map (·.o)).Nodup
theorem sumDay_nonneg {L : List Bk} (h : ∀ b ∈ L, 1 ≤ b.n) (d : Nat) : 0 ≤ sumDay L d := by
  induction L with
  | nil => simp [sumDay]
  | cons b L ih =>
    have h1 := ih (fun c hc => h c (List.mem_cons_of_mem _ hc))
    have h2 := h b List.mem_cons_self
    simp only [sumDay, List.map_cons, List.sum_cons] at *
    split <;> omega
theorem DInv.rooms {first rs : List Int} {L : List Bk} (h : DInv first rs L) : RoomsOk rs := fun d => by
  have h1 := h.sums d
  have h2 := h.ok d
  have h3 := sumDay_nonneg (fun b hb => (h.bks b hb).2.1) d
  omega
theorem DInv.start {first : List Int} (h : RoomsOk first) (hl : first.length ≤ 60) : DInv first first [] :=
  ⟨rfl, hl, h, fun b hb => (by cases hb), fun d => ⟨(h d).1, by simp [sumDay]⟩, by simp⟩
theorem sumDay_snoc (L : List Bk) (b : Bk) (d : Nat) : sumDay (L ++ [b]) d = sumDay L d + if b.day = d then b.n else 0 := by
  simp [sumDay]
theorem sumDay_del {L : List Bk} (hn : (L.map (·.o)).Nodup) {o : BitVec 32} {b : Bk} (hb : findB L o = some b) (d : Nat) : sumDay (delB L o) d + (if b.day = d then b.n else 0) = sumDay L d := by
  induction L with
  | nil => cases hb
  | cons c L ih =>
    simp only [List.map_cons, List.nodup_cons] at hn
    by_cases e : o = c.o
    · have h1 : findB (c :: L) o = some c := by simp [findB, e]
      rw [h1] at hb
      obtain rfl : c = b := by simpa using hb
      have h2 : delB (c :: L) o = delB L o := by unfold delB; rw [List.filter_cons_of_neg (by simp [e])]
      have h3 : delB L o = L := by
        unfold delB
        apply List.filter_eq_self.2
        intro x hx
        simp only [decide_eq_true_eq]
        intro e2
        exact hn.1 (List.mem_map.2 ⟨x, hx, by rw [← e2, e]⟩)
      rw [h2, h3]
      simp only [sumDay, List.map_cons, List.sum_cons]
      omega
    · have h1 : findB (c :: L) o = findB L o := by
        unfold findB; rw [List.find?_cons_of_neg (by simpa using e)]
      rw [h1] at hb
      have h2 : delB (c :: L) o = c :: delB L o := by unfold delB; rw [List.filter_cons_of_pos (by simpa using e)]
      have := ih hn.2 hb
      rw [h2]
      simp only [sumDay, List.map_cons, List.sum_cons] at *
      omega
theorem findB_mem {L : List Bk} {o : BitVec 32} {b : Bk} (h : findB L o = some b) : b ∈ L ∧ b.o = o := by
  have h1 := List.mem_of_find?_eq_some h
  have h2 := List.find?_some h
  exact ⟨h1, by simpa using (of_decide_eq_true h2).symm⟩
theorem getD_set (rs : List Int) (i j : Nat) (x : Int) (h : i < rs.length) : (rs.set i x).getD j 0 = if i = j then x else rs.getD j 0 := by
  simp only [List.getD, List.getElem?_set]
  by_cases e : i = j
  · subst e; simp [h]
  · simp [e]
theorem DInv.cancel {first rs : List Int} {L : List Bk} (h : DInv first rs L) (o : BitVec 32) : DInv first (roomsC rs (findB L o)) (listC L (findB L o) o) := by
  cases hf : findB L o with
  | none => exact h
  | some b =>
    obtain ⟨hm, ho⟩ := findB_mem hf
    have hb := h.bks b hm
    refine ⟨by simp [roomsC, h.len], h.few, h.ok, ?_, ?_, delB_nodup o h.keys⟩
    · intro c hc
      have := h.bks c (List.mem_filter.1 hc).1
      simpa [roomsC] using this
    · intro d
      have h1 := h.sums d
      have h2 := sumDay_del h.keys hf d
      simp only [roomsC, listC]
      rw [getD_set rs _ _ _ hb.1]
      by_cases e : b.day = d
      · subst e
        rw [if_pos rfl] at h2 ⊢
        omega
      · rw [if_neg e] at h2 ⊢
        omega
theorem DInv.book {first rs : List Int} {L : List Bk} (h : DInv first rs L) (o : BitVec 32) (from_ n : Int) : DInv first (roomsB rs (bookOf rs L o from_ n) n) (listB L (bookOf rs L o from_ n) o n) := by
  cases hf : bookOf rs L o from_ n with
  | none => exact h
  | some d =>
    have hc : ¬ (o = 0#32 ∨ n < 1 ∨ from_ < 0 ∨ (findB L o).isSome) := by
      intro hc; rw [bookOf, if_pos hc] at hf; cases hf
    have hd : dayOf rs from_ n = some d := by rw [bookOf, if_neg hc] at hf; exact hf
    obtain ⟨g1, g2, g3, g4⟩ := dayOf_spec hd
    have hnone : findB L o = none := by
      cases e : findB L o with
      | none => rfl
      | some b => exact absurd (.inr (.inr (.inr (by rw [e]; rfl)))) hc
    have hn1 : 1 ≤ n := by
      apply Classical.byContradiction
      intro h9
      exact hc (.inr (.inl (by omega)))
    have ho : o ≠ 0#32 := fun e => hc (.inl e)
    refine ⟨by simp [roomsB, h.len], h.few, h.ok, ?_, ?_, nodup_snoc h.keys hnone⟩
    · intro b hb
      simp only [listB] at hb
      rcases List.mem_append.1 hb with hb | hb
      · have := h.bks b hb; simpa [roomsB] using this
      · rw [List.mem_singleton.1 hb]; exact ⟨by simpa [roomsB] using g1, hn1, ho⟩
    · intro j
      have h1 := h.sums j
      simp only [roomsB, listB]
      rw [getD_set rs _ _ _ g1, sumDay_snoc]
      by_cases e : d = j
      · subst e
        simp only [if_true]
        omega
      · simp only [if_neg e]
        omega
theorem DInv.cancelOk {first rs : List Int} {L : List Bk} (h : DInv first rs L) (o : BitVec 32) : ∀ b, findB L o = some b → b.day < rs.length ∧ -9223372036854775808 ≤ rs.getD b.day 0 + b.n ∧ rs.getD b.day 0 + b.n ≤ 9223372036854775807 := by
  intro b hb
  obtain ⟨hm, ho⟩ := findB_mem hb
  have h1 := (h.cancel o).rooms b.day
  rw [hb] at h1
  have h2 := h.bks b hm
  simp only [roomsC] at h1
  rw [getD_set rs _ _ _ h2.1, if_pos rfl] at h1
  exact ⟨h2.1, by omega, by omega⟩
end Go.SL

set_option linter.unusedVariables false
set_option linter.unusedSimpArgs false
namespace Go.SL
structure Ef where
  o : BitVec 32
  s : Int
  u : Bool
deriving DecidableEq
def efc (x : Ef) : List Value := [.int .u32 x.o.toNat, .int .i64 x.s, .bool x.u]
theorem efc_len (x : Ef) : (efc x).length = 3 := rfl
theorem efc_one (x : Ef) : ∀ v ∈ efc x, v.oneCell' = true := by
  intro v hv
  simp only [efc, List.mem_cons, List.not_mem_nil, or_false] at hv
  rcases hv with rfl | rfl | rfl <;> rfl
structure Cw where
  K : List Gd
  L : List Ho
  U : List Au
  Y : List Py
  rs : List Int
  B : List Bk
  e : BitVec 32
  ks : List Kp
  ef : List Ef
  no : List (List (BitVec 8))
def Cw.new (gs : List Gd) (us : List Au) (rs : List Int) : Cw := ⟨gs, [], us, [], rs, [], 0#32, [], [], []⟩
def undoS (s : Cw) (o : BitVec 32) (w : Wk) : Cw :=
  if w.what = 1 then { s with K := leaveKs s.K s.L o false, L := delK Ho.o s.L o }
  else if w.what = 2 then s
  else if w.what = 3 then { s with U := turnKs s.U s.Y o 1 0 (-1), Y := turnLs s.Y o 1 3 }
  else if w.what = 4 then { s with U := turnKs s.U s.Y o 2 1 0, Y := turnLs s.Y o 2 3 }
  else if w.what = 5 then { s with rs := roomsC s.rs (findB s.B o), B := listC s.B (findB s.B o) o }
  else { s with no := s.no ++ [33#8 :: w.name] }
def undoV (s : Cw) (o : BitVec 32) (w : Wk) : Int :=
  if w.what = 1 then vd (findK Ho.o s.L o).isSome
  else if w.what = 2 then 2
  else if w.what = 3 then vdP (turnB s.Y o 1)
  else if w.what = 4 then vdP (turnB s.Y o 2)
  else if w.what = 5 then resC (findB s.B o)
  else 1
def workS (s : Cw) (o : BitVec 32) (w : Wk) : Cw :=
  if w.what = 1 then { s with K := holdKs s.K s.L o (str w.name) w.n, L := holdLs s.K s.L o (str w.name) w.n }
  else if w.what = 2 then { s with K := leaveKs s.K s.L o true, L := delK Ho.o s.L o }
  else if w.what = 3 then { s with U := authKs s.U s.Y o (str w.name) w.n, Y := authLs s.U s.Y o (str w.name) w.n }
  else if w.what = 4 then { s with U := turnKs s.U s.Y o 1 (-1) (-1), Y := turnLs s.Y o 1 2 }
  else if w.what = 5 then { s with rs := roomsB s.rs (bookOf s.rs s.B o 0 w.n) w.n, B := listB s.B (bookOf s.rs s.B o 0 w.n) o w.n }
  else { s with no := s.no ++ [w.name] }
def workV (s : Cw) (o : BitVec 32) (w : Wk) : Int :=
  if w.what = 1 then vd (holdB s.K s.L o (str w.name) w.n)
  else if w.what = 2 then vd (findK Ho.o s.L o).isSome
  else if w.what = 3 then vdP (authB s.U s.Y o (str w.name) w.n)
  else if w.what = 4 then vdP (turnB s.Y o 1)
  else if w.what = 5 then (resOf (bookOf s.rs s.B o 0 w.n)).2
  else 1
def workR (s : Cw) (o : BitVec 32) (w : Wk) : List (BitVec 8) :=
  if w.what = 5 then (match bookOf s.rs s.B o 0 w.n with | none => [] | some d => [BitVec.ofInt 8 (d : Int)]) else []
def doS (s : Cw) (n : Nt) : Cw := if decE n.data ≠ 0 then s else if n.undo then undoS s n.order (decW n.data) else workS s n.order (decW n.data)
def doV (s : Cw) (n : Nt) : Int := if decE n.data ≠ 0 then 2 else if n.undo then undoV s n.order (decW n.data) else workV s n.order (decW n.data)
def doR (s : Cw) (n : Nt) : List (BitVec 8) := if decE n.data ≠ 0 then [] else if n.undo then [] else workR s n.order (decW n.data)
def doneN (n : Nt) (code : Int) (reply : List (BitVec 8)) : Nt := ⟨8, n.epoch, 0#32, 0#64, 0#64, n.order, n.step, n.undo, code, [], reply⟩
def noN (e : BitVec 32) (code : Int) : Nt := ⟨6, e, 0#32, 0#64, 0#64, 0#32, 0, false, code, [], []⟩
def fenN (e : BitVec 32) (n : Nt) : Nt := ⟨9, e, 0#32, 0#64, 0#64, n.order, n.step, n.undo, 0, [], []⟩
def codeOf (s : Cw) (n : Nt) (act : Int) : Int := if act = 4 then 1 else if act = 1 then doV s n else 2
def replyOf (s : Cw) (n : Nt) (act : Int) : List (BitVec 8) := if act = 4 then [] else if act = 1 then doR s n else []
def didS (s : Cw) (n : Nt) (act : Int) : Cw :=
  if act = 4 then s else if act = 1 then (if doV s n = 1 then { doS s n with ef := (doS s n).ef ++ [⟨n.order, n.step, n.undo⟩] } else doS s n) else s
def keptC (s : Cw) (n : Nt) (code : Int) (reply : List (BitVec 8)) : Cw := { s with e := (keepK s.e s.ks n code reply).1, ks := (keepK s.e s.ks n code reply).2.1 }
def serveS (s : Cw) (n : Nt) : Cw :=
  if (askK s.e s.ks n).2.2 ≠ 0 then s
  else if (askK s.e s.ks n).1 = 2 then { s with e := (seeK s.e s.ks n.epoch).1, ks := (seeK s.e s.ks n.epoch).2.1 }
  else if 200 ≤ s.ks.length then s
  else keptC (didS s n (askK s.e s.ks n).1) n (codeOf s n (askK s.e s.ks n).1) (replyOf s n (askK s.e s.ks n).1)
def serveN (s : Cw) (n : Nt) : Nt :=
  if (askK s.e s.ks n).2.2 = 72 then fenN s.e n
  else if (askK s.e s.ks n).2.2 = 80 then noN s.e 2
  else if (askK s.e s.ks n).2.2 ≠ 0 then noN s.e 1
  else if (askK s.e s.ks n).1 = 2 then doneN n (askK s.e s.ks n).2.1.code (askK s.e s.ks n).2.1.reply
  else if 200 ≤ s.ks.length then noN s.e 3
  else doneN n (codeOf s n (askK s.e s.ks n).1) (replyOf s n (askK s.e s.ks n).1)
structure CInv (g0 : List Gd) (u0 : List Au) (r0 : List Int) (s : Cw) : Prop where
  st : SInv g0 s.K s.L
  pu : PInv u0 s.U s.Y
  dk : DInv r0 s.rs s.B
  ck : chk s.ks
  ef : s.ef.length ≤ s.ks.length
  no : s.no.length ≤ s.ks.length
  small : ∀ x ∈ s.no, x.length ≤ 33
def CwAt (TS TP TD TI T8 TK TE TB TC p : Nat) (s : Cw) (C : List Ck) : Prop :=
  ∃ pd ps pp vL vE vN CS CP CD CF CE cn CN DN', C = row p [.pointer (some ⟨pd, 0, none⟩), .pointer (some ⟨ps, 0, none⟩), .pointer (some ⟨pp, 0, none⟩), .int .u32 s.e.toNat, vL, vE, vN] TC :: (CS ++ (CP ++ (CD ++ (CF ++ (CE ++ (CN ++ DN'))))))
    ∧ StAt TS ps s.K s.L CS ∧ PsAt TP pp s.U s.Y CP ∧ DockAt TD TI pd s.rs s.B CD ∧ FAt T8 TK vL s.ks CF ∧ Own vE s.ef.length (s.ef.flatMap efc) TE 3 CE ∧ Own vN s.no.length cn TB 1 CN ∧ Obs T8 cn s.no DN'
theorem ask_kept {e : BitVec 32} {ks : List Kp} {n : Nt} : (askK e ks n).2.1 = Kp.z ∨ (askK e ks n).2.1 ∈ ks := by
  unfold askK
  split
  · exact .inl rfl
  · split
    · exact .inl rfl
    · split
      · rename_i k hk
        split
        · exact .inr (getK_some hk).1
        · exact .inl rfl
      · split
        · split
          · exact .inl rfl
          · split <;> exact .inl rfl
        · split <;> exact .inl rfl
theorem ask_reply {e : BitVec 32} {ks : List Kp} {n : Nt} (h : chk ks) : (askK e ks n).2.1.reply.length ≤ 255 := by
  rcases ask_kept (e := e) (ks := ks) (n := n) with h1 | h1
  · rw [h1]; decide
  · exact (h.2.1 _ h1).2.2.2.2.1
section
variable {s : Cw} {n : Nt}
theorem serve_72 (h : (askK s.e s.ks n).2.2 = 72) : serveS s n = s ∧ serveN s n = fenN s.e n := by
  unfold serveS serveN
  rw [if_pos (by rw [h]; decide), if_pos h]
  exact ⟨rfl, rfl⟩
theorem serve_80 (h1 : ¬ (askK s.e s.ks n).2.2 = 72) (h : (askK s.e s.ks n).2.2 = 80) : serveS s n = s ∧ serveN s n = noN s.e 2 := by
  unfold serveS serveN
  rw [if_pos (by rw [h]; decide), if_neg h1, if_pos h]
  exact ⟨rfl, rfl⟩
theorem serve_no (h1 : ¬ (askK s.e s.ks n).2.2 = 72) (h2 : ¬ (askK s.e s.ks n).2.2 = 80) (h : (askK s.e s.ks n).2.2 ≠ 0) : serveS s n = s ∧ serveN s n = noN s.e 1 := by
  unfold serveS serveN
  rw [if_pos h, if_neg h1, if_neg h2, if_pos h]
  exact ⟨rfl, rfl⟩
theorem serve_again (h : ¬ (askK s.e s.ks n).2.2 ≠ 0) (ha : (askK s.e s.ks n).1 = 2) : serveS s n = { s with e := (seeK s.e s.ks n.epoch).1, ks := (seeK s.e s.ks n.epoch).2.1 } ∧ serveN s n = doneN n (askK s.e s.ks n).2.1.code (askK s.e s.ks n).2.1.reply := by
  have h1 : (askK s.e s.ks n).2.2 = 0 := Classical.byContradiction h
  unfold serveS serveN
  rw [if_neg h, if_pos ha, if_neg (by rw [h1]; decide), if_neg (by rw [h1]; decide), if_neg h, if_pos ha]
  exact ⟨rfl, rfl⟩
theorem serve_full (h : ¬ (askK s.e s.ks n).2.2 ≠ 0) (ha : ¬ (askK s.e s.ks n).1 = 2) (hf : 200 ≤ s.ks.length) : serveS s n = s ∧ serveN s n = noN s.e 3 := by
  have h1 : (askK s.e s.ks n).2.2 = 0 := Classical.byContradiction h
  unfold serveS serveN
  rw [if_neg h, if_neg ha, if_pos hf, if_neg (by rw [h1]; decide), if_neg (by rw [h1]; decide), if_neg h, if_neg ha, if_pos hf]
  exact ⟨rfl, rfl⟩
theorem serve_new (h : ¬ (askK s.e s.ks n).2.2 ≠ 0) (ha : ¬ (askK s.e s.ks n).1 = 2) (hf : ¬ 200 ≤ s.ks.length) :
    serveS s n = keptC (didS s n (askK s.e s.ks n).1) n (codeOf s n (askK s.e s.ks n).1) (replyOf s n (askK s.e s.ks n).1) ∧ serveN s n = doneN n (codeOf s n (askK s.e s.ks n).1) (replyOf s n (askK s.e s.ks n).1) := by
  have h1 : (askK s.e s.ks n).2.2 = 0 := Classical.byContradiction h
  unfold serveS serveN
  rw [if_neg h, if_neg ha, if_neg hf, if_neg (by rw [h1]; decide), if_neg (by rw [h1]; decide), if_neg h, if_neg ha, if_neg hf]
  exact ⟨rfl, rfl⟩
theorem undo_fence (o : BitVec 32) (w : Wk) : (undoS s o w).e = s.e ∧ (undoS s o w).ks = s.ks ∧ (undoS s o w).ef = s.ef := by
  unfold undoS
  repeat' split
  all_goals exact ⟨rfl, rfl, rfl⟩
theorem work_fence (o : BitVec 32) (w : Wk) : (workS s o w).e = s.e ∧ (workS s o w).ks = s.ks ∧ (workS s o w).ef = s.ef := by
  unfold workS
  repeat' split
  all_goals exact ⟨rfl, rfl, rfl⟩
theorem do_fence : (doS s n).e = s.e ∧ (doS s n).ks = s.ks ∧ (doS s n).ef = s.ef := by
  unfold doS
  split
  · exact ⟨rfl, rfl, rfl⟩
  · split
    · exact undo_fence _ _
    · exact work_fence _ _
theorem did_fence {act : Int} : (didS s n act).e = s.e ∧ (didS s n act).ks = s.ks := by
  unfold didS
  split
  · exact ⟨rfl, rfl⟩
  · split
    · split
      · exact ⟨do_fence.1, do_fence.2.1⟩
      · exact ⟨do_fence.1, do_fence.2.1⟩
    · exact ⟨rfl, rfl⟩
theorem workR_len (o : BitVec 32) (w : Wk) : (workR s o w).length ≤ 1 := by
  unfold workR
  split
  · split <;> simp
  · simp
theorem reply_len {act : Int} : (replyOf s n act).length ≤ 1 := by
  unfold replyOf doR
  repeat' split
  all_goals first | exact workR_len _ _ | exact Nat.zero_le _
theorem did_4 {act : Int} (h : act = 4) : codeOf s n act = 1 ∧ replyOf s n act = [] ∧ didS s n act = s := by
  unfold codeOf replyOf didS
  rw [if_pos h, if_pos h, if_pos h]
  exact ⟨rfl, rfl, rfl⟩
theorem did_1 {act : Int} (h4 : ¬ act = 4) (h : act = 1) : codeOf s n act = doV s n ∧ replyOf s n act = doR s n ∧ didS s n act = (if doV s n = 1 then { doS s n with ef := (doS s n).ef ++ [⟨n.order, n.step, n.undo⟩] } else doS s n) := by
  unfold codeOf replyOf didS
  rw [if_neg h4, if_pos h, if_neg h4, if_pos h, if_neg h4, if_pos h]
  exact ⟨rfl, rfl, rfl⟩
theorem did_0 {act : Int} (h4 : ¬ act = 4) (h : ¬ act = 1) : codeOf s n act = 2 ∧ replyOf s n act = [] ∧ didS s n act = s := by
  unfold codeOf replyOf didS
  rw [if_neg h4, if_neg h, if_neg h4, if_neg h, if_neg h4, if_neg h]
  exact ⟨rfl, rfl, rfl⟩
end
end Go.SL

namespace Go.SL
def stepW (ep o : BitVec 32) (st : Int) (u : Bool) (d : List (BitVec 8)) : Nt := ⟨7, ep, 0#32, 0#64, 0#64, o, st, u, 0, [], d⟩
structure As where
  ep : BitVec 32
  o : BitVec 32
  st : Int
  u : Bool
  w : Wk
  data : List (BitVec 8)
def asc (a : As) (vn vd : Value) : List Value := [.int .u32 a.ep.toNat, .int .u32 a.o.toNat, .int .i64 a.st, .bool a.u, .int .i64 a.w.what, .int .i64 a.w.n, vn, vd]
def noteA (a : As) : Nt := stepW a.ep a.o a.st a.u (if 0 < a.data.length then a.data else ewkB a.w)
end Go.SL

set_option linter.unusedVariables false
set_option linter.unusedSimpArgs false
set_option linter.unusedSectionVars false
namespace Go.SL
section
variable {ρ κ : Type} [DecidableEq κ] (key : ρ → κ)
def atK (L : List ρ) (k : κ) : Int := match L.findIdx? (fun r => decide (k = key r)) with | some i => (i : Int) | none => -1
variable {key}
theorem atK_yes (L : List ρ) (k : κ) (i : Nat) (hi : i < L.length) (h : k = key L[i]) (hno : ∀ (j : Nat) (hj : j < L.length), j < i → ¬ k = key L[j]) : atK key L k = i := by
  have : L.findIdx? (fun r => decide (k = key r)) = some i := by
    rw [List.findIdx?_eq_some_iff_getElem]
    exact ⟨hi, by simpa using h, fun j hj => by simpa using hno j (by omega) hj⟩
  simp [atK, this]
theorem atK_no (L : List ρ) (k : κ) (hno : ∀ (j : Nat) (hj : j < L.length), ¬ k = key L[j]) : atK key L k = -1 := by
  have : L.findIdx? (fun r => decide (k = key r)) = none := by
    rw [List.findIdx?_eq_none_iff]
    intro b hb
    obtain ⟨j, hj, rfl⟩ := List.getElem_of_mem hb
    simpa using hno j hj
  simp [atK, this]
theorem atK_spec (L : List ρ) (k : κ) : (atK key L k = -1 ∧ findK key L k = none) ∨ ∃ (i : Nat) (hi : i < L.length), atK key L k = i ∧ k = key L[i] ∧ findK key L k = some L[i] := by
  cases h : L.findIdx? (fun r => decide (k = key r)) with
  | none =>
    left
    refine ⟨by simp [atK, h], ?_⟩
    unfold findK
    rw [List.find?_eq_none]
    intro b hb
    have := List.findIdx?_eq_none_iff.1 h b hb
    simpa using this
  | some i =>
    right
    obtain ⟨hi, h1, h2⟩ := List.findIdx?_eq_some_iff_getElem.1 h
    refine ⟨i, hi, by simp [atK, h], by simpa using h1, ?_⟩
    unfold findK
    rw [List.find?_eq_some_iff_getElem]
    exact ⟨h1, i, hi, rfl, fun j hj => by simpa using h2 j hj⟩
theorem eraseK : ∀ {L : List ρ} (hn : (L.map key).Nodup) {i : Nat} (hi : i < L.length), L.eraseIdx i = delK key L (key L[i])
  | b :: L, hn, 0, _ => by
    simp only [List.map_cons, List.nodup_cons] at hn
    simp only [List.eraseIdx_cons_zero, List.getElem_cons_zero, delK]
    rw [List.filter_cons_of_neg (by simp), eq_comm, List.filter_eq_self]
    intro c hc
    simp only [decide_eq_true_eq]
    intro e
    exact hn.1 (List.mem_map.2 ⟨c, hc, e.symm⟩)
  | b :: L, hn, i + 1, hi => by
    simp only [List.map_cons, List.nodup_cons] at hn
    have hi' : i < L.length := by simpa using hi
    simp only [List.eraseIdx_cons_succ, List.getElem_cons_succ]
    rw [eraseK hn.2 hi']
    unfold delK
    rw [List.filter_cons_of_pos]
    simp only [decide_eq_true_eq]
    intro e
    exact hn.1 (List.mem_map.2 ⟨L[i], List.getElem_mem hi', e⟩)
end
section
variable {α : Type}
theorem erase_skip (L : List α) (i k : Nat) (hi : i < L.length) (h : i ≠ k) : (L.take (i + 1)).eraseIdx k = (L.take i).eraseIdx k ++ [L[i]] := by
  rw [List.take_succ_eq_append_getElem hi]
  rcases Nat.lt_or_ge k i with h1 | h1
  · rw [List.eraseIdx_append_of_lt_length (by rw [List.length_take]; omega)]
  · rw [List.eraseIdx_of_length_le (by rw [List.length_append, List.length_take]; simp; omega), List.eraseIdx_of_length_le (by rw [List.length_take]; omega)]
theorem erase_here (L : List α) (k : Nat) (hi : k < L.length) : (L.take (k + 1)).eraseIdx k = (L.take k).eraseIdx k := by
  have hl : (L.take k).length = k := by rw [List.length_take]; omega
  rw [List.take_succ_eq_append_getElem hi, List.eraseIdx_append_of_length_le (by rw [hl]; exact Nat.le_refl _), hl, Nat.sub_self, List.eraseIdx_cons_zero, List.append_nil]
  exact (List.eraseIdx_of_length_le (by rw [hl]; exact Nat.le_refl _)).symm
theorem flat_dropE (enc : α → List Value) (s : Nat) (hs : ∀ x, (enc x).length = s) (L : List α) (k : Nat) : (L.drop k).flatMap enc = (L.flatMap enc).drop (k * s) := by
  induction L generalizing k with
  | nil => simp
  | cons b L ih =>
    cases k with
    | zero => simp
    | succ k =>
      rw [List.drop_succ_cons, List.flatMap_cons, ih, show (k + 1) * s = (enc b).length + k * s by rw [hs, Nat.add_mul, Nat.one_mul, Nat.add_comm], List.drop_length_add_append]
theorem put_flatE (enc : α → List Value) (s : Nat) (hs : ∀ x, (enc x).length = s) (T : List α) (b : α) (k : Nat) : (T.take k).flatMap enc ++ enc b ++ ((T.flatMap enc).drop (k * s)).take ((T.length - k) * s) = (T.take k ++ b :: T.drop k).flatMap enc := by
  rw [List.flatMap_append, List.flatMap_cons, flat_dropE enc s hs, List.append_assoc]
  congr 2
  rw [List.take_of_length_le]
  rw [List.length_drop, flat_len enc s hs, Nat.sub_mul]
  exact Nat.le_refl _
theorem one_partE (enc : α → List Value) (h1 : ∀ x, ∀ u ∈ enc x, u.oneCell' = true) (T : List α) (a b : Nat) : ∀ u ∈ ((T.flatMap enc).drop a).take b, u.oneCell' = true := fun u hu => flat_one h1 T u (List.mem_of_mem_drop (List.mem_of_mem_take hu))
end
section
variable {ρ κ : Type} [DecidableEq κ] {key : ρ → κ} {lt : κ → κ → Bool}
theorem ToldK.put (htrans : ∀ a b c, lt a b = true → lt b c = true → lt a c = true) (hirr : ∀ a, lt a a = false) (htri : ∀ a b, lt a b = true ∨ a = b ∨ lt b a = true) {L T : List ρ} {i k : Nat} (h : ToldK key lt (L.take i) T) (hi : i < L.length) (hk : k ≤ T.length) (hlt : ∀ (j : Nat) (hj : j < T.length), j < k → lt (key T[j]) (key L[i]) = true) (hge : ∀ h : k < T.length, lt (key T[k]) (key L[i]) = false) :
    ToldK key lt (L.take (i + 1)) (T.take k ++ L[i] :: T.drop k) := by
  constructor
  · rw [List.take_succ_eq_append_getElem hi]
    have h1 : (T.take k ++ L[i] :: T.drop k).Perm (L[i] :: (T.take k ++ T.drop k)) := List.perm_middle
    rw [List.take_append_drop] at h1
    exact h1.trans ((h.perm.cons L[i]).trans (List.perm_append_singleton L[i] _).symm)
  · rw [List.pairwise_append]
    have hs := h.sorted
    have hge2 : ∀ y ∈ T.drop k, lt (key y) (key L[i]) = false := by
      intro y hy
      obtain ⟨j, hj, rfl⟩ := List.getElem_of_mem hy
      simp only [List.length_drop] at hj
      have h2 := hge (by omega)
      rw [List.getElem_drop]
      rcases Nat.eq_zero_or_pos j with e | e
      · subst e; simpa using h2
      · have h3 := List.pairwise_iff_getElem.1 hs k (k + j) (by omega) (by omega) (by omega)
        cases h4 : lt (key T[k + j]) (key L[i]) with
        | false => rfl
        | true =>
          rcases htri (key T[k]) (key T[k + j]) with h5 | h5 | h5
          · rw [htrans _ _ _ h5 h4] at h2; cases h2
          · rw [h5, h4] at h2; cases h2
          · rw [h3] at h5; cases h5
    have hlt2 : ∀ x ∈ T.take k, lt (key x) (key L[i]) = true := by
      intro x hx
      obtain ⟨j, hj, rfl⟩ := List.getElem_of_mem hx
      simp only [List.length_take] at hj
      rw [List.getElem_take]
      exact hlt j (by omega) (by omega)
    refine ⟨hs.sublist (List.take_sublist k T), List.pairwise_cons.2 ⟨hge2, hs.sublist (List.drop_sublist k T)⟩, ?_⟩
    intro x hx y hy
    have h1 := hlt2 x hx
    rcases List.mem_cons.1 hy with rfl | hy
    · cases h2 : lt (key L[i]) (key x) with
      | false => rfl
      | true => have := htrans _ _ _ h1 h2; rw [hirr] at this; cases this
    · have h3 := hge2 y hy
      cases h2 : lt (key y) (key x) with
      | false => rfl
      | true => rw [htrans _ _ _ h2 h1] at h3; cases h3
theorem ToldK.free (htrans : ∀ a b c, lt a b = true → lt b c = true → lt a c = true) (hirr : ∀ a, lt a a = false) (htri : ∀ a b, lt a b = true ∨ a = b ∨ lt b a = true) {L T : List ρ} (h : ToldK key lt L T) (hn : (L.map key).Nodup) (g : κ) {k : Nat} (hk : k ≤ T.length) (hlt : ∀ (j : Nat) (hj : j < T.length), j < k → lt (key T[j]) g = true) (hge : ∀ h : k < T.length, lt (key T[k]) g = false) (hne : ∀ h : k < T.length, key T[k] ≠ g) : findK key L g = none := by
  cases hf : findK key L g with
  | none => rfl
  | some r =>
    obtain ⟨h1, h2⟩ := findK_mem hf
    obtain ⟨j, hj, rfl⟩ := List.getElem_of_mem (h.perm.mem_iff.2 h1)
    rcases Nat.lt_trichotomy j k with h3 | h3 | h3
    · have := hlt j hj h3
      rw [h2, hirr] at this; cases this
    · subst h3
      exact absurd h2 (hne hj)
    · have h4 := List.pairwise_iff_getElem.1 (h.strict htri hn) k j (by omega) hj h3
      rw [h2] at h4
      rw [hge (by omega)] at h4; cases h4
end
theorem Own.set1 {so : Option Addr} {n c : Nat} {xs : List Value} {T : TypeId} {sz : Nat} {C : List Ck} (h : Own (.slice so n c) n xs T sz C) (hn : 0 < n) (j : Nat) (hj : j < n * sz) (v : Value) :
    ∃ b extra, so = some ⟨b, 0, none⟩ ∧ C = [row b (xs ++ extra) T] ∧ (xs ++ extra).set (0 + j) v = xs.set j v ++ extra ∧ Own (.slice so n c) n (xs.set j v) T sz [row b (xs.set j v ++ extra) T] := by
  rcases h with ⟨_, h0, _⟩ | ⟨b, cap, extra, he, hc1, hc2, hx1, hx2, hC⟩
  · omega
  · simp only [Value.slice.injEq] at he
    obtain ⟨rfl, _, rfl⟩ := he
    exact ⟨b, extra, rfl, hC, by rw [Nat.zero_add, set_front _ _ _ _ (by omega)], .inr ⟨b, c, extra, rfl, hc1, hc2, by rw [List.length_set]; exact hx1, hx2, rfl⟩⟩
end Go.SL

set_option linter.unusedVariables false
set_option linter.unusedSimpArgs false
set_option linter.unusedSectionVars false
namespace Go.SL
theorem turnLs_len {first K : List Au} {L : List Py} (h : PInv first K L) (o : BitVec 32) (s t : Int) : (turnLs L o s t).length = L.length := by
  cases hb : turnB L o s with
  | false => rw [(turn_no (K := K) t 0 0 hb).2]
  | true =>
    obtain ⟨x, hx, hxo, hxs, hf, eK, eL⟩ := turn_yes (K := K) t 0 0 hb
    rw [eL]
    have := congrArg List.length (putP_keys h.keys hx ⟨x.o, x.name, x.n, t⟩ rfl)
    simpa using this
theorem cell_atP {α : Type} {enc : α → List Value} {k : Nat} (hk : ∀ x, (enc x).length = k) {L : List α} {cs : List Value} {o i c : Nat} (hcs : (cs.drop o).take (L.flatMap enc).length = L.flatMap enc) (hi : i < L.length) (hc : c < k) : cs[o + (i : Int).toNat * k + c]? = (enc L[i])[c]? := by
  have h1 := flat_get enc k hk L i c hc
  rw [List.getElem?_eq_getElem hi, Option.bind_some] at h1
  rw [← h1, Int.toNat_natCast]
  have h2 : i * k + c < (L.flatMap enc).length := by
    rw [flat_len enc k hk]
    have := Nat.mul_le_mul_right k (show i + 1 ≤ L.length from hi)
    rw [Nat.add_mul, Nat.one_mul] at this
    omega
  conv => rhs; rw [← hcs]
  rw [List.getElem?_take_of_lt h2, List.getElem?_drop]
  congr 1
  omega
end Go.SL

set_option linter.unusedVariables false
namespace Go.SL
def sameNt (a b : Nt) : Bool := decide (a.kind = b.kind) && (decide (a.epoch = b.epoch) && (decide (a.old = b.old) && (decide (a.lsn = b.lsn) && (decide (a.tick = b.tick) && (decide (a.order = b.order) && (decide (a.step = b.step) && ((a.undo == b.undo) && (decide (a.code = b.code) && (decide (str a.key = str b.key) && decide (str a.data = str b.data))))))))))
theorem sameNt_refl (a : Nt) : sameNt a a = true := by simp [sameNt]
end Go.SL

set_option linter.unusedVariables false
set_option linter.unusedSimpArgs false
namespace Go.SL
theorem insAt_memC {ks : List Kp} {i : Nat} {k x : Kp} : x ∈ insAt ks i k ↔ x ∈ ks ∨ x = k := by
  unfold insAt
  rw [List.mem_append, List.mem_cons]
  constructor
  · rintro (h | h | h)
    · exact .inl (List.mem_of_mem_take h)
    · exact .inr h
    · exact .inl (List.mem_of_mem_drop h)
  · rintro (h | h)
    · rw [← List.take_append_drop i ks] at h
      rcases List.mem_append.1 h with h | h
      · exact .inl h
      · exact .inr (.inr h)
    · exact .inr (.inl h)
theorem insAt_chkC {ks : List Kp} {k : Kp} (h : chk ks) (hl : ks.length < 200) (hr : rightP k) (hn : getK ks k.num = none) : chk (insAt ks (pos ks k.num) k) := by
  refine ⟨by rw [insAt_len _ (pos_le _ _)]; omega, fun x hx => ?_, ?_⟩
  · rcases insAt_memC.1 hx with hx | rfl
    · exact h.2.1 x hx
    · exact hr
  · unfold insAt
    have hA : (ks.take (pos ks k.num)).Pairwise fun a b => a.num < b.num := h.2.2.sublist (List.take_sublist _ _)
    have hB : (ks.drop (pos ks k.num)).Pairwise fun a b => a.num < b.num := h.2.2.sublist (List.drop_sublist _ _)
    have lo : ∀ x ∈ ks.take (pos ks k.num), x.num < k.num := fun x hx => by
      obtain ⟨t, ht, rfl⟩ := List.mem_take_iff_getElem.1 hx
      exact pos_below (by omega) (by omega)
    have hi : ∀ x ∈ ks.drop (pos ks k.num), k.num < x.num := fun x hx => by
      obtain ⟨t, ht, rfl⟩ := List.mem_drop_iff_getElem.1 hx
      have hp := pos_above (n := k.num) (ks := ks) (t := pos ks k.num) (by omega) rfl
      have hne : ks[pos ks k.num].num ≠ k.num := getK_none hn _ (List.getElem_mem _)
      rcases Nat.eq_zero_or_pos t with rfl | h0
      · simp only [Nat.add_zero]; omega
      · have := chk_lt h (i := pos ks k.num) (j := pos ks k.num + t) (by omega) (by omega)
        omega
    refine List.pairwise_append.2 ⟨hA, List.pairwise_cons.2 ⟨hi, hB⟩, fun x hx y hy => ?_⟩
    rcases List.mem_cons.1 hy with rfl | hy
    · exact lo x hx
    · have := lo x hx; have := hi y hy; omega
variable {g0 : List Gd} {u0 : List Au} {r0 : List Int} {s : Cw} {n : Nt}
structure CSub (g0 : List Gd) (u0 : List Au) (r0 : List Int) (s t : Cw) : Prop where
  st : SInv g0 t.K t.L
  pu : PInv u0 t.U t.Y
  dk : DInv r0 t.rs t.B
  no : t.no.length ≤ s.no.length + 1
  small : ∀ x ∈ t.no, x.length ≤ 33
theorem CInv.sub (h : CInv g0 u0 r0 s) : CSub g0 u0 r0 s s := ⟨h.st, h.pu, h.dk, Nat.le_succ _, h.small⟩
theorem undo_sub (h : CInv g0 u0 r0 s) (o : BitVec 32) (w : Wk) (hw : w.name.length ≤ 32) : CSub g0 u0 r0 s (undoS s o w) := by
  unfold undoS
  split
  · exact ⟨h.st.leave o false, h.pu, h.dk, Nat.le_succ _, h.small⟩
  · split
    · exact h.sub
    · split
      · exact ⟨h.st, h.pu.turn o 1 3 0 (-1) (.inr (.inl ⟨rfl, rfl, rfl, rfl⟩)), h.dk, Nat.le_succ _, h.small⟩
      · split
        · exact ⟨h.st, h.pu.turn o 2 3 1 0 (.inr (.inr ⟨rfl, rfl, rfl, rfl⟩)), h.dk, Nat.le_succ _, h.small⟩
        · split
          · exact ⟨h.st, h.pu, h.dk.cancel o, Nat.le_succ _, h.small⟩
          · refine ⟨h.st, h.pu, h.dk, by simp, fun x hx => ?_⟩
            rcases List.mem_append.1 hx with hx | hx
            · exact h.small x hx
            · rw [List.mem_singleton.1 hx, List.length_cons]; omega
theorem work_sub (h : CInv g0 u0 r0 s) (o : BitVec 32) (w : Wk) (hw : w.name.length ≤ 32) : CSub g0 u0 r0 s (workS s o w) := by
  unfold workS
  split
  · exact ⟨h.st.hold o _ _, h.pu, h.dk, Nat.le_succ _, h.small⟩
  · split
    · exact ⟨h.st.leave o true, h.pu, h.dk, Nat.le_succ _, h.small⟩
    · split
      · exact ⟨h.st, h.pu.auth o _ _, h.dk, Nat.le_succ _, h.small⟩
      · split
        · exact ⟨h.st, h.pu.turn o 1 2 (-1) (-1) (.inl ⟨rfl, rfl, rfl, rfl⟩), h.dk, Nat.le_succ _, h.small⟩
        · split
          · exact ⟨h.st, h.pu, h.dk.book o _ _, Nat.le_succ _, h.small⟩
          · refine ⟨h.st, h.pu, h.dk, by simp, fun x hx => ?_⟩
            rcases List.mem_append.1 hx with hx | hx
            · exact h.small x hx
            · rw [List.mem_singleton.1 hx]; omega
theorem do_sub (h : CInv g0 u0 r0 s) (n : Nt) : CSub g0 u0 r0 s (doS s n) := by
  unfold doS
  split
  · exact h.sub
  · split
    · exact undo_sub h _ _ (decW_name _)
    · exact work_sub h _ _ (decW_name _)
theorem did_sub (h : CInv g0 u0 r0 s) (n : Nt) (act : Int) : CSub g0 u0 r0 s (didS s n act) ∧ (didS s n act).ef.length ≤ s.ef.length + 1 := by
  have h9 : (doS s n).ef = s.ef := do_fence.2.2
  unfold didS
  split
  · exact ⟨h.sub, Nat.le_succ _⟩
  · split
    · have d := do_sub h n
      split
      · exact ⟨⟨d.st, d.pu, d.dk, d.no, d.small⟩, by show ((doS s n).ef ++ [_]).length ≤ _; rw [h9]; simp⟩
      · exact ⟨d, by rw [h9]; exact Nat.le_succ _⟩
    · exact ⟨h.sub, Nat.le_succ _⟩
theorem undo_code (o : BitVec 32) (w : Wk) : undoV s o w = 1 ∨ undoV s o w = 2 := by
  have hv : ∀ b, vd b = 1 ∨ vd b = 2 := fun b => by cases b <;> simp [vd]
  have hp : ∀ b, vdP b = 1 ∨ vdP b = 2 := fun b => by cases b <;> simp [vdP]
  have hc : ∀ b, resC b = 1 ∨ resC b = 2 := fun b => by cases b <;> simp [resC]
  unfold undoV
  split
  · exact hv _
  · split
    · exact .inr rfl
    · split
      · exact hp _
      · split
        · exact hp _
        · split
          · exact hc _
          · exact .inl rfl
theorem work_code (o : BitVec 32) (w : Wk) : workV s o w = 1 ∨ workV s o w = 2 := by
  have hv : ∀ b, vd b = 1 ∨ vd b = 2 := fun b => by cases b <;> simp [vd]
  have hp : ∀ b, vdP b = 1 ∨ vdP b = 2 := fun b => by cases b <;> simp [vdP]
  have hc : ∀ b, (resOf b).2 = 1 ∨ (resOf b).2 = 2 := fun b => by cases b <;> simp [resOf]
  unfold workV
  split
  · exact hv _
  · split
    · exact hv _
    · split
      · exact hp _
      · split
        · exact hp _
        · split
          · exact hc _
          · exact .inl rfl
theorem do_code (n : Nt) : doV s n = 1 ∨ doV s n = 2 := by
  unfold doV
  split
  · exact .inr rfl
  · split
    · exact undo_code _ _
    · exact work_code _ _
theorem code_of (n : Nt) (act : Int) : codeOf s n act = 1 ∨ codeOf s n act = 2 := by
  unfold codeOf
  split
  · exact .inl rfl
  · split
    · exact do_code n
    · exact .inr rfl
theorem ask_none {e : BitVec 32} {ks : List Kp} (h0 : (askK e ks n).2.2 = 0) (h2 : ¬ (askK e ks n).1 = 2) : getK ks (numb n.order n.step n.undo) = none := by
  have hg := askK_ok h0
  cases hk : getK ks (numb n.order n.step n.undo) with
  | none => rfl
  | some k =>
    exfalso
    unfold askK at h0 h2
    rw [if_neg hg.1, if_neg hg.2, hk] at h0 h2
    dsimp only at h0 h2
    by_cases ha : k.asked = n.data
    · rw [if_pos ha] at h2; exact h2 rfl
    · rw [if_neg ha] at h0; exact absurd h0 (by decide)
theorem ask_right {e : BitVec 32} {ks : List Kp} (h0 : (askK e ks n).2.2 = 0) {code : Int} {reply : List (BitVec 8)} (hc : code = 1 ∨ code = 2) (hr : reply.length ≤ 255) : rightP (stepK n code reply) := by
  have hg := askK_ok h0
  have h9 : noteBad n = false := by
    cases e9 : noteBad n
    · rfl
    · exact absurd (.inr (.inr (.inl e9))) hg.1
  have h8 := noteBad_step h9
  have h7 : n.order ≠ 0#32 := fun q => hg.1 (.inr (.inr (.inr (.inr q))))
  refine ⟨?_, h8.1, h8.2.1, h8.2.2, hr, hc⟩
  show 0 < n.order.toNat
  rcases Nat.eq_zero_or_pos n.order.toNat with q | q
  · exact absurd (BitVec.eq_of_toNat_eq q) h7
  · exact q
theorem serve_kept (h0 : (askK s.e s.ks n).2.2 = 0) (h2 : ¬ (askK s.e s.ks n).1 = 2) (hf : ¬ 200 ≤ s.ks.length) :
    keepK s.e s.ks n (codeOf s n (askK s.e s.ks n).1) (replyOf s n (askK s.e s.ks n).1) = (n.epoch, insAt s.ks (pos s.ks (numb n.order n.step n.undo)) (stepK n (codeOf s n (askK s.e s.ks n).1) (replyOf s n (askK s.e s.ks n).1)), 0) := by
  have hr := ask_right h0 (code_of (s := s) n (askK s.e s.ks n).1) (reply := replyOf s n (askK s.e s.ks n).1) (by have := reply_len (s := s) (n := n) (act := (askK s.e s.ks n).1); omega)
  refine keepK_ok (fun q => q h0) ?_ h2 hf
  rintro (q | ⟨q1, q2⟩ | ⟨q1, q2⟩)
  · exact q hr
  · exact q2 (by show codeOf s n (askK s.e s.ks n).1 = 2; rw [q1]; rfl)
  · exact q2 (by show codeOf s n (askK s.e s.ks n).1 = 1; rw [q1]; rfl)
theorem serve_inv (h : CInv g0 u0 r0 s) (n : Nt) : CInv g0 u0 r0 (serveS s n) := by
  by_cases h0 : (askK s.e s.ks n).2.2 ≠ 0
  · unfold serveS; rw [if_pos h0]; exact h
  · have h00 : (askK s.e s.ks n).2.2 = 0 := Classical.byContradiction h0
    by_cases h2 : (askK s.e s.ks n).1 = 2
    · rw [(serve_again h0 h2).1]
      have hg := (askK_ok h00).2
      have hs : seeK s.e s.ks n.epoch = (n.epoch, s.ks, 0) := by
        unfold seeK; rw [if_neg (not_not_intro h.ck), if_neg hg]
      rw [hs]
      exact ⟨h.st, h.pu, h.dk, h.ck, h.ef, h.no, h.small⟩
    · by_cases hf : 200 ≤ s.ks.length
      · rw [(serve_full h0 h2 hf).1]; exact h
      · rw [(serve_new h0 h2 hf).1]
        obtain ⟨d, hde⟩ := did_sub h n (askK s.e s.ks n).1
        have hdf := did_fence (s := s) (n := n) (act := (askK s.e s.ks n).1)
        have hk := serve_kept h00 h2 hf
        have hr := ask_right h00 (code_of (s := s) n (askK s.e s.ks n).1) (reply := replyOf s n (askK s.e s.ks n).1) (by have := reply_len (s := s) (n := n) (act := (askK s.e s.ks n).1); omega)
        have hc := insAt_chkC (k := stepK n (codeOf s n (askK s.e s.ks n).1) (replyOf s n (askK s.e s.ks n).1)) h.ck (by omega) hr (ask_none h00 h2)
        have hl := insAt_len (stepK n (codeOf s n (askK s.e s.ks n).1) (replyOf s n (askK s.e s.ks n).1)) (pos_le s.ks (numb n.order n.step n.undo))
        have hef := h.ef
        have hno := h.no
        have hdn := d.no
        unfold keptC
        rw [hdf.1, hdf.2, hk]
        exact ⟨d.st, d.pu, d.dk, hc, by dsimp only; omega, by dsimp only; omega, d.small⟩
theorem new_inv {gs : List Gd} {us : List Au} {rs : List Int} (h1 : SInv gs gs []) (h2 : PInv us us []) (h3 : DInv rs rs []) : CInv gs us rs (Cw.new gs us rs) :=
  ⟨h1, h2, h3, chk_nil, Nat.zero_le _, Nat.zero_le _, fun _ h => absurd h List.not_mem_nil⟩
end Go.SL

set_option linter.unusedVariables false
set_option maxRecDepth 100000
namespace Go.SL
def knG : List Gd := [⟨⟨#[97]⟩, 5, 0⟩]
def knU : List Au := [⟨⟨#[97, 110, 110]⟩, 9, 0⟩]
def knW : Wk := ⟨1, 2, [97#8]⟩
def knN (e : BitVec 32) (u : Bool) : Nt := ⟨7, e, 0#32, 0#64, 0#64, 7#32, 0, u, 0, [], ewkB knW⟩
def kn0c : Cw := Cw.new knG knU [3]
theorem kn_s1 : (serveS kn0c (knN 1#32 false)).K = [⟨⟨#[97]⟩, 3, 0⟩] := by decide
def knS1 : Cw := serveS kn0c (knN 1#32 false)
def knS2 : Cw := serveS knS1 (knN 1#32 false)
def knS3 : Cw := serveS knS2 (knN 0#32 false)
def knS4 : Cw := serveS knS3 (knN 1#32 true)
theorem kn_n1 : (serveN kn0c (knN 1#32 false)).kind = 8 ∧ (serveN kn0c (knN 1#32 false)).code = 1 := by decide
theorem kn_n3 : (serveN knS2 (knN 0#32 false)).kind = 6 ∧ (serveN knS2 (knN 0#32 false)).code = 1 := by decide
theorem kn_n4 : (serveN knS3 (knN 1#32 true)).code = 1 := by decide
theorem kn_K4 : knS4.K = [⟨⟨#[97]⟩, 5, 0⟩] ∧ knS4.e = 1#32 ∧ knS4.ef.length = 2 := by decide
theorem kn_n2 : serveN knS1 (knN 1#32 false) = serveN kn0c (knN 1#32 false) := by
  rw [show serveN kn0c (knN 1#32 false) = doneN (knN 1#32 false) 1 [] from rfl]
  rfl
end Go.SL

set_option linter.unusedVariables false
set_option linter.unusedSimpArgs false
namespace Go.SL
variable {g0 : List Gd} {u0 : List Au} {r0 : List Int} {s : Cw} {n : Nt}
theorem undo_same {o : BitVec 32} {w : Wk} (h : undoV s o w ≠ 1) : undoS s o w = s := by
  have hv : ∀ b, vd b ≠ 1 → b = false := fun b => by cases b <;> simp [vd]
  have hp : ∀ b, vdP b ≠ 1 → b = false := fun b => by cases b <;> simp [vdP]
  unfold undoV at h
  unfold undoS
  by_cases h1 : w.what = 1
  · rw [if_pos h1] at h ⊢
    have e : findK Ho.o s.L o = none := by simpa using hv _ h
    rw [delK_none e]
    unfold leaveKs
    rw [e]
  rw [if_neg h1] at h ⊢
  by_cases h2 : w.what = 2
  · rw [if_pos h2]
  rw [if_neg h2] at h ⊢
  by_cases h3 : w.what = 3
  · rw [if_pos h3] at h ⊢
    rw [(turn_no 3 0 (-1) (hp _ h)).1, (turn_no (K := s.U) 3 0 (-1) (hp _ h)).2]
  rw [if_neg h3] at h ⊢
  by_cases h4 : w.what = 4
  · rw [if_pos h4] at h ⊢
    rw [(turn_no 3 1 0 (hp _ h)).1, (turn_no (K := s.U) 3 1 0 (hp _ h)).2]
  rw [if_neg h4] at h ⊢
  by_cases h5 : w.what = 5
  · rw [if_pos h5] at h ⊢
    cases hb : findB s.B o with
    | none => rfl
    | some b => rw [hb] at h; exact absurd rfl h
  rw [if_neg h5] at h
  exact absurd rfl h
theorem work_same {o : BitVec 32} {w : Wk} (h : workV s o w ≠ 1) : workS s o w = s := by
  have hv : ∀ b, vd b ≠ 1 → b = false := fun b => by cases b <;> simp [vd]
  have hp : ∀ b, vdP b ≠ 1 → b = false := fun b => by cases b <;> simp [vdP]
  unfold workV at h
  unfold workS
  by_cases h1 : w.what = 1
  · rw [if_pos h1] at h ⊢
    have e := hv _ h
    unfold holdKs holdLs
    rw [e]
    rfl
  rw [if_neg h1] at h ⊢
  by_cases h2 : w.what = 2
  · rw [if_pos h2] at h ⊢
    have e : findK Ho.o s.L o = none := by simpa using hv _ h
    rw [delK_none e]
    unfold leaveKs
    rw [e]
  rw [if_neg h2] at h ⊢
  by_cases h3 : w.what = 3
  · rw [if_pos h3] at h ⊢
    rw [(auth_no (hp _ h)).1, (auth_no (hp _ h)).2]
  rw [if_neg h3] at h ⊢
  by_cases h4 : w.what = 4
  · rw [if_pos h4] at h ⊢
    rw [(turn_no 2 (-1) (-1) (hp _ h)).1, (turn_no (K := s.U) 2 (-1) (-1) (hp _ h)).2]
  rw [if_neg h4] at h ⊢
  by_cases h5 : w.what = 5
  · rw [if_pos h5] at h ⊢
    cases hb : bookOf s.rs s.B o 0 w.n with
    | none => rfl
    | some b => rw [hb] at h; exact absurd rfl h
  rw [if_neg h5] at h
  exact absurd rfl h
theorem do_same (h : doV s n ≠ 1) : doS s n = s := by
  unfold doV at h
  unfold doS
  split at h
  · rename_i h1; rw [if_pos h1]
  · rename_i h1
    rw [if_neg h1]
    split at h
    · rename_i h2; rw [if_pos h2]; exact undo_same h
    · rename_i h2; rw [if_neg h2]; exact work_same h
def insK (s : Cw) (n : Nt) (code : Int) (reply : List (BitVec 8)) : List Kp := insAt s.ks (pos s.ks (numb n.order n.step n.undo)) (stepK n code reply)
def efN (n : Nt) : Ef := ⟨n.order, n.step, n.undo⟩
inductive Served (s : Cw) (n : Nt) : Prop
  | old (h : n.epoch.toNat < s.e.toNat) (hs : serveS s n = s) (hn : serveN s n = fenN s.e n)
  | no (c : Int) (h1 : 1 ≤ c) (h3 : c ≤ 3) (hf : c = 1 ∧ askBad s.ks n ∨ c = 2 ∨ c = 3 ∧ 200 ≤ s.ks.length) (hs : serveS s n = s) (hn : serveN s n = noN s.e c)
  | again (hb : ¬ askBad s.ks n) (h : ¬ n.epoch.toNat < s.e.toNat) (k : Kp) (hk : getK s.ks (numb n.order n.step n.undo) = some k) (ha : k.asked = n.data) (hs : serveS s n = { s with e := n.epoch }) (hn : serveN s n = doneN n k.code k.reply)
  | none (hb : ¬ askBad s.ks n) (h : ¬ n.epoch.toNat < s.e.toNat) (hk : getK s.ks (numb n.order n.step n.undo) = none) (hl : s.ks.length < 200) (code : Int) (reply : List (BitVec 8)) (hc : code = 2 ∨ n.undo = true ∧ code = 1) (hr : rightP (stepK n code reply))
      (hv : (askK s.e s.ks n).1 = 1 → doV s n ≠ 1) (hs : serveS s n = { s with e := n.epoch, ks := insK s n code reply }) (hn : serveN s n = doneN n code reply)
  | took (hb : ¬ askBad s.ks n) (h : ¬ n.epoch.toNat < s.e.toNat) (hk : getK s.ks (numb n.order n.step n.undo) = none) (hl : s.ks.length < 200) (reply : List (BitVec 8)) (hr : rightP (stepK n 1 reply))
      (ha : n.undo = false ∧ getK s.ks (numb n.order n.step true) = none ∨ n.undo = true ∧ ∃ k, getK s.ks (numb n.order n.step false) = some k ∧ k.code ≠ 2)
      (hv : doV s n = 1) (hs : serveS s n = { doS s n with e := n.epoch, ks := insK s n 1 reply, ef := s.ef ++ [efN n] }) (hn : serveN s n = doneN n 1 reply)
theorem served (hc : chk s.ks) (n : Nt) : Served s n := by
  by_cases hb : askBad s.ks n
  · have ha := askK_arg (e := s.e) hb
    have h := serve_no (s := s) (n := n) (by rw [ha]; decide) (by rw [ha]; decide) (by rw [ha]; decide)
    exact .no 1 (by decide) (by decide) (.inl ⟨rfl, hb⟩) h.1 h.2
  by_cases ho : n.epoch.toNat < s.e.toNat
  · have ha := askK_old (e := s.e) hb ho
    have h := serve_72 (s := s) (n := n) (by rw [ha])
    exact .old ho h.1 h.2
  have hsee : seeK s.e s.ks n.epoch = (n.epoch, s.ks, 0) := by
    unfold seeK; rw [if_neg (not_not_intro hc), if_neg ho]
  cases hk : getK s.ks (numb n.order n.step n.undo) with
  | some k =>
    by_cases hd : k.asked = n.data
    · have ha := askK_again (e := s.e) hb ho hk hd
      have h := serve_again (s := s) (n := n) (by rw [ha]; exact fun q => q rfl) (by rw [ha])
      rw [ha, hsee] at h
      exact .again hb ho k hk hd h.1 h.2
    · have ha := askK_clash (e := s.e) hb ho hk hd
      have h := serve_80 (s := s) (n := n) (by rw [ha]; decide) (by rw [ha])
      exact .no 2 (by decide) (by decide) (.inr (.inl rfl)) h.1 h.2
  | none =>
    have key : (askK s.e s.ks n).2.2 = 0 ∧ ((askK s.e s.ks n).1 = 3 ∧ n.undo = false ∨ (askK s.e s.ks n).1 = 4 ∧ n.undo = true ∨ (askK s.e s.ks n).1 = 1 ∧ (n.undo = false ∧ getK s.ks (numb n.order n.step true) = none ∨ n.undo = true ∧ ∃ k, getK s.ks (numb n.order n.step false) = some k ∧ k.code ≠ 2)) := by
      cases hk2 : getK s.ks (numb n.order n.step (!n.undo)) with
      | none =>
        rw [askK_new hb ho hk hk2]
        cases hu : n.undo with
        | true => exact ⟨rfl, .inr (.inl ⟨rfl, rfl⟩)⟩
        | false => rw [hu] at hk2; exact ⟨rfl, .inr (.inr ⟨rfl, .inl ⟨rfl, hk2⟩⟩)⟩
      | some k =>
        cases hu : n.undo with
        | false => rw [askK_refuse hb ho hk hk2 hu]; exact ⟨rfl, .inl ⟨rfl, rfl⟩⟩
        | true =>
          rw [askK_undone hb ho hk hk2 hu]
          rw [hu] at hk2
          by_cases h2 : k.code = 2
          · rw [if_pos h2]; exact ⟨rfl, .inr (.inl ⟨rfl, rfl⟩)⟩
          · rw [if_neg h2]; exact ⟨rfl, .inr (.inr ⟨rfl, .inr ⟨rfl, k, hk2, h2⟩⟩)⟩
    obtain ⟨h0, hact⟩ := key
    have h2 : ¬ (askK s.e s.ks n).1 = 2 := by
      intro e
      rw [e] at hact
      rcases hact with ⟨q, _⟩ | ⟨q, _⟩ | ⟨q, _⟩ <;> exact absurd q (by decide)
    by_cases hf : 200 ≤ s.ks.length
    · have h := serve_full (s := s) (n := n) (by rw [h0]; decide) h2 hf
      exact .no 3 (by decide) (by decide) (.inr (.inr ⟨rfl, hf⟩)) h.1 h.2
    have h := serve_new (s := s) (n := n) (by rw [h0]; decide) h2 hf
    have hkp := serve_kept h0 h2 hf
    have hr := ask_right h0 (code_of (s := s) n (askK s.e s.ks n).1) (reply := replyOf s n (askK s.e s.ks n).1) (by have := reply_len (s := s) (n := n) (act := (askK s.e s.ks n).1); omega)
    have hdf := did_fence (s := s) (n := n) (act := (askK s.e s.ks n).1)
    unfold keptC at h
    rw [hdf.1, hdf.2, hkp] at h
    dsimp only at h
    obtain ⟨act, hq⟩ : ∃ a, a = (askK s.e s.ks n).1 := ⟨_, rfl⟩
    rw [← hq] at hact h hr
    rcases hact with ⟨q, hu⟩ | ⟨q, hu⟩ | ⟨q, hu⟩
    · have g := did_0 (s := s) (n := n) (act := act) (by rw [q]; decide) (by rw [q]; decide)
      rw [g.1, g.2.1] at hr
      rw [g.1, g.2.1, g.2.2] at h
      exact .none hb ho hk (by omega) 2 [] (.inl rfl) hr (fun e => by rw [← hq, q] at e; exact absurd e (by decide)) h.1 h.2
    · have g := did_4 (s := s) (n := n) (act := act) q
      rw [g.1, g.2.1] at hr
      rw [g.1, g.2.1, g.2.2] at h
      exact .none hb ho hk (by omega) 1 [] (.inr ⟨hu, rfl⟩) hr (fun e => by rw [← hq, q] at e; exact absurd e (by decide)) h.1 h.2
    · have g := did_1 (s := s) (n := n) (act := act) (by rw [q]; decide) q
      rw [g.1, g.2.1] at hr
      rw [g.1, g.2.1, g.2.2] at h
      by_cases hv : doV s n = 1
      · rw [if_pos hv, hv, do_fence.2.2] at h
        rw [hv] at hr
        exact .took hb ho hk (by omega) (doR s n) hr hu hv h.1 h.2
      · rw [if_neg hv, do_same hv] at h
        have h9 : doV s n = 2 := (do_code n).resolve_left hv
        rw [h9] at h hr
        exact .none hb ho hk (by omega) 2 (doR s n) (.inl rfl) hr (fun _ => hv) h.1 h.2
end Go.SL

set_option linter.unusedVariables false
set_option linter.unusedSimpArgs false
set_option linter.unusedSectionVars false
namespace Go.SL
variable {g0 : List Gd} {u0 : List Au} {r0 : List Int} {s : Cw} {n : Nt}
theorem inv_many (h : CInv g0 u0 r0 s) : s.K.length ≤ 50 ∧ s.U.length ≤ 50 := by
  have h1 := congrArg List.length h.st.names
  have h2 := congrArg List.length h.pu.names
  have h3 := h.st.few
  have h4 := h.pu.few
  simp only [List.length_map] at h1 h2
  omega
theorem note_len (a : As) : (noteA a).data.length ≤ a.data.length + 38 := by
  unfold noteA stepW
  show (if 0 < a.data.length then a.data else ewkB a.w).length ≤ _
  split
  · omega
  · have := ewkB_len a.w
    omega
theorem serve_key (s : Cw) (n : Nt) : (serveN s n).key = [] := by
  unfold serveN
  repeat' split
  all_goals rfl
theorem dec_what {b : List (BitVec 8)} (h : decE b = 0) : wkGood (decW b) := by
  unfold decE at h
  unfold decW
  split at h
  · exact absurd h (by decide)
  · rename_i hb
    rw [if_neg hb]
    exact (wk_whole hb).2
end Go.SL

set_option linter.unusedVariables false
set_option linter.unusedSimpArgs false
namespace Go.SL
variable {P : Program} {l : Sl} {H : List Ck} {K : Next → List Ck → Prop} {d : Option Nat} {ty : TypeId} {pos : String} {aft : Array Edge} {g : Option (Nat × Bool)}
theorem Hd.markB {x : Operand} {S e : TypeId} {b n c : Nat} {xs : List Value} {T : TypeId} {D : List Ck} (hS : sliceOf P S = some e) (he : intOfTy P e = some .u8) (hx : ev l x = some (.slice (some ⟨b, 0, none⟩) n c)) (hf : Fr H (row b xs T) D)
    (k : K (.value (.slice (some ⟨b, 0, none⟩) n c)) (⟨b, .cells xs.toArray T (xs.length, xs.length + 1), true⟩ :: D)) : Hd P ⟨d, .convert S S x, ty, pos, aft, g⟩ l H K := by
  intro a w R kn s
  have sp : Sat w (row b xs T :: (D ++ R)) := s.perm (hf.p.append_right R)
  have hb : w.heap[b]? = some (.cells xs.toArray T) := sp.holds _ List.mem_cons_self
  have hlt : b < w.heap.size := (Array.getElem?_eq_some_iff.1 hb).1
  have hg : w.heap[b] = .cells xs.toArray T := (Array.getElem?_eq_some_iff.1 hb).2
  have hsh : w.shape? b = some (T, xs.length) := by unfold World.shape?; rw [hb]; simp
  have hr : (convert S S (.slice (some ⟨b, 0, none⟩) n c)).run P w = .ok (.slice (some ⟨b, 0, none⟩) n c) (w.freeze ⟨b, xs.length, none⟩ 1) := by
    simp [convert, run_underlying (underlying_slice hS), run_underlying (underlying_int he), markStringish, hsh]
  have hw : Sat (w.freeze ⟨b, xs.length, none⟩ 1) (⟨b, .cells xs.toArray T (xs.length, xs.length + 1), true⟩ :: (D ++ R)) := by
    refine sp.write ?_ ?_
    · unfold World.freeze
      rw [if_neg (by decide)]
      simp [Array.getElem?_modify, hb]
    · intro j hj
      unfold World.freeze
      rw [if_neg (by decide)]
      simp [Array.getElem?_modify, Ne.symm hj]
  refine ⟨_, w.freeze ⟨b, xs.length, none⟩ 1, _, (by simp only [execOp, kn.ev hx, Sem.run_bind, hr, Result.andThen_ok]; rfl), hw, ⟨rfl, rfl, rfl, ?_, ?_⟩, k⟩
  · unfold World.freeze; rw [if_neg (by decide)]; simp
  · unfold World.freeze; rw [if_neg (by decide)]; exact Nat.le_refl _
theorem bs_marked {b n : Nat} {bs : List (BitVec 8)} {T : TypeId} {fr : Nat × Nat} {A : List Ck} (hn : n = bs.length) (hm : (⟨b, .cells (bc bs).toArray T fr, true⟩ : Ck) ∈ A) : Bs (.slice (some ⟨b, 0, none⟩) n n) bs A := by
  subst hn
  exact .inr ⟨b, 0, _, bc bs, T, fr, true, rfl, Nat.le_refl _, hm, by simp⟩
end Go.SL
namespace Go.SL
variable {P : Program} {l : Sl} {H : List Ck} {d : Option Nat} {ty : TypeId} {pos : String} {aft : Array Edge} {g : Option (Nat × Bool)}
theorem Yd.addS {T T' : TypeId} {x y : Operand} {s s' : ByteArray} (hx : ev l x = some (.string s)) (hy : ev l y = some (.string s')) (hl : s.size + s'.size ≤ 9223372036854775807) : Yd P ⟨d, .binOp .add T x y T', ty, pos, aft, g⟩ l (.string (s ++ s')) := fun a kn w => by
  have h : (eqGuard .add T x y (.string s) (.string s')).run P w = .ok () w := by rfl
  simp [execOp, kn.ev hx, kn.ev hy, h, binOp, Op.stringOp]
  omega
theorem str_append (a b : List (BitVec 8)) : str a ++ str b = str (a ++ b) := by
  apply ByteArray.ext
  rw [ByteArray.data_append]
  simp [str]
end Go.SL

set_option linter.unusedVariables false
set_option linter.unusedSimpArgs false
namespace Go.SL
theorem cell_at2 {α : Type} {enc : α → List Value} {k : Nat} (hk : ∀ x, (enc x).length = k) {L : List α} {cs : List Value} {o i c : Nat} (hcs : (cs.drop o).take (L.flatMap enc).length = L.flatMap enc) (hi : i < L.length) (hc : c < k) : cs[o + (i : Int).toNat * k + c]? = (enc L[i])[c]? := by
  have h1 := flat_get enc k hk L i c hc
  rw [List.getElem?_eq_getElem hi, Option.bind_some] at h1
  rw [← h1, Int.toNat_natCast]
  have h2 : i * k + c < (L.flatMap enc).length := by
    rw [flat_len enc k hk]
    have := Nat.mul_le_mul_right k (show i + 1 ≤ L.length from hi)
    rw [Nat.add_mul, Nat.one_mul] at this
    omega
  conv => rhs; rw [← hcs]
  rw [List.getElem?_take_of_lt h2, List.getElem?_drop]
  congr 1
  omega
end Go.SL

set_option linter.unusedVariables false
set_option linter.unusedSimpArgs false
namespace Go.SL
open Go.ChangeShapes Go.WideShapes Go.ChangeAt Go.RowKit
def Here (W : World) (H : List Ck) : Prop := ∀ c ∈ H, W.heap[c.b]? = some c.o ∧ c.ex = false
theorem Here.nil (W : World) : Here W [] := fun c h => by cases h
theorem Here.append {W : World} {A B : List Ck} (a : Here W A) (b : Here W B) : Here W (A ++ B) := fun c h => by
  rcases List.mem_append.1 h with h | h
  · exact a c h
  · exact b c h
variable {Hh : Type} {enc : TypeId × Value → Hh} {P : Program} {W : World} {base : Nat} {spare : Nat → Bool} {held : Bool} {fuel : Nat} {t : TypeId} {cs : List Value} {x : DataW Hh × List MemPlace}
theorem calls_of_tells {f : FuncId} {args : List Value} {H : List Ck} {v : Value} (h : Reads P f args H v) (hH : Here W H) : Calls P f args.toArray W fun e w' => e = .returned v ∧ Below W.heap.size W w' :=
  (Tells.below h hH).mono fun e w' ⟨v', H', he, hp, hb⟩ => ⟨by rw [he, hp.1], hb⟩
theorem cell_block {a : Addr} {v : Value} (h : W.cell? a = some v) : ∃ (b o : Nat) (c : Array Value) (T : TypeId) (fr : Nat × Nat), a = ⟨b, o, none⟩ ∧ W.heap[b]? = some (.cells c T fr) ∧ c[o]? = some v := by
  unfold World.cell? at h
  split at h
  · rename_i c T fr hb
    obtain ⟨b, o, sp⟩ := a
    cases sp with
    | none => exact ⟨b, o, c, T, fr, rfl, hb, by simpa using h⟩
    | some s => simp at h
  · cases h
theorem open_row {T e s : Nat} {ao : Option Addr} {len cap : Nat} {d : DataW Hh} {p : List MemPlace} (hT : sliceOf P T = some e) (hs : P.cellsOf e = s) (hs0 : 0 < s) (h : DataW.Trod enc P W base spare held T (.slice ao len cap) d p) :
    ∃ (xs : List Value) (H : List Ck) (n : Nat), Rs (.slice ao len cap) len xs H ∧ xs.length = len * s ∧ len ≤ maxLen ∧ Here W H ∧
      ∀ i, i < len → ∃ y, DataW.trod enc P W base spare held n e ((xs.drop (i * s)).take s) = some y := by
  obtain ⟨fuel, hf⟩ := h
  rcases DataW.trod_slice (underlying_slice hT) hf with ⟨hcs, _⟩ | ⟨a, l, c, elems, rest, n, _, hcs, _, hb, hl, hm, hlen, hel, _⟩
  · simp [Value.cells] at hcs
    obtain ⟨rfl, rfl, rfl⟩ := hcs
    exact ⟨[], [], 0, .inl ⟨_, _, rfl, rfl, rfl⟩, by simp, Nat.zero_le _, Here.nil W, fun i hi => by omega⟩
  · simp [Value.cells] at hcs
    obtain ⟨rfl, rfl, rfl⟩ := hcs
    rw [hs] at hel
    by_cases h0 : len = 0
    · subst h0
      exact ⟨[], [], 0, .inl ⟨_, _, rfl, rfl, rfl⟩, by simp, Nat.zero_le _, Here.nil W, fun i hi => by omega⟩
    · have each : ∀ i, i < len → ∃ l y, W.cells? base (a.add (i * s)) s = some l ∧ DataW.trod enc P W base spare held n e l = some y := fun i hi => by
        have h1 := hel i hi
        have h2 : i < elems.length := by omega
        rw [List.getElem?_eq_getElem h2] at h1
        obtain ⟨l, h3, h4⟩ := Option.bind_eq_some_iff.1 h1
        exact ⟨l, _, h3, h4⟩
      obtain ⟨l0, y0, h1, _⟩ := each 0 (by omega)
      have c0 := (World.cells?_some h1).2
      obtain ⟨hlen0, hcell0⟩ := c0
      obtain ⟨b, o, cs, T', fr, hab, hblk, _⟩ := cell_block ((hcell0 0 (by omega)).trans (List.getElem?_eq_getElem (show 0 < l0.length by omega)))
      have haz : a = ⟨b, o, none⟩ := by
        have : (a.add (0 * s)).add 0 = a := by simp [Addr.add]
        rw [this] at hab
        exact hab
      subst haz
      have key : ∀ i, i < len → ∀ j, j < s → ∃ l, W.cells? base ((⟨b, o, none⟩ : Addr).add (i * s)) s = some l ∧ cs[o + i * s + j]? = l[j]? ∧ l.length = s := fun i hi j hj => by
        obtain ⟨l, y, h3, _⟩ := each i hi
        obtain ⟨_, hl3, hc3⟩ := World.cells?_some h3
        refine ⟨l, h3, ?_, hl3⟩
        have h4 := hc3 j (by omega)
        rw [add_plain, add_plain, cell_at hblk] at h4
        exact h4
      have hsize : o + len * s ≤ cs.size := by
        obtain ⟨l, _, h5, h6⟩ := key (len - 1) (by omega) (s - 1) (by omega)
        rw [List.getElem?_eq_getElem (by omega)] at h5
        have h7 := (Array.getElem?_eq_some_iff.1 h5).1
        have h8 : len * s = (len - 1) * s + s := by
          have : len = (len - 1) + 1 := by omega
          rw [this, Nat.add_mul, Nat.one_mul]
          simp
        omega
      refine ⟨(cs.toList.drop o).take (len * s), [⟨b, .cells cs T' fr, false⟩], n, ?_, by simp; omega, by omega, fun c hc => by simp at hc; subst hc; exact ⟨hblk, rfl⟩, fun i hi => ?_⟩
      · refine .inr ⟨b, o, cap, cs.toList, T', fr, false, rfl, hl, by simp, ?_⟩
        have : ((cs.toList.drop o).take (len * s)).length = len * s := by simp; omega
        rw [this]
      · obtain ⟨l, y, h3, h4⟩ := each i hi
        refine ⟨y, ?_⟩
        have : (((cs.toList.drop o).take (len * s)).drop (i * s)).take s = l := by
          obtain ⟨_, hl3, hc3⟩ := World.cells?_some h3
          apply List.ext_getElem?
          intro j
          by_cases hj : j < s
          · obtain ⟨l', h5, h6, h7⟩ := key i hi j hj
            rw [h3] at h5
            cases h5
            rw [List.getElem?_take, if_pos hj, List.getElem?_drop, List.getElem?_take]
            have h8 : i * s + j < len * s := by
              have : i * s + s ≤ len * s := by
                have := Nat.mul_le_mul_right s (show i + 1 ≤ len by omega)
                rwa [Nat.add_mul, Nat.one_mul] at this
              omega
            rw [if_pos h8, List.getElem?_drop, ← h6]
            simp [Nat.add_assoc]
          · rw [List.getElem?_take, if_neg hj, List.getElem?_eq_none (by omega)]
        rw [this]
        exact h4
theorem as_bits8 {n : Int} (h : (Lit.int .u8 n).wf = true) : ∃ x : BitVec 8, n = x.toNat := by
  have := bounds_u8 h
  exact ⟨BitVec.ofNat 8 n.toNat, by simp; omega⟩
theorem as_bits32 {n : Int} (h : (Lit.int .u32 n).wf = true) : ∃ x : BitVec 32, n = x.toNat := by
  have := bounds_u32 h
  exact ⟨BitVec.ofNat 32 n.toNat, by simp; omega⟩
theorem as_i64 {n : Int} (h : (Lit.int .i64 n).wf = true) : -9223372036854775808 ≤ n ∧ n ≤ 9223372036854775807 := bounds_i64 h
theorem open_bytes {T e : Nat} {ao : Option Addr} {len cap : Nat} {d : DataW Hh} {p : List MemPlace} (hT : sliceOf P T = some e) (he : intOfTy P e = some .u8) (hs : P.cellsOf e = 1) (h : DataW.Trod enc P W base spare held T (.slice ao len cap) d p) :
    ∃ (bs : List (BitVec 8)) (H : List Ck), Bs (.slice ao len cap) bs H ∧ bs.length = len ∧ len ≤ maxLen ∧ Here W H := by
  obtain ⟨xs, H, n, hr, hl, hm, hh, hel⟩ := open_row hT hs (by omega) h
  have : ∃ bs : List (BitVec 8), xs = bc bs := by
    have each : ∀ i, i < xs.length → ∃ x : BitVec 8, xs[i]? = some (.int .u8 x.toNat) := fun i hi => by
      obtain ⟨y, hy⟩ := hel i (by omega)
      obtain ⟨m, hm1, _, hm2⟩ := DataW.trod_int (underlying_int he) hy
      obtain ⟨x, rfl⟩ := as_bits8 hm2
      refine ⟨x, ?_⟩
      have := congrArg (fun l => l[0]?) hm1
      simpa using this
    clear hr hl hel
    induction xs with
    | nil => exact ⟨[], rfl⟩
    | cons v xs ih =>
      obtain ⟨x, hx⟩ := each 0 (by simp)
      simp at hx
      obtain ⟨bs, hbs⟩ := ih (fun i hi => by
        obtain ⟨x, h⟩ := each (i + 1) (by simpa using hi)
        exact ⟨x, by simpa using h⟩)
      exact ⟨x :: bs, by rw [hx, hbs]; rfl⟩
  obtain ⟨bs, rfl⟩ := this
  rw [bc_length, Nat.mul_one] at hl
  refine ⟨bs, H, ?_, hl, hm, hh⟩
  show Rs _ bs.length _ _
  rw [hl]
  exact hr
end Go.SL

set_option linter.unusedVariables false
set_option linter.unusedSimpArgs false
namespace Go.SL
open Go.ChangeShapes Go.WideShapes Go.ChangeAt Go.RowKit
variable {Hh : Type} {enc : TypeId × Value → Hh} {P : Program} {W : World} {base : Nat} {spare : Nat → Bool} {held : Bool} {t : TypeId}
theorem open_bytes_cell {e e2 n : Nat} {v : Value} {y : DataW Hh × List MemPlace} (he : sliceOf P e = some e2) (he2 : intOfTy P e2 = some .u8) (hs2 : P.cellsOf e2 = 1) (h : DataW.trod enc P W base spare held n e [v] = some y) :
    ∃ (bs : List (BitVec 8)) (H : List Ck), Bs v bs H ∧ bs.length ≤ maxLen ∧ Here W H := by
  have hv : ∃ ao len cap, v = .slice ao len cap := by
    rcases DataW.trod_slice (underlying_slice he) h with ⟨hcs, _⟩ | ⟨a, l, c, elems, rest, n, _, hcs, _⟩
    · simp at hcs; exact ⟨_, _, _, hcs⟩
    · simp at hcs; exact ⟨_, _, _, hcs⟩
  obtain ⟨ao, len, cap, rfl⟩ := hv
  obtain ⟨bs, H, hb, hl, hm, hh⟩ := open_bytes (d := y.1) (p := y.2) he he2 hs2 ⟨n, h⟩
  exact ⟨bs, H, hb, by omega, hh⟩
end Go.SL

set_option linter.unusedVariables false
set_option linter.unusedSimpArgs false
namespace Go.SL
open Go.ChangeShapes Go.WideShapes Go.ChangeAt Go.RowKit
variable {Hh : Type} {enc : TypeId × Value → Hh} {P : Program} {W : World} {base : Nat} {spare : Nat → Bool} {held : Bool} {t : TypeId}
inductive Leaf where
  | int (k : IntKind)
  | bool
  | str
  | bytes
def leafOk (W : World) : Leaf → Value → Prop
  | .int k, v => ∃ m, v = .int k m ∧ (Lit.int k m).wf = true
  | .bool, v => ∃ b, v = .bool b
  | .str, v => ∃ s : ByteArray, v = .string s ∧ s.size ≤ maxLen
  | .bytes, v => ∃ (bs : List (BitVec 8)) (H : List Ck), Bs v bs H ∧ bs.length ≤ maxLen ∧ Here W H
def leavesF (P : Program) (rec : TypeId → Option (List Leaf)) : List Field → Nat → Option (List Leaf)
  | [], _ => some []
  | f :: r, o => if f.offset = o then (match rec f.type with
      | some L => if P.cellsOf f.type = L.length then (match leavesF P rec r (o + L.length) with | some R => some (L ++ R) | none => none) else none
      | none => none) else none
def leavesOf (P : Program) : Nat → TypeId → Option (List Leaf)
  | 0, _ => none
  | n + 1, T => match P.underlying T with
    | some (.int k) => some [.int k]
    | some .bool => some [.bool]
    | some .string => some [.str]
    | some (.slice e) => if intOfTy P e = some .u8 ∧ P.cellsOf e = 1 then some [.bytes] else none
    | some (.struct fs) => leavesF P (leavesOf P n) fs.toList 0
    | _ => none
theorem leaves_fields {n0 : Nat} (ih : ∀ (T : TypeId) (Ls : List Leaf) (n : Nat) (cs : List Value) (y : DataW Hh × List MemPlace), leavesOf P n0 T = some Ls → P.cellsOf T = Ls.length → DataW.trod enc P W base spare held n T cs = some y → ∀ (i : Nat) (lf : Leaf), Ls[i]? = some lf → ∃ v, cs[i]? = some v ∧ leafOk W lf v) (n : Nat) (cs : List Value) :
    ∀ (fs : List Field) (o : Nat) (Ls : List Leaf), leavesF P (leavesOf P n0) fs o = some Ls → (∀ f ∈ fs, ∃ y, DataW.trod enc P W base spare held n f.type ((cs.drop f.offset).take (P.cellsOf f.type)) = some y) → ∀ (i : Nat) (lf : Leaf), Ls[i]? = some lf → ∃ v, cs[o + i]? = some v ∧ leafOk W lf v := by
  intro fs
  induction fs with
  | nil =>
    intro o Ls h _ i lf hl
    simp [leavesF] at h
    subst h
    simp at hl
  | cons f r ihf =>
    intro o Ls h hy i lf hl
    simp only [leavesF] at h
    split at h
    · rename_i ho
      split at h
      · rename_i L hL
        split at h
        · rename_i hc
          split at h
          · rename_i R hR
            simp only [Option.some.injEq] at h
            subst h
            by_cases hi : i < L.length
            · rw [List.getElem?_append_left hi] at hl
              obtain ⟨y, hy1⟩ := hy f List.mem_cons_self
              obtain ⟨v, hv, hok⟩ := ih _ L n _ y hL hc hy1 i lf hl
              refine ⟨v, ?_, hok⟩
              rw [List.getElem?_take, if_pos (by omega), List.getElem?_drop, ho] at hv
              exact hv
            · rw [List.getElem?_append_right (by omega)] at hl
              obtain ⟨v, hv, hok⟩ := ihf (o + L.length) R hR (fun g hg => hy g (List.mem_cons_of_mem _ hg)) (i - L.length) lf hl
              refine ⟨v, ?_, hok⟩
              rwa [show o + L.length + (i - L.length) = o + i by omega] at hv
          · cases h
        · cases h
      · cases h
    · cases h
theorem open_leaves : ∀ (n0 : Nat) (T : TypeId) (Ls : List Leaf) (n : Nat) (cs : List Value) (y : DataW Hh × List MemPlace), leavesOf P n0 T = some Ls → P.cellsOf T = Ls.length → DataW.trod enc P W base spare held n T cs = some y → ∀ (i : Nat) (lf : Leaf), Ls[i]? = some lf → ∃ v, cs[i]? = some v ∧ leafOk W lf v := by
  intro n0
  induction n0 with
  | zero => intro T Ls n cs y h; simp [leavesOf] at h
  | succ n0 ih =>
    intro T Ls n cs y h hc hy i lf hl
    simp only [leavesOf] at h
    have one : ∀ (lf0 : Leaf), some [lf0] = some Ls → ∀ v, cs = [v] → leafOk W lf0 v → ∃ v, cs[i]? = some v ∧ leafOk W lf v := by
      intro lf0 e v hv hok
      simp only [Option.some.injEq] at e
      subst e hv
      cases i with
      | zero => simp at hl; subst hl; exact ⟨v, rfl, hok⟩
      | succ i => simp at hl
    split at h
    · rename_i k hu
      obtain ⟨m, h1, _, h2⟩ := DataW.trod_int hu hy
      exact one _ h _ h1 ⟨m, rfl, h2⟩
    · rename_i hu
      obtain ⟨b, h1, _⟩ := DataW.trod_bool hu hy
      exact one _ h _ h1 ⟨b, rfl⟩
    · rename_i hu
      obtain ⟨s, h1, _, h2⟩ := DataW.trod_string hu hy
      exact one _ h _ h1 ⟨s, rfl, h2⟩
    · rename_i e hu
      split at h
      · rename_i hb
        have hT : sliceOf P T = some e := by simp [sliceOf, hu]
        have hcs : ∃ v, cs = [v] := by
          rcases DataW.trod_slice hu hy with ⟨h1, _⟩ | ⟨a, l, c, elems, rest, n, _, h1, _⟩
          · exact ⟨_, h1⟩
          · exact ⟨_, h1⟩
        obtain ⟨v, rfl⟩ := hcs
        obtain ⟨bs, H, h1, h2, h3⟩ := open_bytes_cell hT hb.1 hb.2 hy
        exact one _ h v rfl ⟨bs, H, h1, h2, h3⟩
      · cases h
    · rename_i fs hu
      obtain ⟨xs, m, _, _, hlen, hxs, hf⟩ := DataW.trod_struct hu hy
      obtain ⟨v, hv, hok⟩ := leaves_fields ih m cs fs.toList 0 Ls h (by
        intro f hfm
        obtain ⟨j, hj⟩ := List.getElem?_of_mem hfm
        have h1 := hf j f (by simpa using hj)
        have h2 : j < xs.length := by
          have := (List.getElem?_eq_some_iff.1 hj).1
          simp at this
          omega
        rw [List.getElem?_eq_getElem h2] at h1
        exact ⟨_, h1⟩) i lf hl
      exact ⟨v, by simpa using hv, hok⟩
    · cases h
theorem trod_len {T : TypeId} {fs : Array Field} {n : Nat} {cs : List Value} {y : DataW Hh × List MemPlace} (hu : P.underlying T = some (.struct fs)) (h : DataW.trod enc P W base spare held n T cs = some y) : cs.length = P.cellsOf T := by
  obtain ⟨xs, m, _, _, hlen, _⟩ := DataW.trod_struct hu h
  exact hlen
theorem open_list {α : Type} {E : List Value → α → List Ck → Prop} (mono : ∀ c a A B, E c a A → (∀ x ∈ A, x ∈ B) → E c a B) {T e s : Nat} {ao : Option Addr} {len cap : Nat} {d : DataW Hh} {p : List MemPlace} (hT : sliceOf P T = some e) (hs : P.cellsOf e = s) (hs0 : 0 < s)
    (each : ∀ n cs y, DataW.trod enc P W base spare held n e cs = some y → ∃ a H, E cs a H ∧ Here W H) (h : DataW.Trod enc P W base spare held T (.slice ao len cap) d p) :
    ∃ (xs : List Value) (as9 : List α) (H : List Ck), Rs (.slice ao len cap) len xs H ∧ xs.length = len * s ∧ as9.length = len ∧ len ≤ maxLen ∧ Here W H ∧ ∀ i (h : i < as9.length), E ((xs.drop (i * s)).take s) as9[i] H := by
  obtain ⟨xs, H0, n, hr, hl, hm, hh, hel⟩ := open_row hT hs hs0 h
  have key : ∀ (len : Nat) (xs : List Value), (∀ i, i < len → ∃ y, DataW.trod enc P W base spare held n e ((xs.drop (i * s)).take s) = some y) → ∃ (as9 : List α) (H : List Ck), as9.length = len ∧ Here W H ∧ ∀ i (h : i < as9.length), E ((xs.drop (i * s)).take s) as9[i] H := by
    intro len
    induction len with
    | zero => intro xs _; exact ⟨[], [], rfl, Here.nil W, fun i h => by simp at h⟩
    | succ len ih =>
      intro xs hx
      obtain ⟨as9, H, h1, h2, h3⟩ := ih (xs.drop s) (fun i hi => by
        obtain ⟨y, hy⟩ := hx (i + 1) (by omega)
        refine ⟨y, ?_⟩
        rw [List.drop_drop, show s + i * s = (i + 1) * s by rw [Nat.add_mul, Nat.one_mul, Nat.add_comm]]
        exact hy)
      obtain ⟨y, hy⟩ := hx 0 (by omega)
      obtain ⟨a, Ha, h4, h5⟩ := each n _ y hy
      refine ⟨a :: as9, Ha ++ H, by simp [h1], h5.append h2, ?_⟩
      intro i hi
      cases i with
      | zero => exact mono _ _ _ _ h4 (fun x hx => List.mem_append_left _ hx)
      | succ i =>
        have := h3 i (by simpa using hi)
        rw [List.drop_drop, show s + i * s = (i + 1) * s by rw [Nat.add_mul, Nat.one_mul, Nat.add_comm]] at this
        exact mono _ _ _ _ this (fun x hx => List.mem_append_right _ hx)
  obtain ⟨as9, H, h1, h2, h3⟩ := key len xs hel
  exact ⟨xs, as9, H0 ++ H, hr.mono fun x hx => List.mem_append_left _ hx, hl, h1, hm, hh.append h2, fun i hi => mono _ _ _ _ (h3 i hi) (fun x hx => List.mem_append_right _ hx)⟩
end Go.SL

set_option linter.unusedVariables false
set_option linter.unusedSimpArgs false
namespace Go.SL
open Go.ChangeShapes Go.WideShapes Go.ChangeAt Go.RowKit
variable {Hh : Type} {enc : TypeId × Value → Hh} {P : Program} {W : World} {base : Nat} {spare : Nat → Bool} {held : Bool} {t : TypeId}
def askLeaves : List Leaf := [.int .u32, .int .u32, .int .i64, .bool, .int .i64, .int .i64, .bytes, .bytes]
def AsE (cs : List Value) (a : As) (H : List Ck) : Prop := ∃ vn vd, cs = asc a vn vd ∧ Bs vn a.w.name H ∧ Bs vd a.data H ∧ a.w.name.length ≤ maxLen ∧ a.data.length ≤ maxLen ∧ (-9223372036854775808 ≤ a.st ∧ a.st ≤ 9223372036854775807) ∧ (-9223372036854775808 ≤ a.w.what ∧ a.w.what ≤ 9223372036854775807) ∧ -9223372036854775808 ≤ a.w.n ∧ a.w.n ≤ 9223372036854775807
theorem AsE.mono (cs : List Value) (a : As) (A B : List Ck) (h : AsE cs a A) (s : ∀ x ∈ A, x ∈ B) : AsE cs a B := by
  obtain ⟨vn, vd, h1, h2, h3, h4⟩ := h
  exact ⟨vn, vd, h1, h2.mono s, h3.mono s, h4⟩
theorem ask_of {cs : List Value} (hl : cs.length = 8) (h : ∀ (i : Nat) (lf : Leaf), askLeaves[i]? = some lf → ∃ v, cs[i]? = some v ∧ leafOk W lf v) : ∃ a H, AsE cs a H ∧ Here W H := by
  obtain ⟨v0, e0, m0, rfl, w0⟩ := h 0 _ rfl
  obtain ⟨v1, e1, m1, rfl, w1⟩ := h 1 _ rfl
  obtain ⟨v2, e2, m2, rfl, w2⟩ := h 2 _ rfl
  obtain ⟨v3, e3, m3, rfl⟩ := h 3 _ rfl
  obtain ⟨v4, e4, m4, rfl, w4⟩ := h 4 _ rfl
  obtain ⟨v5, e5, m5, rfl, w5⟩ := h 5 _ rfl
  obtain ⟨v6, e6, bk, Hk, hk1, hk2, hk3⟩ := h 6 _ rfl
  obtain ⟨v7, e7, bd, Hd', hd1, hd2, hd3⟩ := h 7 _ rfl
  obtain ⟨x0, rfl⟩ := as_bits32 w0
  obtain ⟨x1, rfl⟩ := as_bits32 w1
  refine ⟨⟨x0, x1, m2, m3, ⟨m4, m5, bk⟩, bd⟩, Hk ++ Hd', ⟨v6, v7, ?_, hk1.mono fun x hx => List.mem_append_left _ hx, hd1.mono fun x hx => List.mem_append_right _ hx, hk2, hd2, as_i64 w2, as_i64 w4, as_i64 w5⟩, hk3.append hd3⟩
  apply List.ext_getElem?
  intro i
  match i with
  | 0 => exact e0
  | 1 => exact e1
  | 2 => exact e2
  | 3 => exact e3
  | 4 => exact e4
  | 5 => exact e5
  | 6 => exact e6
  | 7 => exact e7
  | i + 8 => rw [List.getElem?_eq_none (by omega), List.getElem?_eq_none (by simp [asc])]
theorem open_asks {T E : TypeId} {fs : Array Field} {ao : Option Addr} {len cap : Nat} {d : DataW Hh} {p : List MemPlace} (hT : sliceOf P T = some E) (hu : P.underlying E = some (.struct fs)) (hL : leavesOf P 5 E = some askLeaves) (hc : P.cellsOf E = 8) (h : DataW.Trod enc P W base spare held T (.slice ao len cap) d p) :
    ∃ (xs : List Value) (ls : List As) (H : List Ck), Rs (.slice ao len cap) len xs H ∧ xs.length = len * 8 ∧ ls.length = len ∧ len ≤ maxLen ∧ Here W H ∧ ∀ i (h : i < ls.length), AsE ((xs.drop (i * 8)).take 8) ls[i] H :=
  open_list AsE.mono hT hc (by omega) (fun n cs y hy => ask_of (by rw [← hc]; exact trod_len hu hy) (open_leaves 5 E _ n _ _ hL hc hy)) h
end Go.SL

set_option linter.unusedVariables false
set_option linter.unusedSimpArgs false
namespace Go.SL
open Go.ChangeShapes Go.WideShapes Go.ChangeAt Go.RowKit
section
variable {Hh : Type} {enc : TypeId × Value → Hh} {P : Program} {W : World} {base : Nat} {spare : Nat → Bool} {held : Bool} {t : TypeId}
theorem rows_eq {α : Type} (f : α → List Value) (s : Nat) (hlen : ∀ a, (f a).length = s) : ∀ (bs : List α) (xs : List Value), xs.length = bs.length * s → (∀ i (h : i < bs.length), (xs.drop (i * s)).take s = f bs[i]) → xs = bs.flatMap f
  | [], xs, h, _ => List.eq_nil_of_length_eq_zero (by simpa using h)
  | a :: bs, xs, h, hi => by
    have h0 := hi 0 (by simp)
    simp only [Nat.zero_mul, List.drop_zero, List.getElem_cons_zero] at h0
    have hl : xs.length = bs.length * s + s := by rw [h, List.length_cons, Nat.add_mul, Nat.one_mul]
    have ih := rows_eq f s hlen bs (xs.drop s) (by rw [List.length_drop]; omega) (fun i h2 => by
      have := hi (i + 1) (by simpa using h2)
      simp only [List.getElem_cons_succ] at this
      rw [List.drop_drop, show s + i * s = (i + 1) * s by rw [Nat.add_mul, Nat.one_mul, Nat.add_comm]]
      exact this)
    rw [List.flatMap_cons, ← h0, ← ih, List.take_append_drop]
def goodLeaves : List Leaf := [.str, .int .i64]
def GdE (cs : List Value) (g : Gd) (H : List Ck) : Prop := cs = cellsG g ∧ g.gone = 0
theorem good_of {cs : List Value} (hl : cs.length = 2) (h : ∀ (i : Nat) (lf : Leaf), goodLeaves[i]? = some lf → ∃ v, cs[i]? = some v ∧ leafOk W lf v) : ∃ g H, GdE cs g H ∧ Here W H := by
  obtain ⟨v0, e0, m0, rfl, _⟩ := h 0 _ rfl
  obtain ⟨v1, e1, m1, rfl, _⟩ := h 1 _ rfl
  refine ⟨⟨m0, m1, 0⟩, [], ⟨?_, rfl⟩, Here.nil W⟩
  apply List.ext_getElem?
  intro i
  match i with
  | 0 => exact e0
  | 1 => exact e1
  | i + 2 => rw [List.getElem?_eq_none (by omega), List.getElem?_eq_none (by simp [cellsG])]
theorem open_goods {T E : TypeId} {fs : Array Field} {ao : Option Addr} {len cap : Nat} {d : DataW Hh} {p : List MemPlace} (hT : sliceOf P T = some E) (hu : P.underlying E = some (.struct fs)) (hL : leavesOf P 5 E = some goodLeaves) (hc : P.cellsOf E = 2) (h : DataW.Trod enc P W base spare held T (.slice ao len cap) d p) :
    ∃ (gs : List Gd) (H : List Ck), Rs (.slice ao len cap) gs.length (gs.flatMap cellsG) H ∧ (∀ g ∈ gs, g.gone = 0) ∧ gs.length ≤ maxLen ∧ Here W H := by
  obtain ⟨xs, bs, H, hr, hx, hl, hm, hh, hE⟩ := open_list (E := GdE) (fun c a A B h _ => h) hT hc (by omega) (fun n cs y hy => good_of (by rw [← hc]; exact trod_len hu hy) (open_leaves 5 E _ n _ _ hL hc hy)) h
  have e := rows_eq cellsG 2 cellsG_len bs xs (by rw [hx, hl]) (fun i hi => (hE i hi).1)
  subst e
  refine ⟨bs, H, by rw [hl]; exact hr, fun g hg => ?_, by omega, hh⟩
  obtain ⟨i, hi, rfl⟩ := List.getElem_of_mem hg
  exact (hE i hi).2
end
theorem sum_ge (N : List ByteArray) (nm : ByteArray) (n : Int) (h : nm ∈ N) (hn : 0 ≤ n) : n ≤ (N.map fun x => if nm = x then n else 0).sum := by
  have h0 : ∀ N : List ByteArray, 0 ≤ (N.map fun x => if nm = x then n else 0).sum := by
    intro N
    induction N with
    | nil => simp
    | cons a N ih => simp only [List.map_cons, List.sum_cons]; split <;> omega
  induction N with
  | nil => cases h
  | cons a N ih =>
    simp only [List.map_cons, List.sum_cons]
    have := h0 N
    rcases List.mem_cons.1 h with rfl | h
    · rw [if_pos rfl]; omega
    · have := ih h
      split <;> omega
theorem sum_add {α : Type} (f g : α → Int) : ∀ N : List α, (N.map fun x => f x + g x).sum = (N.map f).sum + (N.map g).sum
  | [] => rfl
  | a :: N => by simp only [List.map_cons, List.sum_cons, sum_add f g N]; omega
theorem sumN_many (N : List ByteArray) : ∀ L : List Ho, (∀ h ∈ L, 1 ≤ h.n ∧ h.name ∈ N) → (L.length : Int) ≤ (N.map fun nm => sumN L nm).sum
  | [], _ => by
    have : ∀ N : List ByteArray, 0 ≤ (N.map fun nm => sumN [] nm).sum := fun N => by
      induction N with
      | nil => simp
      | cons a N ih => simp only [List.map_cons, List.sum_cons]; simp only [sumN, List.map_nil, List.sum_nil] at *; omega
    simpa using this N
  | h :: L, hh => by
    have ih := sumN_many N L fun x hx => hh x (List.mem_cons_of_mem _ hx)
    have h1 := hh h List.mem_cons_self
    have e : (N.map fun nm => sumN (h :: L) nm) = N.map fun nm => (if h.name = nm then h.n else 0) + sumN L nm := List.map_congr_left fun nm _ => by simp [sumN]
    rw [e, sum_add (fun nm => if h.name = nm then h.n else 0) (fun nm => sumN L nm) N]
    have := sum_ge N h.name h.n h1.2 (by omega)
    rw [List.length_cons]
    omega
theorem sum_le {α : Type} (f : α → Int) (m : Int) : ∀ N : List α, (∀ x, f x ≤ m) → (N.map f).sum ≤ N.length * m
  | [], _ => by simp
  | a :: N, h => by
    have := sum_le f m N h
    have h1 := h a
    simp only [List.map_cons, List.sum_cons, List.length_cons, Int.natCast_add, Int.add_mul]
    omega
theorem SInv.many {first K : List Gd} {L : List Ho} (h : SInv first K L) : L.length ≤ 50000000 ∧ K.length ≤ 50 := by
  constructor
  · have h1 := sumN_many (first.map Gd.name) L fun x hx => ⟨(h.holds x hx).1, (h.holds x hx).2.2⟩
    have h2 := sum_le (fun nm => sumN L nm) 1000000 (first.map Gd.name) fun x => (h.mid x).2.2.2.2.2
    rw [List.length_map] at h2
    have := h.few
    omega
  · have := congrArg List.length h.names
    simp only [List.length_map] at this
    have := h.few
    omega
end Go.SL

set_option linter.unusedVariables false
set_option linter.unusedSimpArgs false
set_option linter.unusedSectionVars false
namespace Go.SL
section
variable {ρ κ : Type} [DecidableEq κ] {key : ρ → κ}
theorem ToldK.keys {lt : κ → κ → Bool} (hirr : ∀ a, lt a a = false) (htrans : ∀ a b c, lt a b = true → lt b c = true → lt a c = true) (htri : ∀ a b, lt a b = true ∨ a = b ∨ lt b a = true) {L L' S S' : List ρ} (hn : (L.map key).Nodup) (e : L'.map key = L.map key) (h : ToldK key lt L S) (h' : ToldK key lt L' S') : S'.map key = S.map key :=
  ToldK.unique (key := fun x : κ => x) (lt := lt) (L := L.map key) hirr htrans htri (by rw [List.map_id']; exact hn) ⟨by rw [← e]; exact h'.perm.map key, List.pairwise_map.2 h'.sorted⟩ ⟨h.perm.map key, List.pairwise_map.2 h.sorted⟩
end
theorem told_names {K K' S S' : List Gd} (hn : (K.map Gd.name).Nodup) (e : K'.map Gd.name = K.map Gd.name) (h : ToldK Gd.name sLt K S) (h' : ToldK Gd.name sLt K' S') : S'.length = S.length ∧ ∀ (i : Nat) (h1 : i < S'.length) (h2 : i < S.length), S'[i].name = S[i].name := by
  have := ToldK.keys sLt_irrefl (fun _ _ _ => sLt_trans) sLt_tri hn e h h'
  refine ⟨by simpa using congrArg List.length this, fun i h1 h2 => ?_⟩
  have h3 : (S'.map Gd.name)[i]? = (S.map Gd.name)[i]? := by rw [this]
  simpa [h1, h2] using h3
theorem told_free {K S : List Gd} (hn : (K.map Gd.name).Nodup) (h : ToldK Gd.name sLt K S) {g : Gd} (hg : g ∈ S) : freeOf K g.name = g.free ∧ goneOf K g.name = g.gone := free_of hn (h.perm.mem_iff.1 hg)
theorem holdB_parts {K : List Gd} {L : List Ho} {o : BitVec 32} {nm : ByteArray} {n : Int} (hb : holdB K L o nm n = true) : o ≠ 0#32 ∧ 1 ≤ n ∧ findK Ho.o L o = none ∧ n ≤ freeOf K nm ∧ nm ∈ K.map Gd.name := by
  unfold holdB at hb
  simp only [Bool.and_eq_true, decide_eq_true_eq, Bool.not_eq_true'] at hb
  obtain ⟨ho, hn, hf, hle⟩ := hb
  refine ⟨ho, hn, by simpa using hf, hle, ?_⟩
  apply Classical.byContradiction
  intro hc
  have := (free_none hc).1
  omega
theorem hold_no {K : List Gd} {L : List Ho} {o : BitVec 32} {nm : ByteArray} {n : Int} (hb : holdB K L o nm n = false) : holdKs K L o nm n = K ∧ holdLs K L o nm n = L := by
  unfold holdKs holdLs
  rw [hb]
  exact ⟨rfl, rfl⟩
theorem leave_none {K : List Gd} {L : List Ho} {o : BitVec 32} (h : findK Ho.o L o = none) (g : Bool) : leaveKs K L o g = K ∧ delK Ho.o L o = L := by
  refine ⟨?_, delK_none h⟩
  unfold leaveKs
  rw [h]
theorem sumN_take {T : List Ho} {j : Nat} (hj : j < T.length) (nm : ByteArray) : sumN (T.take (j + 1)) nm = sumN (T.take j) nm + if T[j].name = nm then T[j].n else 0 := by
  rw [List.take_succ_eq_append_getElem hj, sumN_snoc]
theorem sumN_part {T : List Ho} (h : ∀ x ∈ T, 1 ≤ x.n) (j : Nat) (nm : ByteArray) : 0 ≤ sumN (T.take j) nm ∧ sumN (T.take j) nm ≤ sumN T nm := by
  refine ⟨sumN_nonneg (fun x hx => h x (List.mem_of_mem_take hx)) nm, ?_⟩
  have e : sumN T nm = sumN (T.take j) nm + sumN (T.drop j) nm := by
    conv => lhs; rw [← List.take_append_drop j T]
    simp only [sumN, List.map_append, List.sum_append]
  have := sumN_nonneg (L := T.drop j) (fun x hx => h x (List.mem_of_mem_drop hx)) nm
  omega
end Go.SL

set_option linter.unusedVariables false
set_option linter.unusedSimpArgs false
namespace Go.SL
def vw (K F : List Gd) : List Gd := F.map fun g => ⟨g.name, freeOf K g.name, goneOf K g.name⟩
theorem vw_len (K F : List Gd) : (vw K F).length = F.length := by simp [vw]
theorem vw_at (K F : List Gd) (i : Nat) (h : i < F.length) (h' : i < (vw K F).length) : (vw K F)[i] = ⟨F[i].name, freeOf K F[i].name, goneOf K F[i].name⟩ := by simp [vw]
structure RInv (gs K : List Gd) (L : List Ho) (F : List Gd) (A : List Ho) : Prop where
  told : ToldK Gd.name sLt gs F
  away : ∀ nm, sumN A nm = goneOf K nm
  ok : ∀ x ∈ A, 1 ≤ x.n ∧ x.name ∈ gs.map Gd.name
theorem RInv.start {gs F : List Gd} (hg : ∀ g ∈ gs, g.gone = 0) (hn : (gs.map Gd.name).Nodup) (h : ToldK Gd.name sLt gs F) : RInv gs gs [] F [] := by
  refine ⟨h, fun nm => ?_, fun x hx => by cases hx⟩
  by_cases hm : nm ∈ gs.map Gd.name
  · obtain ⟨g, hgm, rfl⟩ := List.mem_map.1 hm
    rw [(free_of hn hgm).2, hg g hgm]; rfl
  · rw [(free_none hm).2]; rfl
theorem RInv.lens {gs K : List Gd} {L : List Ho} {F : List Gd} {A : List Ho} (h : RInv gs K L F A) (inv : SInv gs K L) : F.length ≤ 50 ∧ A.length ≤ 50000000 ∧ F.length = gs.length := by
  have h1 := h.told.perm.length_eq
  have h2 := inv.few
  have h3 := sumN_many (gs.map Gd.name) A h.ok
  have h4 := sum_le (fun nm => sumN A nm) 1000000 (gs.map Gd.name) fun x => by rw [h.away]; exact (inv.mid x).2.2.2.1
  rw [List.length_map] at h4
  exact ⟨by omega, by omega, h1⟩
theorem RInv.vw {gs K : List Gd} {L : List Ho} {F : List Gd} {A : List Ho} {S : List Gd} (h : RInv gs K L F A) (inv : SInv gs K L) (hT : ToldK Gd.name sLt K S) : S = vw K F := by
  have hn := told_names inv.nd inv.names h.told hT
  refine List.ext_getElem (by rw [vw_len]; exact hn.1) fun i h1 h2 => ?_
  have hF : i < F.length := by rw [vw_len] at h2; exact h2
  have e := hn.2 i h1 hF
  have f := told_free inv.knd hT (List.getElem_mem h1)
  rw [vw_at K F i hF, ← e, f.1, f.2]
theorem RInv.step {gs K : List Gd} {L : List Ho} {F : List Gd} {A : List Ho} (h : RInv gs K L F A) (inv : SInv gs K L) {i : Nat} (hi : i < F.length) :
    F[i].free - sumN L F[i].name - sumN A F[i].name = freeOf K F[i].name ∧ 0 ≤ F[i].free ∧ F[i].free ≤ 1000000 := by
  have h1 := inv.sums F[i].name
  have h2 := (told_free inv.nd h.told (List.getElem_mem hi)).1
  have h3 := h.away F[i].name
  have h4 := inv.top F[i].name
  have h5 := inv.mid F[i].name
  omega
theorem RInv.hold {gs K : List Gd} {L : List Ho} {F : List Gd} {A : List Ho} (h : RInv gs K L F A) (o : BitVec 32) (nm : ByteArray) (n : Int) : RInv gs (holdKs K L o nm n) (holdLs K L o nm n) F A := by
  refine ⟨h.told, fun nm' => ?_, h.ok⟩
  rw [h.away]
  unfold holdKs
  split
  · rw [adj_gone]; split <;> simp_all
  · rfl
def awayL (L A : List Ho) (o : BitVec 32) (b : Bool) : List Ho := match findK Ho.o L o with | none => A | some x => if b then A ++ [x] else A
theorem RInv.leave {gs K : List Gd} {L : List Ho} {F : List Gd} {A : List Ho} (h : RInv gs K L F A) (inv : SInv gs K L) (o : BitVec 32) (b : Bool) : RInv gs (leaveKs K L o b) (delK Ho.o L o) F (awayL L A o b) := by
  unfold leaveKs awayL
  cases hf : findK Ho.o L o with
  | none => exact ⟨h.told, h.away, h.ok⟩
  | some x =>
    have hx := inv.holds x (findK_mem hf).1
    cases b
    · refine ⟨h.told, fun nm' => ?_, h.ok⟩
      simp only [Bool.false_eq_true, if_false]
      rw [h.away, adj_gone]; split <;> simp_all
    · refine ⟨h.told, fun nm' => ?_, ?_⟩
      · simp only [if_true]
        rw [sumN_snoc, h.away, adj_gone]
        by_cases e : nm' = x.name
        · subst e; simp
        · rw [if_neg e, if_neg (fun z => e z.symm), Int.add_zero]
      · simp only [if_true]
        intro y hy
        rcases List.mem_append.1 hy with hy | hy
        · exact h.ok y hy
        · rw [List.mem_singleton.1 hy]; exact ⟨hx.1, hx.2.2⟩
def RsAt (TD TG TH p : Nat) (F : List Gd) (L A : List Ho) (C : List Ck) : Prop :=
  ∃ vf vl va Cf Cl Ca, C = row p [vf, vl, va] TD :: (Cf ++ (Cl ++ Ca)) ∧ Own vf F.length (F.flatMap cellsG) TG 2 Cf ∧ Own vl L.length (L.flatMap cellsH) TH 3 Cl ∧ Own va A.length (A.flatMap cellsH) TH 3 Ca
theorem hold_found {gs K : List Gd} {L : List Ho} {F : List Gd} {A : List Ho} (h : RInv gs K L F A) (inv : SInv gs K L) {o : BitVec 32} {nm : ByteArray} {n : Int} (ho : ¬ o = 0#32) (hn : ¬ n < 1) (hf : findK Ho.o L o = none) {i : Nat} (hi : i < (vw K F).length) (h1 : (vw K F)[i].name = nm) (h2 : n ≤ (vw K F)[i].free) : holdB K L o nm n = true := by
  have hF : i < F.length := by rw [vw_len] at hi; exact hi
  rw [vw_at K F i hF] at h1 h2
  simp only at h1 h2
  rw [h1] at h2
  unfold holdB
  simp only [Bool.and_eq_true, decide_eq_true_eq, Bool.not_eq_true']
  exact ⟨ho, by omega, by rw [hf]; rfl, h2⟩
theorem hold_lost {gs K : List Gd} {L : List Ho} {F : List Gd} {A : List Ho} (h : RInv gs K L F A) (inv : SInv gs K L) {o : BitVec 32} {nm : ByteArray} {n : Int} (hn : ¬ n < 1) (hno : ∀ (i : Nat) (hi : i < (vw K F).length), ¬ ((vw K F)[i].name = nm ∧ n ≤ (vw K F)[i].free)) : holdB K L o nm n = false := by
  rw [Bool.eq_false_iff]
  intro hb
  obtain ⟨_, _, _, hle, hin⟩ := holdB_parts hb
  rw [inv.names] at hin
  obtain ⟨g, hg, rfl⟩ := List.mem_map.1 hin
  obtain ⟨i, hi, e⟩ := List.getElem_of_mem (h.told.perm.mem_iff.2 hg)
  have hi2 : i < (vw K F).length := by rw [vw_len]; exact hi
  refine hno i hi2 ?_
  rw [vw_at K F i hi]
  simp only
  rw [e]
  exact ⟨rfl, hle⟩
end Go.SL

set_option linter.unusedVariables false
set_option linter.unusedSimpArgs false
namespace Go.SL
open Go.ChangeShapes Go.WideShapes Go.ChangeAt Go.RowKit
section
variable {Hh : Type} {enc : TypeId × Value → Hh} {P : Program} {W : World} {base : Nat} {spare : Nat → Bool} {held : Bool} {t : TypeId}
theorem rows_eqP {α : Type} (f : α → List Value) (s : Nat) (hlen : ∀ a, (f a).length = s) : ∀ (bs : List α) (xs : List Value), xs.length = bs.length * s → (∀ i (h : i < bs.length), (xs.drop (i * s)).take s = f bs[i]) → xs = bs.flatMap f
  | [], xs, h, _ => List.eq_nil_of_length_eq_zero (by simpa using h)
  | a :: bs, xs, h, hi => by
    have h0 := hi 0 (by simp)
    simp only [Nat.zero_mul, List.drop_zero, List.getElem_cons_zero] at h0
    have hl : xs.length = bs.length * s + s := by rw [h, List.length_cons, Nat.add_mul, Nat.one_mul]
    have ih := rows_eqP f s hlen bs (xs.drop s) (by rw [List.length_drop]; omega) (fun i h2 => by
      have := hi (i + 1) (by simpa using h2)
      simp only [List.getElem_cons_succ] at this
      rw [List.drop_drop, show s + i * s = (i + 1) * s by rw [Nat.add_mul, Nat.one_mul, Nat.add_comm]]
      exact this)
    rw [List.flatMap_cons, ← h0, ← ih, List.take_append_drop]
def accLeaves : List Leaf := [.str, .int .i64, .int .i64]
def AuE (cs : List Value) (g : Au) (H : List Ck) : Prop := cs = cellsU g
theorem acc_ofL {cs : List Value} (hl : cs.length = 3) (h : ∀ (i : Nat) (lf : Leaf), accLeaves[i]? = some lf → ∃ v, cs[i]? = some v ∧ leafOk W lf v) : ∃ g H, AuE cs g H ∧ Here W H := by
  obtain ⟨v0, e0, m0, rfl, _⟩ := h 0 _ rfl
  obtain ⟨v1, e1, m1, rfl, _⟩ := h 1 _ rfl
  obtain ⟨v2, e2, m2, rfl, _⟩ := h 2 _ rfl
  refine ⟨⟨m0, m1, m2⟩, [], ?_, Here.nil W⟩
  apply List.ext_getElem?
  intro i
  match i with
  | 0 => exact e0
  | 1 => exact e1
  | 2 => exact e2
  | i + 3 => rw [List.getElem?_eq_none (by omega), List.getElem?_eq_none (by simp [cellsU])]
theorem open_accs {T E : TypeId} {fs : Array Field} {ao : Option Addr} {len cap : Nat} {d : DataW Hh} {p : List MemPlace} (hT : sliceOf P T = some E) (hu : P.underlying E = some (.struct fs)) (hL : leavesOf P 5 E = some accLeaves) (hc : P.cellsOf E = 3) (h : DataW.Trod enc P W base spare held T (.slice ao len cap) d p) :
    ∃ (gs : List Au) (H : List Ck), Rs (.slice ao len cap) gs.length (gs.flatMap cellsU) H ∧ gs.length ≤ maxLen ∧ Here W H := by
  obtain ⟨xs, bs, H, hr, hx, hl, hm, hh, hE⟩ := open_list (E := AuE) (fun c a A B h _ => h) hT hc (by omega) (fun n cs y hy => acc_ofL (by rw [← hc]; exact trod_len hu hy) (open_leaves 5 E _ n _ _ hL hc hy)) h
  have e := rows_eqP cellsU 3 cellsU_len bs xs (by rw [hx, hl]) (fun i hi => hE i hi)
  subst e
  exact ⟨bs, H, by rw [hl]; exact hr, by omega, hh⟩
end
end Go.SL

set_option linter.unusedVariables false
set_option linter.unusedSimpArgs false
set_option linter.unusedSectionVars false
namespace Go.SL
section
variable {ρ κ : Type} [DecidableEq κ] {key : ρ → κ}
theorem ToldK.keysP {lt : κ → κ → Bool} (hirr : ∀ a, lt a a = false) (htrans : ∀ a b c, lt a b = true → lt b c = true → lt a c = true) (htri : ∀ a b, lt a b = true ∨ a = b ∨ lt b a = true) {L L' S S' : List ρ} (hn : (L.map key).Nodup) (e : L'.map key = L.map key) (h : ToldK key lt L S) (h' : ToldK key lt L' S') : S'.map key = S.map key :=
  ToldK.unique (key := fun x : κ => x) (lt := lt) (L := L.map key) hirr htrans htri (by rw [List.map_id']; exact hn) ⟨by rw [← e]; exact h'.perm.map key, List.pairwise_map.2 h'.sorted⟩ ⟨h.perm.map key, List.pairwise_map.2 h.sorted⟩
end
theorem told_namesU {K K' S S' : List Au} (hn : (K.map Au.name).Nodup) (e : K'.map Au.name = K.map Au.name) (h : ToldK Au.name sLt K S) (h' : ToldK Au.name sLt K' S') : S'.length = S.length ∧ ∀ (i : Nat) (h1 : i < S'.length) (h2 : i < S.length), S'[i].name = S[i].name := by
  have := ToldK.keysP sLt_irrefl (fun _ _ _ => sLt_trans) sLt_tri hn e h h'
  refine ⟨by simpa using congrArg List.length this, fun i h1 h2 => ?_⟩
  have h3 : (S'.map Au.name)[i]? = (S.map Au.name)[i]? := by rw [this]
  simpa [h1, h2] using h3
theorem told_acc {K S : List Au} (hn : (K.map Au.name).Nodup) (h : ToldK Au.name sLt K S) {g : Au} (hg : g ∈ S) : acc K g.name = g := acc_of hn (h.perm.mem_iff.1 hg)
theorem sumP_take {T : List Py} {j : Nat} (hj : j < T.length) (nm : ByteArray) (s : Int) : sumP (T.take (j + 1)) nm s = sumP (T.take j) nm s + if T[j].name = nm ∧ T[j].st = s then T[j].n else 0 := by
  rw [List.take_succ_eq_append_getElem hj, sumP_snoc]
theorem sumP_part {T : List Py} (h : ∀ x ∈ T, 1 ≤ x.n) (j : Nat) (nm : ByteArray) (s : Int) : 0 ≤ sumP (T.take j) nm s ∧ sumP (T.take j) nm s ≤ sumP T nm s := by
  refine ⟨sumP_nonneg (fun x hx => h x (List.mem_of_mem_take hx)) nm s, ?_⟩
  have e : sumP T nm s = sumP (T.take j) nm s + sumP (T.drop j) nm s := by
    conv => lhs; rw [← List.take_append_drop j T]
    simp only [sumP, List.map_append, List.sum_append]
  have := sumP_nonneg (L := T.drop j) (fun x hx => h x (List.mem_of_mem_drop hx)) nm s
  omega
end Go.SL

set_option linter.unusedVariables false
set_option linter.unusedSimpArgs false
namespace Go.SL
def RpAt (TD TU TP p : Nat) (F : List Au) (L : List Py) (C : List Ck) : Prop :=
  ∃ vf vl Cf Cl, C = row p [vf, vl] TD :: (Cf ++ Cl) ∧ Own vf F.length (F.flatMap cellsU) TU 3 Cf ∧ Own vl L.length (L.flatMap cellsP) TP 4 Cl
def vwU (K F : List Au) : List Au := F.map fun g => acc K g.name
theorem vwU_len (K F : List Au) : (vwU K F).length = F.length := by simp [vwU]
theorem vwU_at (K F : List Au) (i : Nat) (h : i < F.length) (h' : i < (vwU K F).length) : (vwU K F)[i] = acc K F[i].name := by simp [vwU]
theorem vwU_told {gs K F S : List Au} {L : List Py} (inv : PInv gs K L) (hF : ToldK Au.name sLt gs F) (hT : ToldK Au.name sLt K S) : S = vwU K F := by
  have hn := told_namesU inv.nd inv.names hF hT
  refine List.ext_getElem (by rw [vwU_len]; exact hn.1) fun i h1 h2 => ?_
  have hi : i < F.length := by rw [vwU_len] at h2; exact h2
  rw [vwU_at K F i hi, ← hn.2 i h1 hi, told_acc inv.knd hT (List.getElem_mem h1)]
theorem vwU_step {gs K F : List Au} {L : List Py} (inv : PInv gs K L) (hF : ToldK Au.name sLt gs F) {i : Nat} (hi : i < F.length) :
    F[i].money - sumP L F[i].name 2 = (acc K F[i].name).money ∧ sumP L F[i].name 1 = (acc K F[i].name).held ∧ (acc K F[i].name).name = F[i].name ∧ 0 ≤ F[i].money ∧ F[i].money ≤ 1000000000 := by
  have h1 := inv.sums F[i].name
  have h2 := told_acc inv.nd hF (List.getElem_mem hi)
  have h3 := inv.top F[i].name
  have hm : F[i].name ∈ K.map Au.name := by rw [inv.names]; exact List.mem_map.2 ⟨F[i], hF.perm.mem_iff.1 (List.getElem_mem hi), rfl⟩
  unfold moneyOf heldU at h1
  unfold moneyOf at h3
  rw [h2] at h1 h3
  exact ⟨by omega, by omega, acc_in hm, h3.1, h3.2⟩
theorem auth_found {gs K F : List Au} {L : List Py} (inv : PInv gs K L) (hF : ToldK Au.name sLt gs F) {o : BitVec 32} {nm : ByteArray} {n : Int} (ho : ¬ o = 0#32) (hn : ¬ n < 1) (hf : findK Py.o L o = none) {i : Nat} (hi : i < (vwU K F).length) (h1 : (vwU K F)[i].name = nm) (h2 : n ≤ (vwU K F)[i].money - (vwU K F)[i].held) : authB K L o nm n = true := by
  have hi2 : i < F.length := by rw [vwU_len] at hi; exact hi
  rw [vwU_at K F i hi2] at h1 h2
  rw [(vwU_step inv hF hi2).2.2.1] at h1
  rw [h1] at h2
  unfold authB moneyOf heldU
  simp only [Bool.and_eq_true, decide_eq_true_eq, Bool.not_eq_true']
  exact ⟨ho, by omega, by rw [hf]; rfl, h2⟩
theorem auth_lost {gs K F : List Au} {L : List Py} (inv : PInv gs K L) (hF : ToldK Au.name sLt gs F) {o : BitVec 32} {nm : ByteArray} {n : Int} (hno : ∀ (i : Nat) (hi : i < (vwU K F).length), ¬ ((vwU K F)[i].name = nm ∧ n ≤ (vwU K F)[i].money - (vwU K F)[i].held)) : authB K L o nm n = false := by
  rw [Bool.eq_false_iff]
  intro hb
  obtain ⟨_, _, _, hle, hin⟩ := authB_parts hb
  rw [inv.names] at hin
  obtain ⟨g, hg, rfl⟩ := List.mem_map.1 hin
  obtain ⟨i, hi, e⟩ := List.getElem_of_mem (hF.perm.mem_iff.2 hg)
  refine hno i (by rw [vwU_len]; exact hi) ?_
  rw [vwU_at K F i hi, (vwU_step inv hF hi).2.2.1, e]
  exact ⟨rfl, hle⟩
theorem vwU_mid {gs K F : List Au} {L : List Py} (inv : PInv gs K L) (hF : ToldK Au.name sLt gs F) {i : Nat} (hi : i < (vwU K F).length) : 0 ≤ (vwU K F)[i].held ∧ (vwU K F)[i].held ≤ (vwU K F)[i].money ∧ (vwU K F)[i].money ≤ 1000000000 := by
  have hi2 : i < F.length := by rw [vwU_len] at hi; exact hi
  rw [vwU_at K F i hi2]
  have := inv.mid F[i].name
  unfold moneyOf heldU at this
  omega
theorem put_set {L : List Py} (hn : (L.map Py.o).Nodup) {q : Nat} (hq : q < L.length) (t : Int) : putK Py.o L ⟨L[q].o, L[q].name, L[q].n, t⟩ = L.set q ⟨L[q].o, L[q].name, L[q].n, t⟩ := by
  unfold putK
  rw [if_pos (by show (findK Py.o L L[q].o).isSome = true; rw [findK_of hn (List.getElem_mem hq)]; rfl)]
  refine List.ext_getElem (by simp) fun i h1 h2 => ?_
  simp only [List.getElem_map, List.getElem_set]
  have hi : i < L.length := by simpa using h1
  by_cases e : q = i
  · subst e; rw [if_pos rfl, if_pos rfl]
  · rw [if_neg e, if_neg]
    intro e2
    rcases Nat.lt_or_gt_of_ne e with h | h
    · have := List.pairwise_iff_getElem.1 hn q i (by simpa using hq) (by simpa using hi) h
      simp at this
      exact this e2
    · have := List.pairwise_iff_getElem.1 hn i q (by simpa using hi) (by simpa using hq) h
      simp at this
      exact this e2.symm
theorem flat_set {L : List Py} {q : Nat} (hq : q < L.length) (t : Int) : (L.flatMap cellsP).set (q * 4 + 3) (.int .i64 t) = (L.set q ⟨L[q].o, L[q].name, L[q].n, t⟩).flatMap cellsP := by
  induction L generalizing q with
  | nil => simp at hq
  | cons x L ih =>
    cases q with
    | zero => rfl
    | succ q =>
      have := ih (q := q) (by simpa using hq)
      simp only [List.set_cons_succ, List.flatMap_cons, List.getElem_cons_succ]
      rw [← this, List.set_append_right _ _ (by rw [cellsP_len]; omega), cellsP_len]
      congr 2
      omega
end Go.SL

set_option linter.unusedVariables false
set_option linter.unusedSimpArgs false
namespace Go.SL
open Go.Proofs Go.Shelf Go.Lib Go.Sort
def encB (b : Bk) : List Value := [.int .u32 b.o.toNat, .int .i64 b.day, .int .i64 b.n]
theorem encB_len (b : Bk) : (encB b).length = 3 := rfl
theorem sum_addD (f g : Nat → Int) (l : List Nat) : (l.map fun d => f d + g d).sum = (l.map f).sum + (l.map g).sum := by
  induction l with
  | nil => rfl
  | cons a l ih => simp only [List.map_cons, List.sum_cons, ih]; omega
theorem sum_one (x : Int) (k : Nat) : ∀ n, k < n → ((List.range n).map fun d => if k = d then x else 0).sum = x := by
  have h0 : ∀ n, n ≤ k → ((List.range n).map fun d => if k = d then x else 0).sum = 0 := by
    intro n
    induction n with
    | zero => intro _; rfl
    | succ n ih => intro h; rw [List.range_succ, List.map_append, List.sum_append, ih (by omega)]; simp; omega
  intro n
  induction n with
  | zero => intro h; omega
  | succ n ih =>
    intro h
    rw [List.range_succ, List.map_append, List.sum_append]
    by_cases e : k = n
    · subst e; rw [h0 _ (Nat.le_refl _)]; simp
    · rw [ih (by omega)]; simp [e]
theorem sum_days {K : Nat} : ∀ (L : List Bk), (∀ b ∈ L, b.day < K) → (L.map (·.n)).sum = ((List.range K).map (sumDay L)).sum
  | [], _ => by
    have : ((List.range K).map (sumDay [])) = (List.range K).map fun _ => (0 : Int) := rfl
    rw [this]
    induction K with
    | zero => rfl
    | succ n ih => rw [List.range_succ, List.map_append, List.sum_append]; simp only [List.map_nil, List.sum_nil] at ih ⊢; rw [← ih (by simp) rfl]; simp
  | b :: L, h => by
    have e : (sumDay (b :: L)) = fun d => (if b.day = d then b.n else 0) + sumDay L d := by
      funext d; simp [sumDay]
    rw [e, sum_addD, sum_one _ _ _ (h b List.mem_cons_self), ← sum_days L fun c hc => h c (List.mem_cons_of_mem _ hc)]
    simp
theorem sum_len : ∀ (L : List Bk), (∀ b ∈ L, 1 ≤ b.n) → (L.length : Int) ≤ (L.map (·.n)).sum
  | [], _ => by simp
  | b :: L, h => by
    have h1 := h b List.mem_cons_self
    have h2 := sum_len L fun c hc => h c (List.mem_cons_of_mem _ hc)
    simp only [List.map_cons, List.sum_cons, List.length_cons]
    omega
theorem sum_leD (f : Nat → Int) (M : Int) (hf : ∀ d, f d ≤ M) : ∀ n : Nat, ((List.range n).map f).sum ≤ n * M := by
  intro n
  induction n with
  | zero => simp
  | succ n ih =>
    rw [List.range_succ, List.map_append, List.sum_append]
    have := hf n
    simp only [List.map_cons, List.map_nil, List.sum_cons, List.sum_nil]
    rw [Int.natCast_add, Int.add_mul]
    omega
theorem DInv.many {first rs : List Int} {L : List Bk} (h : DInv first rs L) : L.length ≤ 100000000 := by
  have h1 := sum_len L fun b hb => (h.bks b hb).2.1
  have h2 := sum_days L fun b hb => (h.bks b hb).1
  have h3 := sum_leD (sumDay L) 1000000 (fun d => by have := h.sums d; have := h.ok d; omega) rs.length
  have h4 := h.len
  have h5 := h.few
  have h6 : (rs.length : Int) * 1000000 ≤ 60 * 1000000 := by omega
  omega
end Go.SL

set_option linter.unusedVariables false
set_option linter.unusedSimpArgs false
namespace Go.SL
theorem sumDay_take (S : List Bk) (k : Nat) (hk : k < S.length) (d : Nat) : sumDay (S.take (k + 1)) d = sumDay (S.take k) d + if S[k].day = d then S[k].n else 0 := by
  rw [← sumDay_snoc, List.take_succ_eq_append_getElem hk]
theorem sumDay_app (A B : List Bk) (d : Nat) : sumDay (A ++ B) d = sumDay A d + sumDay B d := by simp [sumDay]
theorem sumDay_part {S : List Bk} (h : ∀ b ∈ S, 1 ≤ b.n) (k d : Nat) : 0 ≤ sumDay (S.take k) d ∧ sumDay (S.take k) d ≤ sumDay S d := by
  have h1 := sumDay_nonneg (fun b hb => h b (List.mem_of_mem_take hb)) (L := S.take k) d
  have h2 := sumDay_nonneg (fun b hb => h b (List.mem_of_mem_drop hb)) (L := S.drop k) d
  have h3 := sumDay_app (S.take k) (S.drop k) d
  rw [List.take_append_drop] at h3
  omega
end Go.SL

set_option linter.unusedVariables false
set_option linter.unusedSimpArgs false
namespace Go.SL
def atOf (L : List Bk) (o : BitVec 32) : Int := match L.findIdx? (fun b => decide (o = b.o)) with | some i => (i : Int) | none => -1
theorem at_yes (L : List Bk) (o : BitVec 32) (i : Nat) (hi : i < L.length) (h : o = L[i].o) (hno : ∀ (j : Nat) (hj : j < L.length), j < i → ¬ o = L[j].o) : atOf L o = i := by
  have : L.findIdx? (fun b => decide (o = b.o)) = some i := by
    rw [List.findIdx?_eq_some_iff_getElem]
    exact ⟨hi, by simpa using h, fun j hj => by simpa using hno j (by omega) hj⟩
  simp [atOf, this]
theorem at_no (L : List Bk) (o : BitVec 32) (hno : ∀ (j : Nat) (hj : j < L.length), ¬ o = L[j].o) : atOf L o = -1 := by
  have : L.findIdx? (fun b => decide (o = b.o)) = none := by
    rw [List.findIdx?_eq_none_iff]
    intro b hb
    obtain ⟨j, hj, rfl⟩ := List.getElem_of_mem hb
    simpa using hno j hj
  simp [atOf, this]
theorem at_spec (L : List Bk) (o : BitVec 32) : (atOf L o = -1 ∧ findB L o = none) ∨ ∃ (i : Nat) (hi : i < L.length), atOf L o = i ∧ o = L[i].o ∧ findB L o = some L[i] := by
  cases h : L.findIdx? (fun b => decide (o = b.o)) with
  | none =>
    left
    refine ⟨by simp [atOf, h], ?_⟩
    unfold findB
    rw [List.find?_eq_none]
    intro b hb
    have := List.findIdx?_eq_none_iff.1 h b hb
    simpa using this
  | some i =>
    right
    obtain ⟨hi, h1, h2⟩ := List.findIdx?_eq_some_iff_getElem.1 h
    refine ⟨i, hi, by simp [atOf, h], by simpa using h1, ?_⟩
    unfold findB
    rw [List.find?_eq_some_iff_getElem]
    exact ⟨h1, i, hi, rfl, fun j hj => by simpa using h2 j hj⟩
theorem erase_at : ∀ {L : List Bk} (hn : (L.map (·.o)).Nodup) {i : Nat} (hi : i < L.length), L.eraseIdx i = delB L L[i].o
  | b :: L, hn, 0, _ => by
    simp only [List.map_cons, List.nodup_cons] at hn
    simp only [List.eraseIdx_cons_zero, List.getElem_cons_zero, delB]
    rw [List.filter_cons_of_neg (by simp), eq_comm, List.filter_eq_self]
    intro c hc
    simp only [decide_eq_true_eq]
    intro e
    exact hn.1 (List.mem_map.2 ⟨c, hc, e.symm⟩)
  | b :: L, hn, i + 1, hi => by
    simp only [List.map_cons, List.nodup_cons] at hn
    have hi' : i < L.length := by simpa using hi
    simp only [List.eraseIdx_cons_succ, List.getElem_cons_succ]
    rw [erase_at hn.2 hi']
    unfold delB
    rw [List.filter_cons_of_pos]
    simp only [decide_eq_true_eq]
    intro e
    exact hn.1 (List.mem_map.2 ⟨L[i], List.getElem_mem hi', e⟩)
def RfAt (TD TI TB p : Nat) (fs : List Int) (L : List Bk) (C : List Ck) : Prop :=
  ∃ vf vl Cf Cl, C = row p [vf, vl] TD :: (Cf ++ Cl) ∧ Own vf fs.length (ic fs) TI 1 Cf ∧ Own vl L.length (L.flatMap encB) TB 3 Cl
theorem bk_rs {L : List Bk} {cs : List Value} {o k c : Nat} (hcs : (cs.drop o).take (L.flatMap encB).length = L.flatMap encB) (hk : k < L.length) (hc : c < 3) : cs[o + (k : Int).toNat * 3 + c]? = (encB L[k])[c]? := by
  have h1 := flat_get encB 3 encB_len L k c hc
  rw [List.getElem?_eq_getElem hk, Option.bind_some] at h1
  rw [← h1, Int.toNat_natCast]
  have h2 : k * 3 + c < (L.flatMap encB).length := by rw [flat_len encB 3 encB_len]; omega
  conv => rhs; rw [← hcs]
  rw [List.getElem?_take_of_lt h2, List.getElem?_drop]
  congr 1
  omega
theorem sumDay_mid {first rs : List Int} {L : List Bk} (h : DInv first rs L) (d : Nat) (hd : d < first.length) (k : Nat) (hk : k < L.length) : 0 ≤ first.getD d 0 ∧ first.getD d 0 ≤ 1000000 ∧ rs.getD d 0 + sumDay L d = first.getD d 0 ∧ 0 ≤ rs.getD d 0 ∧ 0 ≤ sumDay (L.take k) d ∧ 0 ≤ sumDay (L.take (k + 1)) d ∧ sumDay (L.take (k + 1)) d ≤ sumDay L d ∧ sumDay (L.take k) d ≤ sumDay L d ∧ sumDay (L.take (k + 1)) d = sumDay (L.take k) d + if L[k].day = d then L[k].n else 0 := by
  have h1 := h.ok d
  have h2 := h.sums d
  have hn : ∀ b ∈ L, 1 ≤ b.n := fun b hb => (h.bks b hb).2.1
  have h3 := sumDay_part hn k d
  have h4 := sumDay_part hn (k + 1) d
  exact ⟨h1.1, h1.2, h2.2, h2.1, h3.1, h4.1, h4.2, h3.2, sumDay_take L k hk d⟩
end Go.SL

set_option linter.unusedVariables false
set_option linter.unusedSimpArgs false
set_option linter.unusedSectionVars false
namespace Go.SL
theorem Bs_nil (H : List Ck) : Bs (.slice none 0 0) [] H := .inl ⟨_, _, rfl, rfl, rfl⟩
end Go.SL

set_option linter.unusedVariables false
set_option linter.unusedSimpArgs false
namespace Go.SL
def NoS (us : List Value) (no : List (List (BitVec 8))) (D : List Ck) : Prop := ∀ (i : Nat) (h : i < no.length), ∃ u, us[i]? = some u ∧ Bs u no[i] D
theorem NoS.nil : NoS [] [] [] := fun i h => absurd h (Nat.not_lt_zero _)
theorem NoS.snoc {us : List Value} {no : List (List (BitVec 8))} {D : List Ck} {u : Value} {b : List (BitVec 8)} {k : Ck} (h : NoS us no D) (hl : us.length = no.length) (hb : Bs u b [k]) : NoS (us ++ [u]) (no ++ [b]) (D ++ [k]) := by
  intro i hi
  rw [List.length_append, List.length_singleton] at hi
  by_cases hlt : i < no.length
  · obtain ⟨x, hx, hb2⟩ := h i hlt
    refine ⟨x, ?_, ?_⟩
    · rw [List.getElem?_append_left (by omega)]; exact hx
    · rw [List.getElem_append_left hlt]; exact hb2.mono fun c hc => List.mem_append_left _ hc
  · obtain rfl : i = no.length := by omega
    refine ⟨u, ?_, ?_⟩
    · rw [← hl]; simp
    · rw [List.getElem_append_right (Nat.le_refl _)]
      simp only [Nat.sub_self, List.getElem_singleton]
      exact hb.mono fun c hc => List.mem_append_right _ hc
theorem NoS.bss {v : Value} {us : List Value} {no : List (List (BitVec 8))} {T : TypeId} {C D : List Ck} (h : NoS us no D) (o : Own v no.length us T 1 C) : Bss v no (C ++ D) := by
  have hl := o.len
  refine ⟨us, o.rs.mono fun c hc => List.mem_append_left _ hc, by omega, fun i hi => ?_⟩
  obtain ⟨u, hu, hb⟩ := h i hi
  exact ⟨u, hu, hb.mono fun c hc => List.mem_append_right _ hc⟩
def RcAt (TS TG TH TP TA TY TD TI TB T8 TK TE TBS TC q : Nat) (g0 : List Gd) (u0 : List Au) (r0 : List Int) (s : Cw) (C : List Ck) : Prop :=
  ∃ ps pp pd vL vE vN CS CP CD CF CE us CN DN F1 A1 F2, C = row q [.pointer (some ⟨ps, 0, none⟩), .pointer (some ⟨pp, 0, none⟩), .pointer (some ⟨pd, 0, none⟩), .int .u32 s.e.toNat, vL, vE, vN] TC :: (CS ++ (CP ++ (CD ++ (CF ++ (CE ++ (CN ++ DN))))))
    ∧ RsAt TS TG TH ps F1 s.L A1 CS ∧ RInv g0 s.K s.L F1 A1 ∧ RpAt TP TA TY pp F2 s.Y CP ∧ ToldK Au.name sLt u0 F2 ∧ RfAt TD TI TB pd r0 s.B CD ∧ FAt T8 TK vL s.ks CF ∧ Own vE s.ef.length (s.ef.flatMap efc) TE 3 CE ∧ Own vN s.no.length us TBS 1 CN ∧ NoS us s.no DN
variable {g0 : List Gd} {u0 : List Au} {r0 : List Int} {s : Cw} {n : Nt}
theorem turnY_len {U : List Au} {Y : List Py} (h : PInv u0 U Y) (o : BitVec 32) (a t : Int) : (turnLs Y o a t).length = Y.length := turnLs_len h o a t
theorem undo_Y (h : PInv u0 s.U s.Y) (o : BitVec 32) (w : Wk) : (undoS s o w).Y.length ≤ s.Y.length + 1 := by
  unfold undoS
  repeat' split
  all_goals first | exact Nat.le_succ _ | (show (turnLs _ _ _ _).length ≤ _; rw [turnY_len h]; exact Nat.le_succ _)
theorem work_Y (h : PInv u0 s.U s.Y) (o : BitVec 32) (w : Wk) : (workS s o w).Y.length ≤ s.Y.length + 1 := by
  unfold workS
  repeat' split
  all_goals first | exact Nat.le_succ _ | (show (turnLs _ _ _ _).length ≤ _; rw [turnY_len h]; exact Nat.le_succ _) | skip
  show (authLs _ _ _ _ _).length ≤ _
  unfold authLs
  split
  · simp
  · exact Nat.le_succ _
theorem serve_Y (h : CInv g0 u0 r0 s) (n : Nt) : (serveS s n).Y.length ≤ s.Y.length + 1 := by
  cases served h.ck n with
  | old _ hs _ => rw [hs]; exact Nat.le_succ _
  | no _ _ _ _ hs _ => rw [hs]; exact Nat.le_succ _
  | again _ _ _ _ _ hs _ => rw [hs]; exact Nat.le_succ _
  | none hb he hk hl code reply hc2 hr hv hs hn => rw [hs]; exact Nat.le_succ _
  | took hb he hk hl reply hr ha hv hs hn =>
    rw [hs]
    show (doS s n).Y.length ≤ _
    unfold doS
    split
    · exact Nat.le_succ _
    · split
      · exact undo_Y h.pu _ _
      · exact work_Y h.pu _ _
end Go.SL
namespace Go.SL
theorem Obs.off {T : TypeId} {vs : List Value} {ls : List (List (BitVec 8))} {D : List Ck} {k : Nat} (h : Obs T (vs.drop k) (ls.drop k) D) (hk : k < ls.length) : ∃ v C D2, vs[k]? = some v ∧ D = C ++ D2 ∧ Ob T v ls[k] C ∧ Obs T (vs.drop (k + 1)) (ls.drop (k + 1)) D2 := by
  rw [List.drop_eq_getElem_cons hk] at h
  generalize hvs : vs.drop k = ws at h
  cases h with
  | @cons v _ C ws2 _ D2 h1 h2 =>
    refine ⟨v, C, D2, ?_, rfl, h1, ?_⟩
    · have := congrArg (fun l => l[0]?) hvs
      simpa using this
    · have e : ws2 = vs.drop (k + 1) := by
        have := congrArg (List.drop 1) hvs
        rw [List.drop_drop] at this
        simpa using this.symm
      rw [← e]; exact h2
theorem serve_data {s : Cw} (hc : chk s.ks) (n : Nt) : (serveN s n).data.length ≤ 255 := by
  cases served hc n with
  | old h hs hn => rw [hn]; exact Nat.zero_le _
  | no c h1 h3 hf hs hn => rw [hn]; exact Nat.zero_le _
  | again hb h k hk ha hs hn =>
    rw [hn]
    exact (hc.2.1 k (getK_some hk).1).2.2.2.2.1
  | none hb h hk hl code reply hc2 hr hv hs hn => rw [hn]; exact hr.2.2.2.2.1
  | took hb h hk hl reply hr ha hv hs hn => rw [hn]; exact hr.2.2.2.2.1
end Go.SL

set_option linter.unusedVariables false
set_option linter.unusedSimpArgs false
set_option linter.unusedSectionVars false
namespace Go.SL
theorem kept_key {ks : List Kp} (h : chk ks) {o : BitVec 32} {s : Int} {u : Bool} (h0 : 0 ≤ s) (h1 : s < 16) {k : Kp} (hk : getK ks (numb o s u) = some k) : k.order = o ∧ k.step = s ∧ k.undo = u := by
  obtain ⟨hm, hn⟩ := getK_some hk
  have hr := h.2.1 k hm
  exact numb_inj hr.2.1 hr.2.2.1 h0 h1 hn
end Go.SL

set_option linter.unusedVariables false
set_option linter.unusedSimpArgs false
namespace Go.SL
theorem right_z {k : Kp} {z : Bool} (h : z = true ↔ ¬ rightP k) : z = !decide (rightP k) := by
  rw [Bool.eq_iff_iff, h]
  simp
def lessK (a b : Kp) : Bool := if a.order ≠ b.order then decide ((a.order.toNat : Int) < b.order.toNat) else if a.step ≠ b.step then decide (a.step < b.step) else (!a.undo && b.undo)
theorem lessK_num {a b : Kp} (ha : rightP a) (hb : rightP b) : lessK a b = decide (a.num < b.num) := by
  obtain ⟨_, a0, a1, _⟩ := ha
  obtain ⟨_, b0, b1, _⟩ := hb
  unfold lessK Kp.num numb
  rw [Bool.eq_iff_iff]
  by_cases h1 : a.order = b.order
  · rw [if_neg (not_not_intro h1), h1]
    by_cases h2 : a.step = b.step
    · rw [if_neg (not_not_intro h2), h2]
      cases a.undo <;> cases b.undo <;> simp
    · rw [if_pos h2, decide_eq_true_eq, decide_eq_true_eq]
      split <;> split <;> omega
  · rw [if_pos h1, decide_eq_true_eq, decide_eq_true_eq]
    have h3 : a.order.toNat ≠ b.order.toNat := fun e => h1 (BitVec.eq_of_toNat_eq e)
    split <;> split <;> omega
theorem findF_some {ks : List Kp} {o : BitVec 32} {s : Int} {u : Bool} (h : chk ks) {i : Nat} (hi : i < ks.length) (e1 : ks[i].order = o) (e2 : ks[i].step = s) (e3 : ks[i].undo = u) : findF ks o s u = some ks[i] := by
  subst e1 e2 e3
  have hr := chk_right h hi
  rw [findF_ok h hr.2.1 hr.2.2.1]
  exact getK_at h hi
theorem findF_nokey {ks : List Kp} {o : BitVec 32} {s : Int} {u : Bool} (h : chk ks → ∀ k ∈ ks, ¬ (k.order = o ∧ k.step = s ∧ k.undo = u)) : findF ks o s u = none := by
  by_cases hc : chk ks ∧ 0 ≤ s ∧ s < 16
  · rw [findF_ok hc.1 hc.2.1 hc.2.2]
    cases e : getK ks (numb o s u) with
    | none => rfl
    | some k => exact absurd (kept_key hc.1 hc.2.1 hc.2.2 e) (h hc.1 k (getK_some e).1)
  · exact findF_no hc
theorem find_next {ks : List Kp} {i : Nat} {o : BitVec 32} {s : Int} {u : Bool} (hi : i < ks.length) (h : ∀ k ∈ ks.take i, ¬ (k.order = o ∧ k.step = s ∧ k.undo = u)) (h2 : ¬ (ks[i].order = o ∧ ks[i].step = s ∧ ks[i].undo = u)) : ∀ k ∈ ks.take (i + 1), ¬ (k.order = o ∧ k.step = s ∧ k.undo = u) := by
  rw [List.take_succ_eq_append_getElem hi]
  intro k hk
  rcases List.mem_append.1 hk with hk | hk
  · exact h k hk
  · rw [List.mem_singleton.1 hk]; exact h2
theorem ask_z {ks : List Kp} {n : Nt} {z : Bool} (h : z = true ↔ askBad ks n) : z = decide (askBad ks n) := by
  rw [Bool.eq_iff_iff, h]
  simp
section
variable {ks : List Kp} {x : Kp} {i : Nat}
theorem pos_len (hck : chk ks) (hx : ∀ k ∈ ks, k.num ≠ x.num) (hi : i < ks.length) : pos ks x.num ≤ i ↔ x.num < ks[i].num := by
  constructor
  · intro h
    rcases Nat.lt_or_ge (pos ks x.num) ks.length with h1 | h1
    · have h2 := pos_above h1 rfl
      have h3 := hx _ (List.getElem_mem h1)
      rcases Nat.lt_or_ge (pos ks x.num) i with h4 | h4
      · have := chk_lt hck h4 hi; omega
      · have e : pos ks x.num = i := by omega
        have h5 : ks[pos ks x.num] = ks[i] := by congr 1
        rw [h5] at h2 h3
        omega
    · omega
  · intro h
    rcases Nat.lt_or_ge i (pos ks x.num) with h1 | h1
    · have := pos_below hi h1; omega
    · exact h1
end
section
variable {cs xc : List Value} {p i n : Nat}
def insC (cs xc : List Value) (p : Nat) : List Value := cs.take (p * 6) ++ (xc ++ cs.drop (p * 6))
def layC (cs xc : List Value) (p i : Nat) : List Value := if p < i then insC (cs.take (i * 6)) xc p else cs.take (i * 6)
theorem layC_zero : layC cs xc p 0 = [] := by simp [layC]
theorem take6 (h : cs.length = n * 6) (hi : i < n) : cs.take ((i + 1) * 6) = cs.take (i * 6) ++ (cs.drop (i * 6)).take 6 := by
  rw [show (i + 1) * 6 = i * 6 + 6 by omega, List.take_add]
theorem insC_app {L y : List Value} (hp : p * 6 ≤ L.length) : insC L xc p ++ y = insC (L ++ y) xc p := by
  unfold insC
  rw [List.take_append_of_le_length hp, List.drop_append_of_le_length hp]
  simp
theorem layC_past (h : cs.length = n * 6) (hi : i < n) (hp : p < i) : layC cs xc p (i + 1) = layC cs xc p i ++ (cs.drop (i * 6)).take 6 := by
  unfold layC
  rw [if_pos (by omega), if_pos hp, insC_app (by rw [List.length_take]; omega), ← take6 h hi]
theorem layC_not (h : cs.length = n * 6) (hi : i < n) (hp : i < p) : layC cs xc p (i + 1) = layC cs xc p i ++ (cs.drop (i * 6)).take 6 := by
  unfold layC
  rw [if_neg (by omega), if_neg (by omega), ← take6 h hi]
theorem layC_now (h : cs.length = n * 6) (hi : i < n) (hp : p = i) : layC cs xc p (i + 1) = layC cs xc p i ++ xc ++ (cs.drop (i * 6)).take 6 := by
  subst hp
  unfold layC
  rw [if_pos (by omega), if_neg (by omega), take6 h hi]
  unfold insC
  rw [List.take_append_of_le_length (by rw [List.length_take]; omega), List.drop_append_of_le_length (by rw [List.length_take]; omega)]
  rw [List.take_of_length_le (by rw [List.length_take]; omega), List.drop_of_length_le (by rw [List.length_take]; omega)]
  simp
theorem layC_end (h : cs.length = n * 6) (hp : p < n) : layC cs xc p n = insC cs xc p := by
  unfold layC
  rw [if_pos hp, List.take_of_length_le (by omega)]
theorem layC_last (h : cs.length = n * 6) (hp : p = n) : layC cs xc p n ++ xc = insC cs xc p := by
  subst hp
  unfold layC insC
  rw [if_neg (by omega), List.take_of_length_le (by omega), List.drop_of_length_le (by omega)]
  simp
theorem lay_at (hp : p ≤ i) (h2 : ¬ p < i) : p = i := by omega
end
theorem right_step {n : Nt} {ks : List Kp} {code : Int} {reply : List (BitVec 8)} (h : ¬ askBad ks n) : rightP (stepK n code reply) ↔ reply.length ≤ 255 ∧ (code = 1 ∨ code = 2) := by
  have h1 : noteBad n = false := by
    cases e : noteBad n with
    | false => rfl
    | true => exact absurd (.inr (.inr (.inl e))) h
  have h2 := noteBad_step h1
  have h3 : n.order ≠ 0#32 := fun e => h (.inr (.inr (.inr (.inr e))))
  have h4 : 0 < n.order.toNat := by
    have : n.order.toNat ≠ 0 := fun e => h3 (BitVec.eq_of_toNat_eq (by simpa using e))
    omega
  unfold rightP stepK
  simp only
  constructor
  · rintro ⟨_, _, _, _, h5, h6⟩; exact ⟨h5, h6⟩
  · rintro ⟨h5, h6⟩; exact ⟨h4, h2.1, h2.2.1, h2.2.2, h5, h6⟩
theorem new_key {e : BitVec 32} {ks : List Kp} {n : Nt} {code : Int} {reply : List (BitVec 8)} (h0 : (askK e ks n).2.2 = 0) (h2 : (askK e ks n).1 ≠ 2) : ∀ k ∈ ks, k.num ≠ (stepK n code reply).num := by
  have hg := askK_ok h0
  have hnone : getK ks (numb n.order n.step n.undo) = none := by
    cases hk : getK ks (numb n.order n.step n.undo) with
    | none => rfl
    | some k =>
      exfalso
      by_cases ha : k.asked = n.data
      · rw [askK_again hg.1 hg.2 hk ha] at h2; exact h2 rfl
      · rw [askK_clash hg.1 hg.2 hk ha] at h0; exact absurd h0 (by decide)
  exact getK_none hnone
end Go.SL

set_option linter.unusedVariables false
set_option linter.unusedSimpArgs false
namespace Go.SL
def nb (k : Int) : List (BitVec 8) := (nm k).map (BitVec.ofNat 8)
theorem nmS_str (k : Int) : nmS k = str (nb k) := by
  unfold nmS str nb
  rw [List.map_map]
  congr 2
  refine List.map_congr_left fun x hx => ?_
  have := nm_small k x hx
  simp only [Function.comp]
  apply UInt8.toNat_inj.1
  simp [UInt8.toNat_ofNat]
theorem nb_mem (k : Int) (b : BitVec 8) : b ∈ nb k ↔ b.toNat ∈ nm k := by
  unfold nb
  rw [List.mem_map]
  constructor
  · rintro ⟨x, hx, rfl⟩
    have := nm_small k x hx
    rw [BitVec.toNat_ofNat, Nat.mod_eq_of_lt (by omega)]
    exact hx
  · intro h
    exact ⟨b.toNat, h, by simp⟩
def allP : List (BitVec 8) := [69#8, 80#8, 76#8, 84#8, 79#8, 83#8, 85#8, 67#8, 75#8, 68#8]
def zeroN (n : Nt) (b : BitVec 8) : Bool :=
  if b = 69#8 then decide (n.epoch = 0#32) else if b = 80#8 then decide (n.old = 0#32) else if b = 76#8 then decide (n.lsn = 0#64) else if b = 84#8 then decide (n.tick = 0#64) else if b = 79#8 then decide (n.order = 0#32)
  else if b = 83#8 then decide (n.step = 0) else if b = 85#8 then !n.undo else if b = 67#8 then decide (n.code = 0) else if b = 75#8 then decide ((n.key.length : Int) = 0) else decide ((n.data.length : Int) = 0)
section
theorem fold_epoch : ∀ (L : List Nat) (n : Nt), (L.foldl (fun m (c : Nat) => wo m (c : Int)) n).epoch = if 69 ∈ L then 0#32 else n.epoch
  | [], n => by simp
  | c :: L, n => by
    rw [List.foldl_cons, fold_epoch L]
    by_cases h : 69 ∈ L
    · simp [h]
    · by_cases hc : c = 69
      · subst hc; simp [h, wo]
      · have : (wo n (c : Int)).epoch = n.epoch := by
          unfold wo
          repeat' split
          all_goals first | rfl | omega
        simp [h, this, Ne.symm hc]
theorem fold_old : ∀ (L : List Nat) (n : Nt), (L.foldl (fun m (c : Nat) => wo m (c : Int)) n).old = if 80 ∈ L then 0#32 else n.old
  | [], n => by simp
  | c :: L, n => by
    rw [List.foldl_cons, fold_old L]
    by_cases h : 80 ∈ L
    · simp [h]
    · by_cases hc : c = 80
      · subst hc; simp [h, wo]
      · have : (wo n (c : Int)).old = n.old := by
          unfold wo
          repeat' split
          all_goals first | rfl | omega
        simp [h, this, Ne.symm hc]
theorem fold_lsn : ∀ (L : List Nat) (n : Nt), (L.foldl (fun m (c : Nat) => wo m (c : Int)) n).lsn = if 76 ∈ L then 0#64 else n.lsn
  | [], n => by simp
  | c :: L, n => by
    rw [List.foldl_cons, fold_lsn L]
    by_cases h : 76 ∈ L
    · simp [h]
    · by_cases hc : c = 76
      · subst hc; simp [h, wo]
      · have : (wo n (c : Int)).lsn = n.lsn := by
          unfold wo
          repeat' split
          all_goals first | rfl | omega
        simp [h, this, Ne.symm hc]
theorem fold_tick : ∀ (L : List Nat) (n : Nt), (L.foldl (fun m (c : Nat) => wo m (c : Int)) n).tick = if 84 ∈ L then 0#64 else n.tick
  | [], n => by simp
  | c :: L, n => by
    rw [List.foldl_cons, fold_tick L]
    by_cases h : 84 ∈ L
    · simp [h]
    · by_cases hc : c = 84
      · subst hc; simp [h, wo]
      · have : (wo n (c : Int)).tick = n.tick := by
          unfold wo
          repeat' split
          all_goals first | rfl | omega
        simp [h, this, Ne.symm hc]
theorem fold_order : ∀ (L : List Nat) (n : Nt), (L.foldl (fun m (c : Nat) => wo m (c : Int)) n).order = if 79 ∈ L then 0#32 else n.order
  | [], n => by simp
  | c :: L, n => by
    rw [List.foldl_cons, fold_order L]
    by_cases h : 79 ∈ L
    · simp [h]
    · by_cases hc : c = 79
      · subst hc; simp [h, wo]
      · have : (wo n (c : Int)).order = n.order := by
          unfold wo
          repeat' split
          all_goals first | rfl | omega
        simp [h, this, Ne.symm hc]
theorem fold_step : ∀ (L : List Nat) (n : Nt), (L.foldl (fun m (c : Nat) => wo m (c : Int)) n).step = if 83 ∈ L then 0 else n.step
  | [], n => by simp
  | c :: L, n => by
    rw [List.foldl_cons, fold_step L]
    by_cases h : 83 ∈ L
    · simp [h]
    · by_cases hc : c = 83
      · subst hc; simp [h, wo]
      · have : (wo n (c : Int)).step = n.step := by
          unfold wo
          repeat' split
          all_goals first | rfl | omega
        simp [h, this, Ne.symm hc]
theorem fold_undo : ∀ (L : List Nat) (n : Nt), (L.foldl (fun m (c : Nat) => wo m (c : Int)) n).undo = if 85 ∈ L then false else n.undo
  | [], n => by simp
  | c :: L, n => by
    rw [List.foldl_cons, fold_undo L]
    by_cases h : 85 ∈ L
    · simp [h]
    · by_cases hc : c = 85
      · subst hc; simp [h, wo]
      · have : (wo n (c : Int)).undo = n.undo := by
          unfold wo
          repeat' split
          all_goals first | rfl | omega
        simp [h, this, Ne.symm hc]
theorem fold_code : ∀ (L : List Nat) (n : Nt), (L.foldl (fun m (c : Nat) => wo m (c : Int)) n).code = if 67 ∈ L then 0 else n.code
  | [], n => by simp
  | c :: L, n => by
    rw [List.foldl_cons, fold_code L]
    by_cases h : 67 ∈ L
    · simp [h]
    · by_cases hc : c = 67
      · subst hc; simp [h, wo]
      · have : (wo n (c : Int)).code = n.code := by
          unfold wo
          repeat' split
          all_goals first | rfl | omega
        simp [h, this, Ne.symm hc]
theorem fold_key : ∀ (L : List Nat) (n : Nt), (L.foldl (fun m (c : Nat) => wo m (c : Int)) n).key = if 75 ∈ L then [] else n.key
  | [], n => by simp
  | c :: L, n => by
    rw [List.foldl_cons, fold_key L]
    by_cases h : 75 ∈ L
    · simp [h]
    · by_cases hc : c = 75
      · subst hc; simp [h, wo]
      · have : (wo n (c : Int)).key = n.key := by
          unfold wo
          repeat' split
          all_goals first | rfl | omega
        simp [h, this, Ne.symm hc]
theorem fold_data : ∀ (L : List Nat) (n : Nt), (L.foldl (fun m (c : Nat) => wo m (c : Int)) n).data = if 68 ∈ L then [] else n.data
  | [], n => by simp
  | c :: L, n => by
    rw [List.foldl_cons, fold_data L]
    by_cases h : 68 ∈ L
    · simp [h]
    · by_cases hc : c = 68
      · subst hc; simp [h, wo]
      · have : (wo n (c : Int)).data = n.data := by
          unfold wo
          repeat' split
          all_goals first | rfl | omega
        simp [h, this, Ne.symm hc]
end
theorem toNat_pos32 (x : BitVec 32) : 0 < (x.toNat : Int) ↔ x ≠ 0#32 := by
  constructor
  · intro h e; subst e; simp at h
  · intro h
    have : x.toNat ≠ 0 := fun e => h (BitVec.eq_of_toNat_eq (by simpa using e))
    omega
theorem toNat_pos64 (x : BitVec 64) : 0 < (x.toNat : Int) ↔ x ≠ 0#64 := by
  constructor
  · intro h e; subst e; simp at h
  · intro h
    have : x.toNat ≠ 0 := fun e => h (BitVec.eq_of_toNat_eq (by simpa using e))
    omega
theorem more_iff (n : Nt) : moreB (rest n) = true ↔ ∃ b ∈ allP, zeroN n b = false ∧ b ∉ nb n.kind := by
  have e : rest n = (nm n.kind).foldl (fun m (c : Nat) => wo m (c : Int)) n := by
    unfold rest restTo; rw [List.take_length]
  have h1 := fold_epoch (nm n.kind) n
  have h2 := fold_old (nm n.kind) n
  have h3 := fold_lsn (nm n.kind) n
  have h4 := fold_tick (nm n.kind) n
  have h5 := fold_order (nm n.kind) n
  have h6 := fold_step (nm n.kind) n
  have h7 := fold_undo (nm n.kind) n
  have h8 := fold_code (nm n.kind) n
  have h9 := fold_key (nm n.kind) n
  have h10 := fold_data (nm n.kind) n
  rw [← e] at h1 h2 h3 h4 h5 h6 h7 h8 h9 h10
  unfold moreB
  rw [h1, h2, h3, h4, h5, h6, h7, h8, h9, h10]
  simp only [Bool.or_eq_true, decide_eq_true_eq, toNat_pos32, toNat_pos64]
  have z : ∀ b : BitVec 8, b ∉ nb n.kind ↔ b.toNat ∉ nm n.kind := fun b => not_congr (nb_mem _ _)
  simp only [allP, List.mem_cons, List.not_mem_nil, or_false, exists_eq_or_imp, exists_eq_left, z]
  have g1 : zeroN n 69#8 = decide (n.epoch = 0#32) := rfl
  have g2 : zeroN n 80#8 = decide (n.old = 0#32) := rfl
  have g3 : zeroN n 76#8 = decide (n.lsn = 0#64) := rfl
  have g4 : zeroN n 84#8 = decide (n.tick = 0#64) := rfl
  have g5 : zeroN n 79#8 = decide (n.order = 0#32) := rfl
  have g6 : zeroN n 83#8 = decide (n.step = 0) := rfl
  have g7 : zeroN n 85#8 = !n.undo := rfl
  have g8 : zeroN n 67#8 = decide (n.code = 0) := rfl
  have g9 : zeroN n 75#8 = decide ((n.key.length : Int) = 0) := rfl
  have g10 : zeroN n 68#8 = decide ((n.data.length : Int) = 0) := rfl
  rw [g1, g2, g3, g4, g5, g6, g7, g8, g9, g10]
  have q : ∀ {α : Type} [DecidableEq α] (p : Prop) [Decidable p] (x y : α), ((if p then y else x) ≠ y) ↔ (decide (x = y) = false ∧ ¬ p) := fun p _ x y => by
    by_cases hp : p <;> simp [hp]
  have q2 : ∀ (p : Prop) [Decidable p] (x : Bool), ((if p then false else x) = true) ↔ ((!x) = false ∧ ¬ p) := fun p _ x => by
    by_cases hp : p <;> simp [hp]
  have q3 : ∀ (p : Prop) [Decidable p] (x : List (BitVec 8)), (0 < ((if p then [] else x).length : Int)) ↔ (decide ((x.length : Int) = 0) = false ∧ ¬ p) := fun p _ x => by
    by_cases hp : p
    · simp [hp]
    · rw [if_neg hp]
      simp only [decide_eq_false_iff_not, hp, not_false_eq_true, and_true]
      omega
  rw [q, q, q, q, q, q, q2, q, q3, q3]
  exact Iff.rfl
theorem ite_len {p : Prop} [Decidable p] {a b : List Nat} (h : a.length ≤ 6) (k : b.length ≤ 6) : (if p then a else b).length ≤ 6 := by
  split <;> assumption
theorem nb_len (k : Int) : (nb k).length ≤ 6 := by
  unfold nb nm
  rw [List.length_map]
  repeat (first | exact Nat.le_refl _ | exact Nat.zero_le _ | refine ite_len (by decide) ?_)
theorem names_cell {k : Int} (h0 : 1 ≤ k) (h1 : k ≤ 13) : ([.string ⟨#[]⟩, .string ⟨#[69, 80, 76, 68]⟩, .string ⟨#[69, 76]⟩, .string ⟨#[69, 76]⟩, .string ⟨#[69, 67]⟩, .string ⟨#[69, 84, 67]⟩, .string ⟨#[69, 67]⟩, .string ⟨#[69, 79, 83, 85, 68]⟩, .string ⟨#[69, 79, 83, 85, 67, 68]⟩, .string ⟨#[69, 79, 83, 85]⟩, .string ⟨#[75, 68]⟩, .string ⟨#[75]⟩, .string ⟨#[75]⟩, .string ⟨#[79, 67, 75, 68]⟩] : List Value)[k.toNat]? = some (.string (nmS k)) := by
  have h : k = 1 ∨ k = 2 ∨ k = 3 ∨ k = 4 ∨ k = 5 ∨ k = 6 ∨ k = 7 ∨ k = 8 ∨ k = 9 ∨ k = 10 ∨ k = 11 ∨ k = 12 ∨ k = 13 := by omega
  rcases h with rfl | rfl | rfl | rfl | rfl | rfl | rfl | rfl | rfl | rfl | rfl | rfl | rfl <;> rfl
theorem names_no {k : Int} (h : ¬ (1 ≤ k ∧ k ≤ 13)) : nmS k = ⟨#[]⟩ := by
  rw [nmS_empty]
  unfold nm
  rw [if_neg (by omega), if_neg (by omega), if_neg (by omega), if_neg (by omega), if_neg (by omega), if_neg (by omega), if_neg (by omega), if_neg (by omega), if_neg (by omega), if_neg (by omega), if_neg (by omega), if_neg (by omega), if_neg (by omega)]
def refBad (n : Nt) : Bool := decide (nm n.kind = []) || (farB n || (decide (∃ b ∈ allP, zeroN n b = false ∧ b ∉ nb n.kind) || (decide (10 ≤ n.kind) && (decide (n.kind ≤ 12) && decide ((n.key.length : Int) = 0)))))
theorem refBad_eq (n : Nt) : refBad n = noteBad n := by
  have h : decide (∃ b ∈ allP, zeroN n b = false ∧ b ∉ nb n.kind) = moreB (rest n) := by
    rw [Bool.eq_iff_iff, decide_eq_true_eq]
    exact (more_iff n).symm
  unfold refBad noteBad
  rw [h]
  cases decide (nm n.kind = []) <;> cases farB n <;> cases moreB (rest n) <;> rfl
def partV (n : Nt) (vk vd : Value) (b : BitVec 8) : List Value :=
  if b = 69#8 then [.int .i64 4, .int .u64 (n.epoch.setWidth 64).toNat, .slice none 0 0] else if b = 80#8 then [.int .i64 4, .int .u64 (n.old.setWidth 64).toNat, .slice none 0 0]
  else if b = 76#8 then [.int .i64 8, .int .u64 n.lsn.toNat, .slice none 0 0] else if b = 84#8 then [.int .i64 8, .int .u64 n.tick.toNat, .slice none 0 0]
  else if b = 79#8 then [.int .i64 4, .int .u64 (n.order.setWidth 64).toNat, .slice none 0 0] else if b = 83#8 then [.int .i64 1, .int .u64 (BitVec.ofInt 64 n.step).toNat, .slice none 0 0]
  else if b = 85#8 then [.int .i64 1, .int .u64 (if n.undo then 1 else 0), .slice none 0 0] else if b = 67#8 then [.int .i64 1, .int .u64 (BitVec.ofInt 64 n.code).toNat, .slice none 0 0]
  else if b = 75#8 then [.int .i64 0, .int .u64 0, vk] else [.int .i64 0, .int .u64 0, vd]
theorem partV_len (n : Nt) (vk vd : Value) (b : BitVec 8) : (partV n vk vd b).length = 3 := by
  unfold partV
  repeat' split
  all_goals rfl
theorem partV_one (n : Nt) (vk vd : Value) (b : BitVec 8) (h1 : vk.oneCell' = true) (h2 : vd.oneCell' = true) : ∀ u ∈ partV n vk vd b, u.oneCell' = true := by
  have key : ∀ x y z : Value, x.oneCell' = true → y.oneCell' = true → z.oneCell' = true → ∀ u ∈ [x, y, z], u.oneCell' = true := by
    intro x y z hx hy hz u hu
    simp only [List.mem_cons, List.not_mem_nil, or_false] at hu
    rcases hu with rfl | rfl | rfl <;> assumption
  unfold partV
  repeat' split
  all_goals first | exact key _ _ _ rfl rfl rfl | exact key _ _ _ rfl rfl h1 | exact key _ _ _ rfl rfl h2
theorem rtake {n : Nt} {L : List (BitVec 8)} {i : Nat} (hlt : i < L.length) (h : ∀ b ∈ L.take i, zeroN n b = true ∨ b ∈ nb n.kind) (h2 : zeroN n L[i] = true ∨ L[i] ∈ nb n.kind) : ∀ b ∈ L.take (i + 1), zeroN n b = true ∨ b ∈ nb n.kind := by
  rw [List.take_succ_eq_append_getElem hlt]
  intro b hb
  rcases List.mem_append.1 hb with hb | hb
  · exact h b hb
  · rw [List.mem_singleton.1 hb]; exact h2
section
variable {n : Nt}
theorem ref_bad1 (h : (decide (nm n.kind = []) || farB n) = true) : refBad n = true := by
  unfold refBad
  rw [Bool.or_eq_true] at h ⊢
  rcases h with h | h
  · exact .inl h
  · exact .inr (by rw [h]; rfl)
theorem ref_bad2 {b : BitVec 8} (hb : b ∈ allP) (h : zeroN n b = false) (h2 : b ∉ nb n.kind) : refBad n = true := by
  unfold refBad
  rw [decide_eq_true (show ∃ b ∈ allP, zeroN n b = false ∧ b ∉ nb n.kind from ⟨b, hb, h, h2⟩)]
  simp
theorem ref_bad3 (h : (decide (10 ≤ n.kind) && (decide (n.kind ≤ 12) && decide ((n.key.length : Int) = 0))) = true) : refBad n = true := by
  unfold refBad
  rw [h]
  simp
theorem ref_ok (h : (decide (nm n.kind = []) || farB n) = false) (h2 : ∀ b ∈ allP, zeroN n b = true ∨ b ∈ nb n.kind) (h3 : (decide (10 ≤ n.kind) && (decide (n.kind ≤ 12) && decide ((n.key.length : Int) = 0))) = false) : ¬ refBad n = true := by
  unfold refBad
  rw [Bool.or_eq_false_iff] at h
  rw [h.1, h.2, h3, decide_eq_false (by
    rintro ⟨b, hb, h4, h5⟩
    rcases h2 b hb with h6 | h6
    · rw [h4] at h6; cases h6
    · exact h5 h6)]
  decide
end
end Go.SL

set_option linter.unusedVariables false
set_option linter.unusedSimpArgs false
namespace Go.SL
open Go.ChangeShapes Go.WideShapes Go.ChangeAt Go.RowKit
variable {Hh : Type} {enc : TypeId × Value → Hh} {P : Program} {W : World} {base : Nat} {spare : Nat → Bool} {held : Bool} {t : TypeId}
theorem open_ints {T e : Nat} {ao : Option Addr} {len cap : Nat} {d : DataW Hh} {p : List MemPlace} (hT : sliceOf P T = some e) (he : intOfTy P e = some .i64) (hs : P.cellsOf e = 1) (h : DataW.Trod enc P W base spare held T (.slice ao len cap) d p) :
    ∃ (rs : List Int) (H : List Ck), Rs (.slice ao len cap) rs.length (ic rs) H ∧ rs.length = len ∧ len ≤ maxLen ∧ (∀ x ∈ rs, -9223372036854775808 ≤ x ∧ x ≤ 9223372036854775807) ∧ Here W H := by
  obtain ⟨xs, H, n, hr, hl, hm, hh, hel⟩ := open_row hT hs (by omega) h
  have key : ∃ rs : List Int, xs = ic rs ∧ ∀ x ∈ rs, -9223372036854775808 ≤ x ∧ x ≤ 9223372036854775807 := by
    have each : ∀ i, i < xs.length → ∃ x : Int, xs[i]? = some (.int .i64 x) ∧ -9223372036854775808 ≤ x ∧ x ≤ 9223372036854775807 := fun i hi => by
      obtain ⟨y, hy⟩ := hel i (by omega)
      obtain ⟨m, hm1, _, hm2⟩ := DataW.trod_int (underlying_int he) hy
      refine ⟨m, ?_, as_i64 hm2⟩
      have := congrArg (fun l => l[0]?) hm1
      simpa using this
    clear hr hl hel
    induction xs with
    | nil => exact ⟨[], rfl, by simp⟩
    | cons v xs ih =>
      obtain ⟨x, hx, hb⟩ := each 0 (by simp)
      simp at hx
      obtain ⟨rs, hrs, hall⟩ := ih (fun i hi => by
        obtain ⟨x, h⟩ := each (i + 1) (by simpa using hi)
        exact ⟨x, by simpa using h⟩)
      refine ⟨x :: rs, by rw [hx, hrs]; rfl, ?_⟩
      intro y hy
      rcases List.mem_cons.1 hy with rfl | hy
      · exact hb
      · exact hall y hy
  obtain ⟨rs, rfl, hall⟩ := key
  rw [ic_length, Nat.mul_one] at hl
  refine ⟨rs, H, ?_, hl, hm, hall, hh⟩
  rw [hl]
  exact hr
end Go.SL

set_option linter.unusedVariables false
set_option linter.unusedSimpArgs false
namespace Go.SL
open Go.ChangeShapes Go.WideShapes Go.ChangeAt Go.RowKit
variable {Hh : Type} {enc : TypeId × Value → Hh} {P : Program} {W : World} {base : Nat} {spare : Nat → Bool} {held : Bool} {t : TypeId}
theorem slice_of {T E : TypeId} {n : Nat} {xs : List Value} {y : DataW Hh × List MemPlace} (hT : sliceOf P T = some E) (h : DataW.trod enc P W base spare held n T xs = some y) : ∃ ao len cap, xs = [.slice ao len cap] := by
  rcases DataW.trod_slice (underlying_slice hT) h with ⟨h1, _⟩ | ⟨a, l, c, elems, rest, n, _, h1, _⟩
  · exact ⟨_, _, _, h1⟩
  · exact ⟨_, _, _, h1⟩
theorem open_first {T E0 E1 E2 : TypeId} {fs g0 g1 : Array Field} {f0 f1 f2 : Field} {v : Value} {d : DataW Hh} {p : List MemPlace} (hu : P.underlying T = some (.struct fs)) (h0 : fs[0]? = some f0) (h1 : fs[1]? = some f1) (h2 : fs[2]? = some f2) (hs : fs.size = 3)
    (ho0 : f0.offset = 0) (ho1 : f1.offset = 1) (ho2 : f2.offset = 2) (hc0 : P.cellsOf f0.type = 1) (hc1 : P.cellsOf f1.type = 1) (hc2 : P.cellsOf f2.type = 1) (hcT : P.cellsOf T = 3)
    (hT0 : sliceOf P f0.type = some E0) (hE0 : P.underlying E0 = some (.struct g0)) (hL0 : leavesOf P 5 E0 = some goodLeaves) (he0 : P.cellsOf E0 = 2)
    (hT1 : sliceOf P f1.type = some E1) (hE1 : P.underlying E1 = some (.struct g1)) (hL1 : leavesOf P 5 E1 = some accLeaves) (he1 : P.cellsOf E1 = 3)
    (hT2 : sliceOf P f2.type = some E2) (hI2 : intOfTy P E2 = some .i64) (he2 : P.cellsOf E2 = 1)
    {cs : Array Value} (hv : v = .agg cs) (h : DataW.Trod enc P W base spare held T v d p) :
    ∃ (v1 v2 v3 : Value) (gs : List Gd) (us : List Au) (rs : List Int) (H : List Ck), v = .agg #[v1, v2, v3] ∧ (∀ g ∈ gs, g.gone = 0) ∧ Rs v1 gs.length (gs.flatMap cellsG) H ∧ Rs v2 us.length (us.flatMap cellsU) H ∧ Rs v3 rs.length (ic rs) H ∧ gs.length ≤ maxLen ∧ us.length ≤ maxLen ∧ rs.length ≤ maxLen ∧ Here W H := by
  subst hv
  obtain ⟨n, hn⟩ := h
  obtain ⟨xs, m, hr1, hr2, hlen, hxs, hf⟩ := DataW.trod_struct hu hn
  have l0 : 0 < xs.length := by omega
  have l1 : 1 < xs.length := by omega
  have l2 : 2 < xs.length := by omega
  have y0 := hf 0 f0 (by simpa using h0)
  have y1 := hf 1 f1 (by simpa using h1)
  have y2 := hf 2 f2 (by simpa using h2)
  rw [List.getElem?_eq_getElem l0] at y0
  rw [List.getElem?_eq_getElem l1] at y1
  rw [List.getElem?_eq_getElem l2] at y2
  rw [hcT] at hlen
  rw [ho0, hc0] at y0
  rw [ho1, hc1] at y1
  rw [ho2, hc2] at y2
  obtain ⟨a0, n0, c0, s0⟩ := slice_of hT0 y0
  obtain ⟨a1, n1, c1, s1⟩ := slice_of hT1 y1
  obtain ⟨a2, n2, c2, s2⟩ := slice_of hT2 y2
  rw [s0] at y0
  rw [s1] at y1
  rw [s2] at y2
  obtain ⟨gs, H0, k0, kg, km0, kh0⟩ := open_goods (enc := enc) (W := W) (base := base) (spare := spare) (held := held) (d := xs[0].1) (p := xs[0].2) hT0 hE0 hL0 he0 ⟨m, y0⟩
  obtain ⟨us, H1, k1, km1, kh1⟩ := open_accs (enc := enc) (W := W) (base := base) (spare := spare) (held := held) (d := xs[1].1) (p := xs[1].2) hT1 hE1 hL1 he1 ⟨m, y1⟩
  obtain ⟨rs, H2, k2, kl2, km2, _, kh2⟩ := open_ints (enc := enc) (W := W) (base := base) (spare := spare) (held := held) (d := xs[2].1) (p := xs[2].2) hT2 hI2 he2 ⟨m, y2⟩
  refine ⟨_, _, _, gs, us, rs, H0 ++ (H1 ++ H2), ?_, kg, k0.mono fun c hc => List.mem_append_left _ hc, k1.mono fun c hc => List.mem_append_right _ (List.mem_append_left _ hc), k2.mono fun c hc => List.mem_append_right _ (List.mem_append_right _ hc), km0, km1, by omega, kh0.append (kh1.append kh2)⟩
  have hcs : cs.toList.length = 3 := hlen
  have s0' : (cs.toList.drop 0).take 1 = [.slice a0 n0 c0] := s0
  have s1' : (cs.toList.drop 1).take 1 = [.slice a1 n1 c1] := s1
  have s2' : (cs.toList.drop 2).take 1 = [.slice a2 n2 c2] := s2
  have e : cs.toList = [.slice a0 n0 c0, .slice a1 n1 c1, .slice a2 n2 c2] := by
    match hc9 : cs.toList, hcs with
    | [x, y, z], _ =>
      rw [hc9] at s0' s1' s2'
      simp at s0' s1' s2'
      rw [s0', s1', s2']
  exact congrArg Value.agg (Array.toList_inj.1 (by simpa using e))
end Go.SL
