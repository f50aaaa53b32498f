/-
  Lemmas and walks that CrewStale stands on (part 2); no condition.
-/
import Derived.Orders
import Derived.Tactics
import Derived.Scope
import Derived.Below
import Derived.WalkKit
import Derived.KernelRfl
import Derived.Laws.RangeString
import Derived.Laws.StructEq
import Derived.Lib.AppendZerosOnto
import Derived.Laws.CopyRow
import Derived.Lib.Overlaps
import Derived.Laws.IdiomStrings
import Derived.Deep.Quiet
import Derived.Lib.Bytealg
import Derived.Shelf.SlSortCmp.NoneTotal
import Derived.Test.YtkamlondepceiaaGreatRows
import Derived.Test.YtkamlondepceiaaGreatCrewStaleB1

set_option linter.unusedVariables false
set_option linter.unusedSimpArgs false
namespace Go.SL
structure Nt where
  kind : Int
  epoch : BitVec 32
  old : BitVec 32
  lsn : BitVec 64
  tick : BitVec 64
  order : BitVec 32
  step : Int
  undo : Bool
  code : Int
  key : List (BitVec 8)
  data : List (BitVec 8)
def ntc (n : Nt) (vk vd : Value) : List Value :=
  [.int .i64 n.kind, .int .u32 n.epoch.toNat, .int .u32 n.old.toNat, .int .u64 n.lsn.toNat, .int .u64 n.tick.toNat, .int .u32 n.order.toNat, .int .i64 n.step, .bool n.undo, .int .i64 n.code, vk, vd]
def nm (k : Int) : List Nat :=
  if k = 1 then [69, 80, 76, 68] else if k = 2 then [69, 76] else if k = 3 then [69, 76] else if k = 4 then [69, 67] else if k = 6 then [69, 67] else if k = 5 then [69, 84, 67] else if k = 7 then [69, 79, 83, 85, 68]
  else if k = 8 then [69, 79, 83, 85, 67, 68] else if k = 9 then [69, 79, 83, 85] else if k = 10 then [75, 68] else if k = 11 then [75] else if k = 12 then [75] else if k = 13 then [79, 67, 75, 68] else []
def nmS (k : Int) : ByteArray := ⟨((nm k).map UInt8.ofNat).toArray⟩
theorem ite_all {p : Prop} [Decidable p] {a b : List Nat} {f : Nat → Bool} (h : a.all f = true) (k : b.all f = true) : (if p then a else b).all f = true := by
  split <;> assumption
theorem nm_small (k : Int) : ∀ x ∈ nm k, x < 128 := by
  have h : (nm k).all (fun x => decide (x < 128)) = true := by
    unfold nm
    repeat (first | rfl | refine ite_all rfl ?_)
  intro x hx
  simpa using List.all_eq_true.1 h x hx
theorem nmS_size (k : Int) : (nmS k).size = (nm k).length := by simp [nmS, ByteArray.size]
theorem nmS_at (k : Int) (i : Nat) (h : i < (nmS k).size) : ((nmS k)[i]'h).toNat = (nm k).getD i 0 := by
  have h2 : i < (nm k).length := by rw [nmS_size] at h; exact h
  have e : (nmS k)[i]'h = UInt8.ofNat ((nm k)[i]) := by
    show (nmS k).data[i]'_ = _
    simp [nmS]
  rw [e]
  have := nm_small k _ (List.getElem_mem h2)
  simp only [List.getD, List.getElem?_eq_getElem h2, Option.getD_some]
  simp
  omega
theorem nmS_small (k : Int) (i : Nat) (h : i < (nmS k).size) : ((nmS k)[i]'h).toNat < 128 := by
  rw [nmS_at]
  have h2 : i < (nm k).length := by rw [nmS_size] at h; exact h
  simp only [List.getD, List.getElem?_eq_getElem h2, Option.getD_some]
  exact nm_small k _ (List.getElem_mem h2)
theorem ntc_one {m : Nt} {vk vd : Value} (h1 : vk.oneCell' = true) (h2 : vd.oneCell' = true) : ∀ u ∈ ntc m vk vd, u.oneCell' = true := by
  intro u hu
  simp only [ntc, List.mem_cons, List.not_mem_nil, or_false] at hu
  rcases hu with rfl | rfl | rfl | rfl | rfl | rfl | rfl | rfl | rfl | rfl | rfl <;> first | rfl | exact h1 | exact h2
theorem nmS_empty (k : Int) : (nmS k = ⟨#[]⟩) ↔ nm k = [] := by
  simp [nmS]
def wo (n : Nt) (c : Int) : Nt :=
  if c = 69 then { n with epoch := 0#32 } else if c = 80 then { n with old := 0#32 } else if c = 76 then { n with lsn := 0#64 } else if c = 84 then { n with tick := 0#64 } else if c = 79 then { n with order := 0#32 }
  else if c = 83 then { n with step := 0 } else if c = 85 then { n with undo := false } else if c = 67 then { n with code := 0 } else if c = 75 then { n with key := [] } else if c = 68 then { n with data := [] } else n
def woK (vk : Value) (c : Int) : Value := if c = 75 then .slice none 0 0 else vk
def woD (vd : Value) (c : Int) : Value := if c = 68 then .slice none 0 0 else vd
def restTo (n : Nt) (i : Nat) : Nt := ((nm n.kind).take i).foldl (fun m (c : Nat) => wo m (c : Int)) n
theorem restTo_next (n : Nt) (i : Nat) (h : i < (nm n.kind).length) : restTo n (i + 1) = wo (restTo n i) ((nm n.kind).getD i 0 : Nat) := by
  unfold restTo
  rw [List.take_succ_eq_append_getElem h, List.foldl_append]
  simp [List.getD, h]
def rest (n : Nt) : Nt := restTo n (nm n.kind).length
def moreB (m : Nt) : Bool := decide (0 < (m.epoch.toNat : Int)) || (decide (0 < (m.old.toNat : Int)) || (decide (0 < (m.lsn.toNat : Int)) || (decide (0 < (m.tick.toNat : Int)) || (decide (0 < (m.order.toNat : Int)) || (decide (m.step ≠ 0) || (m.undo || (decide (m.code ≠ 0) || (decide (0 < (m.key.length : Int)) || decide (0 < (m.data.length : Int))))))))))
def farB (n : Nt) : Bool := decide (n.step < 0) || (decide (16 ≤ n.step) || (decide (n.code < 0) || (decide (255 < n.code) || (decide (32 < (n.key.length : Int)) || decide (255 < (n.data.length : Int))))))
def noteBad (n : Nt) : Bool := decide (nm n.kind = []) || (moreB (rest n) || (farB n || (decide (10 ≤ n.kind) && (decide (n.kind ≤ 12) && decide ((n.key.length : Int) = 0)))))
def IsSl (v : Value) (n : Nat) : Prop := ∃ ao c, v = .slice ao n c
theorem IsSl.one {v : Value} {n : Nat} (h : IsSl v n) : v.oneCell' = true := by obtain ⟨_, _, rfl⟩ := h; rfl
theorem IsSl.woK {v : Value} {n : Nt} (h : IsSl v n.key.length) (c : Int) : IsSl (woK v c) (wo n c).key.length := by
  by_cases h75 : c = 75
  · subst h75; exact ⟨none, 0, rfl⟩
  · have e : (wo n c).key = n.key := by
      unfold wo
      repeat' split
      all_goals first | rfl | exact absurd ‹_› h75
    rw [Go.SL.woK, if_neg h75, e]; exact h
theorem IsSl.woD {v : Value} {n : Nt} (h : IsSl v n.data.length) (c : Int) : IsSl (woD v c) (wo n c).data.length := by
  by_cases h68 : c = 68
  · subst h68; exact ⟨none, 0, rfl⟩
  · have e : (wo n c).data = n.data := by
      unfold wo
      repeat' split
      all_goals first | rfl | exact absurd ‹_› h68
    rw [Go.SL.woD, if_neg h68, e]; exact h
end Go.SL

set_option linter.unusedVariables false
set_option linter.unusedSimpArgs false
namespace Go.SL
structure Wk where
  what : Int
  n : Int
  name : List (BitVec 8)
deriving DecidableEq
def Wk.z : Wk := ⟨0, 0, []⟩
def wkc (w : Wk) (v : Value) : List Value := [.int .i64 w.what, .int .i64 w.n, v]
def wkGood (w : Wk) : Prop := 1 ≤ w.what ∧ w.what ≤ 6 ∧ 0 ≤ w.n ∧ w.n ≤ 1000000000 ∧ w.name.length ≤ 32
instance (w : Wk) : Decidable (wkGood w) := by unfold wkGood; infer_instance
def wkB (w : Wk) : List (BitVec 8) := [BitVec.ofInt 8 w.what] ++ (beW ((BitVec.ofInt 32 w.n).setWidth 64) 4 ++ tb w.name)
def encB (w : Wk) : List (BitVec 8) := if wkGood w then wkB w else []
def encE (w : Wk) : Int := if wkGood w then 0 else 120
theorem wk_z {w : Wk} {z : Bool} (h : z = true ↔ ¬ wkGood w) : z = !decide (wkGood w) := by
  rw [Bool.eq_iff_iff, h]; simp
theorem enc_good {w : Wk} (h : wkGood w) : encB w = wkB w ∧ encE w = 0 := ⟨if_pos h, if_pos h⟩
theorem enc_bad {w : Wk} (h : ¬ wkGood w) : encB w = [] ∧ encE w = 120 := ⟨if_neg h, if_neg h⟩
theorem wkB_len (w : Wk) : (wkB w).length = 6 + w.name.length := by
  unfold wkB tb
  simp only [List.length_append, List.length_cons, List.length_nil, beW_length]
  omega
theorem encB_len (w : Wk) : (encB w).length ≤ 38 := by
  unfold encB
  split
  · rename_i h
    rw [wkB_len]
    have := h.2.2.2.2
    omega
  · simp
def rW (b : List (BitVec 8)) : Rst := Rst.mk b false
def wkOf (b : List (BitVec 8)) : Wk := ⟨((rW b).u8.toNat : Int), (((rW b).on 1).u32.toNat : Int), (((rW b).on 1).on 4).text⟩
def endW (b : List (BitVec 8)) : Rst := (((rW b).on 1).on 4).onT
def decBad (b : List (BitVec 8)) : Prop := (endW b).sh = true ∨ 0 < (endW b).bs.length ∨ ¬ wkGood (wkOf b)
instance (b : List (BitVec 8)) : Decidable (decBad b) := by unfold decBad; infer_instance
def decW (b : List (BitVec 8)) : Wk := if decBad b then Wk.z else wkOf b
def decE (b : List (BitVec 8)) : Int := if decBad b then 120 else 0
theorem wk_whole {b : List (BitVec 8)} (h : ¬ decBad b) : wkB (wkOf b) = b ∧ wkGood (wkOf b) := by
  have h1 : (endW b).sh = false := by cases e : (endW b).sh with | false => rfl | true => exact absurd (.inl e) h
  have h2 : (endW b).bs = [] := by
    refine List.eq_nil_of_length_eq_zero ?_
    have : ¬ 0 < (endW b).bs.length := fun e => h (.inr (.inl e))
    omega
  have h3 : wkGood (wkOf b) := Classical.byContradiction fun e => h (.inr (.inr e))
  refine ⟨?_, h3⟩
  obtain ⟨s3, e3, _⟩ := Rst.text_whole (r := ((rW b).on 1).on 4) h1
  obtain ⟨s2, e2⟩ := Rst.u32_whole s3
  obtain ⟨s1, e1⟩ := Rst.u8_whole s2
  have e0 : b = (rW b).u8 :: ((rW b).on 1).bs := e1
  rw [show (((rW b).on 1).on 4).onT.bs = [] from h2, List.append_nil] at e3
  have o8 : BitVec.ofInt 8 ((rW b).u8.toNat : Int) = (rW b).u8 := by
    apply BitVec.eq_of_toNat_eq
    rw [BitVec.toNat_ofInt]
    have := ((rW b).u8).isLt
    omega
  have o32 : BitVec.ofInt 32 ((((rW b).on 1).u32).toNat : Int) = ((rW b).on 1).u32 := by
    apply BitVec.eq_of_toNat_eq
    rw [BitVec.toNat_ofInt]
    have := (((rW b).on 1).u32).isLt
    omega
  unfold wkB wkOf
  simp only
  rw [o8, o32, ← e3, ← e2, List.singleton_append]
  exact e0.symm
def fsW (w : Wk) : List Fld := [⟨1, BitVec.ofInt 64 w.what, []⟩, ⟨4, BitVec.ofInt 64 w.n, []⟩, ⟨0, 0#64, w.name⟩]
theorem wlim1 : limF 1 = 256 := by decide
theorem wlim4 : limF 4 = 4294967296 := by decide
theorem wone_1 {x : BitVec 64} (h : x.toNat < 256) : oneF ⟨1, x, []⟩ = ([x.setWidth 8], 0) := by
  have e : beW x 1 = [x.setWidth 8] := by simp [beW]
  rw [← e]
  refine oneF_1b (by simp) (by simp) ?_
  simp only [wlim1, List.length_nil]
  omega
theorem wone_4 {x : BitVec 64} (h : x.toNat < 4294967296) : oneF ⟨4, x, []⟩ = (beW x 4, 0) := by
  refine oneF_1b (by simp) (by simp) ?_
  simp only [wlim4, List.length_nil]
  omega
theorem wone_t {s : List (BitVec 8)} (h : s.length ≤ 255) : oneF ⟨0, 0#64, s⟩ = (tb s, 0) := oneF_0c rfl (by simp) (by show ¬ 255 < s.length; omega)
theorem putL_W {w : Wk} (h : wkGood w) : putL (fsW w) [] = (wkB w, 0) := by
  obtain ⟨h1, h2, h3, h4, h5⟩ := h
  have e1 : (BitVec.ofInt 64 w.what).toNat < 256 := by rw [BitVec.toNat_ofInt]; omega
  have e4 : (BitVec.ofInt 64 w.n).toNat < 4294967296 := by rw [BitVec.toNat_ofInt]; omega
  have w1 : (BitVec.ofInt 64 w.what).setWidth 8 = BitVec.ofInt 8 w.what := by
    apply BitVec.eq_of_toNat_eq
    rw [BitVec.toNat_setWidth, BitVec.toNat_ofInt, BitVec.toNat_ofInt]
    omega
  have w4 : BitVec.ofInt 64 w.n = (BitVec.ofInt 32 w.n).setWidth 64 := by
    apply BitVec.eq_of_toNat_eq
    rw [BitVec.toNat_setWidth, BitVec.toNat_ofInt, BitVec.toNat_ofInt]
    omega
  unfold fsW
  rw [putL_ok (fun h9 => h9 (by rw [wone_1 e1])), putL_ok (fun h9 => h9 (by rw [wone_4 e4])), putL_ok (fun h9 => h9 (by rw [wone_t (by omega)])), wone_1 e1, wone_4 e4, wone_t (by omega), w1, w4]
  unfold putL wkB
  simp only [List.nil_append, List.append_assoc]
theorem wfs_small (w : Wk) (h : w.name.length ≤ 1000000) : ∀ f ∈ fsW w, f.text.length ≤ 1000000 ∧ f.size ≤ 8 := by
  intro f hf
  simp only [fsW, List.mem_cons, List.not_mem_nil, or_false] at hf
  rcases hf with rfl | rfl | rfl
  · exact ⟨by simp, by simp⟩
  · exact ⟨by simp, by simp⟩
  · exact ⟨h, by simp⟩
section
variable {b : List (BitVec 8)}
theorem wbad_a (h : (if (endW b).sh then (10 : Int) else if 0 < (endW b).bs.length then 11 else 0) ≠ 0) : true = decide (decBad b) := by
  refine (decide_eq_true ?_).symm
  by_cases h1 : (endW b).sh = true
  · exact .inl h1
  · by_cases h2 : 0 < (endW b).bs.length
    · exact .inr (.inl h2)
    · rw [if_neg h1, if_neg h2] at h
      exact absurd rfl h
theorem wbad_b (h2 : ¬ (if (endW b).sh then (10 : Int) else if 0 < (endW b).bs.length then 11 else 0) ≠ 0) : decide (encE (wkOf b) ≠ 0) = decide (decBad b) := by
  have h3 : ¬ (endW b).sh = true := fun e => h2 (by rw [if_pos e]; decide)
  have h4 : ¬ 0 < (endW b).bs.length := fun e => h2 (by rw [if_neg h3, if_pos e]; decide)
  rw [Bool.eq_iff_iff, decide_eq_true_eq, decide_eq_true_eq]
  unfold decBad
  by_cases hc : wkGood (wkOf b)
  · rw [(enc_good hc).2]
    exact ⟨fun e => absurd rfl e, fun e => by rcases e with e | e | e; exact absurd e h3; exact absurd e h4; exact absurd hc e⟩
  · rw [(enc_bad hc).2]
    exact ⟨fun _ => .inr (.inr hc), fun _ => by decide⟩
end
theorem decW_name (b : List (BitVec 8)) : (decW b).name.length ≤ 32 := by
  unfold decW
  split
  · exact Nat.zero_le _
  · rename_i h
    exact (wk_whole h).2.2.2.2.2
end Go.SL

set_option linter.unusedVariables false
set_option linter.unusedSimpArgs false
namespace Go.SL
structure Kp where
  order : BitVec 32
  step : Int
  undo : Bool
  asked : List (BitVec 8)
  code : Int
  reply : List (BitVec 8)
deriving DecidableEq
def kc (k : Kp) (va vr : Value) : List Value := [.int .u32 k.order.toNat, .int .i64 k.step, .bool k.undo, va, .int .i64 k.code, vr]
theorem kc_len (k : Kp) (va vr : Value) : (kc k va vr).length = 6 := rfl
def Kp.z : Kp := ⟨0#32, 0, false, [], 0, []⟩
def keyc (o : BitVec 32) (s : Int) (u : Bool) : List Value := [.int .u32 o.toNat, .int .i64 s, .bool u]
def numb (o : BitVec 32) (s : Int) (u : Bool) : Nat := o.toNat * 256 + s.toNat * 2 + (if u then 1 else 0)
def Kp.num (k : Kp) : Nat := numb k.order k.step k.undo
theorem numB_of {o : BitVec 32} {s : Int} (h0 : 0 ≤ s) (h : s < 16) : ((o.setWidth 64 <<< 8) ||| (BitVec.ofInt 64 s <<< 1)).toNat = o.toNat * 256 + s.toNat * 2 := by
  obtain ⟨n, rfl⟩ := Int.eq_ofNat_of_zero_le h0
  have hn : n < 16 := by omega
  have ho := o.isLt
  have e1 : (BitVec.ofInt 64 (n : Int) <<< 1).toNat = n * 2 := by
    simp [BitVec.toNat_shiftLeft, Nat.shiftLeft_eq]
    omega
  have e2 : (o.setWidth 64 <<< 8).toNat = 2 ^ 8 * o.toNat := by
    simp [BitVec.toNat_shiftLeft, Nat.shiftLeft_eq]
    omega
  rw [BitVec.toNat_or, e1, e2, ← Nat.two_pow_add_eq_or_of_lt (by omega)]
  simp
  omega
theorem numB_one {x : BitVec 64} (h : x.toNat % 2 = 0) : (x ||| 1#64).toNat = x.toNat + 1 := by
  have e : x.toNat = 2 ^ 1 * (x.toNat / 2) := by omega
  rw [BitVec.toNat_or, e]
  have := Nat.two_pow_add_eq_or_of_lt (i := 1) (b := 1) (by omega) (x.toNat / 2)
  simpa using this.symm
theorem numB_u {o : BitVec 32} {s : Int} (h0 : 0 ≤ s) (h : s < 16) : (((o.setWidth 64 <<< 8) ||| (BitVec.ofInt 64 s <<< 1)) ||| 1#64).toNat = o.toNat * 256 + s.toNat * 2 + 1 := by
  rw [numB_one (by rw [numB_of h0 h]; omega), numB_of h0 h]
def rightP (k : Kp) : Prop := 0 < k.order.toNat ∧ 0 ≤ k.step ∧ k.step < 16 ∧ k.asked.length ≤ 255 ∧ k.reply.length ≤ 255 ∧ (k.code = 1 ∨ k.code = 2)
instance (k : Kp) : Decidable (rightP k) := by unfold rightP; infer_instance
def chk (ks : List Kp) : Prop := ks.length ≤ 200 ∧ (∀ k ∈ ks, rightP k) ∧ ks.Pairwise fun a b => a.num < b.num
instance (ks : List Kp) : Decidable (chk ks) := by unfold chk; infer_instance
theorem chk_nil : chk [] := ⟨Nat.zero_le _, fun _ h => absurd h List.not_mem_nil, List.Pairwise.nil⟩
theorem chk_take0 (ks : List Kp) : chk (ks.take 0) := by rw [List.take_zero]; exact chk_nil
theorem chk_right {ks : List Kp} (h : chk ks) {i : Nat} (hi : i < ks.length) : rightP ks[i] := h.2.1 _ (List.getElem_mem hi)
theorem chk_lt {ks : List Kp} (h : chk ks) {i j : Nat} (hij : i < j) (hj : j < ks.length) : (ks[i]'(by omega)).num < ks[j].num := List.pairwise_iff_getElem.1 h.2.2 i j (by omega) hj hij
theorem chk_step {ks : List Kp} {i : Nat} (h : chk (ks.take i)) (hl : ks.length ≤ 200) (hi : i < ks.length) (hr : rightP ks[i]) (ho : i = 0 ∨ (ks[i - 1]'(by omega)).num < ks[i].num) : chk (ks.take (i + 1)) := by
  rw [List.take_succ_eq_append_getElem hi]
  refine ⟨by simp; omega, fun k hk => ?_, List.pairwise_append.2 ⟨h.2.2, List.pairwise_singleton _ _, fun x hx y hy => ?_⟩⟩
  · rcases List.mem_append.1 hk with hk | hk
    · exact h.2.1 k hk
    · rw [List.mem_singleton.1 hk]; exact hr
  · rw [List.mem_singleton.1 hy]
    obtain ⟨j, hj, rfl⟩ := List.mem_iff_getElem.1 hx
    rw [List.length_take] at hj
    rcases ho with rfl | ho
    · omega
    · by_cases e : j = i - 1
      · subst e; simpa using ho
      · have := chk_lt h (i := j) (j := i - 1) (by omega) (by rw [List.length_take]; omega)
        simp only [List.getElem_take] at this ⊢
        omega
theorem chk_adj {ks : List Kp} (h : chk ks) {i : Nat} (h0 : 0 < i) (hi : i < ks.length) : (ks[i - 1]'(by omega)).num < ks[i].num := chk_lt h (by omega) hi
def pos (ks : List Kp) (n : Nat) : Nat := (ks.takeWhile fun k => decide (k.num < n)).length
def getK (ks : List Kp) (n : Nat) : Option Kp := ks.find? fun k => decide (k.num = n)
theorem pos_le (ks : List Kp) (n : Nat) : pos ks n ≤ ks.length := (List.takeWhile_sublist _).length_le
theorem pos_yes {k : Kp} {ks : List Kp} {n : Nat} (h : k.num < n) : pos (k :: ks) n = pos ks n + 1 := by
  unfold pos
  rw [List.takeWhile_cons_of_pos (by simpa using h), List.length_cons]
theorem pos_no {k : Kp} {ks : List Kp} {n : Nat} (h : ¬ k.num < n) : pos (k :: ks) n = 0 := by
  unfold pos
  rw [List.takeWhile_cons_of_neg (by simpa using h)]
  rfl
theorem pos_eq {n : Nat} : ∀ {ks : List Kp} {i : Nat}, i ≤ ks.length → (∀ t (h : t < ks.length), t < i → ks[t].num < n) → (∀ (h : i < ks.length), n ≤ ks[i].num) → pos ks n = i
  | [], i, h, _, _ => by simp at h; subst h; rfl
  | k :: ks, 0, _, _, h2 => pos_no (by have := h2 (by simp); simp only [List.getElem_cons_zero] at this; omega)
  | k :: ks, i + 1, h, h1, h2 => by
    have h0 := h1 0 (by simp) (by omega)
    simp only [List.getElem_cons_zero] at h0
    have ih := pos_eq (n := n) (ks := ks) (i := i) (by simpa using h) (fun t ht hti => by have := h1 (t + 1) (by simpa using ht) (by omega); rwa [List.getElem_cons_succ] at this) (fun hi => by have := h2 (by simpa using hi); rwa [List.getElem_cons_succ] at this)
    rw [pos_yes h0, ih]
theorem pos_below {n : Nat} : ∀ {ks : List Kp} {t : Nat} (h : t < ks.length), t < pos ks n → ks[t].num < n
  | k :: ks, t, h, ht => by
    by_cases e : k.num < n
    · cases t with
      | zero => exact e
      | succ t =>
        rw [pos_yes e] at ht
        exact pos_below (ks := ks) (by simpa using h) (by omega)
    · rw [pos_no e] at ht; omega
theorem pos_above {n : Nat} : ∀ {ks : List Kp} {t : Nat} (h : t < ks.length), t = pos ks n → n ≤ ks[t].num
  | k :: ks, t, h, ht => by
    by_cases e : k.num < n
    · rw [pos_yes e] at ht
      subst ht
      exact pos_above (ks := ks) (by simpa using h) rfl
    · rw [pos_no e] at ht
      subst ht
      simpa using e
theorem getK_some {ks : List Kp} {n : Nat} {k : Kp} (h : getK ks n = some k) : k ∈ ks ∧ k.num = n := by
  unfold getK at h
  exact ⟨List.mem_of_find?_eq_some h, by simpa using List.find?_some h⟩
theorem getK_none {ks : List Kp} {n : Nat} (h : getK ks n = none) : ∀ k ∈ ks, k.num ≠ n := fun k hk e => by
  have := List.find?_eq_none.1 h k hk
  simp at this
  exact this e
theorem getK_pos {ks : List Kp} (h : chk ks) {n : Nat} : (getK ks n = none ∧ ∀ (hi : pos ks n < ks.length), ks[pos ks n].num ≠ n) ∨ ∃ hi : pos ks n < ks.length, ks[pos ks n].num = n ∧ getK ks n = some ks[pos ks n] := by
  cases e : getK ks n with
  | none => exact .inl ⟨rfl, fun hi => getK_none e _ (List.getElem_mem _)⟩
  | some k =>
    right
    obtain ⟨hk, hn⟩ := getK_some e
    obtain ⟨i, hi, rfl⟩ := List.mem_iff_getElem.1 hk
    have : pos ks n = i := pos_eq (by omega) (fun t ht hti => by have := chk_lt h hti hi; omega) (fun _ => by omega)
    subst this
    exact ⟨hi, hn, rfl⟩
def insAt (ks : List Kp) (i : Nat) (k : Kp) : List Kp := ks.take i ++ k :: ks.drop i
theorem insAt_len {ks : List Kp} {i : Nat} (k : Kp) (h : i ≤ ks.length) : (insAt ks i k).length = ks.length + 1 := by
  simp [insAt]
  omega
theorem Gr.get {A B : List Ck} {c : Ck} (h : ∀ x ∈ A, x ∈ B) (hm : c ∈ A) : c ∈ B := h c hm
inductive KVs (H : List Ck) : List Value → List Kp → Prop
  | nil : KVs H [] []
  | cons {k : Kp} {va vr : Value} {cs : List Value} {ks : List Kp} : Bs va k.asked H → Bs vr k.reply H → KVs H cs ks → KVs H (kc k va vr ++ cs) (k :: ks)
theorem KVs.len {H : List Ck} {cs : List Value} {ks : List Kp} (h : KVs H cs ks) : cs.length = ks.length * 6 := by
  induction h with
  | nil => rfl
  | cons _ _ _ ih => simp only [List.length_append, kc_len, ih, List.length_cons]; omega
theorem KVs.mono {A B : List Ck} {cs : List Value} {ks : List Kp} (h : KVs A cs ks) (s : ∀ c ∈ A, c ∈ B) : KVs B cs ks := by
  induction h with
  | nil => exact .nil
  | cons h1 h2 _ ih => exact .cons (h1.mono s) (h2.mono s) ih
theorem KVs.at {H : List Ck} {cs : List Value} {ks : List Kp} (h : KVs H cs ks) : ∀ (i : Nat) (hi : i < ks.length), ∃ va vr, (cs.drop (i * 6)).take 6 = kc ks[i] va vr ∧ Bs va ks[i].asked H ∧ Bs vr ks[i].reply H := by
  induction h with
  | nil => intro i hi; simp at hi
  | @cons k va vr cs ks h1 h2 h3 ih =>
    intro i hi
    cases i with
    | zero => exact ⟨va, vr, by simp [List.take_append, kc_len]; rfl, h1, h2⟩
    | succ i =>
      obtain ⟨va', vr', g1, g2, g3⟩ := ih i (by simpa using hi)
      refine ⟨va', vr', ?_, g2, g3⟩
      rw [show (i + 1) * 6 = (kc k va vr).length + i * 6 by rw [kc_len]; omega, List.drop_length_add_append]
      exact g1
def KV (v : Value) (ks : List Kp) (H : List Ck) : Prop := ∃ cs, Rs v ks.length cs H ∧ KVs H cs ks
theorem KV.mono {v : Value} {ks : List Kp} {A B : List Ck} (h : KV v ks A) (s : ∀ c ∈ A, c ∈ B) : KV v ks B := by
  obtain ⟨cs, h1, h2⟩ := h
  exact ⟨cs, h1.mono s, h2.mono s⟩
theorem KV.form {v : Value} {ks : List Kp} {A : List Ck} (h : KV v ks A) : ∃ ao cap, v = .slice ao ks.length cap ∧ ks.length ≤ cap := by
  obtain ⟨cs, h1, _⟩ := h
  exact h1.form
theorem IsSl.of {v : Value} {l : List (BitVec 8)} {A : List Ck} (h : Bs v l A) : IsSl v l.length := by
  obtain ⟨ao, c, rfl, _⟩ := h.form
  exact ⟨ao, c, rfl⟩
inductive Kts (T : TypeId) : List Value → List Kp → List Ck → Prop
  | nil : Kts T [] [] []
  | cons {k : Kp} {va vr : Value} {A B : List Ck} {cs : List Value} {ks : List Kp} {D : List Ck} : Ob T va k.asked A → Ob T vr k.reply B → Kts T cs ks D → Kts T (kc k va vr ++ cs) (k :: ks) (A ++ (B ++ D))
theorem kc_one {k : Kp} {va vr : Value} (h1 : va.oneCell' = true) (h2 : vr.oneCell' = true) : ∀ u ∈ kc k va vr, u.oneCell' = true := by
  intro u hu
  simp only [kc, List.mem_cons, List.not_mem_nil, or_false] at hu
  rcases hu with rfl | rfl | rfl | rfl | rfl | rfl <;> first | rfl | exact h1 | exact h2
theorem Kts.one {T : TypeId} {cs : List Value} {ks : List Kp} {D : List Ck} (h : Kts T cs ks D) : ∀ u ∈ cs, u.oneCell' = true := by
  induction h with
  | nil => intro u hu; cases hu
  | cons h1 h2 _ ih =>
    intro u hu
    rcases List.mem_append.1 hu with hu | hu
    · exact kc_one h1.one_cell h2.one_cell u hu
    · exact ih u hu
theorem Kts.append {T : TypeId} {cs cs' : List Value} {ks ks' : List Kp} {D D' : List Ck} (h : Kts T cs ks D) (k : Kts T cs' ks' D') : Kts T (cs ++ cs') (ks ++ ks') (D ++ D') := by
  induction h with
  | nil => exact k
  | cons h1 h2 _ ih =>
    rw [List.append_assoc, List.cons_append, List.append_assoc, List.append_assoc]
    exact .cons h1 h2 ih
theorem Kts.one' {T : TypeId} {k : Kp} {va vr : Value} {A B : List Ck} (h1 : Ob T va k.asked A) (h2 : Ob T vr k.reply B) : Kts T (kc k va vr) [k] (A ++ B) := by
  have := Kts.cons h1 h2 Kts.nil
  simpa using this
theorem Kts.split {T : TypeId} {cs : List Value} {ks : List Kp} {D : List Ck} (h : Kts T cs ks D) : ∀ (i : Nat), i ≤ ks.length → ∃ D1 D2, D = D1 ++ D2 ∧ Kts T (cs.take (i * 6)) (ks.take i) D1 ∧ Kts T (cs.drop (i * 6)) (ks.drop i) D2 := by
  induction h with
  | nil => intro i hi; simp at hi; subst hi; exact ⟨[], [], rfl, .nil, .nil⟩
  | @cons k va vr A B cs ks D h1 h2 h3 ih =>
    intro i hi
    cases i with
    | zero => exact ⟨[], A ++ (B ++ D), rfl, .nil, .cons h1 h2 h3⟩
    | succ i =>
      obtain ⟨D1, D2, rfl, g1, g2⟩ := ih i (by simpa using hi)
      refine ⟨A ++ (B ++ D1), D2, by simp, ?_, ?_⟩
      · rw [show (i + 1) * 6 = (kc k va vr).length + i * 6 by rw [kc_len]; omega, List.take_length_add_append, List.take_succ_cons]
        exact .cons h1 h2 g1
      · rw [show (i + 1) * 6 = (kc k va vr).length + i * 6 by rw [kc_len]; omega, List.drop_length_add_append, List.drop_succ_cons]
        exact g2
theorem Kts.ins {T : TypeId} {cs : List Value} {ks : List Kp} {D : List Ck} (h : Kts T cs ks D) {i : Nat} (hi : i ≤ ks.length) {k : Kp} {va vr : Value} {A B : List Ck} (h1 : Ob T va k.asked A) (h2 : Ob T vr k.reply B) :
    ∃ D', Kts T (cs.take (i * 6) ++ (kc k va vr ++ cs.drop (i * 6))) (insAt ks i k) D' ∧ D'.Perm (D ++ (A ++ B)) := by
  obtain ⟨D1, D2, rfl, g1, g2⟩ := h.split i hi
  refine ⟨_, g1.append (.cons h1 h2 g2), ?_⟩
  classical
  exact List.perm_iff_count.2 fun q => by simp only [List.count_append]; omega
theorem Kts.views {T : TypeId} {cs : List Value} {ks : List Kp} {D : List Ck} (h : Kts T cs ks D) : KVs D cs ks := by
  induction h with
  | nil => exact .nil
  | @cons k va vr A B cs ks D h1 h2 h3 ih => exact .cons (h1.bs.mono fun c hc => List.mem_append_left _ hc) (h2.bs.mono fun c hc => List.mem_append_right _ (List.mem_append_left _ hc)) (ih.mono fun c hc => List.mem_append_right _ (List.mem_append_right _ hc))
def FAt (T8 TK : TypeId) (v : Value) (ks : List Kp) (H : List Ck) : Prop := ∃ cs C D, Own v ks.length cs TK 6 C ∧ Kts T8 cs ks D ∧ H = C ++ D
theorem FAt.kv {T8 TK : TypeId} {v : Value} {ks : List Kp} {H : List Ck} (h : FAt T8 TK v ks H) : KV v ks H := by
  obtain ⟨cs, C, D, h1, h2, rfl⟩ := h
  exact ⟨cs, h1.rs.mono fun c hc => List.mem_append_left _ hc, h2.views.mono fun c hc => List.mem_append_right _ hc⟩
theorem FAt.nil (T8 TK : TypeId) : FAt T8 TK (.slice none 0 0) [] [] := ⟨[], [], [], Own.nil _ _, .nil, rfl⟩
theorem FAt.form {T8 TK : TypeId} {v : Value} {ks : List Kp} {H : List Ck} (h : FAt T8 TK v ks H) : ∃ ao c, v = .slice ao ks.length c := by
  obtain ⟨cs, C, D, h1, h2, rfl⟩ := h
  obtain ⟨ao, c, rfl, _⟩ := h1.form
  exact ⟨ao, c, rfl⟩
def findF (ks : List Kp) (o : BitVec 32) (s : Int) (u : Bool) : Option Kp := if chk ks ∧ 0 ≤ s ∧ s < 16 then getK ks (numb o s u) else none
def askBad (ks : List Kp) (n : Nt) : Prop := ¬ chk ks ∨ n.kind ≠ 7 ∨ noteBad n = true ∨ n.epoch = 0#32 ∨ n.order = 0#32
instance (ks : List Kp) (n : Nt) : Decidable (askBad ks n) := by unfold askBad; infer_instance
def askK (e : BitVec 32) (ks : List Kp) (n : Nt) : Int × Kp × Int :=
  if askBad ks n then (0, Kp.z, 2)
  else if n.epoch.toNat < e.toNat then (0, Kp.z, 72)
  else match getK ks (numb n.order n.step n.undo) with
    | some k => if k.asked = n.data then (2, k, 0) else (0, Kp.z, 80)
    | none => match getK ks (numb n.order n.step (!n.undo)) with
      | some k => if n.undo = false then (3, Kp.z, 0) else if k.code = 2 then (4, Kp.z, 0) else (1, Kp.z, 0)
      | none => if n.undo = true then (4, Kp.z, 0) else (1, Kp.z, 0)
def stepK (n : Nt) (code : Int) (reply : List (BitVec 8)) : Kp := ⟨n.order, n.step, n.undo, n.data, code, reply⟩
def keepK (e : BitVec 32) (ks : List Kp) (n : Nt) (code : Int) (reply : List (BitVec 8)) : BitVec 32 × List Kp × Int :=
  if (askK e ks n).2.2 ≠ 0 then (0#32, [], (askK e ks n).2.2)
  else if ¬ rightP (stepK n code reply) ∨ ((askK e ks n).1 = 3 ∧ code ≠ 2) ∨ ((askK e ks n).1 = 4 ∧ code ≠ 1) then (0#32, [], 2)
  else if (askK e ks n).1 = 2 then (0#32, [], 81)
  else if 200 ≤ ks.length then (0#32, [], 5)
  else (n.epoch, insAt ks (pos ks (stepK n code reply).num) (stepK n code reply), 0)
def seeK (e : BitVec 32) (ks : List Kp) (x : BitVec 32) : BitVec 32 × List Kp × Int :=
  if ¬ chk ks then (0#32, [], 2) else if x.toNat < e.toNat then (0#32, [], 72) else (x, ks, 0)
theorem noteBad_step {n : Nt} (h : noteBad n = false) : 0 ≤ n.step ∧ n.step < 16 ∧ n.data.length ≤ 255 := by
  have h2 : farB n = false := by
    cases e : farB n
    · rfl
    · rw [noteBad, e] at h; simp at h
  simp only [farB, Bool.or_eq_false_iff, decide_eq_false_iff_not] at h2
  omega
theorem findF_ok {ks : List Kp} {o : BitVec 32} {s : Int} {u : Bool} (h : chk ks) (h0 : 0 ≤ s) (h1 : s < 16) : findF ks o s u = getK ks (numb o s u) := if_pos ⟨h, h0, h1⟩
theorem findF_no {ks : List Kp} {o : BitVec 32} {s : Int} {u : Bool} (h : ¬ (chk ks ∧ 0 ≤ s ∧ s < 16)) : findF ks o s u = none := if_neg h
section
variable {e : BitVec 32} {ks : List Kp} {n : Nt}
theorem askK_arg (h : askBad ks n) : askK e ks n = (0, Kp.z, 2) := if_pos h
theorem askK_old (h : ¬ askBad ks n) (h2 : n.epoch.toNat < e.toNat) : askK e ks n = (0, Kp.z, 72) := by
  unfold askK; rw [if_neg h, if_pos h2]
theorem askK_again (h : ¬ askBad ks n) (h2 : ¬ n.epoch.toNat < e.toNat) {k : Kp} (hk : getK ks (numb n.order n.step n.undo) = some k) (ha : k.asked = n.data) : askK e ks n = (2, k, 0) := by
  unfold askK; rw [if_neg h, if_neg h2]; simp only [hk, ha, if_true]
theorem askK_clash (h : ¬ askBad ks n) (h2 : ¬ n.epoch.toNat < e.toNat) {k : Kp} (hk : getK ks (numb n.order n.step n.undo) = some k) (ha : k.asked ≠ n.data) : askK e ks n = (0, Kp.z, 80) := by
  unfold askK; rw [if_neg h, if_neg h2]; simp only [hk, if_neg ha]
theorem askK_refuse (h : ¬ askBad ks n) (h2 : ¬ n.epoch.toNat < e.toNat) (hk : getK ks (numb n.order n.step n.undo) = none) {k : Kp} (hk2 : getK ks (numb n.order n.step (!n.undo)) = some k) (hu : n.undo = false) : askK e ks n = (3, Kp.z, 0) := by
  unfold askK; rw [if_neg h, if_neg h2]; simp only [hk, hk2, if_pos hu]
theorem askK_undone (h : ¬ askBad ks n) (h2 : ¬ n.epoch.toNat < e.toNat) (hk : getK ks (numb n.order n.step n.undo) = none) {k : Kp} (hk2 : getK ks (numb n.order n.step (!n.undo)) = some k) (hu : n.undo = true) : askK e ks n = (if k.code = 2 then (4, Kp.z, 0) else (1, Kp.z, 0)) := by
  unfold askK; rw [if_neg h, if_neg h2]; simp only [hk, hk2, if_neg (show ¬ n.undo = false by rw [hu]; decide)]
theorem askK_new (h : ¬ askBad ks n) (h2 : ¬ n.epoch.toNat < e.toNat) (hk : getK ks (numb n.order n.step n.undo) = none) (hk2 : getK ks (numb n.order n.step (!n.undo)) = none) : askK e ks n = (if n.undo = true then (4, Kp.z, 0) else (1, Kp.z, 0)) := by
  unfold askK; rw [if_neg h, if_neg h2]; simp only [hk, hk2]
theorem askK_two (h : ¬ askBad ks n) (h2 : ¬ n.epoch.toNat < e.toNat) (hk : getK ks (numb n.order n.step n.undo) = none) {g : Option Kp} (hg : g = getK ks (numb n.order n.step (!n.undo))) :
    askK e ks n = if n.undo = false ∧ g.isSome = true then (3, Kp.z, 0) else if n.undo = true ∧ (g.isSome = false ∨ (g.getD Kp.z).code = 2) then (4, Kp.z, 0) else (1, Kp.z, 0) := by
  cases g with
  | none =>
    rw [askK_new h h2 hk hg.symm]
    simp
  | some k =>
    cases hu : n.undo with
    | false => rw [askK_refuse h h2 hk hg.symm hu]; simp
    | true => rw [askK_undone h h2 hk hg.symm hu]; simp
theorem askK_ok (h : (askK e ks n).2.2 = 0) : ¬ askBad ks n ∧ ¬ n.epoch.toNat < e.toNat := by
  refine ⟨fun hb => ?_, fun hb => ?_⟩
  · rw [askK_arg hb] at h; exact absurd h (by decide)
  · by_cases h2 : askBad ks n
    · rw [askK_arg h2] at h; exact absurd h (by decide)
    · rw [askK_old h2 hb] at h; exact absurd h (by decide)
theorem good_chk (h : ¬ askBad ks n) : chk ks := Classical.byContradiction fun h2 => h (.inl h2)
end
def keepBad (q : Int × Kp × Int) (k : Kp) : Prop := ¬ rightP k ∨ (q.1 = 3 ∧ k.code ≠ 2) ∨ (q.1 = 4 ∧ k.code ≠ 1)
instance (q : Int × Kp × Int) (k : Kp) : Decidable (keepBad q k) := by unfold keepBad; infer_instance
section
variable {e : BitVec 32} {ks : List Kp} {n : Nt} {code : Int} {reply : List (BitVec 8)}
theorem keepK_err (h : (askK e ks n).2.2 ≠ 0) : keepK e ks n code reply = (0#32, [], (askK e ks n).2.2) := if_pos h
theorem keepK_bad (h : ¬ (askK e ks n).2.2 ≠ 0) (h2 : keepBad (askK e ks n) (stepK n code reply)) : keepK e ks n code reply = (0#32, [], 2) := by
  unfold keepK; rw [if_neg h]; exact if_pos h2
theorem keepK_twice (h : ¬ (askK e ks n).2.2 ≠ 0) (h2 : ¬ keepBad (askK e ks n) (stepK n code reply)) (h3 : (askK e ks n).1 = 2) : keepK e ks n code reply = (0#32, [], 81) := by
  unfold keepK; rw [if_neg h]; exact (if_neg h2).trans (if_pos h3)
theorem keepK_full (h : ¬ (askK e ks n).2.2 ≠ 0) (h2 : ¬ keepBad (askK e ks n) (stepK n code reply)) (h3 : ¬ (askK e ks n).1 = 2) (h4 : 200 ≤ ks.length) : keepK e ks n code reply = (0#32, [], 5) := by
  unfold keepK; rw [if_neg h]; exact (if_neg h2).trans ((if_neg h3).trans (if_pos h4))
theorem keepK_ok (h : ¬ (askK e ks n).2.2 ≠ 0) (h2 : ¬ keepBad (askK e ks n) (stepK n code reply)) (h3 : ¬ (askK e ks n).1 = 2) (h4 : ¬ 200 ≤ ks.length) : keepK e ks n code reply = (n.epoch, insAt ks (pos ks (stepK n code reply).num) (stepK n code reply), 0) := by
  unfold keepK; rw [if_neg h]; exact (if_neg h2).trans ((if_neg h3).trans (if_neg h4))
end
end Go.SL

set_option linter.unusedVariables false
set_option linter.unusedSimpArgs false
namespace Go.SL
variable {P : Program} {l : Sl} {d : Option Nat} {ty : TypeId} {pos : String} {aft : Array Edge} {g : Option (Nat × Bool)}
theorem lt_spec : ∀ a b : List UInt8, (Go.Lib.compareBytes a b < 0) ↔ Op.bytesLess a b = true
  | [], [] => by simp [Go.Lib.compareBytes, Op.bytesLess]
  | [], _ :: _ => by simp [Go.Lib.compareBytes, Op.bytesLess]
  | _ :: _, [] => by simp [Go.Lib.compareBytes, Op.bytesLess]
  | a :: x, b :: y => by
    have ih := lt_spec x y
    simp only [Go.Lib.compareBytes, Op.bytesLess, Bool.or_eq_true, Bool.and_eq_true, decide_eq_true_eq, beq_iff_eq]
    by_cases h : a < b
    · simp [h]
    · by_cases h2 : b < a
      · have hne : a ≠ b := fun e => by subst e; exact h h2
        simp [h, h2, hne]
      · have : a = b := UInt8.le_antisymm (UInt8.not_lt.1 h2) (UInt8.not_lt.1 h)
        subst this
        simp [h, ih]
theorem bl_irrefl : ∀ a : List UInt8, Op.bytesLess a a = false
  | [] => rfl
  | a :: x => by simp [Op.bytesLess, bl_irrefl x, UInt8.lt_irrefl]
theorem bl_trans : ∀ a b c : List UInt8, Op.bytesLess a b = true → Op.bytesLess b c = true → Op.bytesLess a c = true
  | _, [], _, h, _ => by simp [Op.bytesLess] at h
  | _, _ :: _, [], _, h => by simp [Op.bytesLess] at h
  | [], _ :: _, _ :: _, _, _ => by simp [Op.bytesLess]
  | a :: x, b :: y, c :: z, h1, h2 => by
    simp only [Op.bytesLess, Bool.or_eq_true, Bool.and_eq_true, decide_eq_true_eq, beq_iff_eq] at *
    rcases h1 with h1 | ⟨rfl, h1⟩
    · rcases h2 with h2 | ⟨rfl, h2⟩
      · exact .inl (UInt8.lt_trans h1 h2)
      · exact .inl h1
    · rcases h2 with h2 | ⟨rfl, h2⟩
      · exact .inl h2
      · exact .inr ⟨rfl, bl_trans x y z h1 h2⟩
theorem bl_tri : ∀ a b : List UInt8, Op.bytesLess a b = true ∨ a = b ∨ Op.bytesLess b a = true
  | [], [] => by simp
  | [], _ :: _ => by simp [Op.bytesLess]
  | _ :: _, [] => by simp [Op.bytesLess]
  | a :: x, b :: y => by
    simp only [Op.bytesLess, Bool.or_eq_true, Bool.and_eq_true, decide_eq_true_eq, beq_iff_eq, List.cons.injEq]
    by_cases h : a < b
    · exact .inl (.inl h)
    · by_cases h2 : b < a
      · exact .inr (.inr (.inl h2))
      · have : a = b := UInt8.le_antisymm (UInt8.not_lt.1 h2) (UInt8.not_lt.1 h)
        subst this
        rcases bl_tri x y with h3 | h3 | h3
        · exact .inl (.inr ⟨rfl, h3⟩)
        · exact .inr (.inl ⟨rfl, h3⟩)
        · exact .inr (.inr (.inr ⟨rfl, h3⟩))
def sLt (a b : ByteArray) : Bool := Op.bytesLess a.data.toList b.data.toList
theorem sLt_irrefl (a : ByteArray) : sLt a a = false := bl_irrefl _
theorem sLt_trans {a b c : ByteArray} (h1 : sLt a b = true) (h2 : sLt b c = true) : sLt a c = true := bl_trans _ _ _ h1 h2
theorem sLt_tri (a b : ByteArray) : sLt a b = true ∨ a = b ∨ sLt b a = true := by
  rcases bl_tri a.data.toList b.data.toList with h | h | h
  · exact .inl h
  · refine .inr (.inl ?_)
    cases a; cases b
    simp only at h
    congr 1
    exact Array.ext' h
  · exact .inr (.inr h)
def cmpS (a b : ByteArray) : Int := Go.Lib.compareBytes a.data.toList b.data.toList
theorem cmpS_lt (a b : ByteArray) : (cmpS a b < 0) ↔ sLt a b = true := lt_spec _ _
end Go.SL

set_option linter.unusedVariables false
set_option linter.unusedSimpArgs false
set_option linter.unusedSectionVars false
namespace Go.SL
section
variable {ρ κ : Type} [DecidableEq κ] (key : ρ → κ)
def findK (L : List ρ) (k : κ) : Option ρ := L.find? fun r => decide (k = key r)
def putK (L : List ρ) (r : ρ) : List ρ := if (findK key L (key r)).isSome then L.map (fun x => if key r = key x then r else x) else L ++ [r]
def delK (L : List ρ) (k : κ) : List ρ := L.filter fun r => decide (k ≠ key r)
def kvs (enc : ρ → Value) (L : List ρ) : List (κ × Value) := L.map fun r => (key r, enc r)
variable {key}
theorem findK_mem {L : List ρ} {k : κ} {r : ρ} (h : findK key L k = some r) : r ∈ L ∧ key r = k := by
  have h1 := List.mem_of_find?_eq_some h
  have h2 := List.find?_some h
  exact ⟨h1, by simpa using (of_decide_eq_true h2).symm⟩
theorem findK_none {L : List ρ} {k : κ} (h : findK key L k = none) : ∀ r ∈ L, key r ≠ k := by
  intro r hr e
  have := List.find?_eq_none.1 h r hr
  simp [e] at this
theorem findK_of {L : List ρ} (hn : (L.map key).Nodup) {r : ρ} (hr : r ∈ L) : findK key L (key r) = some r := by
  induction L with
  | nil => cases hr
  | cons x L ih =>
    simp only [List.map_cons, List.nodup_cons] at hn
    rcases List.mem_cons.1 hr with rfl | hr
    · simp [findK]
    · have hne : key r ≠ key x := fun e => hn.1 (List.mem_map.2 ⟨r, hr, e⟩)
      unfold findK
      rw [List.find?_cons_of_neg (by simpa using hne)]
      exact ih hn.2 hr
theorem getG_kvs (enc : ρ → Value) (L : List ρ) (k : κ) : getG (kvs key enc L) k = (findK key L k).map enc := by
  induction L with
  | nil => rfl
  | cons r L ih =>
    by_cases h : k = key r
    · simp [getG, kvs, findK, h]
    · simp only [getG, kvs, findK, List.map_cons] at *
      rw [List.find?_cons_of_neg (by simpa using h), List.find?_cons_of_neg (by simpa using h)]
      exact ih
theorem setG_kvs (enc : ρ → Value) (L : List ρ) (r : ρ) (k : κ) (v : Value) (hk : k = key r) (hv : v = enc r) : setG (kvs key enc L) k v = kvs key enc (putK key L r) := by
  subst hk hv
  unfold setG putK
  rw [getG_kvs]
  simp only [Option.isSome_map]
  split
  · simp only [kvs, List.map_map]
    apply List.map_congr_left
    intro x _
    simp only [Function.comp]
    by_cases h : key r = key x
    · simp [h]
    · simp [h]
  · simp [kvs]
theorem delG_kvs (enc : ρ → Value) (L : List ρ) (k : κ) : delG (kvs key enc L) k = kvs key enc (delK key L k) := by
  induction L with
  | nil => rfl
  | cons r L ih =>
    simp only [delG, kvs, delK, List.map_cons] at *
    by_cases h : k = key r
    · rw [List.filter_cons_of_neg (by simp [h]), List.filter_cons_of_neg (by simp [h])]; exact ih
    · rw [List.filter_cons_of_pos (by simpa using h), List.filter_cons_of_pos (by simpa using h), List.map_cons]; rw [ih]
theorem kvs_keys (enc : ρ → Value) (L : List ρ) : (kvs key enc L).map (·.1) = L.map key := by simp [kvs, Function.comp_def]
theorem putK_keys (L : List ρ) (r : ρ) : (putK key L r).map key = if (findK key L (key r)).isSome then L.map key else L.map key ++ [key r] := by
  unfold putK
  split
  · rw [List.map_map]
    apply List.map_congr_left
    intro x _
    simp only [Function.comp]
    split
    · assumption
    · rfl
  · simp
theorem delK_nodup {L : List ρ} (h : (L.map key).Nodup) (k : κ) : ((delK key L k).map key).Nodup := h.sublist (List.filter_sublist.map _)
theorem map_find (r : ρ) (k : κ) : ∀ L : List ρ, findK key (L.map fun x => if key r = key x then r else x) k = if k = key r then (if (findK key L (key r)).isSome then some r else none) else findK key L k
  | [] => by simp [findK]
  | x :: L => by
    have ih := map_find r k L
    unfold findK at *
    by_cases h : key r = key x
    · rw [List.map_cons, if_pos h]
      by_cases hk : k = key r
      · rw [List.find?_cons_of_pos (by simpa using hk), if_pos hk, List.find?_cons_of_pos (by simpa using h)]
        rfl
      · rw [List.find?_cons_of_neg (by simpa using hk), ih, if_neg hk, if_neg hk, List.find?_cons_of_neg (by rw [← h]; simpa using hk)]
    · rw [List.map_cons, if_neg h]
      by_cases hk : k = key x
      · have hkr : k ≠ key r := fun e => h (by rw [← e, hk])
        rw [List.find?_cons_of_pos (by simpa using hk), if_neg hkr, List.find?_cons_of_pos (by simpa using hk)]
      · rw [List.find?_cons_of_neg (by simpa using hk), ih, List.find?_cons_of_neg (by simpa using h), List.find?_cons_of_neg (by simpa using hk)]
theorem putK_find (L : List ρ) (r : ρ) (k : κ) : findK key (putK key L r) k = if k = key r then some r else findK key L k := by
  unfold putK
  cases hf : findK key L (key r) with
  | some x =>
    simp only [Option.isSome_some, if_true]
    rw [map_find, hf]
    rfl
  | none =>
    simp only [Option.isSome_none, Bool.false_eq_true, if_false]
    unfold findK at *
    rw [List.find?_append]
    by_cases hk : k = key r
    · subst hk
      rw [hf, if_pos rfl]
      simp
    · rw [if_neg hk, List.find?_cons_of_neg (by simpa using hk)]
      simp
theorem delK_mem {L : List ρ} {k : κ} {r : ρ} : r ∈ delK key L k ↔ r ∈ L ∧ key r ≠ k := by
  unfold delK
  rw [List.mem_filter, decide_eq_true_eq]
  exact ⟨fun h => ⟨h.1, fun e => h.2 e.symm⟩, fun h => ⟨h.1, fun e => h.2 e.symm⟩⟩
theorem putK_mem {L : List ρ} {r x : ρ} (h : x ∈ putK key L r) : x = r ∨ (x ∈ L ∧ key x ≠ key r) ∨ (x ∈ L ∧ findK key L (key r) = none) := by
  unfold putK at h
  split at h
  · obtain ⟨y, hy, rfl⟩ := List.mem_map.1 h
    split
    · exact .inl rfl
    · rename_i hne
      exact .inr (.inl ⟨hy, fun e => hne e.symm⟩)
  · rename_i hn
    rcases List.mem_append.1 h with h | h
    · exact .inr (.inr ⟨h, by simpa using hn⟩)
    · exact .inl (List.mem_singleton.1 h)
variable {k0 : Kk κ} {enc : ρ → Value}
theorem entsK {es : Array MapEntry} {L : List ρ} (h : EntsG k0 es (kvs key enc L)) : es.toList.map (fun e => (e.key, e.val)) = L.map fun r => (k0.kv (key r), enc r) := by
  unfold EntsG kvs at h
  rw [h, List.map_map]
  rfl
theorem entsK_one {es : Array MapEntry} {L : List ρ} (h : EntsG k0 es (kvs key enc L)) {e : MapEntry} (he : e ∈ es.toList) : ∃ r ∈ L, e.key = k0.kv (key r) ∧ e.val = enc r := by
  have h1 : (e.key, e.val) ∈ es.toList.map (fun e => (e.key, e.val)) := List.mem_map.2 ⟨e, he, rfl⟩
  rw [entsK h] at h1
  obtain ⟨r, hr, e2⟩ := List.mem_map.1 h1
  simp only [Prod.mk.injEq] at e2
  exact ⟨r, hr, e2.1.symm, e2.2.symm⟩
theorem map_inj_eq {α β : Type} (f : α → β) (hf : ∀ a b, f a = f b → a = b) : ∀ (A B : List α), A.map f = B.map f → A = B
  | [], [], _ => rfl
  | [], _ :: _, h => by simp at h
  | _ :: _, [], h => by simp at h
  | a :: A, b :: B, h => by
    simp only [List.map_cons, List.cons.injEq] at h
    rw [hf a b h.1, map_inj_eq f hf A B h.2]
theorem entsK_all {es : Array MapEntry} {L B : List ρ} {col : List MapEntry} (hinj : ∀ a b : ρ, (k0.kv (key a), enc a) = (k0.kv (key b), enc b) → a = b) (h : EntsG k0 es (kvs key enc L)) (hp : col.Perm es.toList) (hB : col.map (fun e => (e.key, e.val)) = B.map fun r => (k0.kv (key r), enc r)) : B.Perm L := by
  obtain ⟨m, hm, e⟩ := perm_map_of (fun e : MapEntry => (e.key, e.val)) (fun r => (k0.kv (key r), enc r)) hp L (entsK h)
  rw [hB] at e
  rw [map_inj_eq _ hinj B m e]; exact hm
end
section
variable {ρ κ : Type} (key : ρ → κ) (lt : κ → κ → Bool)
structure ToldK (L S : List ρ) : Prop where
  perm : S.Perm L
  sorted : S.Pairwise fun x y => lt (key y) (key x) = false
variable {key lt}
theorem ToldK.strict (htri : ∀ a b, lt a b = true ∨ a = b ∨ lt b a = true) {L S : List ρ} (h : ToldK key lt L S) (hn : (L.map key).Nodup) : S.Pairwise fun x y => lt (key x) (key y) = true := by
  have hS : (S.map key).Nodup := (h.perm.map key).nodup_iff.2 hn
  unfold List.Nodup at hS
  rw [List.pairwise_map] at hS
  refine (h.sorted.and hS).imp ?_
  rintro a b ⟨h1, h2⟩
  rcases htri (key a) (key b) with h3 | h3 | h3
  · exact h3
  · exact absurd h3 h2
  · rw [h1] at h3; cases h3
theorem ToldK.unique (hirr : ∀ a, lt a a = false) (htrans : ∀ a b c, lt a b = true → lt b c = true → lt a c = true) (htri : ∀ a b, lt a b = true ∨ a = b ∨ lt b a = true) {L S S' : List ρ} (hn : (L.map key).Nodup) (h : ToldK key lt L S) (h' : ToldK key lt L S') : S = S' := by
  have h1 := h.strict htri hn
  have h2 := h'.strict htri hn
  have hp : S.Perm S' := h.perm.trans h'.perm.symm
  clear h h' hn
  induction S generalizing S' with
  | nil => exact hp.nil_eq
  | cons a S ih =>
    cases S' with
    | nil => exact absurd hp.length_eq (by simp)
    | cons b S' =>
      have ha := List.pairwise_cons.1 h1
      have hb := List.pairwise_cons.1 h2
      have hab : a = b := by
        have g1 : a ∈ b :: S' := hp.mem_iff.1 List.mem_cons_self
        have g2 : b ∈ a :: S := hp.mem_iff.2 List.mem_cons_self
        rcases List.mem_cons.1 g1 with g1 | g1
        · exact g1
        · rcases List.mem_cons.1 g2 with g2 | g2
          · exact g2.symm
          · have := htrans _ _ _ (hb.1 a g1) (ha.1 b g2)
            rw [hirr] at this; cases this
      subst hab
      rw [ih ha.2 hb.2 ((List.perm_cons a).1 hp)]
end
end Go.SL

set_option linter.unusedVariables false
set_option linter.unusedSimpArgs false
namespace Go.SL
open Go.Proofs Go.Shelf Go.Lib Go.Sort
variable {P : Program}
theorem Tells.grown {f : FuncId} {args : List Value} {Post : Value → List Ck → Prop} (h : Tells P f args [] Post) (w : World) :
    Calls P f args.toArray w fun e w' => ∃ v H', e = .returned v ∧ Post v H' ∧ ∃ q os', w' = grow (w.drewN q) os' := by
  let R : List Ck := (List.range w.heap.size).map fun k => ⟨k, (w.heap[k]?).getD default, false⟩
  have hsat : Sat w ([] ++ R) := by
    refine ⟨fun c hc => ?_, ?_⟩
    · obtain ⟨k, hk, rfl⟩ := List.mem_map.1 hc
      have hk := List.mem_range.1 hk
      simp [hk]
    · have hall : ∀ c ∈ R, c.ex = false := fun c hc => by
        obtain ⟨k, hk, rfl⟩ := List.mem_map.1 hc; rfl
      rw [List.nil_append, List.pairwise_iff_forall_sublist]
      intro c d hs e
      have h1 := hall c (hs.subset (by simp))
      have h2 := hall d (hs.subset (by simp))
      rw [h1, h2] at e
      simp at e
  refine (h w R hsat).mono fun e w' ⟨v, H', he, hp, hs, hk⟩ => ⟨v, H', he, hp, w'.drawn - w.drawn, w'.heap.extract w.heap.size w'.heap.size, ?_⟩
  have hheap : w'.heap = w.heap ++ w'.heap.extract w.heap.size w'.heap.size := by
    apply Array.ext_getElem?
    intro k
    by_cases hlt : k < w.heap.size
    · have := hs.holds ⟨k, (w.heap[k]?).getD default, false⟩ (List.mem_append_right _ (List.mem_map.2 ⟨k, List.mem_range.2 hlt, rfl⟩))
      rw [this, Array.getElem?_append_left hlt]
      simp [hlt]
    · rw [Array.getElem?_append_right (by omega), Array.getElem?_extract]
      have hsz := hk.size
      by_cases h2 : k < w'.heap.size
      · rw [if_pos (by omega), show w.heap.size + (k - w.heap.size) = k by omega]
      · rw [if_neg (by omega), Array.getElem?_eq_none (by omega)]
  have e1 := hk.os
  have e2 := hk.tape
  have e3 := hk.output
  have e4 := hk.drawn
  cases w' with
  | mk heap' tape' drawn' os' output' =>
    simp only at hheap e1 e2 e3 e4
    subst e1 e2 e3
    unfold grow World.drewN
    simp only [World.mk.injEq, true_and, and_true]
    exact ⟨hheap, by omega⟩
theorem flat_get {α : Type} (enc : α → List Value) (k : Nat) (hk : ∀ x, (enc x).length = k) : ∀ (ds : List α) (i c : Nat), c < k → (ds.flatMap enc)[i * k + c]? = (ds[i]?).bind fun x => (enc x)[c]?
  | [], i, c, _ => by simp
  | d :: ds, 0, c, h => by
    rw [List.flatMap_cons, Nat.zero_mul, Nat.zero_add, List.getElem?_append_left (by rw [hk]; exact h)]
    rfl
  | d :: ds, i + 1, c, h => by
    have ih := flat_get enc k hk ds i c h
    rw [List.flatMap_cons, List.getElem?_append_right (by rw [hk, Nat.add_mul, Nat.one_mul]; omega), hk, List.getElem?_cons_succ, ← ih]
    congr 1
    rw [Nat.add_mul, Nat.one_mul]
    omega
theorem flat_len {α : Type} (enc : α → List Value) (k : Nat) (hk : ∀ x, (enc x).length = k) (ds : List α) : (ds.flatMap enc).length = ds.length * k := by
  induction ds with
  | nil => simp
  | cons d ds ih => rw [List.flatMap_cons, List.length_append, ih, hk, List.length_cons, Nat.add_mul, Nat.one_mul]; omega
variable {α : Type} [Inhabited α]
theorem flatK_list (enc : α → List Value) (k : Nat) (hk : ∀ x, (enc x).length = k) (hk0 : 0 < k) (ds : List α) : flatK enc k ds.toArray = (ds.flatMap enc).toArray := by
  apply Array.ext
  · simp [flat_len enc k hk]
  · intro t h1 h2
    have ht : t < ds.length * k := by simpa using h1
    have hi : t / k < ds.length := by rw [Nat.div_lt_iff_lt_mul hk0]; exact ht
    have hc : t % k < k := Nat.mod_lt _ hk0
    have := flat_get enc k hk ds (t / k) (t % k) hc
    rw [show t / k * k + t % k = t by rw [Nat.mul_comm]; exact Nat.div_add_mod t k, List.getElem?_eq_getElem hi] at this
    simp only [Option.bind_some] at this
    rw [List.getElem?_eq_getElem (by rw [flat_len enc k hk]; exact ht), List.getElem?_eq_getElem (by rw [hk]; exact hc)] at this
    simp only [Option.some.injEq] at this
    simp only [List.getElem_toArray, this]
    have e := get_flatK enc k ds.toArray t (by simpa using ht)
    rw [getElem!_pos _ t h1] at e
    rw [e, getElem!_pos ds.toArray (t / k) (by simpa using hi)]
    simp only [List.getElem_toArray]
    rw [getElem!_pos (enc ds[t / k]) (t % k) (by rw [hk]; exact hc)]
theorem sort_tells {ρ : Ren} (L : SlLaysF0.n6 P ρ) (k : Nat) (hk0 : 0 < k) (aE : ∀ w, (isAgg (ρ.t 24)).run P w = .ok true w) (zE : ∀ w, (Go.sizeOf (ρ.t 24)).run P w = .ok k w) (enc : α → List Value) (hk : ∀ x, (enc x).length = k) (h1 : ∀ x, ∀ v ∈ enc x, v.oneCell' = true) (cf : α → α → Int) (hO : SWO (ltOf cf)) (g : Nat)
    (eg : ∀ args w, (callFunc g args).run P w = .ok (.enter g args) w) (hc : ∀ x y, Tells P g [.agg (enc x).toArray, .agg (enc y).toArray] [] fun r H' => r = .int .i64 (cf x y)) {v : Value} {ds : List α} {T : TypeId} {C : List Ck} (own : Own v ds.length (ds.flatMap enc) T k C) (hsz : ds.length < 4611686018427387904) :
    Tells P (ρ.f 6) [v, .func (.func g) #[] #[]] C fun r C' => r = .tuple #[] ∧ ∃ ds' : List α, ds'.Perm ds ∧ ds'.Pairwise (fun x y => ltOf cf y x = false) ∧ Own v ds'.length (ds'.flatMap enc) T k C' := by
  intro w R s
  rcases own with ⟨rfl, h0, _, rfl⟩ | ⟨b, cap, extra, rfl, hc1, hc2, hx1, hx2, rfl⟩
  · have hd : ds = [] := List.eq_nil_of_length_eq_zero h0
    subst hd
    have h := AnyF.slices_SortFunc_none (P := P) (ρ := ρ) { L with } none 0 (.func (.func g) #[] #[]) w
    exact h.mono fun e w' ⟨he, hw⟩ => ⟨_, [], he, ⟨rfl, [], List.Perm.refl _, List.Pairwise.nil, .inl ⟨rfl, rfl, rfl, rfl⟩⟩, by rw [hw]; exact s, by rw [hw]; exact Kept.refl w⟩
  · have hg := s.holds _ (List.mem_append_left R List.mem_cons_self)
    have hblk : b < w.heap.size := s.lt (c := row b (ds.flatMap enc ++ extra) T) (List.mem_append_left R List.mem_cons_self)
    have hH : HoldsK enc k w b 0 ds.toArray := by
      unfold HoldsK
      rw [flatK_list enc k hk hk0]
      intro j hj
      have hj' : j < (ds.flatMap enc).length := by simpa using hj
      refine ⟨?_, ?_⟩
      · rw [cell_at hg, Nat.zero_add]
        simp only [List.getElem?_toArray]
        rw [List.getElem?_append_left hj', getElem!_pos _ j (by simpa using hj')]
        simp [hj']
      · simp only [World.frozen?]
        rw [show w.heap[b]? = _ from hg]
        simp
    have hcmp : CmpLays P g #[] enc k cf b 0 ds.toArray.size w := fun m os dk hdk x y => by
      have h := (hc x y).grown (sortWorldK enc k w b 0 m dk os)
      exact h.mono fun e w' ⟨v, H', he, hp, hq⟩ => ⟨by rw [he, hp], hq⟩
    have h := AnyQ.slices_SortFunc L k aE zE enc hk h1 cf hO g #[] b 0 cap ds.toArray w eg hcmp hH hblk (by simpa using hsz)
    rw [show ds.toArray.size = ds.length by simp] at h
    refine h.mono fun e w' ⟨he, d', n, os, hp, hs, hw⟩ => ?_
    obtain ⟨hsz', _, hperm⟩ := hp
    have hl : d'.toList.length = ds.length := by simpa using hsz'
    have hperm' : d'.toList.Perm ds := by
      have e1 : (d'.extract 0 ds.length).toList = d'.toList := by simp [← hl]
      have e2 : (ds.toArray.extract 0 ds.length).toList = ds := by simp
      rwa [e1, e2] at hperm
    have hpw : d'.toList.Pairwise (fun x y => ltOf cf y x = false) := by
      rw [List.pairwise_iff_getElem]
      intro i j hi hj hij
      have := hs i j (Nat.zero_le _) hij (by omega)
      rw [getElem!_pos d' i (by simpa using hi), getElem!_pos d' j (by simpa using hj)] at this
      simpa using this
    have hd' : d' = d'.toList.toArray := by simp
    have hobj : w'.heap[b]? = some (.cells (d'.toList.flatMap enc ++ extra).toArray T (0, 0)) := by
      rw [hw]
      unfold sortWorldK grow putRowK putRow mapBlock
      have hb2 : b < (w.heap.modify b (onCells (putCells id 0 (flatK enc k d')))).size := by simpa using hblk
      rw [show (Sort.ahead w n).heap = w.heap from rfl]
      rw [Array.getElem?_append_left hb2, Array.getElem?_modify, if_pos rfl, show w.heap[b]? = _ from hg]
      simp only [Option.map_some, onCells]
      congr 2
      rw [hd', flatK_list enc k hk hk0]
      have hfl : (d'.toList.flatMap enc).length = (ds.flatMap enc).length := by rw [flat_len enc k hk, flat_len enc k hk, hl]
      apply Array.ext
      · simp [putCells, hfl]
      · intro i h1 h2
        simp only [putCells, Array.getElem_mapIdx, Nat.zero_le, true_and, Nat.zero_add, List.size_toArray, Nat.sub_zero, id]
        by_cases hi : i < (d'.toList.flatMap enc).length
        · rw [if_pos (by simpa using hi)]
          rw [getElem!_pos _ i (by simpa using hi)]
          simp only [List.getElem_toArray]
          rw [List.getElem_append_left (by simpa using hi)]
        · rw [if_neg (by simpa using hi)]
          simp only [List.getElem_toArray]
          rw [List.getElem_append_right (by omega), List.getElem_append_right (by simpa using hi)]
          congr 1
          simp [hfl]
    have hother : ∀ j, j ≠ b → j < w.heap.size → w'.heap[j]? = w.heap[j]? := by
      intro j hj hlt
      rw [hw]
      unfold sortWorldK grow putRowK putRow mapBlock
      rw [show (Sort.ahead w n).heap = w.heap from rfl]
      rw [Array.getElem?_append_left (by simpa using hlt), Array.getElem?_modify, if_neg (by omega)]
    refine ⟨.tuple #[], [row b (d'.toList.flatMap enc ++ extra) T], he, ⟨rfl, d'.toList, hperm', hpw, .inr ⟨b, cap, extra, by rw [hl], by rw [hl]; exact hc1, hc2, flat_len enc k hk _, by rw [hl]; exact hx2, rfl⟩⟩, ?_, ?_⟩
    · have hpa := List.pairwise_cons.1 s.apart
      refine ⟨fun c hcm => ?_, List.pairwise_cons.2 ⟨fun d hd e => hpa.1 d hd e, hpa.2⟩⟩
      rcases List.mem_cons.1 hcm with rfl | hcm
      · exact hobj
      · have hne : b ≠ c.b := hpa.1 c hcm (.inl rfl)
        rw [hother c.b (Ne.symm hne) (s.lt (List.mem_cons_of_mem _ hcm))]
        exact s.holds c (List.mem_cons_of_mem _ hcm)
    · rw [hw]
      refine ⟨rfl, rfl, rfl, ?_, ?_⟩
      · unfold sortWorldK grow putRowK putRow mapBlock
        simp [Sort.ahead]
      · unfold sortWorldK grow putRowK putRow mapBlock
        simp [Sort.ahead]
end Go.SL

set_option linter.unusedVariables false
set_option linter.unusedSimpArgs false
namespace Go.SL
structure Gd where
  name : ByteArray
  free : Int
  gone : Int
deriving DecidableEq
structure Ho where
  o : BitVec 32
  name : ByteArray
  n : Int
deriving DecidableEq
def encG (g : Gd) : Value := .agg #[.int .i64 g.free, .int .i64 g.gone]
def encH (h : Ho) : Value := .agg #[.int .u32 h.o.toNat, .string h.name, .int .i64 h.n]
def cellsG (g : Gd) : List Value := [.string g.name, .int .i64 g.free]
def cellsH (h : Ho) : List Value := [.int .u32 h.o.toNat, .string h.name, .int .i64 h.n]
def freeOf (K : List Gd) (nm : ByteArray) : Int := ((findK Gd.name K nm).map Gd.free).getD 0
def goneOf (K : List Gd) (nm : ByteArray) : Int := ((findK Gd.name K nm).map Gd.gone).getD 0
def adj (K : List Gd) (nm : ByteArray) (df dg : Int) : List Gd := putK Gd.name K ⟨nm, freeOf K nm + df, goneOf K nm + dg⟩
def sumN (L : List Ho) (nm : ByteArray) : Int := (L.map fun h => if h.name = nm then h.n else 0).sum
def holdB (K : List Gd) (L : List Ho) (o : BitVec 32) (nm : ByteArray) (n : Int) : Bool := decide (o ≠ 0#32) && (decide (1 ≤ n) && (!(findK Ho.o L o).isSome && decide (n ≤ freeOf K nm)))
def holdKs (K : List Gd) (L : List Ho) (o : BitVec 32) (nm : ByteArray) (n : Int) : List Gd := if holdB K L o nm n then adj K nm (-n) 0 else K
def holdLs (K : List Gd) (L : List Ho) (o : BitVec 32) (nm : ByteArray) (n : Int) : List Ho := if holdB K L o nm n then L ++ [⟨o, nm, n⟩] else L
def vd (b : Bool) : Int := if b then 1 else 2
def leaveKs (K : List Gd) (L : List Ho) (o : BitVec 32) (gone : Bool) : List Gd := match findK Ho.o L o with | none => K | some h => if gone then adj K h.name 0 h.n else adj K h.name h.n 0
theorem adj_free (K : List Gd) (nm nm' : ByteArray) (df dg : Int) : freeOf (adj K nm df dg) nm' = if nm' = nm then freeOf K nm + df else freeOf K nm' := by
  unfold adj
  rw [freeOf, putK_find]
  split
  · rfl
  · rfl
theorem adj_gone (K : List Gd) (nm nm' : ByteArray) (df dg : Int) : goneOf (adj K nm df dg) nm' = if nm' = nm then goneOf K nm + dg else goneOf K nm' := by
  unfold adj
  rw [goneOf, putK_find]
  split
  · rfl
  · rfl
theorem adj_names {K : List Gd} {nm : ByteArray} (h : (findK Gd.name K nm).isSome) (df dg : Int) : (adj K nm df dg).map Gd.name = K.map Gd.name := by
  unfold adj
  rw [putK_keys, if_pos h]
theorem find_names {K : List Gd} {nm : ByteArray} (h : nm ∈ K.map Gd.name) : (findK Gd.name K nm).isSome := by
  cases hf : findK Gd.name K nm with
  | some x => rfl
  | none =>
    obtain ⟨g, hg, rfl⟩ := List.mem_map.1 h
    exact absurd rfl (findK_none hf g hg)
theorem names_find {K : List Gd} {nm : ByteArray} (h : (findK Gd.name K nm).isSome) : nm ∈ K.map Gd.name := by
  obtain ⟨g, hg⟩ := Option.isSome_iff_exists.1 h
  obtain ⟨h1, h2⟩ := findK_mem hg
  exact List.mem_map.2 ⟨g, h1, h2⟩
theorem free_of {K : List Gd} (hn : (K.map Gd.name).Nodup) {g : Gd} (hg : g ∈ K) : freeOf K g.name = g.free ∧ goneOf K g.name = g.gone := by
  unfold freeOf goneOf
  rw [findK_of hn hg]
  exact ⟨rfl, rfl⟩
theorem free_none {K : List Gd} {nm : ByteArray} (h : ¬ nm ∈ K.map Gd.name) : freeOf K nm = 0 ∧ goneOf K nm = 0 := by
  have : findK Gd.name K nm = none := by
    cases hf : findK Gd.name K nm with
    | none => rfl
    | some g => exact absurd (names_find (by rw [hf]; rfl)) h
  unfold freeOf goneOf
  rw [this]
  exact ⟨rfl, rfl⟩
theorem sumN_snoc (L : List Ho) (h : Ho) (nm : ByteArray) : sumN (L ++ [h]) nm = sumN L nm + if h.name = nm then h.n else 0 := by simp [sumN]
theorem sumN_del {L : List Ho} (hn : (L.map Ho.o).Nodup) {o : BitVec 32} {h : Ho} (hf : findK Ho.o L o = some h) (nm : ByteArray) : sumN (delK Ho.o L o) nm + (if h.name = nm then h.n else 0) = sumN L nm := by
  induction L with
  | nil => cases hf
  | cons c L ih =>
    simp only [List.map_cons, List.nodup_cons] at hn
    unfold findK delK sumN at *
    by_cases e : o = c.o
    · rw [List.find?_cons_of_pos (by simpa using e)] at hf
      obtain rfl : c = h := by simpa using hf
      rw [List.filter_cons_of_neg (by simp [e]), List.filter_eq_self.2 (fun x hx => by
        simp only [decide_eq_true_eq]
        intro e2
        exact hn.1 (List.mem_map.2 ⟨x, hx, by rw [← e2, e]⟩))]
      simp only [List.map_cons, List.sum_cons]
      omega
    · rw [List.find?_cons_of_neg (by simpa using e)] at hf
      rw [List.filter_cons_of_pos (by simpa using e)]
      have := ih hn.2 hf
      simp only [List.map_cons, List.sum_cons]
      omega
theorem sumN_nonneg {L : List Ho} (h : ∀ x ∈ L, 1 ≤ x.n) (nm : ByteArray) : 0 ≤ sumN L nm := by
  induction L with
  | nil => simp [sumN]
  | cons b L ih =>
    have h1 := ih (fun c hc => h c (List.mem_cons_of_mem _ hc))
    have h2 := h b List.mem_cons_self
    simp only [sumN, List.map_cons, List.sum_cons] at *
    split <;> omega
def goodB (g : Gd) : Prop := g.name ≠ ⟨#[]⟩ ∧ g.name.size ≤ 32 ∧ 0 ≤ g.free ∧ g.free ≤ 1000000
structure SInv (first K : List Gd) (L : List Ho) : Prop where
  names : K.map Gd.name = first.map Gd.name
  nd : (first.map Gd.name).Nodup
  few : first.length ≤ 50
  ok : ∀ g ∈ first, goodB g ∧ g.gone = 0
  holds : ∀ h ∈ L, 1 ≤ h.n ∧ h.o ≠ 0#32 ∧ h.name ∈ first.map Gd.name
  keys : (L.map Ho.o).Nodup
  sums : ∀ nm, 0 ≤ freeOf K nm ∧ 0 ≤ goneOf K nm ∧ freeOf K nm + goneOf K nm + sumN L nm = freeOf first nm
def GoodL (gs : List Gd) : Prop := gs.length ≤ 50 ∧ (gs.map Gd.name).Nodup ∧ ∀ g ∈ gs, goodB g
theorem SInv.top {first K : List Gd} {L : List Ho} (h : SInv first K L) (nm : ByteArray) : freeOf first nm ≤ 1000000 := by
  by_cases hm : nm ∈ first.map Gd.name
  · obtain ⟨g, hg, rfl⟩ := List.mem_map.1 hm
    rw [(free_of h.nd hg).1]
    exact (h.ok g hg).1.2.2.2
  · rw [(free_none hm).1]; omega
theorem SInv.knd {first K : List Gd} {L : List Ho} (h : SInv first K L) : (K.map Gd.name).Nodup := by rw [h.names]; exact h.nd
theorem SInv.start {first : List Gd} (h1 : first.length ≤ 50) (h2 : (first.map Gd.name).Nodup) (h3 : ∀ g ∈ first, goodB g ∧ g.gone = 0) : SInv first first [] := by
  refine ⟨rfl, h2, h1, h3, fun h hh => (by cases hh), by simp, fun nm => ?_⟩
  by_cases hm : nm ∈ first.map Gd.name
  · obtain ⟨g, hg, rfl⟩ := List.mem_map.1 hm
    have h4 := free_of h2 hg
    have h5 := h3 g hg
    have h6 : 0 ≤ g.free := h5.1.2.2.1
    simp only [sumN, List.map_nil, List.sum_nil]
    rw [h4.1, h4.2, h5.2]
    omega
  · have := free_none hm
    simp only [sumN, List.map_nil, List.sum_nil]
    omega
theorem SInv.hold {first K : List Gd} {L : List Ho} (h : SInv first K L) (o : BitVec 32) (nm : ByteArray) (n : Int) : SInv first (holdKs K L o nm n) (holdLs K L o nm n) := by
  unfold holdKs holdLs
  cases hb : holdB K L o nm n with
  | false => exact h
  | true =>
    simp only [if_true]
    unfold holdB at hb
    simp only [Bool.and_eq_true, decide_eq_true_eq, Bool.not_eq_true'] at hb
    obtain ⟨ho, hn, hf, hle⟩ := hb
    have hf' : findK Ho.o L o = none := by simpa using hf
    have hin : nm ∈ K.map Gd.name := by
      apply Classical.byContradiction
      intro hc
      have := (free_none hc).1
      omega
    refine ⟨by rw [adj_names (find_names hin)]; exact h.names, h.nd, h.few, h.ok, ?_, ?_, fun nm' => ?_⟩
    · intro x hx
      rcases List.mem_append.1 hx with hx | hx
      · exact h.holds x hx
      · rw [List.mem_singleton.1 hx]
        exact ⟨hn, ho, by rw [← h.names]; exact hin⟩
    · rw [List.map_append, List.nodup_append]
      refine ⟨h.keys, by simp, ?_⟩
      intro x hx y hy
      obtain ⟨c, hc, rfl⟩ := List.mem_map.1 hx
      simp only [List.map_cons, List.map_nil, List.mem_singleton] at hy
      subst hy
      exact findK_none hf' c hc
    · have h1 := h.sums nm'
      rw [adj_free, adj_gone, sumN_snoc]
      by_cases e : nm' = nm
      · subst e
        simp only [if_true]
        omega
      · have e2 : ¬ nm = nm' := fun x => e x.symm
        simp only [if_neg e, if_neg e2]
        omega
theorem SInv.leave {first K : List Gd} {L : List Ho} (h : SInv first K L) (o : BitVec 32) (gone : Bool) : SInv first (leaveKs K L o gone) (delK Ho.o L o) := by
  unfold leaveKs
  cases hf : findK Ho.o L o with
  | none =>
    have e : delK Ho.o L o = L := by
      unfold delK
      rw [List.filter_eq_self]
      intro x hx
      have := findK_none hf x hx
      simp only [decide_eq_true_eq]
      exact fun e => this e.symm
    rw [e]; exact h
  | some x =>
    obtain ⟨hx, hxo⟩ := findK_mem hf
    have hh := h.holds x hx
    have hin : x.name ∈ K.map Gd.name := by rw [h.names]; exact hh.2.2
    have hnm : ∀ df dg, (adj K x.name df dg).map Gd.name = first.map Gd.name := fun df dg => by rw [adj_names (find_names hin)]; exact h.names
    have hsum : ∀ nm', sumN (delK Ho.o L o) nm' + (if x.name = nm' then x.n else 0) = sumN L nm' := fun nm' => sumN_del h.keys hf nm'
    have hrest : ∀ y ∈ delK Ho.o L o, 1 ≤ y.n ∧ y.o ≠ 0#32 ∧ y.name ∈ first.map Gd.name := fun y hy => h.holds y (delK_mem.1 hy).1
    cases gone
    · refine ⟨hnm _ _, h.nd, h.few, h.ok, hrest, delK_nodup h.keys o, fun nm' => ?_⟩
      have h1 := h.sums nm'
      have h2 := hsum nm'
      simp only [Bool.false_eq_true, if_false]
      rw [adj_free, adj_gone]
      by_cases e : nm' = x.name
      · subst e
        simp only [if_true] at h2 ⊢
        omega
      · have e2 : ¬ x.name = nm' := fun z => e z.symm
        simp only [if_neg e, if_neg e2] at h2 ⊢
        omega
    · refine ⟨hnm _ _, h.nd, h.few, h.ok, hrest, delK_nodup h.keys o, fun nm' => ?_⟩
      have h1 := h.sums nm'
      have h2 := hsum nm'
      simp only [if_true]
      rw [adj_free, adj_gone]
      by_cases e : nm' = x.name
      · subst e
        simp only [if_true] at h2 ⊢
        omega
      · have e2 : ¬ x.name = nm' := fun z => e z.symm
        simp only [if_neg e, if_neg e2] at h2 ⊢
        omega
theorem SInv.mid {first K : List Gd} {L : List Ho} (h : SInv first K L) (nm : ByteArray) : 0 ≤ freeOf K nm ∧ freeOf K nm ≤ 1000000 ∧ 0 ≤ goneOf K nm ∧ goneOf K nm ≤ 1000000 ∧ 0 ≤ sumN L nm ∧ sumN L nm ≤ 1000000 := by
  have h1 := h.sums nm
  have h2 := h.top nm
  have h3 := sumN_nonneg (fun x hx => (h.holds x hx).1) nm
  omega
theorem SInv.nle {first K : List Gd} {L : List Ho} (h : SInv first K L) {x : Ho} (hx : x ∈ L) : 1 ≤ x.n ∧ x.n ≤ 1000000 := by
  have h1 := sumN_del h.keys (findK_of h.keys hx) x.name
  have h2 := sumN_nonneg (L := delK Ho.o L x.o) (fun y hy => (h.holds y (delK_mem.1 hy).1).1) x.name
  have h3 := h.mid x.name
  have h4 := (h.holds x hx).1
  rw [if_pos rfl] at h1
  omega
theorem delK_none {L : List Ho} {o : BitVec 32} (hf : findK Ho.o L o = none) : delK Ho.o L o = L := by
  unfold delK
  rw [List.filter_eq_self]
  intro x hx
  have := findK_none hf x hx
  simp only [decide_eq_true_eq]
  exact fun e => this e.symm
def StAt (TD p : Nat) (K : List Gd) (L : List Ho) (C : List Ck) : Prop :=
  ∃ b1 b2 C1 C2, C = row p [.map (some b1), .map (some b2)] TD :: (C1 ++ C2) ∧ MpG kStr b1 (kvs Gd.name encG K) C1 ∧ MpG kU32 b2 (kvs Ho.o encH L) C2
theorem lkG (K : List Gd) (nm : ByteArray) : (if false = true then Value.tuple #[(getG (kvs Gd.name encG K) nm).getD (.agg #[.int .i64 0, .int .i64 0]), .bool (getG (kvs Gd.name encG K) nm).isSome] else (getG (kvs Gd.name encG K) nm).getD (.agg #[.int .i64 0, .int .i64 0])) = .agg #[.int .i64 (freeOf K nm), .int .i64 (goneOf K nm)] := by
  rw [if_neg (by simp), getG_kvs]
  unfold freeOf goneOf
  cases findK Gd.name K nm <;> rfl
theorem lkG2 (K : List Gd) (nm : ByteArray) : (if true = true then Value.tuple #[(getG (kvs Gd.name encG K) nm).getD (.agg #[.int .i64 0, .int .i64 0]), .bool (getG (kvs Gd.name encG K) nm).isSome] else (getG (kvs Gd.name encG K) nm).getD (.agg #[.int .i64 0, .int .i64 0])) = .tuple #[.agg #[.int .i64 (freeOf K nm), .int .i64 (goneOf K nm)], .bool (findK Gd.name K nm).isSome] := by
  rw [if_pos rfl, getG_kvs]
  unfold freeOf goneOf
  cases findK Gd.name K nm <;> rfl
def zeroH : Ho := ⟨0#32, ⟨#[]⟩, 0⟩
theorem lkH2 (L : List Ho) (o : BitVec 32) : (if true = true then Value.tuple #[(getG (kvs Ho.o encH L) o).getD (.agg #[.int .u32 0, .string ⟨#[]⟩, .int .i64 0]), .bool (getG (kvs Ho.o encH L) o).isSome] else (getG (kvs Ho.o encH L) o).getD (.agg #[.int .u32 0, .string ⟨#[]⟩, .int .i64 0])) = .tuple #[.agg (cellsH ((findK Ho.o L o).getD zeroH)).toArray, .bool (findK Ho.o L o).isSome] := by
  rw [if_pos rfl, getG_kvs]
  cases findK Ho.o L o <;> rfl
theorem putG (K : List Gd) (nm : ByteArray) (a b : Int) : setG (kvs Gd.name encG K) nm (.agg #[.int .i64 a, .int .i64 b]) = kvs Gd.name encG (putK Gd.name K ⟨nm, a, b⟩) := setG_kvs encG K ⟨nm, a, b⟩ nm _ rfl rfl
theorem putH (L : List Ho) (o : BitVec 32) (nm : ByteArray) (n : Int) (h : findK Ho.o L o = none) : setG (kvs Ho.o encH L) o (.agg #[.int .u32 o.toNat, .string nm, .int .i64 n]) = kvs Ho.o encH (L ++ [⟨o, nm, n⟩]) := by
  have e : setG (kvs Ho.o encH L) o (.agg #[.int .u32 o.toNat, .string nm, .int .i64 n]) = kvs Ho.o encH (putK Ho.o L ⟨o, nm, n⟩) := setG_kvs encH L ⟨o, nm, n⟩ o _ rfl rfl
  rw [e]
  unfold putK
  rw [show (findK Ho.o L (Ho.o ⟨o, nm, n⟩)) = none from h]
  rfl
def cfG (x y : Gd) : Int := cmpS x.name y.name
theorem ltG (x y : Gd) : Go.Proofs.ltOf cfG x y = sLt x.name y.name := by
  unfold Go.Proofs.ltOf cfG
  rw [Bool.eq_iff_iff, decide_eq_true_eq]
  exact cmpS_lt _ _
theorem swoG : Go.Sort.SWO (Go.Proofs.ltOf cfG) := by
  refine ⟨fun x => by rw [ltG]; exact sLt_irrefl _, fun x y z h1 h2 => ?_, fun x y z h1 h2 => ?_⟩
  · rw [ltG] at *; exact sLt_trans h1 h2
  · rw [ltG] at *
    rcases sLt_tri y.name x.name with h | h | h
    · cases h3 : sLt x.name z.name with
      | false => rfl
      | true => have := sLt_trans h h3; rw [h2] at this; cases this
    · rw [← h]; exact h2
    · rw [h] at h1; cases h1
theorem cellsG_len (g : Gd) : (cellsG g).length = 2 := rfl
theorem cellsG_one (g : Gd) : ∀ v ∈ cellsG g, v.oneCell' = true := by
  intro v hv
  simp only [cellsG, List.mem_cons, List.not_mem_nil, or_false] at hv
  rcases hv with rfl | rfl <;> rfl
instance : Inhabited Gd := ⟨⟨⟨#[]⟩, 0, 0⟩⟩
theorem injG (a b : Gd) (h : (kStr.kv a.name, encG a) = (kStr.kv b.name, encG b)) : a = b := by
  cases a; cases b
  simp only [kStr, encG, Prod.mk.injEq, Value.string.injEq, Value.agg.injEq, Array.mk.injEq, List.cons.injEq, Value.int.injEq, true_and, and_true] at h
  obtain ⟨rfl, rfl, rfl⟩ := h
  rfl
theorem once_more {L : List Gd} {g : Gd} (h : (L.map Gd.name).Nodup) (hn : findK Gd.name L g.name = none) : ((L ++ [g]).map Gd.name).Nodup := by
  rw [List.map_append, List.nodup_append]
  refine ⟨h, by simp, ?_⟩
  intro x hx y hy
  obtain ⟨c, hc, rfl⟩ := List.mem_map.1 hx
  simp only [List.map_cons, List.map_nil, List.mem_singleton] at hy
  subst hy
  exact findK_none hn c hc
theorem put_more {b : Nat} {L : List Gd} {g : Gd} {C : List Ck} (h0 : g.gone = 0) (hn : findK Gd.name L g.name = none) (h : MpG kStr b (setG (kvs Gd.name encG L) g.name (.agg #[.int .i64 g.free, .int .i64 0])) C) : MpG kStr b (kvs Gd.name encG (L ++ [g])) C := by
  rw [putG] at h
  have e : putK Gd.name L ⟨g.name, g.free, 0⟩ = L ++ [g] := by
    unfold putK
    rw [show findK Gd.name L (Gd.name ⟨g.name, g.free, 0⟩) = none from hn]
    cases g
    simp only at h0
    subst h0
    rfl
  rwa [e] at h
theorem twice_no {gs : List Gd} {i : Nat} (hi : i < gs.length) (h : (findK Gd.name (gs.take i) gs[i].name).isSome = true) : ¬ (gs.map Gd.name).Nodup := by
  intro hn
  obtain ⟨g, hg⟩ := Option.isSome_iff_exists.1 h
  obtain ⟨h1, h2⟩ := findK_mem hg
  obtain ⟨j, hj, rfl⟩ := List.getElem_of_mem h1
  simp only [List.length_take] at hj
  rw [List.getElem_take] at h2
  have := List.pairwise_iff_getElem.1 hn j i (by simp; omega) (by simpa using hi) (by omega)
  simp at this
  exact this h2
end Go.SL

set_option linter.unusedVariables false
set_option linter.unusedSimpArgs false
namespace Go.SL
structure Au where
  name : ByteArray
  money : Int
  held : Int
deriving DecidableEq
structure Py where
  o : BitVec 32
  name : ByteArray
  n : Int
  st : Int
deriving DecidableEq
def cellsU (a : Au) : List Value := [.string a.name, .int .i64 a.money, .int .i64 a.held]
def cellsP (x : Py) : List Value := [.int .u32 x.o.toNat, .string x.name, .int .i64 x.n, .int .i64 x.st]
def encU (a : Au) : Value := .agg #[.string a.name, .int .i64 a.money, .int .i64 a.held]
def encP (x : Py) : Value := .agg #[.int .u32 x.o.toNat, .string x.name, .int .i64 x.n, .int .i64 x.st]
def zeroU : Au := ⟨⟨#[]⟩, 0, 0⟩
def zeroP : Py := ⟨0#32, ⟨#[]⟩, 0, 0⟩
instance : Inhabited Au := ⟨zeroU⟩
theorem cellsU_len (g : Au) : (cellsU g).length = 3 := rfl
theorem cellsU_one (g : Au) : ∀ v ∈ cellsU g, v.oneCell' = true := by
  intro v hv
  simp only [cellsU, List.mem_cons, List.not_mem_nil, or_false] at hv
  rcases hv with rfl | rfl | rfl <;> rfl
theorem injU (a b : Au) (h : (kStr.kv a.name, encU a) = (kStr.kv b.name, encU b)) : a = b := by
  cases a; cases b
  simp only [kStr, encU, Prod.mk.injEq, Value.string.injEq, Value.agg.injEq, Array.mk.injEq, List.cons.injEq, Value.int.injEq, true_and, and_true] at h
  obtain ⟨_, rfl, rfl, rfl⟩ := h
  rfl
def cfU (x y : Au) : Int := cmpS x.name y.name
theorem ltU (x y : Au) : Go.Proofs.ltOf cfU x y = sLt x.name y.name := by
  unfold Go.Proofs.ltOf cfU
  rw [Bool.eq_iff_iff, decide_eq_true_eq]
  exact cmpS_lt _ _
theorem swoU : Go.Sort.SWO (Go.Proofs.ltOf cfU) := by
  refine ⟨fun x => by rw [ltU]; exact sLt_irrefl _, fun x y z h1 h2 => ?_, fun x y z h1 h2 => ?_⟩
  · rw [ltU] at *; exact sLt_trans h1 h2
  · rw [ltU] at *
    rcases sLt_tri y.name x.name with h | h | h
    · cases h3 : sLt x.name z.name with
      | false => rfl
      | true => have := sLt_trans h h3; rw [h2] at this; cases this
    · rw [← h]; exact h2
    · rw [h] at h1; cases h1
def acc (K : List Au) (nm : ByteArray) : Au := (findK Au.name K nm).getD zeroU
def moneyOf (K : List Au) (nm : ByteArray) : Int := (acc K nm).money
def heldU (K : List Au) (nm : ByteArray) : Int := (acc K nm).held
def adjU (K : List Au) (nm : ByteArray) (dm dh : Int) : List Au := putK Au.name K ⟨nm, moneyOf K nm + dm, heldU K nm + dh⟩
def sumP (L : List Py) (nm : ByteArray) (s : Int) : Int := (L.map fun x => if x.name = nm ∧ x.st = s then x.n else 0).sum
def authB (K : List Au) (L : List Py) (o : BitVec 32) (nm : ByteArray) (n : Int) : Bool := decide (o ≠ 0#32) && (decide (1 ≤ n) && (!(findK Py.o L o).isSome && decide (n ≤ moneyOf K nm - heldU K nm)))
def authKs (K : List Au) (L : List Py) (o : BitVec 32) (nm : ByteArray) (n : Int) : List Au := if authB K L o nm n then adjU K nm 0 n else K
def authLs (K : List Au) (L : List Py) (o : BitVec 32) (nm : ByteArray) (n : Int) : List Py := if authB K L o nm n then L ++ [⟨o, nm, n, 1⟩] else L
def vdP (b : Bool) : Int := if b then 1 else 2
def turnB (L : List Py) (o : BitVec 32) (s : Int) : Bool := match findK Py.o L o with | none => false | some x => decide (x.st = s)
def turnKs (K : List Au) (L : List Py) (o : BitVec 32) (s dm dh : Int) : List Au := match findK Py.o L o with | none => K | some x => if x.st = s then adjU K x.name (dm * x.n) (dh * x.n) else K
def turnLs (L : List Py) (o : BitVec 32) (s t : Int) : List Py := match findK Py.o L o with | none => L | some x => if x.st = s then putK Py.o L ⟨x.o, x.name, x.n, t⟩ else L
theorem adjU_acc (K : List Au) (nm nm' : ByteArray) (dm dh : Int) : acc (adjU K nm dm dh) nm' = if nm' = nm then ⟨nm, moneyOf K nm + dm, heldU K nm + dh⟩ else acc K nm' := by
  unfold adjU acc
  rw [putK_find]
  split <;> rfl
theorem adjU_names {K : List Au} {nm : ByteArray} (h : (findK Au.name K nm).isSome) (dm dh : Int) : (adjU K nm dm dh).map Au.name = K.map Au.name := by
  unfold adjU
  rw [putK_keys, if_pos h]
theorem find_namesU {K : List Au} {nm : ByteArray} (h : nm ∈ K.map Au.name) : (findK Au.name K nm).isSome := by
  cases hf : findK Au.name K nm with
  | some x => rfl
  | none =>
    obtain ⟨g, hg, rfl⟩ := List.mem_map.1 h
    exact absurd rfl (findK_none hf g hg)
theorem acc_of {K : List Au} (hn : (K.map Au.name).Nodup) {g : Au} (hg : g ∈ K) : acc K g.name = g := by
  unfold acc
  rw [findK_of hn hg]
  rfl
theorem acc_in {K : List Au} {nm : ByteArray} (h : nm ∈ K.map Au.name) : (acc K nm).name = nm := by
  unfold acc
  obtain ⟨x, hx⟩ := Option.isSome_iff_exists.1 (find_namesU h)
  rw [hx]
  exact (findK_mem hx).2
theorem acc_none {K : List Au} {nm : ByteArray} (h : ¬ nm ∈ K.map Au.name) : acc K nm = zeroU := by
  unfold acc
  cases hf : findK Au.name K nm with
  | none => rfl
  | some g => exact absurd (List.mem_map.2 ⟨g, (findK_mem hf).1, (findK_mem hf).2⟩) h
theorem sumP_snoc (L : List Py) (x : Py) (nm : ByteArray) (s : Int) : sumP (L ++ [x]) nm s = sumP L nm s + if x.name = nm ∧ x.st = s then x.n else 0 := by simp [sumP]
theorem sumP_nonneg {L : List Py} (h : ∀ x ∈ L, 1 ≤ x.n) (nm : ByteArray) (s : Int) : 0 ≤ sumP L nm s := by
  induction L with
  | nil => simp [sumP]
  | cons b L ih =>
    have h1 := ih (fun c hc => h c (List.mem_cons_of_mem _ hc))
    have h2 := h b List.mem_cons_self
    simp only [sumP, List.map_cons, List.sum_cons] at *
    split <;> omega
theorem mem_le_sumP {L : List Py} (h : ∀ x ∈ L, 1 ≤ x.n) {x : Py} (hx : x ∈ L) : x.n ≤ sumP L x.name x.st := by
  induction L with
  | nil => cases hx
  | cons b L ih =>
    have hh := fun c hc => h c (List.mem_cons_of_mem b hc)
    have h2 := h b List.mem_cons_self
    have h3 := sumP_nonneg hh x.name x.st
    rcases List.mem_cons.1 hx with rfl | hx
    · simp only [sumP, List.map_cons, List.sum_cons] at *
      rw [if_pos (by simp)]; omega
    · have := ih hh hx
      simp only [sumP, List.map_cons, List.sum_cons] at *
      split <;> omega
theorem putP_here : ∀ {L : List Py} (hn : (L.map Py.o).Nodup) {x y : Py} (hx : x ∈ L) (he : y.o = x.o) (f : Py → Int), ((putK Py.o L y).map f).sum = (L.map f).sum - f x + f y := by
  intro L hn x y hx he f
  have hf : (findK Py.o L y.o).isSome = true := by rw [he, findK_of hn hx]; rfl
  unfold putK
  rw [if_pos hf, List.map_map]
  clear hf
  induction L with
  | nil => cases hx
  | cons b L ih =>
    simp only [List.map_cons, List.nodup_cons] at hn
    simp only [List.map_cons, List.sum_cons, Function.comp]
    rcases List.mem_cons.1 hx with rfl | hx
    · rw [if_pos he]
      have e : L.map (f ∘ fun z => if y.o = z.o then y else z) = L.map f := List.map_congr_left fun z hz => by
        simp only [Function.comp]
        rw [if_neg (fun e => hn.1 (List.mem_map.2 ⟨z, hz, by rw [← e, he]⟩))]
      have e2 : (List.map (fun z => f (if y.o = z.o then y else z)) L) = L.map f := e
      rw [show (L.map (f ∘ fun z => if y.o = z.o then y else z)) = L.map f from e]
      omega
    · have hne : ¬ y.o = b.o := fun e => hn.1 (List.mem_map.2 ⟨x, hx, by rw [← he, e]⟩)
      rw [if_neg hne]
      have := ih hn.2 hx
      simp only [Function.comp_def] at this ⊢
      omega
theorem sumP_put {L : List Py} (hn : (L.map Py.o).Nodup) {x y : Py} (hx : x ∈ L) (he : y.o = x.o) (nm : ByteArray) (s : Int) : sumP (putK Py.o L y) nm s = sumP L nm s - (if x.name = nm ∧ x.st = s then x.n else 0) + (if y.name = nm ∧ y.st = s then y.n else 0) := putP_here hn hx he _
def accB (g : Au) : Prop := g.name ≠ ⟨#[]⟩ ∧ g.name.size ≤ 32 ∧ 0 ≤ g.money ∧ g.money ≤ 1000000000 ∧ g.held = 0
structure PInv (first K : List Au) (L : List Py) : Prop where
  names : K.map Au.name = first.map Au.name
  nd : (first.map Au.name).Nodup
  few : first.length ≤ 50
  ok : ∀ g ∈ first, accB g
  pays : ∀ x ∈ L, 1 ≤ x.n ∧ x.n ≤ 1000000000 ∧ x.o ≠ 0#32 ∧ x.name ∈ first.map Au.name ∧ 1 ≤ x.st ∧ x.st ≤ 3
  keys : (L.map Py.o).Nodup
  sums : ∀ nm, heldU K nm = sumP L nm 1 ∧ moneyOf K nm = moneyOf first nm - sumP L nm 2 ∧ heldU K nm ≤ moneyOf K nm
def AccL (gs : List Au) : Prop := gs.length ≤ 50 ∧ (gs.map Au.name).Nodup ∧ ∀ g ∈ gs, accB g
theorem PInv.knd {first K : List Au} {L : List Py} (h : PInv first K L) : (K.map Au.name).Nodup := by rw [h.names]; exact h.nd
theorem PInv.top {first K : List Au} {L : List Py} (h : PInv first K L) (nm : ByteArray) : 0 ≤ moneyOf first nm ∧ moneyOf first nm ≤ 1000000000 := by
  by_cases hm : nm ∈ first.map Au.name
  · obtain ⟨g, hg, rfl⟩ := List.mem_map.1 hm
    unfold moneyOf
    rw [acc_of h.nd hg]
    exact ⟨(h.ok g hg).2.2.1, (h.ok g hg).2.2.2.1⟩
  · unfold moneyOf
    rw [acc_none hm]
    exact ⟨Int.le_refl _, by decide⟩
theorem PInv.mid {first K : List Au} {L : List Py} (h : PInv first K L) (nm : ByteArray) : 0 ≤ heldU K nm ∧ heldU K nm ≤ moneyOf K nm ∧ moneyOf K nm ≤ 1000000000 ∧ 0 ≤ sumP L nm 1 ∧ sumP L nm 1 ≤ 1000000000 ∧ 0 ≤ sumP L nm 2 ∧ sumP L nm 2 ≤ 1000000000 := by
  have h1 := h.sums nm
  have h2 := h.top nm
  have h3 := sumP_nonneg (fun x hx => (h.pays x hx).1) nm 1
  have h4 := sumP_nonneg (fun x hx => (h.pays x hx).1) nm 2
  omega
theorem PInv.start {first : List Au} (h : AccL first) : PInv first first [] := by
  refine ⟨rfl, h.2.1, h.1, h.2.2, fun h hh => (by cases hh), by simp, fun nm => ?_⟩
  simp only [sumP, List.map_nil, List.sum_nil]
  unfold heldU moneyOf
  by_cases hm : nm ∈ first.map Au.name
  · obtain ⟨g, hg, rfl⟩ := List.mem_map.1 hm
    rw [acc_of h.2.1 hg]
    have := h.2.2 g hg
    unfold accB at this
    omega
  · rw [acc_none hm]
    exact ⟨rfl, rfl, Int.le_refl _⟩
theorem authB_parts {K : List Au} {L : List Py} {o : BitVec 32} {nm : ByteArray} {n : Int} (hb : authB K L o nm n = true) : o ≠ 0#32 ∧ 1 ≤ n ∧ findK Py.o L o = none ∧ n ≤ moneyOf K nm - heldU K nm ∧ nm ∈ K.map Au.name := by
  unfold authB at hb
  simp only [Bool.and_eq_true, decide_eq_true_eq, Bool.not_eq_true'] at hb
  obtain ⟨ho, hn, hf, hle⟩ := hb
  refine ⟨ho, hn, by simpa using hf, hle, ?_⟩
  apply Classical.byContradiction
  intro hc
  unfold moneyOf heldU at hle
  rw [acc_none hc] at hle
  simp only [zeroU] at hle
  omega
theorem auth_no {K : List Au} {L : List Py} {o : BitVec 32} {nm : ByteArray} {n : Int} (hb : authB K L o nm n = false) : authKs K L o nm n = K ∧ authLs K L o nm n = L := by
  unfold authKs authLs
  rw [hb]
  exact ⟨rfl, rfl⟩
theorem auth_yes {K : List Au} {L : List Py} {o : BitVec 32} {nm : ByteArray} {n : Int} (hb : authB K L o nm n = true) : authKs K L o nm n = adjU K nm 0 n ∧ authLs K L o nm n = L ++ [⟨o, nm, n, 1⟩] := by
  unfold authKs authLs
  rw [hb]
  exact ⟨rfl, rfl⟩
theorem PInv.auth {first K : List Au} {L : List Py} (h : PInv first K L) (o : BitVec 32) (nm : ByteArray) (n : Int) : PInv first (authKs K L o nm n) (authLs K L o nm n) := by
  cases hb : authB K L o nm n with
  | false => rw [(auth_no hb).1, (auth_no hb).2]; exact h
  | true =>
    rw [(auth_yes hb).1, (auth_yes hb).2]
    obtain ⟨ho, hn, hf, hle, hin⟩ := authB_parts hb
    have hm0 := h.mid nm
    refine ⟨by rw [adjU_names (find_namesU hin)]; exact h.names, h.nd, h.few, h.ok, ?_, ?_, fun nm' => ?_⟩
    · intro x hx
      rcases List.mem_append.1 hx with hx | hx
      · exact h.pays x hx
      · rw [List.mem_singleton.1 hx]
        exact ⟨hn, (by show n ≤ 1000000000; omega), ho, by rw [← h.names]; exact hin, by show (1 : Int) ≤ 1; omega, by show (1 : Int) ≤ 3; omega⟩
    · rw [List.map_append, List.nodup_append]
      refine ⟨h.keys, by simp, ?_⟩
      intro x hx y hy
      obtain ⟨c, hc, rfl⟩ := List.mem_map.1 hx
      simp only [List.map_cons, List.map_nil, List.mem_singleton] at hy
      subst hy
      exact findK_none hf c hc
    · have h1 := h.sums nm'
      rw [sumP_snoc, sumP_snoc]
      unfold heldU moneyOf at *
      rw [adjU_acc]
      by_cases e : nm' = nm
      · subst e
        simp only [if_true, true_and]
        unfold heldU moneyOf
        rw [if_neg (by decide : ¬ (1 : Int) = 2)]
        omega
      · have e2 : ¬ nm = nm' := fun x => e x.symm
        simp only [if_neg e, e2, false_and, if_false]
        omega
def turnOk (s t dm dh : Int) : Prop := (s = 1 ∧ t = 2 ∧ dm = -1 ∧ dh = -1) ∨ (s = 1 ∧ t = 3 ∧ dm = 0 ∧ dh = -1) ∨ (s = 2 ∧ t = 3 ∧ dm = 1 ∧ dh = 0)
theorem turn_no {K : List Au} {L : List Py} {o : BitVec 32} {s : Int} (t dm dh : Int) (hb : turnB L o s = false) : turnKs K L o s dm dh = K ∧ turnLs L o s t = L := by
  unfold turnB at hb
  unfold turnKs turnLs
  cases hf : findK Py.o L o with
  | none => exact ⟨rfl, rfl⟩
  | some x =>
    rw [hf] at hb
    simp only [decide_eq_false_iff_not] at hb
    simp only [if_neg hb, and_self]
theorem turn_yes {K : List Au} {L : List Py} {o : BitVec 32} {s : Int} (t dm dh : Int) (hb : turnB L o s = true) : ∃ x, x ∈ L ∧ x.o = o ∧ x.st = s ∧ findK Py.o L o = some x ∧ turnKs K L o s dm dh = adjU K x.name (dm * x.n) (dh * x.n) ∧ turnLs L o s t = putK Py.o L ⟨x.o, x.name, x.n, t⟩ := by
  unfold turnB at hb
  unfold turnKs turnLs
  cases hf : findK Py.o L o with
  | none => rw [hf] at hb; cases hb
  | some x =>
    rw [hf] at hb
    simp only [decide_eq_true_eq] at hb
    obtain ⟨h1, h2⟩ := findK_mem hf
    exact ⟨x, h1, h2, hb, rfl, by simp only [if_pos hb], by simp only [if_pos hb]⟩
theorem putP_keys {L : List Py} (hn : (L.map Py.o).Nodup) {x : Py} (hx : x ∈ L) (y : Py) (he : y.o = x.o) : (putK Py.o L y).map Py.o = L.map Py.o := by
  rw [putK_keys, he, findK_of hn hx]; rfl
theorem PInv.turn {first K : List Au} {L : List Py} (h : PInv first K L) (o : BitVec 32) (s t dm dh : Int) (hok : turnOk s t dm dh) : PInv first (turnKs K L o s dm dh) (turnLs L o s t) := by
  cases hb : turnB L o s with
  | false => rw [(turn_no t dm dh hb).1, (turn_no (K := K) t dm dh hb).2]; exact h
  | true =>
    obtain ⟨x, hx, hxo, hxs, hf, eK, eL⟩ := turn_yes (K := K) t dm dh hb
    rw [eK, eL]
    have hp := h.pays x hx
    have hin : x.name ∈ K.map Au.name := by rw [h.names]; exact hp.2.2.2.1
    have hkeys : (putK Py.o L ⟨x.o, x.name, x.n, t⟩).map Py.o = L.map Py.o := putP_keys h.keys hx _ rfl
    refine ⟨by rw [adjU_names (find_namesU hin)]; exact h.names, h.nd, h.few, h.ok, ?_, by rw [hkeys]; exact h.keys, fun nm' => ?_⟩
    · intro y hy
      rcases putK_mem hy with rfl | ⟨hy, _⟩ | ⟨hy, _⟩
      · refine ⟨hp.1, hp.2.1, hp.2.2.1, hp.2.2.2.1, ?_, ?_⟩
        · show 1 ≤ t
          rcases hok with ⟨_, rfl, _⟩ | ⟨_, rfl, _⟩ | ⟨_, rfl, _⟩ <;> decide
        · show t ≤ 3
          rcases hok with ⟨_, rfl, _⟩ | ⟨_, rfl, _⟩ | ⟨_, rfl, _⟩ <;> decide
      · exact h.pays y hy
      · exact h.pays y hy
    · have h1 := h.sums nm'
      have hle := mem_le_sumP (fun x hx => (h.pays x hx).1) hx
      have hmid := h.mid x.name
      have hp1 := sumP_put (y := ⟨x.o, x.name, x.n, t⟩) h.keys hx rfl nm' 1
      have hp2 := sumP_put (y := ⟨x.o, x.name, x.n, t⟩) h.keys hx rfl nm' 2
      rw [hp1, hp2]
      unfold heldU moneyOf at *
      rw [adjU_acc]
      by_cases e : nm' = x.name
      · subst e
        simp only [if_true, true_and]
        unfold heldU moneyOf
        rw [hxs] at hle ⊢
        rcases hok with ⟨rfl, rfl, rfl, rfl⟩ | ⟨rfl, rfl, rfl, rfl⟩ | ⟨rfl, rfl, rfl, rfl⟩
        · simp only [if_true, show ¬ (1 : Int) = 2 by decide, show ¬ (2 : Int) = 1 by decide, if_false]; omega
        · simp only [if_true, show ¬ (1 : Int) = 2 by decide, show ¬ (3 : Int) = 1 by decide, show ¬ (3 : Int) = 2 by decide, if_false]; omega
        · simp only [if_true, show ¬ (2 : Int) = 1 by decide, show ¬ (3 : Int) = 1 by decide, show ¬ (3 : Int) = 2 by decide, if_false]; omega
      · have e2 : ¬ x.name = nm' := fun z => e z.symm
        simp only [if_neg e, e2, false_and, if_false]
        omega
def PsAt (TD p : Nat) (K : List Au) (L : List Py) (C : List Ck) : Prop :=
  ∃ b1 b2 C1 C2, C = row p [.map (some b1), .map (some b2)] TD :: (C1 ++ C2) ∧ MpG kStr b1 (kvs Au.name encU K) C1 ∧ MpG kU32 b2 (kvs Py.o encP L) C2
theorem lkU (K : List Au) (nm : ByteArray) : (if false = true then Value.tuple #[(getG (kvs Au.name encU K) nm).getD (.agg #[.string ⟨#[]⟩, .int .i64 0, .int .i64 0]), .bool (getG (kvs Au.name encU K) nm).isSome] else (getG (kvs Au.name encU K) nm).getD (.agg #[.string ⟨#[]⟩, .int .i64 0, .int .i64 0])) = .agg (cellsU (acc K nm)).toArray := by
  rw [if_neg (by simp), getG_kvs]
  unfold acc
  cases findK Au.name K nm <;> rfl
theorem lkU2 (K : List Au) (nm : ByteArray) : (if true = true then Value.tuple #[(getG (kvs Au.name encU K) nm).getD (.agg #[.string ⟨#[]⟩, .int .i64 0, .int .i64 0]), .bool (getG (kvs Au.name encU K) nm).isSome] else (getG (kvs Au.name encU K) nm).getD (.agg #[.string ⟨#[]⟩, .int .i64 0, .int .i64 0])) = .tuple #[.agg (cellsU (acc K nm)).toArray, .bool (findK Au.name K nm).isSome] := by
  rw [if_pos rfl, getG_kvs]
  unfold acc
  cases findK Au.name K nm <;> rfl
theorem lkP2 (L : List Py) (o : BitVec 32) : (if true = true then Value.tuple #[(getG (kvs Py.o encP L) o).getD (.agg #[.int .u32 0, .string ⟨#[]⟩, .int .i64 0, .int .i64 0]), .bool (getG (kvs Py.o encP L) o).isSome] else (getG (kvs Py.o encP L) o).getD (.agg #[.int .u32 0, .string ⟨#[]⟩, .int .i64 0, .int .i64 0])) = .tuple #[.agg (cellsP ((findK Py.o L o).getD zeroP)).toArray, .bool (findK Py.o L o).isSome] := by
  rw [if_pos rfl, getG_kvs]
  cases findK Py.o L o <;> rfl
theorem putU (K : List Au) (a : Au) (nm : ByteArray) (he : nm = a.name) : setG (kvs Au.name encU K) nm (.agg #[.string a.name, .int .i64 a.money, .int .i64 a.held]) = kvs Au.name encU (putK Au.name K a) := setG_kvs encU K a nm _ he rfl
theorem putP (L : List Py) (x : Py) (o : BitVec 32) (he : o = x.o) : setG (kvs Py.o encP L) o (.agg #[.int .u32 x.o.toNat, .string x.name, .int .i64 x.n, .int .i64 x.st]) = kvs Py.o encP (putK Py.o L x) := setG_kvs encP L x o _ he rfl
theorem putP_new {L : List Py} {x : Py} (h : findK Py.o L x.o = none) : putK Py.o L x = L ++ [x] := by
  unfold putK
  rw [h]
  rfl
theorem putU_new {L : List Au} {x : Au} (h : findK Au.name L x.name = none) : putK Au.name L x = L ++ [x] := by
  unfold putK
  rw [h]
  rfl
theorem once_moreU {L : List Au} {g : Au} (h : (L.map Au.name).Nodup) (hn : findK Au.name L g.name = none) : ((L ++ [g]).map Au.name).Nodup := by
  rw [List.map_append, List.nodup_append]
  refine ⟨h, by simp, ?_⟩
  intro x hx y hy
  obtain ⟨c, hc, rfl⟩ := List.mem_map.1 hx
  simp only [List.map_cons, List.map_nil, List.mem_singleton] at hy
  subst hy
  exact findK_none hn c hc
theorem twice_noU {gs : List Au} {i : Nat} (hi : i < gs.length) (h : (findK Au.name (gs.take i) gs[i].name).isSome = true) : ¬ (gs.map Au.name).Nodup := by
  intro hn
  obtain ⟨g, hg⟩ := Option.isSome_iff_exists.1 h
  obtain ⟨h1, h2⟩ := findK_mem hg
  obtain ⟨j, hj, rfl⟩ := List.getElem_of_mem h1
  simp only [List.length_take] at hj
  rw [List.getElem_take] at h2
  have := List.pairwise_iff_getElem.1 hn j i (by simp; omega) (by simpa using hi) (by omega)
  simp at this
  exact this h2
end Go.SL

set_option linter.unusedVariables false
set_option linter.unusedSimpArgs false
namespace Go.SL
structure Bk where
  o : BitVec 32
  day : Nat
  n : Int
deriving DecidableEq
def Bk.val (b : Bk) : Value := .agg #[.int .u32 b.o.toNat, .int .i64 b.day, .int .i64 b.n]
def bks (L : List Bk) : List (Int × Value) := L.map fun b => ((b.o.toNat : Int), b.val)
def findB (L : List Bk) (o : BitVec 32) : Option Bk := L.find? fun b => decide (o = b.o)
theorem getM_bks (L : List Bk) (o : BitVec 32) : getM (bks L) (o.toNat : Int) = (findB L o).map Bk.val := by
  induction L with
  | nil => rfl
  | cons b L ih =>
    have h : ((o.toNat : Int) = (b.o.toNat : Int)) ↔ o = b.o := by
      constructor
      · intro e; exact BitVec.eq_of_toNat_eq (by omega)
      · rintro rfl; rfl
    by_cases e : o = b.o
    · simp [getM, bks, findB, e]
    · have e2 : ¬ ((o.toNat : Int) = (b.o.toNat : Int)) := fun x => e (h.1 x)
      have h1 : getM (bks (b :: L)) (o.toNat : Int) = getM (bks L) (o.toNat : Int) := by
        simp only [getM, bks, List.map_cons]
        rw [List.find?_cons_of_neg (by simpa using e2)]
      have h2 : findB (b :: L) o = findB L o := by
        simp only [findB]
        rw [List.find?_cons_of_neg (by simpa using e)]
      rw [h1, h2, ih]
theorem getD_val (L : List Bk) (o : BitVec 32) : (getM (bks L) (o.toNat : Int)).getD (.agg #[.int .u32 0, .int .i64 0, .int .i64 0]) = ((findB L o).getD ⟨0#32, 0, 0⟩).val := by
  rw [getM_bks]
  cases findB L o <;> rfl
theorem isSome_val (L : List Bk) (o : BitVec 32) : (getM (bks L) (o.toNat : Int)).isSome = (findB L o).isSome := by
  rw [getM_bks]
  cases findB L o <;> rfl
theorem bks_snoc (L : List Bk) (b : Bk) : bks L ++ [((b.o.toNat : Int), b.val)] = bks (L ++ [b]) := by simp [bks]
theorem nodup_snoc {L : List Bk} {b : Bk} (h : (L.map (·.o)).Nodup) (hn : findB L b.o = none) : ((L ++ [b]).map (·.o)).Nodup := by
  rw [List.map_append, List.nodup_append]
  refine ⟨h, by simp, ?_⟩
  intro x hx y hy
  obtain ⟨c, hc, rfl⟩ := List.mem_map.1 hx
  simp at hy
  subst hy
  have := List.find?_eq_none.1 hn c hc
  intro e
  simp at this
  exact this e.symm
def delB (L : List Bk) (o : BitVec 32) : List Bk := L.filter fun b => decide (o ≠ b.o)
theorem delM_bks (L : List Bk) (o : BitVec 32) : delM (bks L) (o.toNat : Int) = bks (delB L o) := by
  induction L with
  | nil => rfl
  | cons b L ih =>
    have h : ((o.toNat : Int) = (b.o.toNat : Int)) ↔ o = b.o := by
      constructor
      · intro e; exact BitVec.eq_of_toNat_eq (by omega)
      · rintro rfl; rfl
    have e1 : bks (b :: L) = ((b.o.toNat : Int), b.val) :: bks L := rfl
    rw [e1]
    by_cases e : o = b.o
    · have h1 : delM (((b.o.toNat : Int), b.val) :: bks L) (o.toNat : Int) = delM (bks L) (o.toNat : Int) := by
        unfold delM; rw [List.filter_cons_of_neg (by simp [e])]
      have h2 : delB (b :: L) o = delB L o := by unfold delB; rw [List.filter_cons_of_neg (by simp [e])]
      rw [h1, h2, ih]
    · have e2 : ¬ ((o.toNat : Int) = (b.o.toNat : Int)) := fun x => e (h.1 x)
      have h1 : delM (((b.o.toNat : Int), b.val) :: bks L) (o.toNat : Int) = ((b.o.toNat : Int), b.val) :: delM (bks L) (o.toNat : Int) := by
        unfold delM; rw [List.filter_cons_of_pos (by simpa using e2)]
      have h2 : delB (b :: L) o = b :: delB L o := by unfold delB; rw [List.filter_cons_of_pos (by simpa using e)]
      rw [h1, h2, ih]
      rfl
theorem delB_nodup {L : List Bk} (o : BitVec 32) (h : (L.map (·.o)).Nodup) : ((delB L o).map (·.o)).Nodup := h.sublist (List.filter_sublist.map _)
def RoomsOk (rs : List Int) : Prop := ∀ j, 0 ≤ rs.getD j 0 ∧ rs.getD j 0 ≤ 1000000
def dayOf (rs : List Int) (from_ : Int) (n : Int) : Option Nat := (List.range rs.length).find? fun d => decide (from_ ≤ (d : Int)) && decide (n ≤ rs.getD d 0)
def bookOf (rs : List Int) (L : List Bk) (o : BitVec 32) (from_ n : Int) : Option Nat :=
  if o = 0#32 ∨ n < 1 ∨ from_ < 0 ∨ (findB L o).isSome then none else dayOf rs from_ n
theorem dayOf_yes (rs : List Int) (from_ n : Int) (d : Nat) (hd : d < rs.length) (h1 : from_ ≤ d) (h2 : n ≤ rs.getD d 0) (hno : ∀ j, j < d → ¬ (from_ ≤ (j : Int) ∧ n ≤ rs.getD j 0)) : dayOf rs from_ n = some d := by
  unfold dayOf
  rw [List.find?_eq_some_iff_getElem]
  refine ⟨by simp [h1]; simpa using h2, d, by simpa using hd, by simp, fun j hj => ?_⟩
  have := hno j hj
  simp only [List.getElem_range]
  simp only [Bool.not_eq_true', Bool.and_eq_false_iff, decide_eq_false_iff_not]
  by_cases h : from_ ≤ (j : Int)
  · right; intro h3; exact this ⟨h, h3⟩
  · left; exact h
theorem dayOf_no (rs : List Int) (from_ n : Int) (hno : ∀ j, j < rs.length → ¬ (from_ ≤ (j : Int) ∧ n ≤ rs.getD j 0)) : dayOf rs from_ n = none := by
  unfold dayOf
  rw [List.find?_eq_none]
  intro j hj
  have := hno j (by simpa using hj)
  simp only [Bool.and_eq_true, decide_eq_true_eq]
  exact this
theorem ic_set (l : List Int) (i : Nat) (x : Int) : (ic l).set i (.int .i64 x) = ic (l.set i x) := by simp [ic, List.map_set]
def DockAt (TD TI p : Nat) (rs : List Int) (L : List Bk) (C : List Ck) : Prop :=
  ∃ vr Cr bm Cm, C = row p [vr, .map (some bm)] TD :: (Cr ++ Cm) ∧ Own vr rs.length (ic rs) TI 1 Cr ∧ Mp bm .u32 (bks L) Cm ∧ (L.map (·.o)).Nodup
theorem keys_nodup {L : List Bk} (h : (L.map (·.o)).Nodup) : ((bks L).map (·.1)).Nodup := by
  have e : (bks L).map (·.1) = (L.map (·.o)).map fun o => (o.toNat : Int) := by simp [bks]
  rw [e]
  unfold List.Nodup at *
  rw [List.pairwise_map]
  exact h.imp fun {a b} hab e => hab (BitVec.eq_of_toNat_eq (by omega))
theorem run_equal_nilS {P : Program} {T e : TypeId} (hT : P.underlying T = some (.slice e)) (ao : Option Addr) (n c : Nat) (w : World) : (Op.equal T (.slice ao n c) (.slice none 0 0)).run P w = .ok ao.isNone w := by
  have h : ∀ d, (Op.equalIn (d + 1) T (.slice ao n c) (.slice none 0 0)).run P w = .ok ao.isNone w := fun d => by cases ao <;> simp [Op.equalIn, run_underlying hT]
  exact h 9999
theorem Yd.eqlNilS {P : Program} {l : Sl} {d : Option Nat} {ty : TypeId} {pos : String} {aft : Array Edge} {g : Option (Nat × Bool)} {T T' e : TypeId} {x y : Operand} {ao : Option Addr} {n c : Nat} (hT : P.underlying T = some (.slice e)) (hx : ev l x = some (.slice ao n c)) (hy : ev l y = some (.slice none 0 0)) : Yd P ⟨d, .binOp .eql T x y T', ty, pos, aft, g⟩ l (.bool ao.isNone) := fun a kn w => by
  have : (eqGuard .eql T x y (.slice ao n c) (.slice none 0 0)).run P w = .ok () w := by unfold eqGuard; simp
  cases ao <;> simp [execOp, kn.ev hx, kn.ev hy, this, binOp, run_equal_nilS hT]
def resOf (r : Option Nat) : Int × Int := match r with | none => (0, 2) | some d => ((d : Int), 1)
def roomsB (rs : List Int) (r : Option Nat) (n : Int) : List Int := match r with | none => rs | some d => rs.set d (rs.getD d 0 - n)
def listB (L : List Bk) (r : Option Nat) (o : BitVec 32) (n : Int) : List Bk := match r with | none => L | some d => L ++ [⟨o, d, n⟩]
def resC (b : Option Bk) : Int := match b with | none => 2 | some _ => 1
def roomsC (rs : List Int) (b : Option Bk) : List Int := match b with | none => rs | some b => rs.set b.day (rs.getD b.day 0 + b.n)
def listC (L : List Bk) (b : Option Bk) (o : BitVec 32) : List Bk := match b with | none => L | some _ => delB L o
theorem roomsOk_of {rs : List Int} (h : rs.all (fun x => decide (0 ≤ x) && decide (x ≤ 1000000)) = true) : RoomsOk rs := by
  intro j
  by_cases hj : j < rs.length
  · have := List.all_eq_true.1 h rs[j] (List.getElem_mem hj)
    simp only [List.getD, List.getElem?_eq_getElem hj, Option.getD_some]
    simpa using this
  · have e : rs[j]? = none := List.getElem?_eq_none (by omega)
    simp [List.getD, e]
theorem dayOf_spec {rs : List Int} {from_ n : Int} {d : Nat} (h : dayOf rs from_ n = some d) : d < rs.length ∧ from_ ≤ d ∧ n ≤ rs.getD d 0 ∧ ∀ j, j < d → ¬ (from_ ≤ (j : Int) ∧ n ≤ rs.getD j 0) := by
  unfold dayOf at h
  rw [List.find?_eq_some_iff_getElem] at h
  obtain ⟨h1, i, hi, h2, h3⟩ := h
  simp only [List.getElem_range] at h2
  subst h2
  simp only [List.length_range] at hi
  simp only [Bool.and_eq_true, decide_eq_true_eq] at h1
  refine ⟨hi, h1.1, h1.2, fun j hj hh => ?_⟩
  have := h3 j hj
  simp only [List.getElem_range] at this
  simp [hh.1] at this
  have := hh.2
  simp only [List.getD] at this
  omega
end Go.SL

set_option linter.unusedVariables false
set_option linter.unusedSimpArgs false
namespace Go.SL
def sumDay (L : List Bk) (d : Nat) : Int := (L.map fun b => if b.day = d then b.n else 0).sum
structure DInv (first rs : List Int) (L : List Bk) : Prop where
  len : rs.length = first.length
  few : first.length ≤ 60
  ok : RoomsOk first
  bks : ∀ b ∈ L, b.day < rs.length ∧ 1 ≤ b.n ∧ b.o ≠ 0#32
  sums : ∀ d, 0 ≤ rs.getD d 0 ∧ rs.getD d 0 + sumDay L d = first.getD d 0
  keys : (L.map (·.o)).Nodup
theorem sumDay_nonneg {L : List Bk} (h : ∀ b ∈ L, 1 ≤ b.n) (d : Nat) : 0 ≤ sumDay L d := by
  induction L with
  | nil => simp [sumDay]
  | cons b L ih =>
    have h1 := ih (fun c hc => h c (List.mem_cons_of_mem _ hc))
    have h2 := h b List.mem_cons_self
    simp only [sumDay, List.map_cons, List.sum_cons] at *
    split <;> omega
theorem DInv.rooms {first rs : List Int} {L : List Bk} (h : DInv first rs L) : RoomsOk rs := fun d => by
  have h1 := h.sums d
  have h2 := h.ok d
  have h3 := sumDay_nonneg (fun b hb => (h.bks b hb).2.1) d
  omega
theorem DInv.start {first : List Int} (h : RoomsOk first) (hl : first.length ≤ 60) : DInv first first [] :=
  ⟨rfl, hl, h, fun b hb => (by cases hb), fun d => ⟨(h d).1, by simp [sumDay]⟩, by simp⟩
theorem sumDay_snoc (L : List Bk) (b : Bk) (d : Nat) : sumDay (L ++ [b]) d = sumDay L d + if b.day = d then b.n else 0 := by
  simp [sumDay]
theorem sumDay_del {L : List Bk} (hn : (L.map (·.o)).Nodup) {o : BitVec 32} {b : Bk} (hb : findB L o = some b) (d : Nat) : sumDay (delB L o) d + (if b.day = d then b.n else 0) = sumDay L d := by
  induction L with
  | nil => cases hb
  | cons c L ih =>
    simp only [List.map_cons, List.nodup_cons] at hn
    by_cases e : o = c.o
    · have h1 : findB (c :: L) o = some c := by simp [findB, e]
      rw [h1] at hb
      obtain rfl : c = b := by simpa using hb
      have h2 : delB (c :: L) o = delB L o := by unfold delB; rw [List.filter_cons_of_neg (by simp [e])]
      have h3 : delB L o = L := by
        unfold delB
        apply List.filter_eq_self.2
        intro x hx
        simp only [decide_eq_true_eq]
        intro e2
        exact hn.1 (List.mem_map.2 ⟨x, hx, by rw [← e2, e]⟩)
      rw [h2, h3]
      simp only [sumDay, List.map_cons, List.sum_cons]
      omega
    · have h1 : findB (c :: L) o = findB L o := by
        unfold findB; rw [List.find?_cons_of_neg (by simpa using e)]
      rw [h1] at hb
      have h2 : delB (c :: L) o = c :: delB L o := by unfold delB; rw [List.filter_cons_of_pos (by simpa using e)]
      have := ih hn.2 hb
      rw [h2]
      simp only [sumDay, List.map_cons, List.sum_cons] at *
      omega
theorem findB_mem {L : List Bk} {o : BitVec 32} {b : Bk} (h : findB L o = some b) : b ∈ L ∧ b.o = o := by
  have h1 := List.mem_of_find?_eq_some h
  have h2 := List.find?_some h
  exact ⟨h1, by simpa using (of_decide_eq_true h2).symm⟩
theorem getD_set (rs : List Int) (i j : Nat) (x : Int) (h : i < rs.length) : (rs.set i x).getD j 0 = if i = j then x else rs.getD j 0 := by
  simp only [List.getD, List.getElem?_set]
  by_cases e : i = j
  · subst e; simp [h]
  · simp [e]
theorem DInv.cancel {first rs : List Int} {L : List Bk} (h : DInv first rs L) (o : BitVec 32) : DInv first (roomsC rs (findB L o)) (listC L (findB L o) o) := by
  cases hf : findB L o with
  | none => exact h
  | some b =>
    obtain ⟨hm, ho⟩ := findB_mem hf
    have hb := h.bks b hm
    refine ⟨by simp [roomsC, h.len], h.few, h.ok, ?_, ?_, delB_nodup o h.keys⟩
    · intro c hc
      have := h.bks c (List.mem_filter.1 hc).1
      simpa [roomsC] using this
    · intro d
      have h1 := h.sums d
      have h2 := sumDay_del h.keys hf d
      simp only [roomsC, listC]
      rw [getD_set rs _ _ _ hb.1]
      by_cases e : b.day = d
      · subst e
        rw [if_pos rfl] at h2 ⊢
        omega
      · rw [if_neg e] at h2 ⊢
        omega
theorem DInv.book {first rs : List Int} {L : List Bk} (h : DInv first rs L) (o : BitVec 32) (from_ n : Int) : DInv first (roomsB rs (bookOf rs L o from_ n) n) (listB L (bookOf rs L o from_ n) o n) := by
  cases hf : bookOf rs L o from_ n with
  | none => exact h
  | some d =>
    have hc : ¬ (o = 0#32 ∨ n < 1 ∨ from_ < 0 ∨ (findB L o).isSome) := by
      intro hc; rw [bookOf, if_pos hc] at hf; cases hf
    have hd : dayOf rs from_ n = some d := by rw [bookOf, if_neg hc] at hf; exact hf
    obtain ⟨g1, g2, g3, g4⟩ := dayOf_spec hd
    have hnone : findB L o = none := by
      cases e : findB L o with
      | none => rfl
      | some b => exact absurd (.inr (.inr (.inr (by rw [e]; rfl)))) hc
    have hn1 : 1 ≤ n := by
      apply Classical.byContradiction
      intro h9
      exact hc (.inr (.inl (by omega)))
    have ho : o ≠ 0#32 := fun e => hc (.inl e)
    refine ⟨by simp [roomsB, h.len], h.few, h.ok, ?_, ?_, nodup_snoc h.keys hnone⟩
    · intro b hb
      simp only [listB] at hb
      rcases List.mem_append.1 hb with hb | hb
      · have := h.bks b hb; simpa [roomsB] using this
      · rw [List.mem_singleton.1 hb]; exact ⟨by simpa [roomsB] using g1, hn1, ho⟩
    · intro j
      have h1 := h.sums j
      simp only [roomsB, listB]
      rw [getD_set rs _ _ _ g1, sumDay_snoc]
      by_cases e : d = j
      · subst e
        simp only [if_true]
        omega
      · simp only [if_neg e]
        omega
theorem DInv.cancelOk {first rs : List Int} {L : List Bk} (h : DInv first rs L) (o : BitVec 32) : ∀ b, findB L o = some b → b.day < rs.length ∧ -9223372036854775808 ≤ rs.getD b.day 0 + b.n ∧ rs.getD b.day 0 + b.n ≤ 9223372036854775807 := by
  intro b hb
  obtain ⟨hm, ho⟩ := findB_mem hb
  have h1 := (h.cancel o).rooms b.day
  rw [hb] at h1
  have h2 := h.bks b hm
  simp only [roomsC] at h1
  rw [getD_set rs _ _ _ h2.1, if_pos rfl] at h1
  exact ⟨h2.1, by omega, by omega⟩
end Go.SL

set_option linter.unusedVariables false
set_option linter.unusedSimpArgs false
namespace Go.SL
structure Ef where
  o : BitVec 32
  s : Int
  u : Bool
deriving DecidableEq
def efc (x : Ef) : List Value := [.int .u32 x.o.toNat, .int .i64 x.s, .bool x.u]
theorem efc_len (x : Ef) : (efc x).length = 3 := rfl
theorem efc_one (x : Ef) : ∀ v ∈ efc x, v.oneCell' = true := by
  intro v hv
  simp only [efc, List.mem_cons, List.not_mem_nil, or_false] at hv
  rcases hv with rfl | rfl | rfl <;> rfl
structure Cw where
  K : List Gd
  L : List Ho
  U : List Au
  Y : List Py
  rs : List Int
  B : List Bk
  e : BitVec 32
  ks : List Kp
  ef : List Ef
  no : List (List (BitVec 8))
def Cw.new (gs : List Gd) (us : List Au) (rs : List Int) : Cw := ⟨gs, [], us, [], rs, [], 0#32, [], [], []⟩
def undoS (s : Cw) (o : BitVec 32) (w : Wk) : Cw :=
  if w.what = 1 then { s with K := leaveKs s.K s.L o false, L := delK Ho.o s.L o }
  else if w.what = 2 then s
  else if w.what = 3 then { s with U := turnKs s.U s.Y o 1 0 (-1), Y := turnLs s.Y o 1 3 }
  else if w.what = 4 then { s with U := turnKs s.U s.Y o 2 1 0, Y := turnLs s.Y o 2 3 }
  else if w.what = 5 then { s with rs := roomsC s.rs (findB s.B o), B := listC s.B (findB s.B o) o }
  else { s with no := s.no ++ [33#8 :: w.name] }
def undoV (s : Cw) (o : BitVec 32) (w : Wk) : Int :=
  if w.what = 1 then vd (findK Ho.o s.L o).isSome
  else if w.what = 2 then 2
  else if w.what = 3 then vdP (turnB s.Y o 1)
  else if w.what = 4 then vdP (turnB s.Y o 2)
  else if w.what = 5 then resC (findB s.B o)
  else 1
def workS (s : Cw) (o : BitVec 32) (w : Wk) : Cw :=
  if w.what = 1 then { s with K := holdKs s.K s.L o (str w.name) w.n, L := holdLs s.K s.L o (str w.name) w.n }
  else if w.what = 2 then { s with K := leaveKs s.K s.L o true, L := delK Ho.o s.L o }
  else if w.what = 3 then { s with U := authKs s.U s.Y o (str w.name) w.n, Y := authLs s.U s.Y o (str w.name) w.n }
  else if w.what = 4 then { s with U := turnKs s.U s.Y o 1 (-1) (-1), Y := turnLs s.Y o 1 2 }
  else if w.what = 5 then { s with rs := roomsB s.rs (bookOf s.rs s.B o 0 w.n) w.n, B := listB s.B (bookOf s.rs s.B o 0 w.n) o w.n }
  else { s with no := s.no ++ [w.name] }
def workV (s : Cw) (o : BitVec 32) (w : Wk) : Int :=
  if w.what = 1 then vd (holdB s.K s.L o (str w.name) w.n)
  else if w.what = 2 then vd (findK Ho.o s.L o).isSome
  else if w.what = 3 then vdP (authB s.U s.Y o (str w.name) w.n)
  else if w.what = 4 then vdP (turnB s.Y o 1)
  else if w.what = 5 then (resOf (bookOf s.rs s.B o 0 w.n)).2
  else 1
def workR (s : Cw) (o : BitVec 32) (w : Wk) : List (BitVec 8) :=
  if w.what = 5 then (match bookOf s.rs s.B o 0 w.n with | none => [] | some d => [BitVec.ofInt 8 (d : Int)]) else []
def doS (s : Cw) (n : Nt) : Cw := if decE n.data ≠ 0 then s else if n.undo then undoS s n.order (decW n.data) else workS s n.order (decW n.data)
def doV (s : Cw) (n : Nt) : Int := if decE n.data ≠ 0 then 2 else if n.undo then undoV s n.order (decW n.data) else workV s n.order (decW n.data)
def doR (s : Cw) (n : Nt) : List (BitVec 8) := if decE n.data ≠ 0 then [] else if n.undo then [] else workR s n.order (decW n.data)
def doneN (n : Nt) (code : Int) (reply : List (BitVec 8)) : Nt := ⟨8, n.epoch, 0#32, 0#64, 0#64, n.order, n.step, n.undo, code, [], reply⟩
def noN (e : BitVec 32) (code : Int) : Nt := ⟨6, e, 0#32, 0#64, 0#64, 0#32, 0, false, code, [], []⟩
def fenN (e : BitVec 32) (n : Nt) : Nt := ⟨9, e, 0#32, 0#64, 0#64, n.order, n.step, n.undo, 0, [], []⟩
def codeOf (s : Cw) (n : Nt) (act : Int) : Int := if act = 4 then 1 else if act = 1 then doV s n else 2
def replyOf (s : Cw) (n : Nt) (act : Int) : List (BitVec 8) := if act = 4 then [] else if act = 1 then doR s n else []
def didS (s : Cw) (n : Nt) (act : Int) : Cw :=
  if act = 4 then s else if act = 1 then (if doV s n = 1 then { doS s n with ef := (doS s n).ef ++ [⟨n.order, n.step, n.undo⟩] } else doS s n) else s
def keptC (s : Cw) (n : Nt) (code : Int) (reply : List (BitVec 8)) : Cw := { s with e := (keepK s.e s.ks n code reply).1, ks := (keepK s.e s.ks n code reply).2.1 }
def serveS (s : Cw) (n : Nt) : Cw :=
  if (askK s.e s.ks n).2.2 ≠ 0 then s
  else if (askK s.e s.ks n).1 = 2 then { s with e := (seeK s.e s.ks n.epoch).1, ks := (seeK s.e s.ks n.epoch).2.1 }
  else if 200 ≤ s.ks.length then s
  else keptC (didS s n (askK s.e s.ks n).1) n (codeOf s n (askK s.e s.ks n).1) (replyOf s n (askK s.e s.ks n).1)
def serveN (s : Cw) (n : Nt) : Nt :=
  if (askK s.e s.ks n).2.2 = 72 then fenN s.e n
  else if (askK s.e s.ks n).2.2 = 80 then noN s.e 2
  else if (askK s.e s.ks n).2.2 ≠ 0 then noN s.e 1
  else if (askK s.e s.ks n).1 = 2 then doneN n (askK s.e s.ks n).2.1.code (askK s.e s.ks n).2.1.reply
  else if 200 ≤ s.ks.length then noN s.e 3
  else doneN n (codeOf s n (askK s.e s.ks n).1) (replyOf s n (askK s.e s.ks n).1)
structure CInv (g0 : List Gd) (u0 : List Au) (r0 : List Int) (s : Cw) : Prop where
  st : SInv g0 s.K s.L
  pu : PInv u0 s.U s.Y
  dk : DInv r0 s.rs s.B
  ck : chk s.ks
  ef : s.ef.length ≤ s.ks.length
  no : s.no.length ≤ s.ks.length
  small : ∀ x ∈ s.no, x.length ≤ 33
def CwAt (TS TP TD TI T8 TK TE TB TC p : Nat) (s : Cw) (C : List Ck) : Prop :=
  ∃ pd ps pp vL vE vN CS CP CD CF CE cn CN DN', C = row p [.pointer (some ⟨pd, 0, none⟩), .pointer (some ⟨ps, 0, none⟩), .pointer (some ⟨pp, 0, none⟩), .int .u32 s.e.toNat, vL, vE, vN] TC :: (CS ++ (CP ++ (CD ++ (CF ++ (CE ++ (CN ++ DN'))))))
    ∧ StAt TS ps s.K s.L CS ∧ PsAt TP pp s.U s.Y CP ∧ DockAt TD TI pd s.rs s.B CD ∧ FAt T8 TK vL s.ks CF ∧ Own vE s.ef.length (s.ef.flatMap efc) TE 3 CE ∧ Own vN s.no.length cn TB 1 CN ∧ Obs T8 cn s.no DN'
theorem ask_kept {e : BitVec 32} {ks : List Kp} {n : Nt} : (askK e ks n).2.1 = Kp.z ∨ (askK e ks n).2.1 ∈ ks := by
  unfold askK
  split
  · exact .inl rfl
  · split
    · exact .inl rfl
    · split
      · rename_i k hk
        split
        · exact .inr (getK_some hk).1
        · exact .inl rfl
      · split
        · split
          · exact .inl rfl
          · split <;> exact .inl rfl
        · split <;> exact .inl rfl
theorem ask_reply {e : BitVec 32} {ks : List Kp} {n : Nt} (h : chk ks) : (askK e ks n).2.1.reply.length ≤ 255 := by
  rcases ask_kept (e := e) (ks := ks) (n := n) with h1 | h1
  · rw [h1]; decide
  · exact (h.2.1 _ h1).2.2.2.2.1
section
variable {s : Cw} {n : Nt}
theorem serve_72 (h : (askK s.e s.ks n).2.2 = 72) : serveS s n = s ∧ serveN s n = fenN s.e n := by
  unfold serveS serveN
  rw [if_pos (by rw [h]; decide), if_pos h]
  exact ⟨rfl, rfl⟩
theorem serve_80 (h1 : ¬ (askK s.e s.ks n).2.2 = 72) (h : (askK s.e s.ks n).2.2 = 80) : serveS s n = s ∧ serveN s n = noN s.e 2 := by
  unfold serveS serveN
  rw [if_pos (by rw [h]; decide), if_neg h1, if_pos h]
  exact ⟨rfl, rfl⟩
theorem serve_no (h1 : ¬ (askK s.e s.ks n).2.2 = 72) (h2 : ¬ (askK s.e s.ks n).2.2 = 80) (h : (askK s.e s.ks n).2.2 ≠ 0) : serveS s n = s ∧ serveN s n = noN s.e 1 := by
  unfold serveS serveN
  rw [if_pos h, if_neg h1, if_neg h2, if_pos h]
  exact ⟨rfl, rfl⟩
theorem serve_again (h : ¬ (askK s.e s.ks n).2.2 ≠ 0) (ha : (askK s.e s.ks n).1 = 2) : serveS s n = { s with e := (seeK s.e s.ks n.epoch).1, ks := (seeK s.e s.ks n.epoch).2.1 } ∧ serveN s n = doneN n (askK s.e s.ks n).2.1.code (askK s.e s.ks n).2.1.reply := by
  have h1 : (askK s.e s.ks n).2.2 = 0 := Classical.byContradiction h
  unfold serveS serveN
  rw [if_neg h, if_pos ha, if_neg (by rw [h1]; decide), if_neg (by rw [h1]; decide), if_neg h, if_pos ha]
  exact ⟨rfl, rfl⟩
theorem serve_full (h : ¬ (askK s.e s.ks n).2.2 ≠ 0) (ha : ¬ (askK s.e s.ks n).1 = 2) (hf : 200 ≤ s.ks.length) : serveS s n = s ∧ serveN s n = noN s.e 3 := by
  have h1 : (askK s.e s.ks n).2.2 = 0 := Classical.byContradiction h
  unfold serveS serveN
  rw [if_neg h, if_neg ha, if_pos hf, if_neg (by rw [h1]; decide), if_neg (by rw [h1]; decide), if_neg h, if_neg ha, if_pos hf]
  exact ⟨rfl, rfl⟩
theorem serve_new (h : ¬ (askK s.e s.ks n).2.2 ≠ 0) (ha : ¬ (askK s.e s.ks n).1 = 2) (hf : ¬ 200 ≤ s.ks.length) :
    serveS s n = keptC (didS s n (askK s.e s.ks n).1) n (codeOf s n (askK s.e s.ks n).1) (replyOf s n (askK s.e s.ks n).1) ∧ serveN s n = doneN n (codeOf s n (askK s.e s.ks n).1) (replyOf s n (askK s.e s.ks n).1) := by
  have h1 : (askK s.e s.ks n).2.2 = 0 := Classical.byContradiction h
  unfold serveS serveN
  rw [if_neg h, if_neg ha, if_neg hf, if_neg (by rw [h1]; decide), if_neg (by rw [h1]; decide), if_neg h, if_neg ha, if_neg hf]
  exact ⟨rfl, rfl⟩
theorem undo_fence (o : BitVec 32) (w : Wk) : (undoS s o w).e = s.e ∧ (undoS s o w).ks = s.ks ∧ (undoS s o w).ef = s.ef := by
  unfold undoS
  repeat' split
  all_goals exact ⟨rfl, rfl, rfl⟩
theorem work_fence (o : BitVec 32) (w : Wk) : (workS s o w).e = s.e ∧ (workS s o w).ks = s.ks ∧ (workS s o w).ef = s.ef := by
  unfold workS
  repeat' split
  all_goals exact ⟨rfl, rfl, rfl⟩
theorem do_fence : (doS s n).e = s.e ∧ (doS s n).ks = s.ks ∧ (doS s n).ef = s.ef := by
  unfold doS
  split
  · exact ⟨rfl, rfl, rfl⟩
  · split
    · exact undo_fence _ _
    · exact work_fence _ _
theorem did_fence {act : Int} : (didS s n act).e = s.e ∧ (didS s n act).ks = s.ks := by
  unfold didS
  split
  · exact ⟨rfl, rfl⟩
  · split
    · split
      · exact ⟨do_fence.1, do_fence.2.1⟩
      · exact ⟨do_fence.1, do_fence.2.1⟩
    · exact ⟨rfl, rfl⟩
theorem workR_len (o : BitVec 32) (w : Wk) : (workR s o w).length ≤ 1 := by
  unfold workR
  split
  · split <;> simp
  · simp
theorem reply_len {act : Int} : (replyOf s n act).length ≤ 1 := by
  unfold replyOf doR
  repeat' split
  all_goals first | exact workR_len _ _ | exact Nat.zero_le _
theorem did_4 {act : Int} (h : act = 4) : codeOf s n act = 1 ∧ replyOf s n act = [] ∧ didS s n act = s := by
  unfold codeOf replyOf didS
  rw [if_pos h, if_pos h, if_pos h]
  exact ⟨rfl, rfl, rfl⟩
theorem did_1 {act : Int} (h4 : ¬ act = 4) (h : act = 1) : codeOf s n act = doV s n ∧ replyOf s n act = doR s n ∧ didS s n act = (if doV s n = 1 then { doS s n with ef := (doS s n).ef ++ [⟨n.order, n.step, n.undo⟩] } else doS s n) := by
  unfold codeOf replyOf didS
  rw [if_neg h4, if_pos h, if_neg h4, if_pos h, if_neg h4, if_pos h]
  exact ⟨rfl, rfl, rfl⟩
theorem did_0 {act : Int} (h4 : ¬ act = 4) (h : ¬ act = 1) : codeOf s n act = 2 ∧ replyOf s n act = [] ∧ didS s n act = s := by
  unfold codeOf replyOf didS
  rw [if_neg h4, if_neg h, if_neg h4, if_neg h, if_neg h4, if_neg h]
  exact ⟨rfl, rfl, rfl⟩
end
end Go.SL

set_option linter.unusedVariables false
set_option linter.unusedSimpArgs false
set_option maxHeartbeats 2000000
namespace Go.Proofs.YtkamlondepceiaaGreat
open Go.SL
theorem newWriter_tells : Tells Tryz.prog 41 [] [] fun r H' => ∃ b, r = .pointer (some ⟨b, 0, none⟩) ∧ H' = [row b [.slice none 0 0, .bool false] 159] := by
 refine Tells.enter Tryz.func41 rfl Tryz.ntmps41 rfl ?_
 intro w0 R
 refine sr_ ?_
 refine a_ rfl rfl ?_
 refine ntsr_ ?_
 refine WL.y rfl (Yd.buildL (pl := [(0, 1), (1, 1)]) (zs := [.slice none 0 0, .bool false]) (parts := []) (vs := []) (cells := [.slice none 0 0, .bool false]) kr_ kr_ rfl rfl) ?_
 refine WL.h rfl (Hd.boxA rfl fun b => ⟨_, rfl, ?_⟩)
 refine a_ rfl rfl ?_
 refine nt_ ?_
 refine WC.ret ?_
 refine DN.ret1 Tryz.results41 rfl ?_
 exact ⟨b, rfl, rfl⟩
theorem put_tells (bw : Nat) (v : Value) (l : List (BitVec 8)) (C : List Ck) (n : BitVec 64) (size : Nat) (hs : size ≤ 8) (ho : Ob 5 v l C) (hl : l.length ≤ 1000000) : Tells Tryz.prog 76 [.pointer (some ⟨bw, 0, none⟩), .int .u64 n.toNat, .int .i64 size] (row bw [v, .bool false] 159 :: C) fun r H' => r = .pointer (some ⟨bw, 0, none⟩) ∧ ∃ v' C', Ob 5 v' (l ++ beW n size) C' ∧ H' = row bw [v', .bool false] 159 :: C' := by
 refine Tells.enter Tryz.func76 rfl Tryz.ntmps76 rfl ?_
 intro w0 R
 refine sr_ ?_
 refine a_ rfl rfl ?_
 refine nt_ ?_
 refine WC.seq ?_
 refine sr_ ?_
 refine m_ rfl rfl ?_
 refine WL.y rfl (Yd.eqlNil Tryz.underlying90 rfl rfl) ?_
 refine WL.renamed (t := 9) (v := .bool false) rfl (congrArg Value.bool (rfl)) ?_
 refine nt_ ?_
 refine WC.no rfl ?_
 refine WC.skip ?_
 refine ts_ ?_
 refine sr_ ?_
 refine m_ rfl rfl ?_
 refine m_ rfl rfl ?_
 refine nt_ ?_
 refine WC.block ?_
 refine WC.loopS (fun z : Nat × Value × List Ck => z.1 ≤ size ∧ Ob 5 z.2.1 (l ++ (beW n size).take z.1) z.2.2) (fun z : Nat × Value × List Ck => [(11, .int .i64 (z.1 : Int))]) (fun z : Nat × Value × List Ck => row bw [z.2.1, .bool false] 159 :: z.2.2) (fun z : Nat × Value × List Ck => size - z.1) (⟨0, v, C⟩) (show 0 ≤ size ∧ Ob 5 v (l ++ (beW n size).take 0) C from ⟨Nat.zero_le _, by simpa using ho⟩) (Sx.put rfl (sx_)) sp_ ?_
 rintro ⟨i, u, Cu⟩ hI
 replace hI : i ≤ size ∧ Ob 5 u (l ++ (beW n size).take i) Cu := hI
 obtain ⟨hi, hu⟩ := hI
 change WC _ _ _ _ _ _ ([(11, .int .i64 (i : Int))] ++ _) (row bw [u, .bool false] 159 :: Cu)
 obtain ⟨uo, uc, rfl, huc⟩ := hu.form
 refine sr_ ?_
 refine WL.y rfl (Yd.lss rfl rfl) ?_
 refine nt_ ?_
 refine WC.seq ?_
 refine WC.ite rfl (fun h12 => ?_) (fun h12 => ?_)
 ·have hlt : i < size := by omega
  have hL : (l ++ (beW n size).take i).length ≤ 1000008 := by simp only [List.length_append, List.length_take]; omega
  refine WC.skip ?_
  refine ts_ ?_
  refine WC.block ?_
  refine sr_ ?_
  refine m_ rfl rfl ?_
  refine a_ rfl rfl ?_
  refine nt_ ?_
  refine WC.draw 18 kr_ rfl ?_
  refine WA.y (i := 0) (NoPanic.block (NoPanic.then (NoPanic.then (NoPanic.block (NoPanic.then (NoPanic.body)))))) rfl kr_ kr_ kr_ rfl (Yd.move rfl) ?_
  refine WA.y (i := 1) (NoPanic.block (NoPanic.then (NoPanic.then (NoPanic.block (NoPanic.then (NoPanic.body)))))) rfl kr_ kr_ kr_ rfl (Yd.move rfl) ?_
  refine WA.y (i := 2) (NoPanic.block (NoPanic.then (NoPanic.then (NoPanic.block (NoPanic.then (NoPanic.body)))))) rfl kr_ kr_ kr_ rfl (Yd.notNil rfl) ?_
  refine WA.y (i := 3) (NoPanic.block (NoPanic.then (NoPanic.then (NoPanic.block (NoPanic.then (NoPanic.body)))))) rfl kr_ kr_ kr_ rfl (Yd.fieldAddr (k := 0) kr_ rfl) ?_
  refine WA.y (i := 5) (NoPanic.block (NoPanic.then (NoPanic.then (NoPanic.block (NoPanic.then (NoPanic.body)))))) rfl kr_ kr_ kr_ rfl (Yd.move rfl) ?_
  refine WA.y (i := 6) (NoPanic.block (NoPanic.then (NoPanic.then (NoPanic.block (NoPanic.then (NoPanic.body)))))) rfl kr_ kr_ kr_ rfl (Yd.move rfl) ?_
  refine WA.y (i := 7) (NoPanic.block (NoPanic.then (NoPanic.then (NoPanic.block (NoPanic.then (NoPanic.body)))))) rfl kr_ kr_ kr_ rfl (Yd.sub rfl rfl (by omega) (by omega)) ?_
  refine WA.y (i := 8) (NoPanic.block (NoPanic.then (NoPanic.then (NoPanic.block (NoPanic.then (NoPanic.body)))))) rfl kr_ kr_ kr_ rfl (Yd.move rfl) ?_
  refine WA.y (i := 9) (NoPanic.block (NoPanic.then (NoPanic.then (NoPanic.block (NoPanic.then (NoPanic.body)))))) rfl kr_ kr_ kr_ rfl (Yd.sub rfl rfl (by omega) (by omega)) ?_
  refine WA.y (i := 10) (NoPanic.block (NoPanic.then (NoPanic.then (NoPanic.block (NoPanic.then (NoPanic.body)))))) rfl kr_ kr_ kr_ rfl (Yd.mul rfl rfl (by omega) (by omega)) ?_
  refine WA.renamed (t := 24) (v := .int .i64 ((8 * (size - 1 - i) : Nat) : Int)) rfl (congrArg (Value.int .i64) (by omega)) ?_
  refine WA.y (i := 11) (NoPanic.block (NoPanic.then (NoPanic.then (NoPanic.block (NoPanic.then (NoPanic.body)))))) rfl kr_ kr_ kr_ rfl (Yd.shr64 _ (8 * (size - 1 - i)) rfl rfl rfl rfl) ?_
  refine WA.y (i := 12) (NoPanic.block (NoPanic.then (NoPanic.then (NoPanic.block (NoPanic.then (NoPanic.body)))))) rfl kr_ kr_ kr_ rfl (Yd.conv64_8 _ kr_ kr_ rfl rfl) ?_
  refine WA.two (i := 4) (j := 13) kr_ ?_ ?_
  ·refine WO.h rfl Wt.none rfl (Hd.load1 kr_ rfl mem_ (by rfl) ⟨_, rfl, ?_⟩)
   refine WA.one (i := 13) kr_ ?_
   refine WO.h rfl Wt.none rfl (Hd.build1 (e := 5) (z := .int .u8 0) kr_ kr_ kr_ rfl rfl fun rb => ⟨_, rfl, ?_⟩)
   refine WA.one (i := 14) kr_ ?_
   refine WO.h rfl Wt.none rfl (Hd.appendBs (e := 5) (zs := [.int .u8 0]) kr_ kr_ rfl rfl rfl hu sp_ (Bs.block (bs := [(n >>> (8 * (size - 1 - i))).setWidth 8]) rfl (by simp) mem_) (by simp only [List.length_cons, List.length_nil]; omega) fun u2 C2 hu2 => ⟨_, rfl, ?_⟩)
   refine WA.y (i := 15) (NoPanic.block (NoPanic.then (NoPanic.then (NoPanic.block (NoPanic.then (NoPanic.body)))))) rfl kr_ kr_ kr_ rfl (Yd.notNil rfl) ?_
   refine WA.y (i := 16) (NoPanic.block (NoPanic.then (NoPanic.then (NoPanic.block (NoPanic.then (NoPanic.body)))))) rfl kr_ kr_ kr_ rfl (Yd.fieldAddr (k := 0) kr_ rfl) ?_
   refine WA.one (i := 17) kr_ ?_
   refine WO.s rfl Wt.none (Hd.store1s kr_ rfl rfl hu2.one_cell fr_ (by rfl) rfl ⟨rfl, ?_⟩)
   refine WA.done kr_ ?_
   refine DN.block_normal ?_
   refine DN.then_normal ?_
   refine WC.region ?_
   refine WL.y rfl (Yd.add rfl rfl (by omega) (by omega)) ?_
   refine m_ rfl rfl ?_
   refine WL.nil ?_
   exact DN.againS (⟨i + 1, u2, C2⟩) (show (i + 1) ≤ size ∧ Ob 5 u2 (l ++ (beW n size).take (i + 1)) C2 from ⟨by omega, by rw [beW_next n size i hlt, ← List.append_assoc]; exact hu2⟩) (show size - (i + 1) < size - i by omega) (Sx.put rfl (sx_)) sp_
  ·refine WO.h rfl Wt.none rfl (Hd.build1 (e := 5) (z := .int .u8 0) kr_ kr_ kr_ rfl rfl fun rb => ⟨_, rfl, ?_⟩)
   refine WA.one (i := 4) kr_ ?_
   refine WO.h rfl Wt.none rfl (Hd.load1 kr_ rfl mem_ (by rfl) ⟨_, rfl, ?_⟩)
   refine WA.one (i := 14) kr_ ?_
   refine WO.h rfl Wt.none rfl (Hd.appendBs (e := 5) (zs := [.int .u8 0]) kr_ kr_ rfl rfl rfl hu sp_ (Bs.block (bs := [(n >>> (8 * (size - 1 - i))).setWidth 8]) rfl (by simp) mem_) (by simp only [List.length_cons, List.length_nil]; omega) fun u2 C2 hu2 => ⟨_, rfl, ?_⟩)
   refine WA.y (i := 15) (NoPanic.block (NoPanic.then (NoPanic.then (NoPanic.block (NoPanic.then (NoPanic.body)))))) rfl kr_ kr_ kr_ rfl (Yd.notNil rfl) ?_
   refine WA.y (i := 16) (NoPanic.block (NoPanic.then (NoPanic.then (NoPanic.block (NoPanic.then (NoPanic.body)))))) rfl kr_ kr_ kr_ rfl (Yd.fieldAddr (k := 0) kr_ rfl) ?_
   refine WA.one (i := 17) kr_ ?_
   refine WO.s rfl Wt.none (Hd.store1s kr_ rfl rfl hu2.one_cell fr_ (by rfl) rfl ⟨rfl, ?_⟩)
   refine WA.done kr_ ?_
   refine DN.block_normal ?_
   refine DN.then_normal ?_
   refine WC.region ?_
   refine WL.y rfl (Yd.add rfl rfl (by omega) (by omega)) ?_
   refine m_ rfl rfl ?_
   refine WL.nil ?_
   exact DN.againS (⟨i + 1, u2, C2⟩) (show (i + 1) ≤ size ∧ Ob 5 u2 (l ++ (beW n size).take (i + 1)) C2 from ⟨by omega, by rw [beW_next n size i hlt, ← List.append_assoc]; exact hu2⟩) (show size - (i + 1) < size - i by omega) (Sx.put rfl (sx_)) sp_
 ·have hie : i = size := by omega
  subst hie
  refine WC.exit ?_
  refine DN.then_exit ?_
  refine DN.then_exit ?_
  refine DN.block_exit ?_
  refine ts_ ?_
  refine WC.region ?_
  refine m_ rfl rfl ?_
  refine a_ rfl rfl ?_
  refine nt_ ?_
  refine WC.ret ?_
  refine DN.ret1 Tryz.results76 rfl ?_
  refine ⟨rfl, _, Cu, ?_, rfl⟩
  rw [List.take_of_length_le (by rw [beW_length]; omega)] at hu ⊢
  exact hu
theorem wU8_tells (bw : Nat) (v : Value) (l : List (BitVec 8)) (C : List Ck) (n : BitVec 8) (ho : Ob 5 v l C) (hl : l.length ≤ 1000000) : Tells Tryz.prog 42 [.pointer (some ⟨bw, 0, none⟩), .int .u8 n.toNat] (row bw [v, .bool false] 159 :: C) fun r H' => r = .pointer (some ⟨bw, 0, none⟩) ∧ ∃ v' C', Ob 5 v' (l ++ [n]) C' ∧ H' = row bw [v', .bool false] 159 :: C' := by
 refine Tells.enter Tryz.func42 rfl Tryz.ntmps42 rfl ?_
 intro w0 R
 refine sr_ ?_
 refine a_ rfl rfl ?_
 refine ntsr_ ?_
 refine m_ rfl rfl ?_
 refine m_ rfl rfl ?_
 refine WL.y rfl (Yd.conv8_64 _ kr_ kr_ rfl rfl) ?_
 refine WL.ca rfl (Ent.func Tryz.call76 rfl) (put_tells bw v l C (n.setWidth 64) 1 (by omega) ho hl) ?_
 rintro x H1 ⟨rfl, v', C', ho', rfl⟩
 refine a_ rfl rfl ?_
 refine nt_ ?_
 refine WC.ret ?_
 refine DN.ret1 Tryz.results42 rfl ?_
 exact ⟨rfl, v', C', by rw [beW_one] at ho'; exact ho', rfl⟩
theorem wU32_tells (bw : Nat) (v : Value) (l : List (BitVec 8)) (C : List Ck) (n : BitVec 32) (ho : Ob 5 v l C) (hl : l.length ≤ 1000000) : Tells Tryz.prog 43 [.pointer (some ⟨bw, 0, none⟩), .int .u32 n.toNat] (row bw [v, .bool false] 159 :: C) fun r H' => r = .pointer (some ⟨bw, 0, none⟩) ∧ ∃ v' C', Ob 5 v' (l ++ beW (n.setWidth 64) 4) C' ∧ H' = row bw [v', .bool false] 159 :: C' := by
 refine Tells.enter Tryz.func43 rfl Tryz.ntmps43 rfl ?_
 intro w0 R
 refine sr_ ?_
 refine a_ rfl rfl ?_
 refine ntsr_ ?_
 refine m_ rfl rfl ?_
 refine m_ rfl rfl ?_
 refine WL.y rfl (Yd.conv32_64 _ kr_ kr_ rfl rfl) ?_
 refine WL.ca rfl (Ent.func Tryz.call76 rfl) (put_tells bw v l C (n.setWidth 64) 4 (by omega) ho hl) ?_
 rintro x H1 ⟨rfl, v', C', ho', rfl⟩
 refine a_ rfl rfl ?_
 refine nt_ ?_
 refine WC.ret ?_
 refine DN.ret1 Tryz.results43 rfl ?_
 exact ⟨rfl, v', C', ho', rfl⟩
theorem wText_tells (bw : Nat) (v : Value) (l : List (BitVec 8)) (C : List Ck) (H : List Ck) (vs : Value) (s : List (BitVec 8)) (hs : Bs vs s H) (hsl : s.length ≤ 255) (ho : Ob 5 v l C) (hl : l.length ≤ 900000) : Tells Tryz.prog 44 [.pointer (some ⟨bw, 0, none⟩), vs] (row bw [v, .bool false] 159 :: (C ++ H)) fun r H' => r = .pointer (some ⟨bw, 0, none⟩) ∧ ∃ v' C', Ob 5 v' (l ++ tb s) C' ∧ H' = row bw [v', .bool false] 159 :: (C' ++ H) := by
 refine Tells.enter Tryz.func44 rfl Tryz.ntmps44 rfl ?_
 intro w0 R
 obtain ⟨so, sc, rfl, hsc⟩ := hs.form
 refine sr_ ?_
 refine a_ rfl rfl ?_
 refine nt_ ?_
 refine WC.seq ?_
 refine WC.block ?_
 refine sr_ ?_
 refine m_ rfl rfl ?_
 refine WL.y rfl (Yd.eqlNil Tryz.underlying90 rfl rfl) ?_
 refine WL.renamed (t := 7) (v := .bool false) rfl (congrArg Value.bool (rfl)) ?_
 refine a_ rfl rfl ?_
 refine nt_ ?_
 refine WC.no rfl ?_
 refine sr_ ?_
 refine m_ rfl rfl ?_
 refine WL.y rfl (Yd.len (e := 5) kr_ rfl) ?_
 refine WL.y rfl (Yd.gtr rfl rfl) ?_
 refine WL.renamed (t := 11) (v := .bool false) rfl (congrArg Value.bool (decide_eq_false (by omega))) ?_
 refine a_ rfl rfl ?_
 refine nt_ ?_
 refine WC.no rfl ?_
 refine WC.skip ?_
 refine DN.block_normal ?_
 refine ts_ ?_
 refine WC.region ?_
 refine m_ rfl rfl ?_
 refine m_ rfl rfl ?_
 refine WL.y rfl (Yd.len (e := 5) kr_ rfl) ?_
 refine WL.y rfl (Yd.to8 _ kr_ kr_ rfl rfl) ?_
 refine WL.c rfl (Ent.func Tryz.call42 rfl) (wU8_tells bw v l C (BitVec.ofInt 8 (s.length : Int)) ho (by omega)) (Sp.p sp_) ?_
 rintro x H1 ⟨rfl, v1, C1, ho1, rfl⟩
 obtain ⟨o1, c1, rfl, hc1⟩ := ho1.form
 refine ntsr_ ?_
 refine m_ rfl rfl ?_
 refine m_ rfl rfl ?_
 refine n_ rfl rfl ?_
 refine f_ 0 kr_ rfl rfl ?_
 refine d_ kr_ rfl mem_ (by rfl) rfl ?_
 refine m_ rfl rfl ?_
 refine WL.h rfl (Hd.appendBs (e := 5) (zs := [.int .u8 0]) kr_ kr_ rfl rfl rfl ho1 sp_ (hs.mono gr_) (by simp only [List.length_append, List.length_cons, List.length_nil]; omega) fun v2 C2 ho2 => ⟨_, rfl, ?_⟩)
 obtain ⟨o2, c2, rfl, hc2⟩ := ho2.form
 refine n_ rfl rfl ?_
 refine f_ 0 kr_ rfl rfl ?_
 refine WL.s (Hd.store1s kr_ rfl rfl (by rfl) fr_ (by rfl) (by first | (simp only [List.set_cons_zero, List.set_cons_succ, Nat.zero_add, Nat.add_zero, Nat.reduceAdd]; rfl) | rfl) ⟨rfl, ?_⟩)
 refine ntsr_ ?_
 refine m_ rfl rfl ?_
 refine a_ rfl rfl ?_
 refine nt_ ?_
 refine WC.ret ?_
 refine DN.fit (C := row bw [.slice o2 ((l ++ [BitVec.ofInt 8 (s.length : Int)]) ++ s).length c2, .bool false] 159 :: (C2 ++ H)) sp_ ?_
 refine DN.ret1 Tryz.results44 rfl ?_
 exact ⟨rfl, _, C2, by rw [List.append_assoc] at ho2; exact ho2, by rw [List.append_assoc]⟩
theorem wDone_tells (bw : Nat) (v : Value) (l : List (BitVec 8)) (C : List Ck) (ho : Ob 5 v l C) (hl : l.length ≤ 1000000) : Tells Tryz.prog 45 [.pointer (some ⟨bw, 0, none⟩)] (row bw [v, .bool false] 159 :: C) fun r H' => ∃ v' C', r = .tuple #[v', .int .i64 0] ∧ Ob 5 v' l C' ∧ H' = C' := by
 refine Tells.enter Tryz.func45 rfl Tryz.ntmps45 rfl ?_
 intro w0 R
 obtain ⟨vo, vc, rfl, hvc⟩ := ho.form
 refine sr_ ?_
 refine a_ rfl rfl ?_
 refine a_ rfl rfl ?_
 refine nt_ ?_
 refine WC.seq ?_
 refine WC.block ?_
 refine sr_ ?_
 refine m_ rfl rfl ?_
 refine WL.y rfl (Yd.eqlNil Tryz.underlying90 rfl rfl) ?_
 refine WL.renamed (t := 6) (v := .bool false) rfl (congrArg Value.bool (rfl)) ?_
 refine a_ rfl rfl ?_
 refine nt_ ?_
 refine WC.no rfl ?_
 refine sr_ ?_
 refine m_ rfl rfl ?_
 refine n_ rfl rfl ?_
 refine f_ 1 kr_ rfl rfl ?_
 refine d_ kr_ rfl mem_ (by rfl) rfl ?_
 refine WL.renamed (t := 11) (v := .bool false) rfl (congrArg Value.bool (rfl)) ?_
 refine a_ rfl rfl ?_
 refine nt_ ?_
 refine WC.no rfl ?_
 refine WC.skip ?_
 refine DN.block_normal ?_
 refine ts_ ?_
 refine WC.region ?_
 refine WL.h rfl (Hd.buildBytes (e := 5) [] kr_ kr_ kr_ rfl rfl kr_ fun b12 => ⟨_, rfl, ?_⟩)
 refine m_ rfl rfl ?_
 refine n_ rfl rfl ?_
 refine f_ 0 kr_ rfl rfl ?_
 refine d_ kr_ rfl mem_ (by rfl) rfl ?_
 refine WL.h rfl (Hd.appendBs (e := 5) (zs := [.int .u8 0]) kr_ kr_ rfl rfl rfl (Ob.block b12 [] (by simp)) sp_ (ho.bs.mono gr_) (by simp; omega) fun v' C' ho' => ⟨_, rfl, ?_⟩)
 refine a_ rfl rfl ?_
 refine a_ rfl rfl ?_
 refine nt_ ?_
 refine WC.ret ?_
 refine DN.fit (C := C') sp_ ?_
 refine DN.ret2 Tryz.results45 rfl rfl ?_
 exact ⟨v', C', rfl, by simpa using ho', rfl⟩
theorem newReader_tells (v : Value) (bs : List (BitVec 8)) (H : List Ck) (hv : Bs v bs H) (hl : bs.length ≤ 1000000) : Tells Tryz.prog 47 [v] H fun r H' => ∃ b v' C', r = .pointer (some ⟨b, 0, none⟩) ∧ Bs v' bs C' ∧ H' = row b [v', .bool false] 163 :: (C' ++ H) := by
 refine Tells.enter Tryz.func47 rfl Tryz.ntmps47 rfl ?_
 intro w0 R
 refine sr_ ?_
 refine a_ rfl rfl ?_
 refine ntsr_ ?_
 refine WL.h rfl (Hd.buildBytes (e := 5) [] kr_ kr_ kr_ rfl rfl kr_ fun b3 => ⟨_, rfl, ?_⟩)
 refine m_ rfl rfl ?_
 refine WL.h rfl (Hd.appendBs (e := 5) (zs := [.int .u8 0]) kr_ kr_ rfl rfl rfl (Ob.block b3 [] (by simp)) sp_ (hv.mono gr_) (by simp; omega) fun v' C' ho' => ⟨_, rfl, ?_⟩)
 rw [List.nil_append] at ho'
 obtain ⟨vo, vc, rfl, hvc⟩ := ho'.form
 refine WL.y rfl (Yd.buildL (pl := [(0, 1), (1, 1)]) (zs := [.slice none 0 0, .bool false]) (parts := [(0, .tmp 5)]) (vs := [(0, _)]) (cells := [_, .bool false]) kr_ kr_ rfl rfl) ?_
 refine WL.h rfl (Hd.boxA rfl fun b => ⟨_, rfl, ?_⟩)
 refine a_ rfl rfl ?_
 refine nt_ ?_
 refine WC.ret ?_
 refine DN.fit (C := row b [.slice vo bs.length vc, .bool false] 163 :: (C' ++ H)) sp_ ?_
 refine DN.ret1 Tryz.results47 rfl ?_
 exact ⟨b, _, C', rfl, ho'.bs, rfl⟩
theorem take_tells (br : Nat) (u : Value) (bs : List (BitVec 8)) (sh : Bool) (C : List Ck) (k : Nat) (hu : Bs u bs C) (hl : bs.length ≤ 1000000) (hk : k ≤ 1000) : Tells Tryz.prog 79 [.pointer (some ⟨br, 0, none⟩), .int .i64 k] (row br [u, .bool sh] 163 :: C) fun r H' => ∃ u', Bs r (rdGot bs sh k) C ∧ Bs u' (rdRest bs sh k) C ∧ H' = row br [u', .bool (rdShort bs sh k)] 163 :: C := by
 refine Tells.enter Tryz.func79 rfl Tryz.ntmps79 rfl ?_
 intro w0 R
 obtain ⟨uo, uc, rfl, huc⟩ := hu.form
 refine sr_ ?_
 refine a_ rfl rfl ?_
 refine nt_ ?_
 refine WC.seq ?_
 refine sr_ ?_
 refine m_ rfl rfl ?_
 refine WL.y rfl (Yd.eqlNil Tryz.underlying100 rfl rfl) ?_
 refine WL.renamed (t := 7) (v := .bool false) rfl (congrArg Value.bool (rfl)) ?_
 refine nt_ ?_
 refine WC.no rfl ?_
 refine WC.skip ?_
 refine ts_ ?_
 refine sr_ ?_
 refine m_ rfl rfl ?_
 refine m_ rfl rfl ?_
 refine n_ rfl rfl ?_
 refine f_ 1 kr_ rfl rfl ?_
 refine d_ kr_ rfl mem_ (by rfl) rfl ?_
 refine m_ rfl rfl ?_
 refine WL.part (t := 13) rfl (fun hg13 => ?_) (fun hg13 => ?_)
 ·iterate 7 refine gn_ 13 rfl rfl rfl rfl ?_
  refine WL.y rfl (Yd.pickT rfl rfl) ?_
  refine WL.renamed (t := 21) (v := .bool (rdShort bs sh k)) rfl (congrArg Value.bool (by subst hg13; simp [rdShort])) ?_
  refine n_ rfl rfl ?_
  refine f_ 1 kr_ rfl rfl ?_
  refine WL.s (Hd.store1s kr_ rfl rfl (by rfl) fr_ (by rfl) (by first | (simp only [List.set_cons_zero, List.set_cons_succ, Nat.zero_add, Nat.add_zero, Nat.reduceAdd]; rfl) | rfl) ⟨rfl, ?_⟩)
  refine ntsr_ ?_
  refine m_ rfl rfl ?_
  refine n_ rfl rfl ?_
  refine f_ 1 kr_ rfl rfl ?_
  refine d_ kr_ rfl mem_ (by rfl) rfl ?_
  refine nt_ ?_
  refine WC.cond rfl (fun h27 => ?_) (fun h27 => ?_)
  ·have hgot : rdGot bs sh k = [] := by simp [rdGot, h27]
   have hrest : rdRest bs sh k = bs := by simp [rdRest, h27]
   refine sr_ ?_
   refine a_ rfl rfl ?_
   refine nt_ ?_
   refine WC.ret ?_
   refine DN.then_ret ?_
   refine DN.ret1 Tryz.results79 rfl ?_
   exact ⟨_, by rw [hgot]; exact .inl ⟨_, _, rfl, rfl, rfl⟩, by rw [hrest]; exact hu, rfl⟩
  ·have hgot : rdGot bs sh k = bs.take k := by simp [rdGot, h27]
   have hrest : rdRest bs sh k = bs.drop k := by simp [rdRest, h27]
   have hkl : k ≤ bs.length := by simp [rdShort] at h27; omega
   refine WC.skip ?_
   refine ts_ ?_
   refine WC.region ?_
   refine m_ rfl rfl ?_
   refine n_ rfl rfl ?_
   refine f_ 0 kr_ rfl rfl ?_
   refine d_ kr_ rfl mem_ (by rfl) rfl ?_
   refine m_ rfl rfl ?_
   refine WL.y rfl (Yd.sliceTo (e := 5) (s := 1) (j := k) kr_ kr_ rfl rfl rfl (by omega)) ?_
   refine a_ rfl rfl ?_
   refine ntsr_ ?_
   refine m_ rfl rfl ?_
   refine m_ rfl rfl ?_
   refine n_ rfl rfl ?_
   refine f_ 0 kr_ rfl rfl ?_
   refine d_ kr_ rfl mem_ (by rfl) rfl ?_
   refine m_ rfl rfl ?_
   refine WL.y rfl (Yd.slice (e := 5) (s := 1) (i := k) (j := bs.length) kr_ kr_ rfl ⟨_, _, rfl, rfl⟩ rfl hkl (by omega)) ?_
   refine n_ rfl rfl ?_
   refine f_ 0 kr_ rfl rfl ?_
   refine WL.s (Hd.store1s kr_ rfl rfl (by rfl) fr_ (by rfl) (by first | (simp only [List.set_cons_zero, List.set_cons_succ, Nat.zero_add, Nat.add_zero, Nat.reduceAdd]; rfl) | rfl) ⟨rfl, ?_⟩)
   refine ntsr_ ?_
   refine m_ rfl rfl ?_
   refine a_ rfl rfl ?_
   refine nt_ ?_
   refine WC.ret ?_
   refine DN.ret1 Tryz.results79 rfl ?_
   exact ⟨_, by rw [hgot]; exact hu.upto hkl, by rw [hrest]; have := hu.sub (i := k) (j := bs.length) hkl (Nat.le_refl _); rwa [List.take_of_length_le (by simp)] at this, rfl⟩
 ·refine gy_ 13 rfl rfl rfl (Yd.move rfl) ?_
  refine gy_ 13 rfl rfl rfl (Yd.notNil rfl) ?_
  refine gy_ 13 rfl rfl rfl (Yd.fieldAddr (k := 0) kr_ rfl) ?_
  refine WL.gh (dj := 13) rfl rfl rfl (Hd.load1 kr_ rfl mem_ (by rfl) ⟨_, rfl, ?_⟩)
  refine gy_ 13 rfl rfl rfl (Yd.len (e := 5) kr_ rfl) ?_
  refine gy_ 13 rfl rfl rfl (Yd.move rfl) ?_
  refine gy_ 13 rfl rfl rfl (Yd.lss rfl rfl) ?_
  refine WL.y rfl (Yd.pickF rfl rfl) ?_
  refine WL.renamed (t := 21) (v := .bool (rdShort bs sh k)) rfl (congrArg Value.bool (by subst hg13; simp [rdShort])) ?_
  refine n_ rfl rfl ?_
  refine f_ 1 kr_ rfl rfl ?_
  refine WL.s (Hd.store1s kr_ rfl rfl (by rfl) fr_ (by rfl) (by first | (simp only [List.set_cons_zero, List.set_cons_succ, Nat.zero_add, Nat.add_zero, Nat.reduceAdd]; rfl) | rfl) ⟨rfl, ?_⟩)
  refine ntsr_ ?_
  refine m_ rfl rfl ?_
  refine n_ rfl rfl ?_
  refine f_ 1 kr_ rfl rfl ?_
  refine d_ kr_ rfl mem_ (by rfl) rfl ?_
  refine nt_ ?_
  refine WC.cond rfl (fun h27 => ?_) (fun h27 => ?_)
  ·have hgot : rdGot bs sh k = [] := by simp [rdGot, h27]
   have hrest : rdRest bs sh k = bs := by simp [rdRest, h27]
   refine sr_ ?_
   refine a_ rfl rfl ?_
   refine nt_ ?_
   refine WC.ret ?_
   refine DN.then_ret ?_
   refine DN.ret1 Tryz.results79 rfl ?_
   exact ⟨_, by rw [hgot]; exact .inl ⟨_, _, rfl, rfl, rfl⟩, by rw [hrest]; exact hu, rfl⟩
  ·have hgot : rdGot bs sh k = bs.take k := by simp [rdGot, h27]
   have hrest : rdRest bs sh k = bs.drop k := by simp [rdRest, h27]
   have hkl : k ≤ bs.length := by simp [rdShort] at h27; omega
   refine WC.skip ?_
   refine ts_ ?_
   refine WC.region ?_
   refine m_ rfl rfl ?_
   refine n_ rfl rfl ?_
   refine f_ 0 kr_ rfl rfl ?_
   refine d_ kr_ rfl mem_ (by rfl) rfl ?_
   refine m_ rfl rfl ?_
   refine WL.y rfl (Yd.sliceTo (e := 5) (s := 1) (j := k) kr_ kr_ rfl rfl rfl (by omega)) ?_
   refine a_ rfl rfl ?_
   refine ntsr_ ?_
   refine m_ rfl rfl ?_
   refine m_ rfl rfl ?_
   refine n_ rfl rfl ?_
   refine f_ 0 kr_ rfl rfl ?_
   refine d_ kr_ rfl mem_ (by rfl) rfl ?_
   refine m_ rfl rfl ?_
   refine WL.y rfl (Yd.slice (e := 5) (s := 1) (i := k) (j := bs.length) kr_ kr_ rfl ⟨_, _, rfl, rfl⟩ rfl hkl (by omega)) ?_
   refine n_ rfl rfl ?_
   refine f_ 0 kr_ rfl rfl ?_
   refine WL.s (Hd.store1s kr_ rfl rfl (by rfl) fr_ (by rfl) (by first | (simp only [List.set_cons_zero, List.set_cons_succ, Nat.zero_add, Nat.add_zero, Nat.reduceAdd]; rfl) | rfl) ⟨rfl, ?_⟩)
   refine ntsr_ ?_
   refine m_ rfl rfl ?_
   refine a_ rfl rfl ?_
   refine nt_ ?_
   refine WC.ret ?_
   refine DN.ret1 Tryz.results79 rfl ?_
   exact ⟨_, by rw [hgot]; exact hu.upto hkl, by rw [hrest]; have := hu.sub (i := k) (j := bs.length) hkl (Nat.le_refl _); rwa [List.take_of_length_le (by simp)] at this, rfl⟩
theorem number_tells (br : Nat) (u : Value) (bs : List (BitVec 8)) (sh : Bool) (C : List Ck) (k : Nat) (hu : Bs u bs C) (hl : bs.length ≤ 1000000) (hk : k ≤ 8) : Tells Tryz.prog 78 [.pointer (some ⟨br, 0, none⟩), .int .i64 k] (row br [u, .bool sh] 163 :: C) fun r H' => ∃ u', r = .int .u64 (beN (rdGot bs sh k)).toNat ∧ Bs u' (rdRest bs sh k) C ∧ H' = row br [u', .bool (rdShort bs sh k)] 163 :: C := by
 refine Tells.enter Tryz.func78 rfl Tryz.ntmps78 rfl ?_
 intro w0 R
 refine sr_ ?_
 refine WL.y rfl (Yd.assign (v := .int .u64 ((0#64).toNat : Int)) rfl) ?_
 refine ntsr_ ?_
 refine WL.y rfl (Yd.assign (v := .int .u64 ((0#64).toNat : Int)) rfl) ?_
 refine nt_ ?_
 refine WC.seq ?_
 refine sr_ ?_
 refine m_ rfl rfl ?_
 refine m_ rfl rfl ?_
 refine WL.ca rfl (Ent.func Tryz.call79 rfl) (take_tells br u bs sh C k hu hl (by omega)) ?_
 rintro x H1 ⟨u', hx, hu', rfl⟩
 obtain ⟨got, hgot⟩ : ∃ got, got = rdGot bs sh k := ⟨_, rfl⟩
 rw [← hgot] at hx
 rw [← hgot]
 have hgl : got.length ≤ 8 := by have := rdGot_len bs sh k; rw [hgot]; omega
 obtain ⟨xo, xc, rfl, hxc⟩ := hx.form
 refine WL.y rfl (Yd.len (e := 5) kr_ rfl) ?_
 refine m_ rfl rfl ?_
 refine nt_ ?_
 refine WC.block ?_
 refine WC.loopS (fun z : Nat => z ≤ got.length) (fun z : Nat => [(5, .int .u64 (beN (got.take z)).toNat), (12, .int .i64 (z : Int))]) (fun z : Nat => row br [u', .bool (rdShort bs sh k)] 163 :: C) (fun z : Nat => got.length - z) (0) (show 0 ≤ got.length from Nat.zero_le _) (Sx.put rfl (Sx.put rfl (sx_))) sp_ ?_
 rintro i hI
 replace hI : i ≤ got.length := hI
 obtain hi := hI
 change WC _ _ _ _ _ _ ([(5, .int .u64 (beN (got.take i)).toNat), (12, .int .i64 (i : Int))] ++ _) (row br [u', .bool (rdShort bs sh k)] 163 :: C)
 refine sr_ ?_
 refine WL.y rfl (Yd.lss rfl rfl) ?_
 refine nt_ ?_
 refine WC.seq ?_
 refine WC.ite rfl (fun h13 => ?_) (fun h13 => ?_)
 ·have hlt : i < got.length := by omega
  refine WC.skip ?_
  refine ts_ ?_
  refine WC.block ?_
  refine sr_ ?_
  refine WL.elem (e := 5) kr_ kr_ kr_ rfl rfl (rfl) (hx.mono gr_) (bc_get hlt) (hlt) rfl rfl ?_
  intro _
  refine a_ rfl rfl ?_
  refine ntr_ ?_
  refine m_ rfl rfl ?_
  refine WL.y rfl (Yd.shl64 _ 8 rfl rfl rfl rfl) ?_
  refine m_ rfl rfl ?_
  refine WL.y rfl (Yd.conv8_64 _ kr_ kr_ rfl rfl) ?_
  refine WL.y rfl (Yd.or64 _ _ rfl rfl rfl rfl) ?_
  refine a_ rfl rfl ?_
  refine WL.nil ?_
  refine DN.block_normal ?_
  refine DN.then_normal ?_
  refine WC.region ?_
  refine WL.y rfl (Yd.add rfl rfl (by omega) (by omega)) ?_
  refine m_ rfl rfl ?_
  refine WL.nil ?_
  rw [← beN_next got i hlt]
  exact DN.againS (i + 1) (by show i + 1 ≤ got.length; omega) (by show got.length - (i + 1) < got.length - i; omega) ((Sx.put rfl (Sx.put rfl (sx_)))) sp_
 ·have hie : i = got.length := by omega
  subst hie
  rw [List.take_length]
  refine WC.exit ?_
  refine DN.then_exit ?_
  refine DN.then_exit ?_
  refine DN.block_exit ?_
  refine ts_ ?_
  refine WC.region ?_
  refine m_ rfl rfl ?_
  refine a_ rfl rfl ?_
  refine nt_ ?_
  refine WC.ret ?_
  refine DN.ret1 Tryz.results78 rfl ?_
  exact ⟨u', rfl, hu', rfl⟩
theorem rU8_tells (br : Nat) (u : Value) (bs : List (BitVec 8)) (sh : Bool) (C : List Ck) (hu : Bs u bs C) (hl : bs.length ≤ 1000000) : Tells Tryz.prog 48 [.pointer (some ⟨br, 0, none⟩)] (row br [u, .bool sh] 163 :: C) fun r H' => ∃ u', r = .int .u8 ((beN (rdGot bs sh 1)).setWidth 8).toNat ∧ Bs u' (rdRest bs sh 1) C ∧ H' = row br [u', .bool (rdShort bs sh 1)] 163 :: C := by
 refine Tells.enter Tryz.func48 rfl Tryz.ntmps48 rfl ?_
 intro w0 R
 refine sr_ ?_
 refine WL.y rfl (Yd.assign (v := .int .u8 ((0#8).toNat : Int)) rfl) ?_
 refine ntsr_ ?_
 refine m_ rfl rfl ?_
 refine WL.ca rfl (Ent.func Tryz.call78 rfl) (number_tells br u bs sh C 1 hu hl (by omega)) ?_
 rintro x H1 ⟨u', rfl, hu', rfl⟩
 refine WL.y rfl (Yd.conv64_8 _ kr_ kr_ rfl rfl) ?_
 refine a_ rfl rfl ?_
 refine nt_ ?_
 refine WC.ret ?_
 refine DN.ret1 Tryz.results48 rfl ?_
 exact ⟨u', rfl, hu', rfl⟩
theorem rU32_tells (br : Nat) (u : Value) (bs : List (BitVec 8)) (sh : Bool) (C : List Ck) (hu : Bs u bs C) (hl : bs.length ≤ 1000000) : Tells Tryz.prog 49 [.pointer (some ⟨br, 0, none⟩)] (row br [u, .bool sh] 163 :: C) fun r H' => ∃ u', r = .int .u32 ((beN (rdGot bs sh 4)).setWidth 32).toNat ∧ Bs u' (rdRest bs sh 4) C ∧ H' = row br [u', .bool (rdShort bs sh 4)] 163 :: C := by
 refine Tells.enter Tryz.func49 rfl Tryz.ntmps49 rfl ?_
 intro w0 R
 refine sr_ ?_
 refine WL.y rfl (Yd.assign (v := .int .u32 ((0#32).toNat : Int)) rfl) ?_
 refine ntsr_ ?_
 refine m_ rfl rfl ?_
 refine WL.ca rfl (Ent.func Tryz.call78 rfl) (number_tells br u bs sh C 4 hu hl (by omega)) ?_
 rintro x H1 ⟨u', rfl, hu', rfl⟩
 refine WL.y rfl (Yd.conv64_32 _ kr_ kr_ rfl rfl) ?_
 refine a_ rfl rfl ?_
 refine nt_ ?_
 refine WC.ret ?_
 refine DN.ret1 Tryz.results49 rfl ?_
 exact ⟨u', rfl, hu', rfl⟩
theorem rText_tells (br : Nat) (u : Value) (bs : List (BitVec 8)) (sh : Bool) (C : List Ck) (hu : Bs u bs C) (hl : bs.length ≤ 1000000) : Tells Tryz.prog 50 [.pointer (some ⟨br, 0, none⟩)] (row br [u, .bool sh] 163 :: C) fun r H' => ∃ u' A, Ob 5 r (txGot bs sh) A ∧ Bs u' (rdRest bs sh (txN bs)) C ∧ H' = A ++ (row br [u', .bool (rdShort bs sh (txN bs))] 163 :: C) := by
 refine Tells.enter Tryz.func50 rfl Tryz.ntmps50 rfl ?_
 intro w0 R
 obtain ⟨uo, uc, rfl, huc⟩ := hu.form
 refine sr_ ?_
 refine a_ rfl rfl ?_
 refine nt_ ?_
 refine WC.seq ?_
 refine sr_ ?_
 refine m_ rfl rfl ?_
 refine WL.y rfl (Yd.eqlNil Tryz.underlying100 rfl rfl) ?_
 refine WL.renamed (t := 6) (v := .bool false) rfl (congrArg Value.bool (rfl)) ?_
 refine nt_ ?_
 refine WC.no rfl ?_
 refine WC.skip ?_
 refine ts_ ?_
 refine WC.region ?_
 refine a_ rfl rfl ?_
 refine nt_ ?_
 refine WC.cutK (fun _z : Unit => True) (fun _z : Unit => [(3, .int .i64 (txN bs : Int))]) (fun _z : Unit => row br [.slice uo bs.length uc, .bool sh] 163 :: C) ?_ ?_
 ·refine sr_ ?_
  refine m_ rfl rfl ?_
  refine n_ rfl rfl ?_
  refine f_ 0 kr_ rfl rfl ?_
  refine d_ kr_ rfl mem_ (by rfl) rfl ?_
  refine WL.y rfl (Yd.len (e := 5) kr_ rfl) ?_
  refine WL.y rfl (Yd.gtr rfl rfl) ?_
  refine nt_ ?_
  refine WC.ite rfl (fun h12 => ?_) (fun h12 => ?_)
  ·refine WC.region ?_
   refine m_ rfl rfl ?_
   refine m_ rfl rfl ?_
   refine n_ rfl rfl ?_
   refine f_ 0 kr_ rfl rfl ?_
   refine d_ kr_ rfl mem_ (by rfl) rfl ?_
   refine WL.elem (e := 5) kr_ kr_ kr_ rfl rfl (by rfl) (hu.mono gr_) (show (bc bs)[0]? = some (.int .u8 (bs.headD 0#8).toNat) by cases bs with | nil => simp at h12 | cons x t => rfl) (by omega) rfl rfl ?_
   intro _
   refine WL.y rfl (Yd.int8 _ kr_ kr_ rfl rfl) ?_
   refine WL.y rfl (Yd.add rfl rfl (by omega) (by omega)) ?_
   refine a_ rfl rfl ?_
   refine WL.nil ?_
   rw [show (1 : Int) + ((bs.headD 0#8).toNat : Int) = ((txN bs : Nat) : Int) by unfold txN; omega]
   exact DN.reachK (()) (trivial) (Sx.put rfl (sx_)) (Sp.all sp_)
  ·refine WC.skip ?_
   have hb0 : bs = [] := List.eq_nil_of_length_eq_zero (by omega)
   have hn1 : txN bs = 1 := by rw [hb0]; rfl
   rw [hn1]
   exact DN.reachK (()) (trivial) (Sx.put rfl (sx_)) (Sp.all sp_)
 ·intro _ _
  have htx := txN_le bs
  refine sr_ ?_
  refine m_ rfl rfl ?_
  refine m_ rfl rfl ?_
  refine WL.ca rfl (Ent.func Tryz.call79 rfl) (take_tells br _ bs sh C (txN bs) hu hl (by omega)) ?_
  rintro x H1 ⟨u', hx, hu', rfl⟩
  obtain ⟨got, hgot⟩ : ∃ got, got = rdGot bs sh (txN bs) := ⟨_, rfl⟩
  rw [← hgot] at hx
  have htg : txGot bs sh = got.drop 1 := by rw [hgot]; rfl
  have hgl : got.length ≤ 256 := by have := rdGot_len bs sh (txN bs); rw [hgot]; omega
  obtain ⟨xo, xc, rfl, hxc⟩ := hx.form
  refine a_ rfl rfl ?_
  refine nt_ ?_
  refine WC.seq ?_
  refine sr_ ?_
  refine m_ rfl rfl ?_
  refine WL.y rfl (Yd.len (e := 5) kr_ rfl) ?_
  refine WL.y rfl (Yd.eql rfl rfl) ?_
  refine nt_ ?_
  refine WC.ite rfl (fun h27 => ?_) (fun h27 => ?_)
  ·have hg0 : got = [] := List.eq_nil_of_length_eq_zero (by omega)
   refine sr_ ?_
   refine a_ rfl rfl ?_
   refine nt_ ?_
   refine WC.ret ?_
   refine DN.then_ret ?_
   refine DN.fit (C := row br [u', .bool (rdShort bs sh (txN bs))] 163 :: C) sp_ ?_
   refine DN.ret1 Tryz.results50 rfl ?_
   exact ⟨u', [], by rw [htg, hg0]; exact Ob.nil _, hu', rfl⟩
  ·refine WC.skip ?_
   refine ts_ ?_
   refine WC.region ?_
   refine WL.h rfl (Hd.buildBytes (e := 5) [] kr_ kr_ kr_ rfl rfl kr_ fun b28 => ⟨_, rfl, ?_⟩)
   refine m_ rfl rfl ?_
   refine WL.y rfl (Yd.slice (e := 5) (s := 1) (i := 1) (j := got.length) kr_ kr_ rfl ⟨_, _, rfl, rfl⟩ rfl (by omega) (by omega)) ?_
   refine WL.h rfl (Hd.appendBs (e := 5) (zs := [.int .u8 0]) (b := got.drop 1) kr_ kr_ rfl rfl rfl (Ob.block b28 [] (by simp)) sp_ (by have := hx.sub (i := 1) (j := got.length) (by omega) (Nat.le_refl _); rw [List.take_of_length_le (by simp)] at this; exact this.mono gr_) (by simp; omega) fun v' A ho' => ⟨_, rfl, ?_⟩)
   refine a_ rfl rfl ?_
   refine nt_ ?_
   refine WC.ret ?_
   refine DN.fit (C := A ++ (row br [u', .bool (rdShort bs sh (txN bs))] 163 :: C)) sp_ ?_
   refine DN.ret1 Tryz.results50 rfl ?_
   exact ⟨u', A, by rw [htg]; simpa using ho', hu', rfl⟩
theorem rDone_tells (br : Nat) (u : Value) (bs : List (BitVec 8)) (sh : Bool) (C : List Ck) (hu : Bs u bs C) : Reads Tryz.prog 51 [.pointer (some ⟨br, 0, none⟩)] (row br [u, .bool sh] 163 :: C) (.int .i64 (if sh then 10 else if 0 < bs.length then 11 else 0)) := by
 refine Tells.enter Tryz.func51 rfl Tryz.ntmps51 rfl ?_
 intro w0 R
 obtain ⟨uo, uc, rfl, huc⟩ := hu.form
 refine sr_ ?_
 refine a_ rfl rfl ?_
 refine nt_ ?_
 refine WC.seq ?_
 refine WC.block ?_
 refine sr_ ?_
 refine m_ rfl rfl ?_
 refine WL.y rfl (Yd.eqlNil Tryz.underlying100 rfl rfl) ?_
 refine WL.renamed (t := 5) (v := .bool false) rfl (congrArg Value.bool (rfl)) ?_
 refine a_ rfl rfl ?_
 refine nt_ ?_
 refine WC.no rfl ?_
 refine sr_ ?_
 refine m_ rfl rfl ?_
 refine n_ rfl rfl ?_
 refine f_ 1 kr_ rfl rfl ?_
 refine d_ kr_ rfl mem_ (by rfl) rfl ?_
 refine a_ rfl rfl ?_
 refine nt_ ?_
 refine WC.cond rfl (fun h6 => ?_) (fun h6 => ?_)
 ·subst h6
  refine sr_ ?_
  refine a_ rfl rfl ?_
  refine nt_ ?_
  refine WC.ret ?_
  refine DN.block_ret ?_
  refine DN.then_ret ?_
  refine DN.ret1 Tryz.results51 rfl ?_
  exact ⟨rfl, rfl⟩
 ·subst h6
  refine sr_ ?_
  refine m_ rfl rfl ?_
  refine n_ rfl rfl ?_
  refine f_ 0 kr_ rfl rfl ?_
  refine d_ kr_ rfl mem_ (by rfl) rfl ?_
  refine WL.y rfl (Yd.len (e := 5) kr_ rfl) ?_
  refine WL.y rfl (Yd.gtr rfl rfl) ?_
  refine a_ rfl rfl ?_
  refine nt_ ?_
  refine WC.ite rfl (fun h11 => ?_) (fun h11 => ?_)
  ·refine sr_ ?_
   refine a_ rfl rfl ?_
   refine nt_ ?_
   refine WC.ret ?_
   refine DN.block_ret ?_
   refine DN.then_ret ?_
   refine DN.ret1 Tryz.results51 rfl ?_
   exact ⟨by rw [if_neg (by decide), if_pos (by omega)], rfl⟩
  ·refine WC.skip ?_
   refine DN.block_normal ?_
   refine ts_ ?_
   refine WC.region ?_
   refine a_ rfl rfl ?_
   refine nt_ ?_
   refine WC.ret ?_
   refine DN.ret1 Tryz.results51 rfl ?_
   exact ⟨by rw [if_neg (by decide), if_neg (by omega)], rfl⟩
end Go.Proofs.YtkamlondepceiaaGreat

set_option linter.unusedVariables false
set_option linter.unusedSimpArgs false
set_option maxHeartbeats 4000000
namespace Go.Proofs.YtkamlondepceiaaGreat
open Go.SL
theorem same_no {α : Type} {xs ys : List α} (h : xs.length ≠ ys.length) : ¬ xs = ys := fun e => h (by rw [e])
theorem same_yes {α : Type} {xs ys : List α} (hl : xs.length = ys.length) (h : ∀ (j : Nat) (h1 : j < xs.length) (h2 : j < ys.length), xs[j] = ys[j]) : xs = ys := List.ext_getElem hl h
def g2c (g : Gd) : ByteArray × Int := (g.name, g.free)
theorem same_gd (x y : Gd) : cellsEq [1, 0] (cellsG x) (cellsG y) = some (decide (g2c x = g2c y)) := by
  cases x with | mk a b c =>
  cases y with | mk a' b' c' =>
  simp only [cellsEq, cellEq, cellsG, if_true, Option.bind_some, Option.map_some, Option.some.injEq, g2c, Prod.mk.injEq]
  rw [Bool.eq_iff_iff]
  simp only [Bool.and_eq_true, decide_eq_true_eq, Bool.and_true]
theorem same_auc (x y : Au) : cellsEq [1, 0, 0] (cellsU x) (cellsU y) = some (decide (x = y)) := by
  cases x with | mk a b c =>
  cases y with | mk a' b' c' =>
  simp only [cellsEq, cellEq, cellsU, if_true, Option.bind_some, Option.map_some, Option.some.injEq, Au.mk.injEq]
  rw [Bool.eq_iff_iff]
  simp only [Bool.and_eq_true, decide_eq_true_eq, Bool.and_true]
theorem same_ef (x y : Ef) : cellsEq [0, 0, 2] (efc x) (efc y) = some (decide (x = y)) := by
  cases x with | mk a b c =>
  cases y with | mk a' b' c' =>
  simp only [cellsEq, cellEq, efc, if_true, Option.bind_some, Option.map_some, Option.some.injEq, Ef.mk.injEq]
  rw [Bool.eq_iff_iff]
  simp only [Bool.and_eq_true, decide_eq_true_eq, Bool.and_true, beq_iff_eq]
  constructor
  · rintro ⟨h1, rfl, rfl⟩
    exact ⟨BitVec.eq_of_toNat_eq (by exact_mod_cast h1), rfl, rfl⟩
  · rintro ⟨rfl, rfl, rfl⟩
    exact ⟨rfl, rfl, rfl⟩
theorem sameGoods_reads (u v : Value) (xs ys : List Gd) (H : List Ck) (hu : Rs u xs.length (xs.flatMap cellsG) H) (hv : Rs v ys.length (ys.flatMap cellsG) H) (hx : xs.length ≤ 100000000) (hy : ys.length ≤ 100000000) : Reads Tryz.prog 27 [u, v] H (.bool (decide (xs.map g2c = ys.map g2c))) := by
 refine Tells.enter Tryz.func27 rfl Tryz.ntmps27 rfl ?_
 intro w0 R
 obtain ⟨uo, uc, rfl, _⟩ := hu.form
 obtain ⟨vo, vc, rfl, _⟩ := hv.form
 refine sr_ ?_
 refine a_ rfl rfl ?_
 refine nt_ ?_
 refine WC.seq ?_
 refine sr_ ?_
 refine m_ rfl rfl ?_
 refine WL.y rfl (Yd.len (e := 73) kr_ rfl) ?_
 refine m_ rfl rfl ?_
 refine WL.y rfl (Yd.len (e := 73) kr_ rfl) ?_
 refine WL.y rfl (Yd.neq rfl rfl) ?_
 refine nt_ ?_
 refine WC.cond rfl (fun h10 => ?_) (fun h10 => ?_)
 ·have hln : xs.length ≠ ys.length := by simp only [decide_eq_true_eq] at h10; omega
  refine sr_ ?_
  refine a_ rfl rfl ?_
  refine nt_ ?_
  refine WC.ret ?_
  refine DN.then_ret ?_
  refine DN.fit (C := H) sp_ ?_
  refine DN.ret1 Tryz.results27 rfl ?_
  first
    | exact ⟨by rw [decide_eq_false (same_no (xs := xs.map g2c) (ys := ys.map g2c) (by simpa using hln))], rfl⟩
    | exact ⟨by rw [decide_eq_true (same_yes (xs := xs.map g2c) (ys := ys.map g2c) (by simpa using hln) fun j h1 h2 => by simpa using hsame j (by simpa using h1) (by simpa using h2) (by simpa using h1))], rfl⟩
    | exact ⟨by rw [decide_eq_false (fun e => hne (by have e2 := congrArg (fun l => l[i]?) e; simpa [hlt, show i < ys.length by omega] using e2))], rfl⟩
 ·have hln : xs.length = ys.length := by simp only [decide_eq_false_iff_not] at h10; omega
  refine WC.skip ?_
  refine ts_ ?_
  refine sr_ ?_
  refine a_ rfl rfl ?_
  refine nt_ ?_
  refine WC.block ?_
  refine WC.loopS (fun z : Nat => z ≤ xs.length ∧ ∀ (j : Nat) (h1 : j < xs.length) (h2 : j < ys.length), j < z → g2c xs[j] = g2c ys[j]) (fun z : Nat => [(5, .int .i64 (z : Int))]) (fun z : Nat => H) (fun z : Nat => xs.length - z) (0) (show 0 ≤ xs.length ∧ ∀ (j : Nat) (h1 : j < xs.length) (h2 : j < ys.length), j < 0 → g2c xs[j] = g2c ys[j] from ⟨by omega, fun _ _ _ _ => by omega⟩) (Sx.put rfl (sx_)) sp_ ?_
  rintro i hI
  replace hI : i ≤ xs.length ∧ ∀ (j : Nat) (h1 : j < xs.length) (h2 : j < ys.length), j < i → g2c xs[j] = g2c ys[j] := hI
  obtain ⟨hi, hsame⟩ := hI
  change WC _ _ _ _ _ _ ([(5, .int .i64 (i : Int))] ++ _) (H)
  refine WC.seq ?_
  refine sr_ ?_
  refine m_ rfl rfl ?_
  refine m_ rfl rfl ?_
  refine WL.y rfl (Yd.len (e := 73) kr_ rfl) ?_
  refine WL.y rfl (Yd.lss rfl rfl) ?_
  refine nt_ ?_
  refine WC.ite rfl (fun h14 => ?_) (fun h14 => ?_)
  ·have hlt : i < xs.length := by omega
   obtain ⟨ub, uf, us, uT, ufr, uex, rfl, _, hum, hus⟩ := hu.lies (by omega)
   obtain ⟨vb, vf, vs, vT, vfr, vex, rfl, _, hvm, hvs⟩ := hv.lies (by omega)
   refine WC.skip ?_
   refine ts_ ?_
   refine WC.block ?_
   refine WC.seq ?_
   refine WC.draw 9 kr_ rfl ?_
   refine WA.y (i := 0) (NoPanic.then (NoPanic.block (NoPanic.then (NoPanic.then (NoPanic.block (NoPanic.then (NoPanic.body))))))) rfl kr_ kr_ kr_ rfl (Yd.move rfl) ?_
   refine WA.y (i := 1) (NoPanic.then (NoPanic.block (NoPanic.then (NoPanic.then (NoPanic.block (NoPanic.then (NoPanic.body))))))) rfl kr_ kr_ kr_ rfl (Yd.move rfl) ?_
   refine WA.y (i := 2) (NoPanic.then (NoPanic.block (NoPanic.then (NoPanic.then (NoPanic.block (NoPanic.then (NoPanic.body))))))) rfl kr_ kr_ kr_ rfl (Yd.indexAddr (e := 73) (s := 2) kr_ kr_ rfl rfl (by omega) (by omega)) ?_
   refine WA.y (i := 4) (NoPanic.then (NoPanic.block (NoPanic.then (NoPanic.then (NoPanic.block (NoPanic.then (NoPanic.body))))))) rfl kr_ kr_ kr_ rfl (Yd.move rfl) ?_
   refine WA.y (i := 5) (NoPanic.then (NoPanic.block (NoPanic.then (NoPanic.then (NoPanic.block (NoPanic.then (NoPanic.body))))))) rfl kr_ kr_ kr_ rfl (Yd.move rfl) ?_
   refine WA.y (i := 6) (NoPanic.then (NoPanic.block (NoPanic.then (NoPanic.then (NoPanic.block (NoPanic.then (NoPanic.body))))))) rfl kr_ kr_ kr_ rfl (Yd.indexAddr (e := 73) (s := 2) kr_ kr_ rfl rfl (by omega) (by omega)) ?_
   refine WA.two (i := 3) (j := 7) kr_ ?_ ?_
   ·refine WO.h rfl Wt.none rfl (Hd.loadA (n := 2) (b := ub) (o := uf + (i : Int).toNat * 2) (cs := us) (vs := cellsG xs[i]) kr_ rfl hum (cellsG_len _) (rs_cell hus (by rw [flat_len cellsG 2 cellsG_len]; omega) (flat_row cellsG 2 cellsG_len xs i (by omega))) ⟨_, rfl, ?_⟩)
    refine WA.one (i := 7) kr_ ?_
    refine WO.h rfl Wt.none rfl (Hd.loadA (n := 2) (b := vb) (o := vf + (i : Int).toNat * 2) (cs := vs) (vs := cellsG ys[i]) kr_ rfl hvm (cellsG_len _) (rs_cell hvs (by rw [flat_len cellsG 2 cellsG_len]; omega) (flat_row cellsG 2 cellsG_len ys i (by omega))) ⟨_, rfl, ?_⟩)
    refine WA.y (i := 8) (NoPanic.then (NoPanic.block (NoPanic.then (NoPanic.then (NoPanic.block (NoPanic.then (NoPanic.body))))))) rfl kr_ kr_ kr_ rfl (Yd.neqSt [1, 0] kr_ rfl rfl (same_gd _ _)) ?_
    refine WA.done kr_ ?_
    refine DN.then_normal ?_
    refine WC.cond rfl (fun h25 => ?_) (fun h25 => ?_)
    ·have hne : ¬ g2c xs[i] = g2c ys[i] := by simpa using h25
     refine sr_ ?_
     refine a_ rfl rfl ?_
     refine nt_ ?_
     refine WC.ret ?_
     refine DN.block_ret ?_
     refine DN.then_ret ?_
     refine DN.then_ret ?_
     refine DN.block_ret ?_
     refine DN.then_ret ?_
     refine DN.fit (C := H) sp_ ?_
     refine DN.ret1 Tryz.results27 rfl ?_
     first
       | exact ⟨by rw [decide_eq_false (same_no (xs := xs.map g2c) (ys := ys.map g2c) (by simpa using hln))], rfl⟩
       | exact ⟨by rw [decide_eq_true (same_yes (xs := xs.map g2c) (ys := ys.map g2c) (by simpa using hln) fun j h1 h2 => by simpa using hsame j (by simpa using h1) (by simpa using h2) (by simpa using h1))], rfl⟩
       | exact ⟨by rw [decide_eq_false (fun e => hne (by have e2 := congrArg (fun l => l[i]?) e; simpa [hlt, show i < ys.length by omega] using e2))], rfl⟩
    ·have heq : g2c xs[i] = g2c ys[i] := by simpa using h25
     refine WC.skip ?_
     refine DN.block_normal ?_
     refine DN.then_normal ?_
     refine WC.region ?_
     refine m_ rfl rfl ?_
     refine WL.y rfl (Yd.add rfl rfl (by omega) (by omega)) ?_
     refine a_ rfl rfl ?_
     refine WL.nil ?_
     exact DN.againS (i + 1) (show (i + 1) ≤ xs.length ∧ ∀ (j : Nat) (h1 : j < xs.length) (h2 : j < ys.length), j < (i + 1) → g2c xs[j] = g2c ys[j] from ⟨by omega, fun j h1 h2 hj => by
       rcases Nat.lt_or_ge j i with h | h
       · exact hsame j h1 h2 h
       · obtain rfl : j = i := by omega
         exact heq⟩) (show xs.length - (i + 1) < xs.length - i by omega) (Sx.put rfl (sx_)) sp_
   ·refine WO.h rfl Wt.none rfl (Hd.loadA (n := 2) (b := vb) (o := vf + (i : Int).toNat * 2) (cs := vs) (vs := cellsG ys[i]) kr_ rfl hvm (cellsG_len _) (rs_cell hvs (by rw [flat_len cellsG 2 cellsG_len]; omega) (flat_row cellsG 2 cellsG_len ys i (by omega))) ⟨_, rfl, ?_⟩)
    refine WA.one (i := 3) kr_ ?_
    refine WO.h rfl Wt.none rfl (Hd.loadA (n := 2) (b := ub) (o := uf + (i : Int).toNat * 2) (cs := us) (vs := cellsG xs[i]) kr_ rfl hum (cellsG_len _) (rs_cell hus (by rw [flat_len cellsG 2 cellsG_len]; omega) (flat_row cellsG 2 cellsG_len xs i (by omega))) ⟨_, rfl, ?_⟩)
    refine WA.y (i := 8) (NoPanic.then (NoPanic.block (NoPanic.then (NoPanic.then (NoPanic.block (NoPanic.then (NoPanic.body))))))) rfl kr_ kr_ kr_ rfl (Yd.neqSt [1, 0] kr_ rfl rfl (same_gd _ _)) ?_
    refine WA.done kr_ ?_
    refine DN.then_normal ?_
    refine WC.cond rfl (fun h25 => ?_) (fun h25 => ?_)
    ·have hne : ¬ g2c xs[i] = g2c ys[i] := by simpa using h25
     refine sr_ ?_
     refine a_ rfl rfl ?_
     refine nt_ ?_
     refine WC.ret ?_
     refine DN.block_ret ?_
     refine DN.then_ret ?_
     refine DN.then_ret ?_
     refine DN.block_ret ?_
     refine DN.then_ret ?_
     refine DN.fit (C := H) sp_ ?_
     refine DN.ret1 Tryz.results27 rfl ?_
     first
       | exact ⟨by rw [decide_eq_false (same_no (xs := xs.map g2c) (ys := ys.map g2c) (by simpa using hln))], rfl⟩
       | exact ⟨by rw [decide_eq_true (same_yes (xs := xs.map g2c) (ys := ys.map g2c) (by simpa using hln) fun j h1 h2 => by simpa using hsame j (by simpa using h1) (by simpa using h2) (by simpa using h1))], rfl⟩
       | exact ⟨by rw [decide_eq_false (fun e => hne (by have e2 := congrArg (fun l => l[i]?) e; simpa [hlt, show i < ys.length by omega] using e2))], rfl⟩
    ·have heq : g2c xs[i] = g2c ys[i] := by simpa using h25
     refine WC.skip ?_
     refine DN.block_normal ?_
     refine DN.then_normal ?_
     refine WC.region ?_
     refine m_ rfl rfl ?_
     refine WL.y rfl (Yd.add rfl rfl (by omega) (by omega)) ?_
     refine a_ rfl rfl ?_
     refine WL.nil ?_
     exact DN.againS (i + 1) (show (i + 1) ≤ xs.length ∧ ∀ (j : Nat) (h1 : j < xs.length) (h2 : j < ys.length), j < (i + 1) → g2c xs[j] = g2c ys[j] from ⟨by omega, fun j h1 h2 hj => by
       rcases Nat.lt_or_ge j i with h | h
       · exact hsame j h1 h2 h
       · obtain rfl : j = i := by omega
         exact heq⟩) (show xs.length - (i + 1) < xs.length - i by omega) (Sx.put rfl (sx_)) sp_
  ·obtain rfl : i = xs.length := by omega
   refine WC.exit ?_
   refine DN.then_exit ?_
   refine DN.then_exit ?_
   refine DN.block_exit ?_
   refine ts_ ?_
   refine WC.region ?_
   refine a_ rfl rfl ?_
   refine nt_ ?_
   refine WC.ret ?_
   refine DN.fit (C := H) sp_ ?_
   refine DN.ret1 Tryz.results27 rfl ?_
   first
     | exact ⟨by rw [decide_eq_false (same_no (xs := xs.map g2c) (ys := ys.map g2c) (by simpa using hln))], rfl⟩
     | exact ⟨by rw [decide_eq_true (same_yes (xs := xs.map g2c) (ys := ys.map g2c) (by simpa using hln) fun j h1 h2 => by simpa using hsame j (by simpa using h1) (by simpa using h2) (by simpa using h1))], rfl⟩
     | exact ⟨by rw [decide_eq_false (fun e => hne (by have e2 := congrArg (fun l => l[i]?) e; simpa [hlt, show i < ys.length by omega] using e2))], rfl⟩
theorem sameAccs_reads (u v : Value) (xs ys : List Au) (H : List Ck) (hu : Rs u xs.length (xs.flatMap cellsU) H) (hv : Rs v ys.length (ys.flatMap cellsU) H) (hx : xs.length ≤ 100000000) (hy : ys.length ≤ 100000000) : Reads Tryz.prog 28 [u, v] H (.bool (decide (xs = ys))) := by
 refine Tells.enter Tryz.func28 rfl Tryz.ntmps28 rfl ?_
 intro w0 R
 obtain ⟨uo, uc, rfl, _⟩ := hu.form
 obtain ⟨vo, vc, rfl, _⟩ := hv.form
 refine sr_ ?_
 refine a_ rfl rfl ?_
 refine nt_ ?_
 refine WC.seq ?_
 refine sr_ ?_
 refine m_ rfl rfl ?_
 refine WL.y rfl (Yd.len (e := 71) kr_ rfl) ?_
 refine m_ rfl rfl ?_
 refine WL.y rfl (Yd.len (e := 71) kr_ rfl) ?_
 refine WL.y rfl (Yd.neq rfl rfl) ?_
 refine nt_ ?_
 refine WC.cond rfl (fun h10 => ?_) (fun h10 => ?_)
 ·have hln : xs.length ≠ ys.length := by simp only [decide_eq_true_eq] at h10; omega
  refine sr_ ?_
  refine a_ rfl rfl ?_
  refine nt_ ?_
  refine WC.ret ?_
  refine DN.then_ret ?_
  refine DN.fit (C := H) sp_ ?_
  refine DN.ret1 Tryz.results28 rfl ?_
  first
    | exact ⟨by rw [decide_eq_false (same_no (xs := xs) (ys := ys) (by simpa using hln))], rfl⟩
    | exact ⟨by rw [decide_eq_true (same_yes (xs := xs) (ys := ys) (by simpa using hln) fun j h1 h2 => by simpa using hsame j (by simpa using h1) (by simpa using h2) (by simpa using h1))], rfl⟩
    | exact ⟨by rw [decide_eq_false (fun e => hne (by have e2 := congrArg (fun l => l[i]?) e; simpa [hlt, show i < ys.length by omega] using e2))], rfl⟩
 ·have hln : xs.length = ys.length := by simp only [decide_eq_false_iff_not] at h10; omega
  refine WC.skip ?_
  refine ts_ ?_
  refine sr_ ?_
  refine a_ rfl rfl ?_
  refine nt_ ?_
  refine WC.block ?_
  refine WC.loopS (fun z : Nat => z ≤ xs.length ∧ ∀ (j : Nat) (h1 : j < xs.length) (h2 : j < ys.length), j < z → xs[j] = ys[j]) (fun z : Nat => [(5, .int .i64 (z : Int))]) (fun z : Nat => H) (fun z : Nat => xs.length - z) (0) (show 0 ≤ xs.length ∧ ∀ (j : Nat) (h1 : j < xs.length) (h2 : j < ys.length), j < 0 → xs[j] = ys[j] from ⟨by omega, fun _ _ _ _ => by omega⟩) (Sx.put rfl (sx_)) sp_ ?_
  rintro i hI
  replace hI : i ≤ xs.length ∧ ∀ (j : Nat) (h1 : j < xs.length) (h2 : j < ys.length), j < i → xs[j] = ys[j] := hI
  obtain ⟨hi, hsame⟩ := hI
  change WC _ _ _ _ _ _ ([(5, .int .i64 (i : Int))] ++ _) (H)
  refine WC.seq ?_
  refine sr_ ?_
  refine m_ rfl rfl ?_
  refine m_ rfl rfl ?_
  refine WL.y rfl (Yd.len (e := 71) kr_ rfl) ?_
  refine WL.y rfl (Yd.lss rfl rfl) ?_
  refine nt_ ?_
  refine WC.ite rfl (fun h14 => ?_) (fun h14 => ?_)
  ·have hlt : i < xs.length := by omega
   obtain ⟨ub, uf, us, uT, ufr, uex, rfl, _, hum, hus⟩ := hu.lies (by omega)
   obtain ⟨vb, vf, vs, vT, vfr, vex, rfl, _, hvm, hvs⟩ := hv.lies (by omega)
   refine WC.skip ?_
   refine ts_ ?_
   refine WC.block ?_
   refine WC.seq ?_
   refine WC.draw 9 kr_ rfl ?_
   refine WA.y (i := 0) (NoPanic.then (NoPanic.block (NoPanic.then (NoPanic.then (NoPanic.block (NoPanic.then (NoPanic.body))))))) rfl kr_ kr_ kr_ rfl (Yd.move rfl) ?_
   refine WA.y (i := 1) (NoPanic.then (NoPanic.block (NoPanic.then (NoPanic.then (NoPanic.block (NoPanic.then (NoPanic.body))))))) rfl kr_ kr_ kr_ rfl (Yd.move rfl) ?_
   refine WA.y (i := 2) (NoPanic.then (NoPanic.block (NoPanic.then (NoPanic.then (NoPanic.block (NoPanic.then (NoPanic.body))))))) rfl kr_ kr_ kr_ rfl (Yd.indexAddr (e := 71) (s := 3) kr_ kr_ rfl rfl (by omega) (by omega)) ?_
   refine WA.y (i := 4) (NoPanic.then (NoPanic.block (NoPanic.then (NoPanic.then (NoPanic.block (NoPanic.then (NoPanic.body))))))) rfl kr_ kr_ kr_ rfl (Yd.move rfl) ?_
   refine WA.y (i := 5) (NoPanic.then (NoPanic.block (NoPanic.then (NoPanic.then (NoPanic.block (NoPanic.then (NoPanic.body))))))) rfl kr_ kr_ kr_ rfl (Yd.move rfl) ?_
   refine WA.y (i := 6) (NoPanic.then (NoPanic.block (NoPanic.then (NoPanic.then (NoPanic.block (NoPanic.then (NoPanic.body))))))) rfl kr_ kr_ kr_ rfl (Yd.indexAddr (e := 71) (s := 3) kr_ kr_ rfl rfl (by omega) (by omega)) ?_
   refine WA.two (i := 3) (j := 7) kr_ ?_ ?_
   ·refine WO.h rfl Wt.none rfl (Hd.loadA (n := 3) (b := ub) (o := uf + (i : Int).toNat * 3) (cs := us) (vs := cellsU xs[i]) kr_ rfl hum (cellsU_len _) (rs_cell hus (by rw [flat_len cellsU 3 cellsU_len]; omega) (flat_row cellsU 3 cellsU_len xs i (by omega))) ⟨_, rfl, ?_⟩)
    refine WA.one (i := 7) kr_ ?_
    refine WO.h rfl Wt.none rfl (Hd.loadA (n := 3) (b := vb) (o := vf + (i : Int).toNat * 3) (cs := vs) (vs := cellsU ys[i]) kr_ rfl hvm (cellsU_len _) (rs_cell hvs (by rw [flat_len cellsU 3 cellsU_len]; omega) (flat_row cellsU 3 cellsU_len ys i (by omega))) ⟨_, rfl, ?_⟩)
    refine WA.y (i := 8) (NoPanic.then (NoPanic.block (NoPanic.then (NoPanic.then (NoPanic.block (NoPanic.then (NoPanic.body))))))) rfl kr_ kr_ kr_ rfl (Yd.neqSt [1, 0, 0] kr_ rfl rfl (same_auc _ _)) ?_
    refine WA.done kr_ ?_
    refine DN.then_normal ?_
    refine WC.cond rfl (fun h25 => ?_) (fun h25 => ?_)
    ·have hne : ¬ xs[i] = ys[i] := by simpa using h25
     refine sr_ ?_
     refine a_ rfl rfl ?_
     refine nt_ ?_
     refine WC.ret ?_
     refine DN.block_ret ?_
     refine DN.then_ret ?_
     refine DN.then_ret ?_
     refine DN.block_ret ?_
     refine DN.then_ret ?_
     refine DN.fit (C := H) sp_ ?_
     refine DN.ret1 Tryz.results28 rfl ?_
     first
       | exact ⟨by rw [decide_eq_false (same_no (xs := xs) (ys := ys) (by simpa using hln))], rfl⟩
       | exact ⟨by rw [decide_eq_true (same_yes (xs := xs) (ys := ys) (by simpa using hln) fun j h1 h2 => by simpa using hsame j (by simpa using h1) (by simpa using h2) (by simpa using h1))], rfl⟩
       | exact ⟨by rw [decide_eq_false (fun e => hne (by have e2 := congrArg (fun l => l[i]?) e; simpa [hlt, show i < ys.length by omega] using e2))], rfl⟩
    ·have heq : xs[i] = ys[i] := by simpa using h25
     refine WC.skip ?_
     refine DN.block_normal ?_
     refine DN.then_normal ?_
     refine WC.region ?_
     refine m_ rfl rfl ?_
     refine WL.y rfl (Yd.add rfl rfl (by omega) (by omega)) ?_
     refine a_ rfl rfl ?_
     refine WL.nil ?_
     exact DN.againS (i + 1) (show (i + 1) ≤ xs.length ∧ ∀ (j : Nat) (h1 : j < xs.length) (h2 : j < ys.length), j < (i + 1) → xs[j] = ys[j] from ⟨by omega, fun j h1 h2 hj => by
       rcases Nat.lt_or_ge j i with h | h
       · exact hsame j h1 h2 h
       · obtain rfl : j = i := by omega
         exact heq⟩) (show xs.length - (i + 1) < xs.length - i by omega) (Sx.put rfl (sx_)) sp_
   ·refine WO.h rfl Wt.none rfl (Hd.loadA (n := 3) (b := vb) (o := vf + (i : Int).toNat * 3) (cs := vs) (vs := cellsU ys[i]) kr_ rfl hvm (cellsU_len _) (rs_cell hvs (by rw [flat_len cellsU 3 cellsU_len]; omega) (flat_row cellsU 3 cellsU_len ys i (by omega))) ⟨_, rfl, ?_⟩)
    refine WA.one (i := 3) kr_ ?_
    refine WO.h rfl Wt.none rfl (Hd.loadA (n := 3) (b := ub) (o := uf + (i : Int).toNat * 3) (cs := us) (vs := cellsU xs[i]) kr_ rfl hum (cellsU_len _) (rs_cell hus (by rw [flat_len cellsU 3 cellsU_len]; omega) (flat_row cellsU 3 cellsU_len xs i (by omega))) ⟨_, rfl, ?_⟩)
    refine WA.y (i := 8) (NoPanic.then (NoPanic.block (NoPanic.then (NoPanic.then (NoPanic.block (NoPanic.then (NoPanic.body))))))) rfl kr_ kr_ kr_ rfl (Yd.neqSt [1, 0, 0] kr_ rfl rfl (same_auc _ _)) ?_
    refine WA.done kr_ ?_
    refine DN.then_normal ?_
    refine WC.cond rfl (fun h25 => ?_) (fun h25 => ?_)
    ·have hne : ¬ xs[i] = ys[i] := by simpa using h25
     refine sr_ ?_
     refine a_ rfl rfl ?_
     refine nt_ ?_
     refine WC.ret ?_
     refine DN.block_ret ?_
     refine DN.then_ret ?_
     refine DN.then_ret ?_
     refine DN.block_ret ?_
     refine DN.then_ret ?_
     refine DN.fit (C := H) sp_ ?_
     refine DN.ret1 Tryz.results28 rfl ?_
     first
       | exact ⟨by rw [decide_eq_false (same_no (xs := xs) (ys := ys) (by simpa using hln))], rfl⟩
       | exact ⟨by rw [decide_eq_true (same_yes (xs := xs) (ys := ys) (by simpa using hln) fun j h1 h2 => by simpa using hsame j (by simpa using h1) (by simpa using h2) (by simpa using h1))], rfl⟩
       | exact ⟨by rw [decide_eq_false (fun e => hne (by have e2 := congrArg (fun l => l[i]?) e; simpa [hlt, show i < ys.length by omega] using e2))], rfl⟩
    ·have heq : xs[i] = ys[i] := by simpa using h25
     refine WC.skip ?_
     refine DN.block_normal ?_
     refine DN.then_normal ?_
     refine WC.region ?_
     refine m_ rfl rfl ?_
     refine WL.y rfl (Yd.add rfl rfl (by omega) (by omega)) ?_
     refine a_ rfl rfl ?_
     refine WL.nil ?_
     exact DN.againS (i + 1) (show (i + 1) ≤ xs.length ∧ ∀ (j : Nat) (h1 : j < xs.length) (h2 : j < ys.length), j < (i + 1) → xs[j] = ys[j] from ⟨by omega, fun j h1 h2 hj => by
       rcases Nat.lt_or_ge j i with h | h
       · exact hsame j h1 h2 h
       · obtain rfl : j = i := by omega
         exact heq⟩) (show xs.length - (i + 1) < xs.length - i by omega) (Sx.put rfl (sx_)) sp_
  ·obtain rfl : i = xs.length := by omega
   refine WC.exit ?_
   refine DN.then_exit ?_
   refine DN.then_exit ?_
   refine DN.block_exit ?_
   refine ts_ ?_
   refine WC.region ?_
   refine a_ rfl rfl ?_
   refine nt_ ?_
   refine WC.ret ?_
   refine DN.fit (C := H) sp_ ?_
   refine DN.ret1 Tryz.results28 rfl ?_
   first
     | exact ⟨by rw [decide_eq_false (same_no (xs := xs) (ys := ys) (by simpa using hln))], rfl⟩
     | exact ⟨by rw [decide_eq_true (same_yes (xs := xs) (ys := ys) (by simpa using hln) fun j h1 h2 => by simpa using hsame j (by simpa using h1) (by simpa using h2) (by simpa using h1))], rfl⟩
     | exact ⟨by rw [decide_eq_false (fun e => hne (by have e2 := congrArg (fun l => l[i]?) e; simpa [hlt, show i < ys.length by omega] using e2))], rfl⟩
theorem sameEffs_reads (u v : Value) (xs ys : List Ef) (H : List Ck) (hu : Rs u xs.length (xs.flatMap efc) H) (hv : Rs v ys.length (ys.flatMap efc) H) (hx : xs.length ≤ 100000000) (hy : ys.length ≤ 100000000) : Reads Tryz.prog 29 [u, v] H (.bool (decide (xs = ys))) := by
 refine Tells.enter Tryz.func29 rfl Tryz.ntmps29 rfl ?_
 intro w0 R
 obtain ⟨uo, uc, rfl, _⟩ := hu.form
 obtain ⟨vo, vc, rfl, _⟩ := hv.form
 refine sr_ ?_
 refine a_ rfl rfl ?_
 refine nt_ ?_
 refine WC.seq ?_
 refine sr_ ?_
 refine m_ rfl rfl ?_
 refine WL.y rfl (Yd.len (e := 111) kr_ rfl) ?_
 refine m_ rfl rfl ?_
 refine WL.y rfl (Yd.len (e := 111) kr_ rfl) ?_
 refine WL.y rfl (Yd.neq rfl rfl) ?_
 refine nt_ ?_
 refine WC.cond rfl (fun h10 => ?_) (fun h10 => ?_)
 ·have hln : xs.length ≠ ys.length := by simp only [decide_eq_true_eq] at h10; omega
  refine sr_ ?_
  refine a_ rfl rfl ?_
  refine nt_ ?_
  refine WC.ret ?_
  refine DN.then_ret ?_
  refine DN.fit (C := H) sp_ ?_
  refine DN.ret1 Tryz.results29 rfl ?_
  first
    | exact ⟨by rw [decide_eq_false (same_no (xs := xs) (ys := ys) (by simpa using hln))], rfl⟩
    | exact ⟨by rw [decide_eq_true (same_yes (xs := xs) (ys := ys) (by simpa using hln) fun j h1 h2 => by simpa using hsame j (by simpa using h1) (by simpa using h2) (by simpa using h1))], rfl⟩
    | exact ⟨by rw [decide_eq_false (fun e => hne (by have e2 := congrArg (fun l => l[i]?) e; simpa [hlt, show i < ys.length by omega] using e2))], rfl⟩
 ·have hln : xs.length = ys.length := by simp only [decide_eq_false_iff_not] at h10; omega
  refine WC.skip ?_
  refine ts_ ?_
  refine sr_ ?_
  refine a_ rfl rfl ?_
  refine nt_ ?_
  refine WC.block ?_
  refine WC.loopS (fun z : Nat => z ≤ xs.length ∧ ∀ (j : Nat) (h1 : j < xs.length) (h2 : j < ys.length), j < z → xs[j] = ys[j]) (fun z : Nat => [(5, .int .i64 (z : Int))]) (fun z : Nat => H) (fun z : Nat => xs.length - z) (0) (show 0 ≤ xs.length ∧ ∀ (j : Nat) (h1 : j < xs.length) (h2 : j < ys.length), j < 0 → xs[j] = ys[j] from ⟨by omega, fun _ _ _ _ => by omega⟩) (Sx.put rfl (sx_)) sp_ ?_
  rintro i hI
  replace hI : i ≤ xs.length ∧ ∀ (j : Nat) (h1 : j < xs.length) (h2 : j < ys.length), j < i → xs[j] = ys[j] := hI
  obtain ⟨hi, hsame⟩ := hI
  change WC _ _ _ _ _ _ ([(5, .int .i64 (i : Int))] ++ _) (H)
  refine WC.seq ?_
  refine sr_ ?_
  refine m_ rfl rfl ?_
  refine m_ rfl rfl ?_
  refine WL.y rfl (Yd.len (e := 111) kr_ rfl) ?_
  refine WL.y rfl (Yd.lss rfl rfl) ?_
  refine nt_ ?_
  refine WC.ite rfl (fun h14 => ?_) (fun h14 => ?_)
  ·have hlt : i < xs.length := by omega
   obtain ⟨ub, uf, us, uT, ufr, uex, rfl, _, hum, hus⟩ := hu.lies (by omega)
   obtain ⟨vb, vf, vs, vT, vfr, vex, rfl, _, hvm, hvs⟩ := hv.lies (by omega)
   refine WC.skip ?_
   refine ts_ ?_
   refine WC.block ?_
   refine WC.seq ?_
   refine WC.draw 9 kr_ rfl ?_
   refine WA.y (i := 0) (NoPanic.then (NoPanic.block (NoPanic.then (NoPanic.then (NoPanic.block (NoPanic.then (NoPanic.body))))))) rfl kr_ kr_ kr_ rfl (Yd.move rfl) ?_
   refine WA.y (i := 1) (NoPanic.then (NoPanic.block (NoPanic.then (NoPanic.then (NoPanic.block (NoPanic.then (NoPanic.body))))))) rfl kr_ kr_ kr_ rfl (Yd.move rfl) ?_
   refine WA.y (i := 2) (NoPanic.then (NoPanic.block (NoPanic.then (NoPanic.then (NoPanic.block (NoPanic.then (NoPanic.body))))))) rfl kr_ kr_ kr_ rfl (Yd.indexAddr (e := 111) (s := 3) kr_ kr_ rfl rfl (by omega) (by omega)) ?_
   refine WA.y (i := 4) (NoPanic.then (NoPanic.block (NoPanic.then (NoPanic.then (NoPanic.block (NoPanic.then (NoPanic.body))))))) rfl kr_ kr_ kr_ rfl (Yd.move rfl) ?_
   refine WA.y (i := 5) (NoPanic.then (NoPanic.block (NoPanic.then (NoPanic.then (NoPanic.block (NoPanic.then (NoPanic.body))))))) rfl kr_ kr_ kr_ rfl (Yd.move rfl) ?_
   refine WA.y (i := 6) (NoPanic.then (NoPanic.block (NoPanic.then (NoPanic.then (NoPanic.block (NoPanic.then (NoPanic.body))))))) rfl kr_ kr_ kr_ rfl (Yd.indexAddr (e := 111) (s := 3) kr_ kr_ rfl rfl (by omega) (by omega)) ?_
   refine WA.two (i := 3) (j := 7) kr_ ?_ ?_
   ·refine WO.h rfl Wt.none rfl (Hd.loadA (n := 3) (b := ub) (o := uf + (i : Int).toNat * 3) (cs := us) (vs := efc xs[i]) kr_ rfl hum (efc_len _) (rs_cell hus (by rw [flat_len efc 3 efc_len]; omega) (flat_row efc 3 efc_len xs i (by omega))) ⟨_, rfl, ?_⟩)
    refine WA.one (i := 7) kr_ ?_
    refine WO.h rfl Wt.none rfl (Hd.loadA (n := 3) (b := vb) (o := vf + (i : Int).toNat * 3) (cs := vs) (vs := efc ys[i]) kr_ rfl hvm (efc_len _) (rs_cell hvs (by rw [flat_len efc 3 efc_len]; omega) (flat_row efc 3 efc_len ys i (by omega))) ⟨_, rfl, ?_⟩)
    refine WA.y (i := 8) (NoPanic.then (NoPanic.block (NoPanic.then (NoPanic.then (NoPanic.block (NoPanic.then (NoPanic.body))))))) rfl kr_ kr_ kr_ rfl (Yd.neqSt [0, 0, 2] kr_ rfl rfl (same_ef _ _)) ?_
    refine WA.done kr_ ?_
    refine DN.then_normal ?_
    refine WC.cond rfl (fun h25 => ?_) (fun h25 => ?_)
    ·have hne : ¬ xs[i] = ys[i] := by simpa using h25
     refine sr_ ?_
     refine a_ rfl rfl ?_
     refine nt_ ?_
     refine WC.ret ?_
     refine DN.block_ret ?_
     refine DN.then_ret ?_
     refine DN.then_ret ?_
     refine DN.block_ret ?_
     refine DN.then_ret ?_
     refine DN.fit (C := H) sp_ ?_
     refine DN.ret1 Tryz.results29 rfl ?_
     first
       | exact ⟨by rw [decide_eq_false (same_no (xs := xs) (ys := ys) (by simpa using hln))], rfl⟩
       | exact ⟨by rw [decide_eq_true (same_yes (xs := xs) (ys := ys) (by simpa using hln) fun j h1 h2 => by simpa using hsame j (by simpa using h1) (by simpa using h2) (by simpa using h1))], rfl⟩
       | exact ⟨by rw [decide_eq_false (fun e => hne (by have e2 := congrArg (fun l => l[i]?) e; simpa [hlt, show i < ys.length by omega] using e2))], rfl⟩
    ·have heq : xs[i] = ys[i] := by simpa using h25
     refine WC.skip ?_
     refine DN.block_normal ?_
     refine DN.then_normal ?_
     refine WC.region ?_
     refine m_ rfl rfl ?_
     refine WL.y rfl (Yd.add rfl rfl (by omega) (by omega)) ?_
     refine a_ rfl rfl ?_
     refine WL.nil ?_
     exact DN.againS (i + 1) (show (i + 1) ≤ xs.length ∧ ∀ (j : Nat) (h1 : j < xs.length) (h2 : j < ys.length), j < (i + 1) → xs[j] = ys[j] from ⟨by omega, fun j h1 h2 hj => by
       rcases Nat.lt_or_ge j i with h | h
       · exact hsame j h1 h2 h
       · obtain rfl : j = i := by omega
         exact heq⟩) (show xs.length - (i + 1) < xs.length - i by omega) (Sx.put rfl (sx_)) sp_
   ·refine WO.h rfl Wt.none rfl (Hd.loadA (n := 3) (b := vb) (o := vf + (i : Int).toNat * 3) (cs := vs) (vs := efc ys[i]) kr_ rfl hvm (efc_len _) (rs_cell hvs (by rw [flat_len efc 3 efc_len]; omega) (flat_row efc 3 efc_len ys i (by omega))) ⟨_, rfl, ?_⟩)
    refine WA.one (i := 3) kr_ ?_
    refine WO.h rfl Wt.none rfl (Hd.loadA (n := 3) (b := ub) (o := uf + (i : Int).toNat * 3) (cs := us) (vs := efc xs[i]) kr_ rfl hum (efc_len _) (rs_cell hus (by rw [flat_len efc 3 efc_len]; omega) (flat_row efc 3 efc_len xs i (by omega))) ⟨_, rfl, ?_⟩)
    refine WA.y (i := 8) (NoPanic.then (NoPanic.block (NoPanic.then (NoPanic.then (NoPanic.block (NoPanic.then (NoPanic.body))))))) rfl kr_ kr_ kr_ rfl (Yd.neqSt [0, 0, 2] kr_ rfl rfl (same_ef _ _)) ?_
    refine WA.done kr_ ?_
    refine DN.then_normal ?_
    refine WC.cond rfl (fun h25 => ?_) (fun h25 => ?_)
    ·have hne : ¬ xs[i] = ys[i] := by simpa using h25
     refine sr_ ?_
     refine a_ rfl rfl ?_
     refine nt_ ?_
     refine WC.ret ?_
     refine DN.block_ret ?_
     refine DN.then_ret ?_
     refine DN.then_ret ?_
     refine DN.block_ret ?_
     refine DN.then_ret ?_
     refine DN.fit (C := H) sp_ ?_
     refine DN.ret1 Tryz.results29 rfl ?_
     first
       | exact ⟨by rw [decide_eq_false (same_no (xs := xs) (ys := ys) (by simpa using hln))], rfl⟩
       | exact ⟨by rw [decide_eq_true (same_yes (xs := xs) (ys := ys) (by simpa using hln) fun j h1 h2 => by simpa using hsame j (by simpa using h1) (by simpa using h2) (by simpa using h1))], rfl⟩
       | exact ⟨by rw [decide_eq_false (fun e => hne (by have e2 := congrArg (fun l => l[i]?) e; simpa [hlt, show i < ys.length by omega] using e2))], rfl⟩
    ·have heq : xs[i] = ys[i] := by simpa using h25
     refine WC.skip ?_
     refine DN.block_normal ?_
     refine DN.then_normal ?_
     refine WC.region ?_
     refine m_ rfl rfl ?_
     refine WL.y rfl (Yd.add rfl rfl (by omega) (by omega)) ?_
     refine a_ rfl rfl ?_
     refine WL.nil ?_
     exact DN.againS (i + 1) (show (i + 1) ≤ xs.length ∧ ∀ (j : Nat) (h1 : j < xs.length) (h2 : j < ys.length), j < (i + 1) → xs[j] = ys[j] from ⟨by omega, fun j h1 h2 hj => by
       rcases Nat.lt_or_ge j i with h | h
       · exact hsame j h1 h2 h
       · obtain rfl : j = i := by omega
         exact heq⟩) (show xs.length - (i + 1) < xs.length - i by omega) (Sx.put rfl (sx_)) sp_
  ·obtain rfl : i = xs.length := by omega
   refine WC.exit ?_
   refine DN.then_exit ?_
   refine DN.then_exit ?_
   refine DN.block_exit ?_
   refine ts_ ?_
   refine WC.region ?_
   refine a_ rfl rfl ?_
   refine nt_ ?_
   refine WC.ret ?_
   refine DN.fit (C := H) sp_ ?_
   refine DN.ret1 Tryz.results29 rfl ?_
   first
     | exact ⟨by rw [decide_eq_false (same_no (xs := xs) (ys := ys) (by simpa using hln))], rfl⟩
     | exact ⟨by rw [decide_eq_true (same_yes (xs := xs) (ys := ys) (by simpa using hln) fun j h1 h2 => by simpa using hsame j (by simpa using h1) (by simpa using h2) (by simpa using h1))], rfl⟩
     | exact ⟨by rw [decide_eq_false (fun e => hne (by have e2 := congrArg (fun l => l[i]?) e; simpa [hlt, show i < ys.length by omega] using e2))], rfl⟩
end Go.Proofs.YtkamlondepceiaaGreat

set_option linter.unusedVariables false
set_option linter.unusedSimpArgs false
set_option maxHeartbeats 4000000
namespace Go.Proofs.YtkamlondepceiaaGreat
open Go.SL
theorem encode_tells (w : Wk) (v : Value) (H : List Ck) (hv : Bs v w.name H) (hl : w.name.length ≤ 1000000) : Tells Tryz.prog 11 [.agg (wkc w v).toArray] H fun r H' => ∃ x A, r = .tuple #[x, .int .i64 (encE w)] ∧ Ob 5 x (encB w) A ∧ H' = A ++ H := by
 refine Tells.enter Tryz.func11 rfl Tryz.ntmps11 rfl ?_
 intro w0 R
 obtain ⟨no, nc, rfl, hnc⟩ := hv.form
 refine sr_ ?_
 refine WL.h rfl (Hd.boxA rfl fun b1 => ⟨_, rfl, ?_⟩)
 refine a_ rfl rfl ?_
 refine a_ rfl rfl ?_
 refine nt_ ?_
 refine WC.seq ?_
 refine WC.cutK (fun z : Bool => z = !decide (wkGood w)) (fun z : Bool => [(27, .bool z)]) (fun z : Bool => row b1 (wkc w (.slice no w.name.length nc)) 24 :: H) ?_ ?_
 ·refine WC.region ?_
  refine f_ 0 kr_ rfl rfl ?_
  refine d_ kr_ rfl mem_ (by rfl) rfl ?_
  refine WL.y rfl (Yd.lss rfl rfl) ?_
  refine m_ rfl rfl ?_
  refine WL.partP (t := 7) rfl (fun hg7 => ?_) (fun hg7 => ?_)
  ·iterate 3 refine gn_ 7 rfl rfl rfl rfl ?_
   refine WL.y rfl (Yd.pickT rfl rfl) ?_
   refine m_ rfl rfl ?_
   iterate 3 refine gn_ 12 rfl rfl rfl rfl ?_
   refine WL.y rfl (Yd.pickT rfl rfl) ?_
   refine m_ rfl rfl ?_
   iterate 3 refine gn_ 17 rfl rfl rfl rfl ?_
   refine WL.y rfl (Yd.pickT rfl rfl) ?_
   refine m_ rfl rfl ?_
   iterate 4 refine gn_ 22 rfl rfl rfl rfl ?_
   refine WL.y rfl (Yd.pickT rfl rfl) ?_
   refine WL.nil ?_
   exact DN.reachK (_) (wk_z (by unfold wkGood; simp only [decide_eq_true_eq, eq_self, true_iff, Bool.false_eq_true, false_iff]; omega)) (Sx.put rfl (sx_)) (Sp.all sp_)
  ·refine gy_ 7 rfl rfl rfl (Yd.fieldAddr (k := 0) kr_ rfl) ?_
   refine WL.gh (dj := 7) rfl rfl rfl (Hd.load1 kr_ rfl mem_ (by rfl) ⟨_, rfl, ?_⟩)
   refine gy_ 7 rfl rfl rfl (Yd.gtr rfl rfl) ?_
   refine WL.y rfl (Yd.pickF rfl rfl) ?_
   refine m_ rfl rfl ?_
   refine WL.partP (t := 12) rfl (fun hg12 => ?_) (fun hg12 => ?_)
   ·iterate 3 refine gn_ 12 rfl rfl rfl rfl ?_
    refine WL.y rfl (Yd.pickT rfl rfl) ?_
    refine m_ rfl rfl ?_
    iterate 3 refine gn_ 17 rfl rfl rfl rfl ?_
    refine WL.y rfl (Yd.pickT rfl rfl) ?_
    refine m_ rfl rfl ?_
    iterate 4 refine gn_ 22 rfl rfl rfl rfl ?_
    refine WL.y rfl (Yd.pickT rfl rfl) ?_
    refine WL.nil ?_
    exact DN.reachK (_) (wk_z (by unfold wkGood; simp only [decide_eq_true_eq, eq_self, true_iff, Bool.false_eq_true, false_iff]; omega)) (Sx.put rfl (sx_)) (Sp.all sp_)
   ·refine gy_ 12 rfl rfl rfl (Yd.fieldAddr (k := 1) kr_ rfl) ?_
    refine WL.gh (dj := 12) rfl rfl rfl (Hd.load1 kr_ rfl mem_ (by rfl) ⟨_, rfl, ?_⟩)
    refine gy_ 12 rfl rfl rfl (Yd.lss rfl rfl) ?_
    refine WL.y rfl (Yd.pickF rfl rfl) ?_
    refine m_ rfl rfl ?_
    refine WL.partP (t := 17) rfl (fun hg17 => ?_) (fun hg17 => ?_)
    ·iterate 3 refine gn_ 17 rfl rfl rfl rfl ?_
     refine WL.y rfl (Yd.pickT rfl rfl) ?_
     refine m_ rfl rfl ?_
     iterate 4 refine gn_ 22 rfl rfl rfl rfl ?_
     refine WL.y rfl (Yd.pickT rfl rfl) ?_
     refine WL.nil ?_
     exact DN.reachK (_) (wk_z (by unfold wkGood; simp only [decide_eq_true_eq, eq_self, true_iff, Bool.false_eq_true, false_iff]; omega)) (Sx.put rfl (sx_)) (Sp.all sp_)
    ·refine gy_ 17 rfl rfl rfl (Yd.fieldAddr (k := 1) kr_ rfl) ?_
     refine WL.gh (dj := 17) rfl rfl rfl (Hd.load1 kr_ rfl mem_ (by rfl) ⟨_, rfl, ?_⟩)
     refine gy_ 17 rfl rfl rfl (Yd.gtr rfl rfl) ?_
     refine WL.y rfl (Yd.pickF rfl rfl) ?_
     refine m_ rfl rfl ?_
     refine WL.partP (t := 22) rfl (fun hg22 => ?_) (fun hg22 => ?_)
     ·iterate 4 refine gn_ 22 rfl rfl rfl rfl ?_
      refine WL.y rfl (Yd.pickT rfl rfl) ?_
      refine WL.nil ?_
      exact DN.reachK (_) (wk_z (by unfold wkGood; simp only [decide_eq_true_eq, eq_self, true_iff, Bool.false_eq_true, false_iff]; omega)) (Sx.put rfl (sx_)) (Sp.all sp_)
     ·refine gy_ 22 rfl rfl rfl (Yd.fieldAddr (k := 2) kr_ rfl) ?_
      refine WL.gh (dj := 22) rfl rfl rfl (Hd.load1 kr_ rfl mem_ (by rfl) ⟨_, rfl, ?_⟩)
      refine gy_ 22 rfl rfl rfl (Yd.len (e := 5) kr_ rfl) ?_
      refine gy_ 22 rfl rfl rfl (Yd.gtr rfl rfl) ?_
      refine WL.y rfl (Yd.pickF rfl rfl) ?_
      refine WL.nil ?_
      exact DN.reachK (_) (wk_z (by unfold wkGood; simp only [decide_eq_true_eq, eq_self, true_iff, Bool.false_eq_true, false_iff]; omega)) (Sx.put rfl (sx_)) (Sp.all sp_)
 ·intro z hz
  refine WC.cond rfl (fun h27 => ?_) (fun h27 => ?_)
  ·have hb : ¬ wkGood w := by rw [hz] at h27; simpa using h27
   refine sr_ ?_
   refine a_ rfl rfl ?_
   refine a_ rfl rfl ?_
   refine nt_ ?_
   refine WC.ret ?_
   refine DN.then_ret ?_
   refine DN.fit (C := H) sp_ ?_
   refine DN.ret2 Tryz.results11 rfl rfl ?_
   rw [(enc_bad hb).1, (enc_bad hb).2]
   exact ⟨_, [], rfl, Ob.nil _, rfl⟩
  ·have hg : wkGood w := by rw [hz] at h27; simpa using h27
   have hn32 := hg.2.2.2.2
   refine WC.skip ?_
   refine ts_ ?_
   refine WC.draw 17 kr_ rfl ?_
   refine WA.float (N := 17) rfl ?_
   refine WAF.add (i := 1) (d := 29) rfl (QF.mk [] [] rfl rfl kr_ rfl (QAt.y Wt.none (Yd.fieldAddr (k := 0) kr_ rfl))) ?_
   refine WAF.add (i := 2) (d := 30) rfl (QF.mk [1] [(29, _)] rfl rfl kr_ rfl (QAt.rd Wt.none (Rd.load1 kr_ rfl mem_ (by rfl)))) ?_
   refine WAF.add (i := 3) (d := 31) rfl (QF.mk [2] [(30, _)] rfl rfl kr_ rfl (QAt.y Wt.none (Yd.to8 _ kr_ kr_ rfl rfl))) ?_
   refine WAF.add (i := 5) (d := 33) rfl (QF.mk [] [] rfl rfl kr_ rfl (QAt.y Wt.none (Yd.fieldAddr (k := 1) kr_ rfl))) ?_
   refine WAF.add (i := 6) (d := 34) rfl (QF.mk [5] [(33, _)] rfl rfl kr_ rfl (QAt.rd Wt.none (Rd.load1 kr_ rfl mem_ (by rfl)))) ?_
   refine WAF.add (i := 7) (d := 35) rfl (QF.mk [6] [(34, _)] rfl rfl kr_ rfl (QAt.y Wt.none (Yd.to32 _ kr_ kr_ rfl rfl))) ?_
   refine WAF.add (i := 9) (d := 37) rfl (QF.mk [] [] rfl rfl kr_ rfl (QAt.y Wt.none (Yd.fieldAddr (k := 2) kr_ rfl))) ?_
   refine WAF.add (i := 10) (d := 38) rfl (QF.mk [9] [(37, _)] rfl rfl kr_ rfl (QAt.rd Wt.none (Rd.load1 kr_ rfl mem_ (by rfl)))) ?_
   refine WAF.step (pd := [(10, 38), (9, 37), (7, 35), (6, 34), (5, 33), (3, 31), (2, 30), (1, 29)]) [(0, [])] rfl kr_ kr_ (all_c rfl (all_c rfl (all_c rfl (all_c rfl (all_c rfl (all_c rfl (all_c rfl (all_c rfl (all_n))))))))) (all_c (QF.mk [9] [(37, _)] rfl rfl kr_ rfl (QAt.rd Wt.none (Rd.load1 kr_ rfl mem_ (by rfl)))) (all_c (QF.mk [] [] rfl rfl kr_ rfl (QAt.y Wt.none (Yd.fieldAddr (k := 2) kr_ rfl))) (all_c (QF.mk [6] [(34, _)] rfl rfl kr_ rfl (QAt.y Wt.none (Yd.to32 _ kr_ kr_ rfl rfl))) (all_c (QF.mk [5] [(33, _)] rfl rfl kr_ rfl (QAt.rd Wt.none (Rd.load1 kr_ rfl mem_ (by rfl)))) (all_c (QF.mk [] [] rfl rfl kr_ rfl (QAt.y Wt.none (Yd.fieldAddr (k := 1) kr_ rfl))) (all_c (QF.mk [2] [(30, _)] rfl rfl kr_ rfl (QAt.y Wt.none (Yd.to8 _ kr_ kr_ rfl rfl))) (all_c (QF.mk [1] [(29, _)] rfl rfl kr_ rfl (QAt.rd Wt.none (Rd.load1 kr_ rfl mem_ (by rfl)))) (all_c (QF.mk [] [] rfl rfl kr_ rfl (QAt.y Wt.none (Yd.fieldAddr (k := 0) kr_ rfl))) (all_n))))))))) (all_c ?_ (all_n))
   ·change SO _ _ _ _ _ _ 0 ([] ++ _) _ _
    refine SO.c rfl Wt.none rfl (Ent.func Tryz.call41 rfl) (newWriter_tells) (Sp.p sp_) ?_
    rintro x0 H0 ⟨bw, rfl, rfl⟩
    change WAF _ _ _ _ _ _ [(10, 38, _), (9, 37, _), (7, 35, _), (6, 34, _), (5, 33, _), (3, 31, _), (2, 30, _), (1, 29, _)] _ [0] ((28, _) :: ([] ++ _)) _
    refine WAF.step (pd := [(10, 38), (9, 37), (7, 35), (6, 34), (5, 33), (3, 31), (2, 30), (1, 29)]) [(4, [3])] rfl kr_ kr_ (all_c rfl (all_c rfl (all_c rfl (all_c rfl (all_c rfl (all_c rfl (all_c rfl (all_c rfl (all_n))))))))) (all_c (QF.mk [9] [(37, _)] rfl rfl kr_ rfl (QAt.rd Wt.none (Rd.load1 kr_ rfl mem_ (by rfl)))) (all_c (QF.mk [] [] rfl rfl kr_ rfl (QAt.y Wt.none (Yd.fieldAddr (k := 2) kr_ rfl))) (all_c (QF.mk [6] [(34, _)] rfl rfl kr_ rfl (QAt.y Wt.none (Yd.to32 _ kr_ kr_ rfl rfl))) (all_c (QF.mk [5] [(33, _)] rfl rfl kr_ rfl (QAt.rd Wt.none (Rd.load1 kr_ rfl mem_ (by rfl)))) (all_c (QF.mk [] [] rfl rfl kr_ rfl (QAt.y Wt.none (Yd.fieldAddr (k := 1) kr_ rfl))) (all_c (QF.mk [2] [(30, _)] rfl rfl kr_ rfl (QAt.y Wt.none (Yd.to8 _ kr_ kr_ rfl rfl))) (all_c (QF.mk [1] [(29, _)] rfl rfl kr_ rfl (QAt.rd Wt.none (Rd.load1 kr_ rfl mem_ (by rfl)))) (all_c (QF.mk [] [] rfl rfl kr_ rfl (QAt.y Wt.none (Yd.fieldAddr (k := 0) kr_ rfl))) (all_n))))))))) (all_c ?_ (all_n))
    ·change SO _ _ _ _ _ _ 4 ([(31, _)] ++ _) _ _
     refine SO.c rfl Wt.none rfl (Ent.func Tryz.call42 rfl) (wU8_tells bw (.slice none 0 0) [] [] (BitVec.ofInt 8 w.what) (Ob.nil _) (by simp)) (Sp.p sp_) ?_
     rintro x1 H1 ⟨rfl, v1, C1, ho1, rfl⟩
     change WAF _ _ _ _ _ _ [(10, 38, _), (9, 37, _), (7, 35, _), (6, 34, _), (5, 33, _), (2, 30, _), (1, 29, _)] _ [4, 3, 0] ((32, _) :: ([(31, _)] ++ _)) _
     refine WAF.step (pd := [(10, 38), (9, 37), (7, 35), (6, 34), (5, 33), (2, 30), (1, 29)]) [(8, [7])] rfl kr_ kr_ (all_c rfl (all_c rfl (all_c rfl (all_c rfl (all_c rfl (all_c rfl (all_c rfl (all_n)))))))) (all_c (QF.mk [9] [(37, _)] rfl rfl kr_ rfl (QAt.rd Wt.none (Rd.load1 kr_ rfl mem_ (by rfl)))) (all_c (QF.mk [] [] rfl rfl kr_ rfl (QAt.y Wt.none (Yd.fieldAddr (k := 2) kr_ rfl))) (all_c (QF.mk [6] [(34, _)] rfl rfl kr_ rfl (QAt.y Wt.none (Yd.to32 _ kr_ kr_ rfl rfl))) (all_c (QF.mk [5] [(33, _)] rfl rfl kr_ rfl (QAt.rd Wt.none (Rd.load1 kr_ rfl mem_ (by rfl)))) (all_c (QF.mk [] [] rfl rfl kr_ rfl (QAt.y Wt.none (Yd.fieldAddr (k := 1) kr_ rfl))) (all_c (QF.mk [1] [(29, _)] rfl rfl kr_ rfl (QAt.rd Wt.none (Rd.load1 kr_ rfl mem_ (by rfl)))) (all_c (QF.mk [] [] rfl rfl kr_ rfl (QAt.y Wt.none (Yd.fieldAddr (k := 0) kr_ rfl))) (all_n)))))))) (all_c ?_ (all_n))
     ·change SO _ _ _ _ _ _ 8 ([(35, _)] ++ _) _ _
      refine SO.c rfl Wt.none rfl (Ent.func Tryz.call43 rfl) (wU32_tells bw v1 ([] ++ [BitVec.ofInt 8 w.what]) C1 (BitVec.ofInt 32 w.n) ho1 (by simp)) (Sp.p sp_) ?_
      rintro x2 H2 ⟨rfl, v2, C2, ho2, rfl⟩
      change WAF _ _ _ _ _ _ [(10, 38, _), (9, 37, _), (6, 34, _), (5, 33, _), (2, 30, _), (1, 29, _)] _ [8, 7, 4, 3, 0] ((36, _) :: ([(35, _)] ++ _)) _
      refine WAF.step (pd := [(10, 38), (9, 37), (6, 34), (5, 33), (2, 30), (1, 29)]) [(11, [10])] rfl kr_ kr_ (all_c rfl (all_c rfl (all_c rfl (all_c rfl (all_c rfl (all_c rfl (all_n))))))) (all_c (QF.mk [9] [(37, _)] rfl rfl kr_ rfl (QAt.rd Wt.none (Rd.load1 kr_ rfl mem_ (by rfl)))) (all_c (QF.mk [] [] rfl rfl kr_ rfl (QAt.y Wt.none (Yd.fieldAddr (k := 2) kr_ rfl))) (all_c (QF.mk [5] [(33, _)] rfl rfl kr_ rfl (QAt.rd Wt.none (Rd.load1 kr_ rfl mem_ (by rfl)))) (all_c (QF.mk [] [] rfl rfl kr_ rfl (QAt.y Wt.none (Yd.fieldAddr (k := 1) kr_ rfl))) (all_c (QF.mk [1] [(29, _)] rfl rfl kr_ rfl (QAt.rd Wt.none (Rd.load1 kr_ rfl mem_ (by rfl)))) (all_c (QF.mk [] [] rfl rfl kr_ rfl (QAt.y Wt.none (Yd.fieldAddr (k := 0) kr_ rfl))) (all_n))))))) (all_c ?_ (all_n))
      ·change SO _ _ _ _ _ _ 11 ([(38, _)] ++ _) _ _
       refine SO.c rfl Wt.none rfl (Ent.func Tryz.call44 rfl) (wText_tells bw v2 (([] ++ [BitVec.ofInt 8 w.what]) ++ beW ((BitVec.ofInt 32 w.n).setWidth 64) 4) C2 H _ w.name hv (by omega) ho2 (by simp [beW_length])) (Sp.p sp_) ?_
       rintro x3 H3 ⟨rfl, v3, C3, ho3, rfl⟩
       change WAF _ _ _ _ _ _ [(9, 37, _), (6, 34, _), (5, 33, _), (2, 30, _), (1, 29, _)] _ [11, 10, 8, 7, 4, 3, 0] ((39, _) :: ([(38, _)] ++ _)) _
       refine WAF.step (pd := [(9, 37), (6, 34), (5, 33), (2, 30), (1, 29)]) [(12, [])] rfl kr_ kr_ (all_c rfl (all_c rfl (all_c rfl (all_c rfl (all_c rfl (all_n)))))) (all_c (QF.mk [] [] rfl rfl kr_ rfl (QAt.y Wt.none (Yd.fieldAddr (k := 2) kr_ rfl))) (all_c (QF.mk [5] [(33, _)] rfl rfl kr_ rfl (QAt.rd Wt.none (Rd.load1 kr_ rfl mem_ (by rfl)))) (all_c (QF.mk [] [] rfl rfl kr_ rfl (QAt.y Wt.none (Yd.fieldAddr (k := 1) kr_ rfl))) (all_c (QF.mk [1] [(29, _)] rfl rfl kr_ rfl (QAt.rd Wt.none (Rd.load1 kr_ rfl mem_ (by rfl)))) (all_c (QF.mk [] [] rfl rfl kr_ rfl (QAt.y Wt.none (Yd.fieldAddr (k := 0) kr_ rfl))) (all_n)))))) (all_c ?_ (all_n))
       ·change SO _ _ _ _ _ _ 12 ([] ++ _) _ _
        refine SO.c rfl Wt.none rfl (Ent.func Tryz.call45 rfl) (wDone_tells bw v3 ((([] ++ [BitVec.ofInt 8 w.what]) ++ beW ((BitVec.ofInt 32 w.n).setWidth 64) 4) ++ tb w.name) C3 ho3 (by simp only [List.length_append, List.length_cons, List.length_nil, beW_length, tb]; omega)) (Sp.p sp_) ?_
        rintro x9 H9 ⟨v9, C9, rfl, ho9, hH9⟩
        rw [hH9]
        clear hH9 H9
        change WAF _ _ _ _ _ _ [(9, 37, _), (6, 34, _), (5, 33, _), (2, 30, _), (1, 29, _)] _ [12, 11, 10, 8, 7, 4, 3, 0] ((40, _) :: ([] ++ _)) _
        refine WAF.add (i := 13) (d := 41) rfl (QF.mk [] [] rfl rfl kr_ rfl (QAt.y Wt.none (Yd.extract rfl rfl))) ?_
        refine WAF.add (i := 14) (d := 42) rfl (QF.mk [] [] rfl rfl kr_ rfl (QAt.y Wt.none (Yd.extract rfl rfl))) ?_
        refine WAF.step (pd := [(14, 42), (13, 41), (9, 37), (6, 34), (5, 33), (2, 30), (1, 29)]) [(15, [14, 13, 9, 6, 5, 2, 1])] rfl kr_ kr_ (all_c rfl (all_c rfl (all_c rfl (all_c rfl (all_c rfl (all_c rfl (all_c rfl (all_n)))))))) (all_c (QF.mk [] [] rfl rfl kr_ rfl (QAt.y Wt.none (Yd.extract rfl rfl))) (all_c (QF.mk [] [] rfl rfl kr_ rfl (QAt.y Wt.none (Yd.extract rfl rfl))) (all_c (QF.mk [] [] rfl rfl kr_ rfl (QAt.y Wt.none (Yd.fieldAddr (k := 2) kr_ rfl))) (all_c (QF.mk [5] [(33, _)] rfl rfl kr_ rfl (QAt.rd Wt.none (Rd.load1 kr_ rfl mem_ (by rfl)))) (all_c (QF.mk [] [] rfl rfl kr_ rfl (QAt.y Wt.none (Yd.fieldAddr (k := 1) kr_ rfl))) (all_c (QF.mk [1] [(29, _)] rfl rfl kr_ rfl (QAt.rd Wt.none (Rd.load1 kr_ rfl mem_ (by rfl)))) (all_c (QF.mk [] [] rfl rfl kr_ rfl (QAt.y Wt.none (Yd.fieldAddr (k := 0) kr_ rfl))) (all_n)))))))) (all_c ?_ (all_n))
        ·change SO _ _ _ _ _ _ 15 ([(42, _), (41, _), (37, _), (34, _), (33, _), (30, _), (29, _)] ++ _) _ _
         refine SO.y rfl Wt.none rfl (Yd.assign rfl) ?_
         change WAF _ _ _ _ _ _ [] _ [15, 14, 13, 9, 6, 5, 2, 1, 12, 11, 10, 8, 7, 4, 3, 0] ((2, _) :: ([(42, _), (41, _), (37, _), (34, _), (33, _), (30, _), (29, _)] ++ _)) _
         refine WAF.step (pd := []) [(16, [])] rfl kr_ kr_ (all_n) (all_n) (all_c ?_ (all_n))
         ·change SO _ _ _ _ _ _ 16 ([] ++ _) _ _
          refine SO.y rfl Wt.none rfl (Yd.assign rfl) ?_
          change WAF _ _ _ _ _ _ [] _ [16, 15, 14, 13, 9, 6, 5, 2, 1, 12, 11, 10, 8, 7, 4, 3, 0] ((3, _) :: ([] ++ _)) _
          refine WAF.done (pd := []) rfl kr_ kr_ (all_n) (all_n) ?_
          change DN _ _ _ _ _ _ ([] ++ _) _
          refine DN.then_normal ?_
          refine WC.ret ?_
          refine DN.fit (C := C9 ++ H) sp_ ?_
          refine DN.ret2 Tryz.results11 rfl rfl ?_
          rw [(enc_good hg).1, (enc_good hg).2]
          exact ⟨v9, C9, rfl, by have e9 : wkB w = ((([] ++ [BitVec.ofInt 8 w.what]) ++ beW ((BitVec.ofInt 32 w.n).setWidth 64) 4) ++ tb w.name) := (by unfold wkB; simp only [List.append_assoc, List.nil_append]); rw [e9]; exact ho9, rfl⟩
theorem decode_tells (v : Value) (b : List (BitVec 8)) (H : List Ck) (hv : Bs v b H) (hl : b.length ≤ 900000) : Tells Tryz.prog 13 [v] H fun r H' => ∃ x A, r = .tuple #[.agg (wkc (decW b) x).toArray, .int .i64 (decE b)] ∧ Ob 5 x (decW b).name A ∧ H' = A ++ H := by
 refine Tells.enter Tryz.func13 rfl Tryz.ntmps13 rfl ?_
 intro w0 R
 have hq0 : (rW b).bs.length ≤ 1000000 := by show b.length ≤ _; omega
 have hq1 := Nat.le_trans ((rW b).on_len 1) hq0
 have hq2 := Nat.le_trans (((rW b).on 1).on_len 4) hq1
 refine sr_ ?_
 refine WL.h rfl (Hd.alloc (zs := [.int .i64 0, .int .i64 0, .slice none 0 0]) kr_ fun b2 => ⟨_, rfl, ?_⟩)
 refine a_ rfl rfl ?_
 refine ntsr_ ?_
 refine m_ rfl rfl ?_
 refine WL.c rfl (Ent.func Tryz.call47 rfl) (newReader_tells _ b H hv (by omega)) (Sp.p sp_) ?_
 rintro x0 H0 ⟨br, u0, CR, rfl, hu0, rfl⟩
 refine a_ rfl rfl ?_
 refine ntsr_ ?_
 refine m_ rfl rfl ?_
 refine WL.c rfl (Ent.func Tryz.call48 rfl) (rU8_tells br u0 (rW b).bs (rW b).sh CR hu0 hq0) (Sp.p sp_) ?_
 rintro x1 H1 ⟨u1, rfl, hu1, rfl⟩
 refine WL.y rfl (Yd.int8 _ kr_ kr_ rfl rfl) ?_
 refine m_ rfl rfl ?_
 refine WL.c rfl (Ent.func Tryz.call49 rfl) (rU32_tells br u1 ((rW b).on 1).bs ((rW b).on 1).sh CR hu1 hq1) (Sp.p sp_) ?_
 rintro x2 H2 ⟨u2, rfl, hu2, rfl⟩
 refine WL.y rfl (Yd.int32 _ kr_ kr_ rfl rfl) ?_
 refine WL.y rfl (Yd.buildL (pl := [(0, 1), (1, 1), (2, 1)]) (zs := [.int .i64 0, .int .i64 0, .slice none 0 0]) (parts := [(0, .tmp 12), (1, .tmp 15)]) (vs := [(0, _), (1, _)]) (cells := [_, _, .slice none 0 0]) kr_ kr_ rfl rfl) ?_
 refine WL.h rfl (Hd.alloc (zs := [.int .i64 0, .int .i64 0, .slice none 0 0]) kr_ fun b5 => ⟨_, rfl, ?_⟩)
 refine WL.s (Hd.storeAll (n := 3) kr_ rfl rfl (by rfl) one_ fr_ (by rfl) ⟨rfl, ?_⟩)
 refine ntsr_ ?_
 refine m_ rfl rfl ?_
 refine WL.c rfl (Ent.func Tryz.call50 rfl) (rText_tells br u2 (((rW b).on 1).on 4).bs (((rW b).on 1).on 4).sh CR hu2 hq2) (Sp.p sp_) ?_
 rintro x3 H3 ⟨u3, A3, hA3, hu3, rfl⟩
 obtain ⟨o3, c3, rfl, _⟩ := hA3.form
 refine f_ 2 kr_ rfl rfl ?_
 refine WL.s (Hd.store1s kr_ rfl rfl (by rfl) fr_ (by rfl) (by first | (simp only [List.set_cons_zero, List.set_cons_succ, Nat.zero_add, Nat.add_zero, Nat.reduceAdd]; rfl) | rfl) ⟨rfl, ?_⟩)
 refine nt_ ?_
 refine WC.seq ?_
 refine sr_ ?_
 refine WL.h rfl (Hd.loadAll (n := 3) kr_ rfl mem_ (by rfl) ⟨_, rfl, ?_⟩)
 refine WL.c rfl (Ent.func Tryz.call11 rfl) (encode_tells (wkOf b) (.slice o3 (wkOf b).name.length c3) A3 hA3.bs (Nat.le_trans (txGot_len _ _) (by decide))) (Sp.p sp_) ?_
 rintro x4 H4 ⟨x5, A5, rfl, hA5, rfl⟩
 obtain ⟨o5, c5, rfl, _⟩ := hA5.form
 refine m_ rfl rfl ?_
 refine x_ rfl rfl rfl ?_
 refine x_ rfl rfl rfl ?_
 refine a_ rfl rfl ?_
 refine a_ rfl rfl ?_
 refine nt_ ?_
 refine WC.cutK (fun z : Bool => z = decide (decBad b)) (fun z : Bool => [(31, .bool z)]) (fun z : Bool => row b5 (wkc (wkOf b) (.slice o3 (wkOf b).name.length c3)) 24 :: (A3 ++ (row b2 [.int .i64 0, .int .i64 0, .slice none 0 0] 24 :: H))) ?_ ?_
 ·refine WC.region ?_
  refine m_ rfl rfl ?_
  refine WL.rf rfl (Ent.func Tryz.call51 rfl) (rDone_tells br u3 (endW b).bs (endW b).sh CR hu3) sp_ ?_
  refine WL.y rfl (Yd.neq rfl rfl) ?_
  refine m_ rfl rfl ?_
  refine WL.partP (t := 28) rfl (fun hg28 => ?_) (fun hg28 => ?_)
  ·refine gn_ 28 rfl rfl rfl rfl ?_
   refine gn_ 28 rfl rfl rfl rfl ?_
   refine WL.y rfl (Yd.pickT rfl rfl) ?_
   refine WL.nil ?_
   exact DN.reachS (_) (by first | exact wbad_a hg28 | exact wbad_b hg28) (Sx.put rfl (sx_)) sp_
  ·refine gy_ 28 rfl rfl rfl (Yd.move rfl) ?_
   refine gy_ 28 rfl rfl rfl (Yd.neq rfl rfl) ?_
   refine WL.y rfl (Yd.pickF rfl rfl) ?_
   refine WL.nil ?_
   exact DN.reachS (_) (by first | exact wbad_a hg28 | exact wbad_b hg28) (Sx.put rfl (sx_)) sp_
 ·intro z9 hz9
  refine WC.cond rfl (fun h31 => ?_) (fun h31 => ?_)
  ·have hb : decBad b := of_decide_eq_true (hz9.symm.trans h31)
   refine sr_ ?_
   refine WL.y rfl (Yd.buildL (pl := [(0, 1), (1, 1), (2, 1)]) (zs := [.int .i64 0, .int .i64 0, .slice none 0 0]) (parts := []) (vs := []) (cells := [.int .i64 0, .int .i64 0, .slice none 0 0]) kr_ kr_ rfl rfl) ?_
   refine WL.s (Hd.storeAll (n := 3) kr_ rfl rfl (by rfl) one_ fr_ (by rfl) ⟨rfl, ?_⟩)
   refine a_ rfl rfl ?_
   refine nt_ ?_
   refine WC.ret ?_
   refine DN.then_ret ?_
   refine DN.retCT (s := 3) H Tryz.results13 kr_ rfl rfl mem_ (by rfl) sp_ ?_
   rw [show decW b = Wk.z from if_pos hb, show decE b = 120 from if_pos hb]
   exact ⟨_, [], rfl, Ob.nil _, rfl⟩
  ·have hb : ¬ decBad b := of_decide_eq_false (hz9.symm.trans h31)
   refine WC.skip ?_
   refine ts_ ?_
   refine WC.region ?_
   refine WL.h rfl (Hd.loadAll (n := 3) kr_ rfl mem_ (by rfl) ⟨_, rfl, ?_⟩)
   refine WL.s (Hd.storeAll (n := 3) kr_ rfl rfl (by rfl) one_ fr_ (by rfl) ⟨rfl, ?_⟩)
   refine a_ rfl rfl ?_
   refine nt_ ?_
   refine WC.ret ?_
   refine DN.retCT (s := 3) (A3 ++ H) Tryz.results13 kr_ rfl rfl mem_ (by rfl) sp_ ?_
   rw [show decW b = wkOf b from if_neg hb, show decE b = 0 from if_neg hb]
   exact ⟨_, A3, rfl, hA3, rfl⟩
end Go.Proofs.YtkamlondepceiaaGreat

set_option linter.unusedVariables false
set_option linter.unusedSimpArgs false
set_option maxHeartbeats 4000000
namespace Go.Proofs.YtkamlondepceiaaGreat.St
open Go.SL
theorem hold_tells (p : Nat) (first K : List Gd) (L : List Ho) (C : List Ck) (h : StAt 189 p K L C) (inv : SInv first K L) (o : BitVec 32) (nm : ByteArray) (n : Int) : Tells Tryz.prog 87 [.pointer (some ⟨p, 0, none⟩), .int .u32 o.toNat, .string nm, .int .i64 n] C fun r H' => r = .int .i64 (vd (holdB K L o nm n)) ∧ StAt 189 p (holdKs K L o nm n) (holdLs K L o nm n) H' := by
 refine Tells.enter Tryz.func87 rfl Tryz.ntmps87 rfl ?_
 intro w0 R
 have hS := h
 obtain ⟨b1, b2, C1, C2, rfl, hK, hL⟩ := h
 have hmid := inv.mid nm
 obtain ⟨x10, hx10⟩ : ∃ x, x = (findK Ho.o L o).getD zeroH := ⟨_, rfl⟩
 refine sr_ ?_
 refine a_ rfl rfl ?_
 refine nt_ ?_
 refine WC.seq ?_
 refine sr_ ?_
 refine m_ rfl rfl ?_
 refine WL.y rfl (Yd.eqlNil Tryz.underlying113 rfl rfl) ?_
 refine WL.renamed (t := 13) (v := .bool false) rfl (congrArg Value.bool (rfl)) ?_
 refine m_ rfl rfl ?_
 refine gy_ 14 rfl rfl rfl (Yd.move rfl) ?_
 refine gy_ 14 rfl rfl rfl (Yd.eql32 _ (0#32) rfl rfl rfl rfl) ?_
 refine WL.y rfl (Yd.pickF rfl rfl) ?_
 refine m_ rfl rfl ?_
 refine WL.partP (t := 18) rfl (fun hg18 => ?_) (fun hg18 => ?_)
 ·refine gn_ 18 rfl rfl rfl rfl ?_
  refine gn_ 18 rfl rfl rfl rfl ?_
  refine WL.y rfl (Yd.pickT rfl rfl) ?_
  refine nt_ ?_
  refine WC.yes rfl ?_
  refine sr_ ?_
  refine a_ rfl rfl ?_
  refine nt_ ?_
  refine WC.ret ?_
  refine DN.then_ret ?_
  first | refine DN.fit (C := row p [.map (some b1), .map (some b2)] 189 :: (C3 ++ C4)) sp_ ?_ | refine DN.fit (C := row p [.map (some b1), .map (some b2)] 189 :: (C1 ++ C2)) sp_ ?_
  refine DN.ret1 Tryz.results87 rfl ?_
  first
    | (have hb : holdB K L o nm n = true := by
         unfold holdB
         simp only [Bool.and_eq_true, decide_eq_true_eq, Bool.not_eq_true']
         exact ⟨hg18, by omega, hg38, by omega⟩
       have hf : findK Ho.o L o = none := by simpa using hg38
       unfold holdKs holdLs
       rw [hb]
       simp only [if_true]
       refine ⟨rfl, b1, b2, C3, C4, rfl, ?_, ?_⟩
       · have e : adj K nm (-n) 0 = putK Gd.name K ⟨nm, freeOf K nm - n, goneOf K nm⟩ := by unfold adj; rw [Int.add_zero]; rfl
         rw [e, ← putG]; exact h3
       · rw [← putH L o nm n hf]; exact h4)
    | (have hb : holdB K L o nm n = false := by
         unfold holdB
         rw [Bool.eq_false_iff]
         simp only [ne_eq, Bool.and_eq_true, decide_eq_true_eq, Bool.not_eq_true']
         rintro ⟨e1, e2, e3, e4⟩
         first
         | omega
         | exact e1 hg18
         | exact Bool.noConfusion (e3.symm.trans hg38)
       unfold holdKs holdLs
       rw [hb]
       simp only [Bool.false_eq_true, if_false]
       exact ⟨rfl, hS⟩)
 ·refine gy_ 18 rfl rfl rfl (Yd.move rfl) ?_
  refine gy_ 18 rfl rfl rfl (Yd.lss rfl rfl) ?_
  refine WL.y rfl (Yd.pickF rfl rfl) ?_
  refine nt_ ?_
  refine WC.ite rfl (fun h21 => ?_) (fun h21 => ?_)
  ·refine sr_ ?_
   refine a_ rfl rfl ?_
   refine nt_ ?_
   refine WC.ret ?_
   refine DN.then_ret ?_
   first | refine DN.fit (C := row p [.map (some b1), .map (some b2)] 189 :: (C3 ++ C4)) sp_ ?_ | refine DN.fit (C := row p [.map (some b1), .map (some b2)] 189 :: (C1 ++ C2)) sp_ ?_
   refine DN.ret1 Tryz.results87 rfl ?_
   first
     | (have hb : holdB K L o nm n = true := by
          unfold holdB
          simp only [Bool.and_eq_true, decide_eq_true_eq, Bool.not_eq_true']
          exact ⟨hg18, by omega, hg38, by omega⟩
        have hf : findK Ho.o L o = none := by simpa using hg38
        unfold holdKs holdLs
        rw [hb]
        simp only [if_true]
        refine ⟨rfl, b1, b2, C3, C4, rfl, ?_, ?_⟩
        · have e : adj K nm (-n) 0 = putK Gd.name K ⟨nm, freeOf K nm - n, goneOf K nm⟩ := by unfold adj; rw [Int.add_zero]; rfl
          rw [e, ← putG]; exact h3
        · rw [← putH L o nm n hf]; exact h4)
     | (have hb : holdB K L o nm n = false := by
          unfold holdB
          rw [Bool.eq_false_iff]
          simp only [ne_eq, Bool.and_eq_true, decide_eq_true_eq, Bool.not_eq_true']
          rintro ⟨e1, e2, e3, e4⟩
          first
          | omega
          | exact e1 hg18
          | exact Bool.noConfusion (e3.symm.trans hg38)
        unfold holdKs holdLs
        rw [hb]
        simp only [Bool.false_eq_true, if_false]
        exact ⟨rfl, hS⟩)
  ·refine WC.skip ?_
   refine ts_ ?_
   refine WC.region ?_
   refine m_ rfl rfl ?_
   refine n_ rfl rfl ?_
   refine f_ 0 kr_ rfl rfl ?_
   refine d_ kr_ rfl mem_ (by rfl) rfl ?_
   refine m_ rfl rfl ?_
   refine WL.h rfl (Hd.lookupG (k0 := kStr) (KT := 9) (ET := 191) (TD := .string) (n := nm) (z := .agg #[.int .i64 0, .int .i64 0]) kr_ Tryz.underlying9 rfl kr_ rfl rfl hK sp_ (lkG K nm) ⟨_, rfl, ?_⟩)
   refine WL.h rfl (Hd.alloc (zs := [.int .i64 0, .int .i64 0]) kr_ fun b9 => ⟨_, rfl, ?_⟩)
   refine WL.s (Hd.storeAll (n := 2) kr_ rfl rfl (by rfl) one_ fr_ (by rfl) ⟨rfl, ?_⟩)
   refine nt_ ?_
   refine WC.seq ?_
   refine sr_ ?_
   refine m_ rfl rfl ?_
   refine n_ rfl rfl ?_
   refine f_ 1 kr_ rfl rfl ?_
   refine d_ kr_ rfl mem_ (by rfl) rfl ?_
   refine m_ rfl rfl ?_
   refine WL.h rfl (Hd.lookupG (k0 := kU32) (KT := 49) (ET := 215) (TD := .int .u32) (n := o) (z := .agg #[.int .u32 0, .string ⟨#[]⟩, .int .i64 0]) kr_ Tryz.underlying49 ⟨_, rfl⟩ kr_ rfl rfl hL sp_ (lkH2 L o) ⟨_, rfl, ?_⟩)
   refine m_ rfl rfl ?_
   rw [← hx10]
   refine x_ rfl rfl rfl ?_
   refine x_ rfl rfl rfl ?_
   refine WL.h rfl (Hd.alloc (zs := [.int .u32 0, .string ⟨#[]⟩, .int .i64 0]) kr_ fun b10 => ⟨_, rfl, ?_⟩)
   refine WL.s (Hd.storeAll (n := 3) kr_ rfl rfl (by rfl) one_ fr_ (by rfl) ⟨rfl, ?_⟩)
   refine a_ rfl rfl ?_
   refine ntsr_ ?_
   refine m_ rfl rfl ?_
   refine m_ rfl rfl ?_
   refine WL.part (t := 38) rfl (fun hg38 => ?_) (fun hg38 => ?_)
   ·iterate 4 refine gn_ 38 rfl rfl rfl rfl ?_
    refine WL.y rfl (Yd.pickT rfl rfl) ?_
    refine nt_ ?_
    refine WC.yes rfl ?_
    refine sr_ ?_
    refine a_ rfl rfl ?_
    refine nt_ ?_
    refine WC.ret ?_
    refine DN.then_ret ?_
    first | refine DN.fit (C := row p [.map (some b1), .map (some b2)] 189 :: (C3 ++ C4)) sp_ ?_ | refine DN.fit (C := row p [.map (some b1), .map (some b2)] 189 :: (C1 ++ C2)) sp_ ?_
    refine DN.ret1 Tryz.results87 rfl ?_
    first
      | (have hb : holdB K L o nm n = true := by
           unfold holdB
           simp only [Bool.and_eq_true, decide_eq_true_eq, Bool.not_eq_true']
           exact ⟨hg18, by omega, hg38, by omega⟩
         have hf : findK Ho.o L o = none := by simpa using hg38
         unfold holdKs holdLs
         rw [hb]
         simp only [if_true]
         refine ⟨rfl, b1, b2, C3, C4, rfl, ?_, ?_⟩
         · have e : adj K nm (-n) 0 = putK Gd.name K ⟨nm, freeOf K nm - n, goneOf K nm⟩ := by unfold adj; rw [Int.add_zero]; rfl
           rw [e, ← putG]; exact h3
         · rw [← putH L o nm n hf]; exact h4)
      | (have hb : holdB K L o nm n = false := by
           unfold holdB
           rw [Bool.eq_false_iff]
           simp only [ne_eq, Bool.and_eq_true, decide_eq_true_eq, Bool.not_eq_true']
           rintro ⟨e1, e2, e3, e4⟩
           first
           | omega
           | exact e1 hg18
           | exact Bool.noConfusion (e3.symm.trans hg38)
         unfold holdKs holdLs
         rw [hb]
         simp only [Bool.false_eq_true, if_false]
         exact ⟨rfl, hS⟩)
   ·refine gy_ 38 rfl rfl rfl (Yd.fieldAddr (k := 0) kr_ rfl) ?_
    refine WL.gh (dj := 38) rfl rfl rfl (Hd.load1 kr_ rfl mem_ (by rfl) ⟨_, rfl, ?_⟩)
    refine gy_ 38 rfl rfl rfl (Yd.move rfl) ?_
    refine gy_ 38 rfl rfl rfl (Yd.lss rfl rfl) ?_
    refine WL.y rfl (Yd.pickF rfl rfl) ?_
    refine nt_ ?_
    refine WC.ite rfl (fun h43 => ?_) (fun h43 => ?_)
    ·refine sr_ ?_
     refine a_ rfl rfl ?_
     refine nt_ ?_
     refine WC.ret ?_
     refine DN.then_ret ?_
     first | refine DN.fit (C := row p [.map (some b1), .map (some b2)] 189 :: (C3 ++ C4)) sp_ ?_ | refine DN.fit (C := row p [.map (some b1), .map (some b2)] 189 :: (C1 ++ C2)) sp_ ?_
     refine DN.ret1 Tryz.results87 rfl ?_
     first
       | (have hb : holdB K L o nm n = true := by
            unfold holdB
            simp only [Bool.and_eq_true, decide_eq_true_eq, Bool.not_eq_true']
            exact ⟨hg18, by omega, hg38, by omega⟩
          have hf : findK Ho.o L o = none := by simpa using hg38
          unfold holdKs holdLs
          rw [hb]
          simp only [if_true]
          refine ⟨rfl, b1, b2, C3, C4, rfl, ?_, ?_⟩
          · have e : adj K nm (-n) 0 = putK Gd.name K ⟨nm, freeOf K nm - n, goneOf K nm⟩ := by unfold adj; rw [Int.add_zero]; rfl
            rw [e, ← putG]; exact h3
          · rw [← putH L o nm n hf]; exact h4)
       | (have hb : holdB K L o nm n = false := by
            unfold holdB
            rw [Bool.eq_false_iff]
            simp only [ne_eq, Bool.and_eq_true, decide_eq_true_eq, Bool.not_eq_true']
            rintro ⟨e1, e2, e3, e4⟩
            first
            | omega
            | exact e1 hg18
            | exact Bool.noConfusion (e3.symm.trans hg38)
          unfold holdKs holdLs
          rw [hb]
          simp only [Bool.false_eq_true, if_false]
          exact ⟨rfl, hS⟩)
    ·refine WC.skip ?_
     refine ts_ ?_
     refine WC.region ?_
     refine f_ 0 kr_ rfl rfl ?_
     refine d_ kr_ rfl mem_ (by rfl) rfl ?_
     refine m_ rfl rfl ?_
     refine WL.y rfl (Yd.sub rfl rfl (by omega) (by omega)) ?_
     refine f_ 0 kr_ rfl rfl ?_
     refine WL.s (Hd.store1s kr_ rfl rfl (by rfl) fr_ (by rfl) (by first | (simp only [List.set_cons_zero, List.set_cons_succ, Nat.zero_add, Nat.add_zero, Nat.reduceAdd]; rfl) | rfl) ⟨rfl, ?_⟩)
     refine nt_ ?_
     refine WC.seq ?_
     refine WC.draw 7 kr_ rfl ?_
     refine WA.y (i := 0) (NoPanic.then (NoPanic.body)) rfl kr_ kr_ kr_ rfl (Yd.move rfl) ?_
     refine WA.y (i := 1) (NoPanic.then (NoPanic.body)) rfl kr_ kr_ kr_ rfl (Yd.notNil rfl) ?_
     refine WA.y (i := 2) (NoPanic.then (NoPanic.body)) rfl kr_ kr_ kr_ rfl (Yd.fieldAddr (k := 0) kr_ rfl) ?_
     refine WA.y (i := 4) (NoPanic.then (NoPanic.body)) rfl kr_ kr_ kr_ rfl (Yd.move rfl) ?_
     refine WA.two (i := 3) (j := 5) kr_ ?_ ?_
     ·refine WO.h rfl Wt.none rfl (Hd.load1 kr_ rfl mem_ (by rfl) ⟨_, rfl, ?_⟩)
      refine WA.one (i := 5) kr_ ?_
      refine WO.h rfl Wt.none rfl (Hd.loadAll (n := 2) kr_ rfl mem_ (by rfl) ⟨_, rfl, ?_⟩)
      refine WA.one (i := 6) kr_ ?_
      refine WO.s rfl Wt.none (Hd.mapSet (k0 := kStr) (KT := 9) (ET := 191) (TD := .string) (n := nm) (v := .agg #[.int .i64 (freeOf K nm - n), .int .i64 (goneOf K nm)]) kr_ Tryz.underlying9 rfl rfl rfl rfl hK (by rw [kvs_keys]; exact inv.knd) sp_ fun C3 h3 => ⟨rfl, ?_⟩)
      refine WA.done kr_ ?_
      refine ts_ ?_
      refine WC.region ?_
      refine m_ rfl rfl ?_
      refine n_ rfl rfl ?_
      refine f_ 1 kr_ rfl rfl ?_
      refine d_ kr_ rfl mem_ (by rfl) rfl ?_
      iterate 4 refine m_ rfl rfl ?_
      refine WL.y rfl (Yd.buildL (pl := [(0, 1), (1, 1), (2, 1)]) (zs := [.int .u32 0, .string ⟨#[]⟩, .int .i64 0]) (parts := [(0, .tmp 60), (1, .tmp 61), (2, .tmp 62)]) (vs := [(0, _), (1, _), (2, _)]) (cells := [_, _, _]) kr_ kr_ rfl rfl) ?_
      refine WL.s (Hd.mapSet (k0 := kU32) (KT := 49) (ET := 215) (TD := .int .u32) (n := o) (v := .agg #[.int .u32 o.toNat, .string nm, .int .i64 n]) kr_ Tryz.underlying49 ⟨_, rfl⟩ rfl rfl rfl hL (by rw [kvs_keys]; exact inv.keys) sp_ fun C4 h4 => ⟨rfl, ?_⟩)
      refine ntsr_ ?_
      refine a_ rfl rfl ?_
      refine nt_ ?_
      refine WC.ret ?_
      first | refine DN.fit (C := row p [.map (some b1), .map (some b2)] 189 :: (C3 ++ C4)) sp_ ?_ | refine DN.fit (C := row p [.map (some b1), .map (some b2)] 189 :: (C1 ++ C2)) sp_ ?_
      refine DN.ret1 Tryz.results87 rfl ?_
      first
        | (have hb : holdB K L o nm n = true := by
             unfold holdB
             simp only [Bool.and_eq_true, decide_eq_true_eq, Bool.not_eq_true']
             exact ⟨hg18, by omega, hg38, by omega⟩
           have hf : findK Ho.o L o = none := by simpa using hg38
           unfold holdKs holdLs
           rw [hb]
           simp only [if_true]
           refine ⟨rfl, b1, b2, C3, C4, rfl, ?_, ?_⟩
           · have e : adj K nm (-n) 0 = putK Gd.name K ⟨nm, freeOf K nm - n, goneOf K nm⟩ := by unfold adj; rw [Int.add_zero]; rfl
             rw [e, ← putG]; exact h3
           · rw [← putH L o nm n hf]; exact h4)
        | (have hb : holdB K L o nm n = false := by
             unfold holdB
             rw [Bool.eq_false_iff]
             simp only [ne_eq, Bool.and_eq_true, decide_eq_true_eq, Bool.not_eq_true']
             rintro ⟨e1, e2, e3, e4⟩
             first
             | omega
             | exact e1 hg18
             | exact Bool.noConfusion (e3.symm.trans hg38)
           unfold holdKs holdLs
           rw [hb]
           simp only [Bool.false_eq_true, if_false]
           exact ⟨rfl, hS⟩)
     ·refine WO.h rfl Wt.none rfl (Hd.loadAll (n := 2) kr_ rfl mem_ (by rfl) ⟨_, rfl, ?_⟩)
      refine WA.one (i := 3) kr_ ?_
      refine WO.h rfl Wt.none rfl (Hd.load1 kr_ rfl mem_ (by rfl) ⟨_, rfl, ?_⟩)
      refine WA.one (i := 6) kr_ ?_
      refine WO.s rfl Wt.none (Hd.mapSet (k0 := kStr) (KT := 9) (ET := 191) (TD := .string) (n := nm) (v := .agg #[.int .i64 (freeOf K nm - n), .int .i64 (goneOf K nm)]) kr_ Tryz.underlying9 rfl rfl rfl rfl hK (by rw [kvs_keys]; exact inv.knd) sp_ fun C3 h3 => ⟨rfl, ?_⟩)
      refine WA.done kr_ ?_
      refine ts_ ?_
      refine WC.region ?_
      refine m_ rfl rfl ?_
      refine n_ rfl rfl ?_
      refine f_ 1 kr_ rfl rfl ?_
      refine d_ kr_ rfl mem_ (by rfl) rfl ?_
      iterate 4 refine m_ rfl rfl ?_
      refine WL.y rfl (Yd.buildL (pl := [(0, 1), (1, 1), (2, 1)]) (zs := [.int .u32 0, .string ⟨#[]⟩, .int .i64 0]) (parts := [(0, .tmp 60), (1, .tmp 61), (2, .tmp 62)]) (vs := [(0, _), (1, _), (2, _)]) (cells := [_, _, _]) kr_ kr_ rfl rfl) ?_
      refine WL.s (Hd.mapSet (k0 := kU32) (KT := 49) (ET := 215) (TD := .int .u32) (n := o) (v := .agg #[.int .u32 o.toNat, .string nm, .int .i64 n]) kr_ Tryz.underlying49 ⟨_, rfl⟩ rfl rfl rfl hL (by rw [kvs_keys]; exact inv.keys) sp_ fun C4 h4 => ⟨rfl, ?_⟩)
      refine ntsr_ ?_
      refine a_ rfl rfl ?_
      refine nt_ ?_
      refine WC.ret ?_
      first | refine DN.fit (C := row p [.map (some b1), .map (some b2)] 189 :: (C3 ++ C4)) sp_ ?_ | refine DN.fit (C := row p [.map (some b1), .map (some b2)] 189 :: (C1 ++ C2)) sp_ ?_
      refine DN.ret1 Tryz.results87 rfl ?_
      first
        | (have hb : holdB K L o nm n = true := by
             unfold holdB
             simp only [Bool.and_eq_true, decide_eq_true_eq, Bool.not_eq_true']
             exact ⟨hg18, by omega, hg38, by omega⟩
           have hf : findK Ho.o L o = none := by simpa using hg38
           unfold holdKs holdLs
           rw [hb]
           simp only [if_true]
           refine ⟨rfl, b1, b2, C3, C4, rfl, ?_, ?_⟩
           · have e : adj K nm (-n) 0 = putK Gd.name K ⟨nm, freeOf K nm - n, goneOf K nm⟩ := by unfold adj; rw [Int.add_zero]; rfl
             rw [e, ← putG]; exact h3
           · rw [← putH L o nm n hf]; exact h4)
        | (have hb : holdB K L o nm n = false := by
             unfold holdB
             rw [Bool.eq_false_iff]
             simp only [ne_eq, Bool.and_eq_true, decide_eq_true_eq, Bool.not_eq_true']
             rintro ⟨e1, e2, e3, e4⟩
             first
             | omega
             | exact e1 hg18
             | exact Bool.noConfusion (e3.symm.trans hg38)
           unfold holdKs holdLs
           rw [hb]
           simp only [Bool.false_eq_true, if_false]
           exact ⟨rfl, hS⟩)
theorem leave_tells (p : Nat) (first K : List Gd) (L : List Ho) (C : List Ck) (h : StAt 189 p K L C) (inv : SInv first K L) (o : BitVec 32) (gone : Bool) : Tells Tryz.prog 124 [.pointer (some ⟨p, 0, none⟩), .int .u32 o.toNat, .bool gone] C fun r H' => r = .int .i64 (vd (findK Ho.o L o).isSome) ∧ StAt 189 p (leaveKs K L o gone) (delK Ho.o L o) H' := by
 refine Tells.enter Tryz.func124 rfl Tryz.ntmps124 rfl ?_
 intro w0 R
 have hS := h
 obtain ⟨b1, b2, C1, C2, rfl, hK, hL⟩ := h
 obtain ⟨x10, hx10⟩ : ∃ x, x = (findK Ho.o L o).getD zeroH := ⟨_, rfl⟩
 refine sr_ ?_
 refine a_ rfl rfl ?_
 refine nt_ ?_
 refine WC.seq ?_
 refine sr_ ?_
 refine m_ rfl rfl ?_
 refine WL.y rfl (Yd.eqlNil Tryz.underlying113 rfl rfl) ?_
 refine WL.renamed (t := 11) (v := .bool false) rfl (congrArg Value.bool (rfl)) ?_
 refine nt_ ?_
 refine WC.no rfl ?_
 refine WC.skip ?_
 refine ts_ ?_
 refine WC.region ?_
 refine m_ rfl rfl ?_
 refine n_ rfl rfl ?_
 refine f_ 1 kr_ rfl rfl ?_
 refine d_ kr_ rfl mem_ (by rfl) rfl ?_
 refine m_ rfl rfl ?_
 refine WL.h rfl (Hd.lookupG (k0 := kU32) (KT := 49) (ET := 215) (TD := .int .u32) (n := o) (z := .agg #[.int .u32 0, .string ⟨#[]⟩, .int .i64 0]) kr_ Tryz.underlying49 ⟨_, rfl⟩ kr_ rfl rfl hL sp_ (lkH2 L o) ⟨_, rfl, ?_⟩)
 refine m_ rfl rfl ?_
 rw [← hx10]
 refine x_ rfl rfl rfl ?_
 refine x_ rfl rfl rfl ?_
 refine WL.h rfl (Hd.alloc (zs := [.int .u32 0, .string ⟨#[]⟩, .int .i64 0]) kr_ fun b7 => ⟨_, rfl, ?_⟩)
 refine WL.s (Hd.storeAll (n := 3) kr_ rfl rfl (by rfl) one_ fr_ (by rfl) ⟨rfl, ?_⟩)
 refine a_ rfl rfl ?_
 refine nt_ ?_
 refine WC.seq ?_
 refine sr_ ?_
 refine m_ rfl rfl ?_
 refine WL.y rfl (Yd.notB rfl) ?_
 refine nt_ ?_
 refine WC.cond rfl (fun h22 => ?_) (fun h22 => ?_)
 ·have hnone : findK Ho.o L o = none := by simpa using h22
  refine sr_ ?_
  refine a_ rfl rfl ?_
  refine nt_ ?_
  refine WC.ret ?_
  refine DN.then_ret ?_
  first | refine DN.fit (C := row p [.map (some b1), .map (some b2)] 189 :: (C5 ++ C4)) sp_ ?_ | refine DN.fit (C := row p [.map (some b1), .map (some b2)] 189 :: (C1 ++ C2)) sp_ ?_
  refine DN.ret1 Tryz.results124 rfl ?_
  first
    | (rw [hnone, delK_none hnone]
       unfold leaveKs
       rw [hnone]
       exact ⟨rfl, hS⟩)
    | (unfold leaveKs
       rw [hsome]
       refine ⟨rfl, b1, b2, C5, C4, rfl, ?_, by rw [← delG_kvs]; exact h4⟩
       first
       | (have e : adj K x10.name 0 x10.n = putK Gd.name K ⟨x10.name, freeOf K x10.name, goneOf K x10.name + x10.n⟩ := by unfold adj; rw [Int.add_zero]
          show MpG kStr b1 (kvs Gd.name encG (adj K x10.name 0 x10.n)) C5
          rw [e, ← putG]; exact h5)
       | (have e : adj K x10.name x10.n 0 = putK Gd.name K ⟨x10.name, freeOf K x10.name + x10.n, goneOf K x10.name⟩ := by unfold adj; rw [Int.add_zero]
          show MpG kStr b1 (kvs Gd.name encG (adj K x10.name x10.n 0)) C5
          rw [e, ← putG]; exact h5))
 ·have hsome : findK Ho.o L o = some x10 := by
    have h1 : (findK Ho.o L o).isSome = true := by simpa using h22
    obtain ⟨x, hx⟩ := Option.isSome_iff_exists.1 h1
    rw [hx] at hx10 ⊢
    exact congrArg some hx10.symm
  have hxin := (findK_mem hsome).1
  have hxn := inv.nle hxin
  have hmid := inv.mid x10.name
  refine WC.skip ?_
  refine ts_ ?_
  refine WC.region ?_
  refine m_ rfl rfl ?_
  refine n_ rfl rfl ?_
  refine f_ 1 kr_ rfl rfl ?_
  refine d_ kr_ rfl mem_ (by rfl) rfl ?_
  refine m_ rfl rfl ?_
  refine WL.h0 (Hd.deleteG (k0 := kU32) (KT := 49) (ET := 215) (TD := .int .u32) (n := o) kr_ Tryz.underlying49 ⟨_, rfl⟩ rfl rfl rfl hL (by rw [kvs_keys]; exact inv.keys) sp_ fun C4 h4 => ⟨_, rfl, ?_⟩)
  refine nt_ ?_
  refine WC.cutK (fun z : Nat => True) (fun z : Nat => [(9, .pointer (some ⟨z, 0, none⟩))]) (fun z : Nat => row z [.int .i64 (freeOf K x10.name), .int .i64 (goneOf K x10.name)] 191 :: (row b7 (cellsH x10) 215 :: (row p [.map (some b1), .map (some b2)] 189 :: (C1 ++ C4)))) ?_ ?_
  ·refine WC.draw 9 kr_ rfl ?_
   refine WA.y (i := 0) (NoPanic.then (NoPanic.body)) rfl kr_ kr_ kr_ rfl (Yd.move rfl) ?_
   refine WA.y (i := 1) (NoPanic.then (NoPanic.body)) rfl kr_ kr_ kr_ rfl (Yd.notNil rfl) ?_
   refine WA.y (i := 2) (NoPanic.then (NoPanic.body)) rfl kr_ kr_ kr_ rfl (Yd.fieldAddr (k := 0) kr_ rfl) ?_
   refine WA.y (i := 4) (NoPanic.then (NoPanic.body)) rfl kr_ kr_ kr_ rfl (Yd.fieldAddr (k := 1) kr_ rfl) ?_
   refine WA.three (i := 3) (j := 5) (k := 7) kr_ ?_ ?_ ?_
   ·refine WO.h rfl Wt.none rfl (Hd.load1 kr_ rfl mem_ (by rfl) ⟨_, rfl, ?_⟩)
    refine WA.two (i := 5) (j := 7) kr_ ?_ ?_
    ·refine WO.h rfl Wt.none rfl (Hd.load1 kr_ rfl mem_ (by rfl) ⟨_, rfl, ?_⟩)
     refine WA.two (i := 6) (j := 7) kr_ ?_ ?_
     ·refine WO.h rfl Wt.none rfl (Hd.lookupG (k0 := kStr) (KT := 9) (ET := 191) (TD := .string) (n := x10.name) (z := .agg #[.int .i64 0, .int .i64 0]) kr_ Tryz.underlying9 rfl kr_ rfl rfl hK sp_ (lkG K x10.name) ⟨_, rfl, ?_⟩)
      refine WA.one (i := 7) kr_ ?_
      refine WO.h rfl Wt.none rfl (Hd.alloc (zs := [.int .i64 0, .int .i64 0]) kr_ fun b9 => ⟨_, rfl, ?_⟩)
      refine WA.one (i := 8) kr_ ?_
      refine WO.s rfl Wt.none (Hd.storeAll (n := 2) kr_ rfl rfl (by rfl) one_ fr_ (by rfl) ⟨rfl, ?_⟩)
      refine WA.done kr_ ?_
      exact DN.reachK (b9) (trivial) (Sx.put rfl (sx_)) (Sp.all sp_)
     ·refine WO.h rfl Wt.none rfl (Hd.alloc (zs := [.int .i64 0, .int .i64 0]) kr_ fun b9 => ⟨_, rfl, ?_⟩)
      refine WA.one (i := 6) kr_ ?_
      refine WO.h rfl Wt.none rfl (Hd.lookupG (k0 := kStr) (KT := 9) (ET := 191) (TD := .string) (n := x10.name) (z := .agg #[.int .i64 0, .int .i64 0]) kr_ Tryz.underlying9 rfl kr_ rfl rfl hK sp_ (lkG K x10.name) ⟨_, rfl, ?_⟩)
      refine WA.one (i := 8) kr_ ?_
      refine WO.s rfl Wt.none (Hd.storeAll (n := 2) kr_ rfl rfl (by rfl) one_ fr_ (by rfl) ⟨rfl, ?_⟩)
      refine WA.done kr_ ?_
      exact DN.reachK (b9) (trivial) (Sx.put rfl (sx_)) (Sp.all sp_)
    ·refine WO.h rfl Wt.none rfl (Hd.alloc (zs := [.int .i64 0, .int .i64 0]) kr_ fun b9 => ⟨_, rfl, ?_⟩)
     refine WA.one (i := 5) kr_ ?_
     refine WO.h rfl Wt.none rfl (Hd.load1 kr_ rfl mem_ (by rfl) ⟨_, rfl, ?_⟩)
     refine WA.one (i := 6) kr_ ?_
     refine WO.h rfl Wt.none rfl (Hd.lookupG (k0 := kStr) (KT := 9) (ET := 191) (TD := .string) (n := x10.name) (z := .agg #[.int .i64 0, .int .i64 0]) kr_ Tryz.underlying9 rfl kr_ rfl rfl hK sp_ (lkG K x10.name) ⟨_, rfl, ?_⟩)
     refine WA.one (i := 8) kr_ ?_
     refine WO.s rfl Wt.none (Hd.storeAll (n := 2) kr_ rfl rfl (by rfl) one_ fr_ (by rfl) ⟨rfl, ?_⟩)
     refine WA.done kr_ ?_
     exact DN.reachK (b9) (trivial) (Sx.put rfl (sx_)) (Sp.all sp_)
   ·refine WO.h rfl Wt.none rfl (Hd.load1 kr_ rfl mem_ (by rfl) ⟨_, rfl, ?_⟩)
    refine WA.two (i := 3) (j := 7) kr_ ?_ ?_
    ·refine WO.h rfl Wt.none rfl (Hd.load1 kr_ rfl mem_ (by rfl) ⟨_, rfl, ?_⟩)
     refine WA.two (i := 6) (j := 7) kr_ ?_ ?_
     ·refine WO.h rfl Wt.none rfl (Hd.lookupG (k0 := kStr) (KT := 9) (ET := 191) (TD := .string) (n := x10.name) (z := .agg #[.int .i64 0, .int .i64 0]) kr_ Tryz.underlying9 rfl kr_ rfl rfl hK sp_ (lkG K x10.name) ⟨_, rfl, ?_⟩)
      refine WA.one (i := 7) kr_ ?_
      refine WO.h rfl Wt.none rfl (Hd.alloc (zs := [.int .i64 0, .int .i64 0]) kr_ fun b9 => ⟨_, rfl, ?_⟩)
      refine WA.one (i := 8) kr_ ?_
      refine WO.s rfl Wt.none (Hd.storeAll (n := 2) kr_ rfl rfl (by rfl) one_ fr_ (by rfl) ⟨rfl, ?_⟩)
      refine WA.done kr_ ?_
      exact DN.reachK (b9) (trivial) (Sx.put rfl (sx_)) (Sp.all sp_)
     ·refine WO.h rfl Wt.none rfl (Hd.alloc (zs := [.int .i64 0, .int .i64 0]) kr_ fun b9 => ⟨_, rfl, ?_⟩)
      refine WA.one (i := 6) kr_ ?_
      refine WO.h rfl Wt.none rfl (Hd.lookupG (k0 := kStr) (KT := 9) (ET := 191) (TD := .string) (n := x10.name) (z := .agg #[.int .i64 0, .int .i64 0]) kr_ Tryz.underlying9 rfl kr_ rfl rfl hK sp_ (lkG K x10.name) ⟨_, rfl, ?_⟩)
      refine WA.one (i := 8) kr_ ?_
      refine WO.s rfl Wt.none (Hd.storeAll (n := 2) kr_ rfl rfl (by rfl) one_ fr_ (by rfl) ⟨rfl, ?_⟩)
      refine WA.done kr_ ?_
      exact DN.reachK (b9) (trivial) (Sx.put rfl (sx_)) (Sp.all sp_)
    ·refine WO.h rfl Wt.none rfl (Hd.alloc (zs := [.int .i64 0, .int .i64 0]) kr_ fun b9 => ⟨_, rfl, ?_⟩)
     refine WA.one (i := 3) kr_ ?_
     refine WO.h rfl Wt.none rfl (Hd.load1 kr_ rfl mem_ (by rfl) ⟨_, rfl, ?_⟩)
     refine WA.one (i := 6) kr_ ?_
     refine WO.h rfl Wt.none rfl (Hd.lookupG (k0 := kStr) (KT := 9) (ET := 191) (TD := .string) (n := x10.name) (z := .agg #[.int .i64 0, .int .i64 0]) kr_ Tryz.underlying9 rfl kr_ rfl rfl hK sp_ (lkG K x10.name) ⟨_, rfl, ?_⟩)
     refine WA.one (i := 8) kr_ ?_
     refine WO.s rfl Wt.none (Hd.storeAll (n := 2) kr_ rfl rfl (by rfl) one_ fr_ (by rfl) ⟨rfl, ?_⟩)
     refine WA.done kr_ ?_
     exact DN.reachK (b9) (trivial) (Sx.put rfl (sx_)) (Sp.all sp_)
   ·refine WO.h rfl Wt.none rfl (Hd.alloc (zs := [.int .i64 0, .int .i64 0]) kr_ fun b9 => ⟨_, rfl, ?_⟩)
    refine WA.two (i := 3) (j := 5) kr_ ?_ ?_
    ·refine WO.h rfl Wt.none rfl (Hd.load1 kr_ rfl mem_ (by rfl) ⟨_, rfl, ?_⟩)
     refine WA.one (i := 5) kr_ ?_
     refine WO.h rfl Wt.none rfl (Hd.load1 kr_ rfl mem_ (by rfl) ⟨_, rfl, ?_⟩)
     refine WA.one (i := 6) kr_ ?_
     refine WO.h rfl Wt.none rfl (Hd.lookupG (k0 := kStr) (KT := 9) (ET := 191) (TD := .string) (n := x10.name) (z := .agg #[.int .i64 0, .int .i64 0]) kr_ Tryz.underlying9 rfl kr_ rfl rfl hK sp_ (lkG K x10.name) ⟨_, rfl, ?_⟩)
     refine WA.one (i := 8) kr_ ?_
     refine WO.s rfl Wt.none (Hd.storeAll (n := 2) kr_ rfl rfl (by rfl) one_ fr_ (by rfl) ⟨rfl, ?_⟩)
     refine WA.done kr_ ?_
     exact DN.reachK (b9) (trivial) (Sx.put rfl (sx_)) (Sp.all sp_)
    ·refine WO.h rfl Wt.none rfl (Hd.load1 kr_ rfl mem_ (by rfl) ⟨_, rfl, ?_⟩)
     refine WA.one (i := 3) kr_ ?_
     refine WO.h rfl Wt.none rfl (Hd.load1 kr_ rfl mem_ (by rfl) ⟨_, rfl, ?_⟩)
     refine WA.one (i := 6) kr_ ?_
     refine WO.h rfl Wt.none rfl (Hd.lookupG (k0 := kStr) (KT := 9) (ET := 191) (TD := .string) (n := x10.name) (z := .agg #[.int .i64 0, .int .i64 0]) kr_ Tryz.underlying9 rfl kr_ rfl rfl hK sp_ (lkG K x10.name) ⟨_, rfl, ?_⟩)
     refine WA.one (i := 8) kr_ ?_
     refine WO.s rfl Wt.none (Hd.storeAll (n := 2) kr_ rfl rfl (by rfl) one_ fr_ (by rfl) ⟨rfl, ?_⟩)
     refine WA.done kr_ ?_
     exact DN.reachK (b9) (trivial) (Sx.put rfl (sx_)) (Sp.all sp_)
  ·intro b9 _
   refine WC.seq ?_
   refine sr_ ?_
   refine m_ rfl rfl ?_
   refine nt_ ?_
   refine WC.cond rfl (fun h35 => ?_) (fun h35 => ?_)
   ·subst h35
    refine WC.region ?_
    refine f_ 1 kr_ rfl rfl ?_
    refine d_ kr_ rfl mem_ (by rfl) rfl ?_
    refine f_ 2 kr_ rfl rfl ?_
    refine d_ kr_ rfl mem_ (by rfl) rfl ?_
    refine WL.y rfl (Yd.add rfl rfl (by omega) (by omega)) ?_
    refine f_ 1 kr_ rfl rfl ?_
    refine WL.s (Hd.store1s kr_ rfl rfl (by rfl) fr_ (by rfl) (by first | (simp only [List.set_cons_zero, List.set_cons_succ, Nat.zero_add, Nat.add_zero, Nat.reduceAdd]; rfl) | rfl) ⟨rfl, ?_⟩)
    refine nt_ ?_
    refine WC.seq ?_
    refine WC.draw 8 kr_ rfl ?_
    refine WA.y (i := 0) (NoPanic.then (NoPanic.body)) rfl kr_ kr_ kr_ rfl (Yd.move rfl) ?_
    refine WA.y (i := 1) (NoPanic.then (NoPanic.body)) rfl kr_ kr_ kr_ rfl (Yd.notNil rfl) ?_
    refine WA.y (i := 2) (NoPanic.then (NoPanic.body)) rfl kr_ kr_ kr_ rfl (Yd.fieldAddr (k := 0) kr_ rfl) ?_
    refine WA.y (i := 4) (NoPanic.then (NoPanic.body)) rfl kr_ kr_ kr_ rfl (Yd.fieldAddr (k := 1) kr_ rfl) ?_
    refine WA.three (i := 3) (j := 5) (k := 6) kr_ ?_ ?_ ?_
    ·refine WO.h rfl Wt.none rfl (Hd.load1 kr_ rfl mem_ (by rfl) ⟨_, rfl, ?_⟩)
     refine WA.two (i := 5) (j := 6) kr_ ?_ ?_
     ·refine WO.h rfl Wt.none rfl (Hd.load1 kr_ rfl mem_ (by rfl) ⟨_, rfl, ?_⟩)
      refine WA.one (i := 6) kr_ ?_
      refine WO.h rfl Wt.none rfl (Hd.loadAll (n := 2) kr_ rfl mem_ (by rfl) ⟨_, rfl, ?_⟩)
      refine WA.one (i := 7) kr_ ?_
      refine WO.s rfl Wt.none (Hd.mapSet (k0 := kStr) (KT := 9) (ET := 191) (TD := .string) (n := x10.name) kr_ Tryz.underlying9 rfl rfl rfl rfl hK (by rw [kvs_keys]; exact inv.knd) sp_ fun C5 h5 => ⟨rfl, ?_⟩)
      refine WA.done kr_ ?_
      refine ts_ ?_
      refine WC.region ?_
      refine a_ rfl rfl ?_
      refine nt_ ?_
      refine WC.ret ?_
      first | refine DN.fit (C := row p [.map (some b1), .map (some b2)] 189 :: (C5 ++ C4)) sp_ ?_ | refine DN.fit (C := row p [.map (some b1), .map (some b2)] 189 :: (C1 ++ C2)) sp_ ?_
      refine DN.ret1 Tryz.results124 rfl ?_
      first
        | (rw [hnone, delK_none hnone]
           unfold leaveKs
           rw [hnone]
           exact ⟨rfl, hS⟩)
        | (unfold leaveKs
           rw [hsome]
           refine ⟨rfl, b1, b2, C5, C4, rfl, ?_, by rw [← delG_kvs]; exact h4⟩
           first
           | (have e : adj K x10.name 0 x10.n = putK Gd.name K ⟨x10.name, freeOf K x10.name, goneOf K x10.name + x10.n⟩ := by unfold adj; rw [Int.add_zero]
              show MpG kStr b1 (kvs Gd.name encG (adj K x10.name 0 x10.n)) C5
              rw [e, ← putG]; exact h5)
           | (have e : adj K x10.name x10.n 0 = putK Gd.name K ⟨x10.name, freeOf K x10.name + x10.n, goneOf K x10.name⟩ := by unfold adj; rw [Int.add_zero]
              show MpG kStr b1 (kvs Gd.name encG (adj K x10.name x10.n 0)) C5
              rw [e, ← putG]; exact h5))
     ·refine WO.h rfl Wt.none rfl (Hd.loadAll (n := 2) kr_ rfl mem_ (by rfl) ⟨_, rfl, ?_⟩)
      refine WA.one (i := 5) kr_ ?_
      refine WO.h rfl Wt.none rfl (Hd.load1 kr_ rfl mem_ (by rfl) ⟨_, rfl, ?_⟩)
      refine WA.one (i := 7) kr_ ?_
      refine WO.s rfl Wt.none (Hd.mapSet (k0 := kStr) (KT := 9) (ET := 191) (TD := .string) (n := x10.name) kr_ Tryz.underlying9 rfl rfl rfl rfl hK (by rw [kvs_keys]; exact inv.knd) sp_ fun C5 h5 => ⟨rfl, ?_⟩)
      refine WA.done kr_ ?_
      refine ts_ ?_
      refine WC.region ?_
      refine a_ rfl rfl ?_
      refine nt_ ?_
      refine WC.ret ?_
      first | refine DN.fit (C := row p [.map (some b1), .map (some b2)] 189 :: (C5 ++ C4)) sp_ ?_ | refine DN.fit (C := row p [.map (some b1), .map (some b2)] 189 :: (C1 ++ C2)) sp_ ?_
      refine DN.ret1 Tryz.results124 rfl ?_
      first
        | (rw [hnone, delK_none hnone]
           unfold leaveKs
           rw [hnone]
           exact ⟨rfl, hS⟩)
        | (unfold leaveKs
           rw [hsome]
           refine ⟨rfl, b1, b2, C5, C4, rfl, ?_, by rw [← delG_kvs]; exact h4⟩
           first
           | (have e : adj K x10.name 0 x10.n = putK Gd.name K ⟨x10.name, freeOf K x10.name, goneOf K x10.name + x10.n⟩ := by unfold adj; rw [Int.add_zero]
              show MpG kStr b1 (kvs Gd.name encG (adj K x10.name 0 x10.n)) C5
              rw [e, ← putG]; exact h5)
           | (have e : adj K x10.name x10.n 0 = putK Gd.name K ⟨x10.name, freeOf K x10.name + x10.n, goneOf K x10.name⟩ := by unfold adj; rw [Int.add_zero]
              show MpG kStr b1 (kvs Gd.name encG (adj K x10.name x10.n 0)) C5
              rw [e, ← putG]; exact h5))
    ·refine WO.h rfl Wt.none rfl (Hd.load1 kr_ rfl mem_ (by rfl) ⟨_, rfl, ?_⟩)
     refine WA.two (i := 3) (j := 6) kr_ ?_ ?_
     ·refine WO.h rfl Wt.none rfl (Hd.load1 kr_ rfl mem_ (by rfl) ⟨_, rfl, ?_⟩)
      refine WA.one (i := 6) kr_ ?_
      refine WO.h rfl Wt.none rfl (Hd.loadAll (n := 2) kr_ rfl mem_ (by rfl) ⟨_, rfl, ?_⟩)
      refine WA.one (i := 7) kr_ ?_
      refine WO.s rfl Wt.none (Hd.mapSet (k0 := kStr) (KT := 9) (ET := 191) (TD := .string) (n := x10.name) kr_ Tryz.underlying9 rfl rfl rfl rfl hK (by rw [kvs_keys]; exact inv.knd) sp_ fun C5 h5 => ⟨rfl, ?_⟩)
      refine WA.done kr_ ?_
      refine ts_ ?_
      refine WC.region ?_
      refine a_ rfl rfl ?_
      refine nt_ ?_
      refine WC.ret ?_
      first | refine DN.fit (C := row p [.map (some b1), .map (some b2)] 189 :: (C5 ++ C4)) sp_ ?_ | refine DN.fit (C := row p [.map (some b1), .map (some b2)] 189 :: (C1 ++ C2)) sp_ ?_
      refine DN.ret1 Tryz.results124 rfl ?_
      first
        | (rw [hnone, delK_none hnone]
           unfold leaveKs
           rw [hnone]
           exact ⟨rfl, hS⟩)
        | (unfold leaveKs
           rw [hsome]
           refine ⟨rfl, b1, b2, C5, C4, rfl, ?_, by rw [← delG_kvs]; exact h4⟩
           first
           | (have e : adj K x10.name 0 x10.n = putK Gd.name K ⟨x10.name, freeOf K x10.name, goneOf K x10.name + x10.n⟩ := by unfold adj; rw [Int.add_zero]
              show MpG kStr b1 (kvs Gd.name encG (adj K x10.name 0 x10.n)) C5
              rw [e, ← putG]; exact h5)
           | (have e : adj K x10.name x10.n 0 = putK Gd.name K ⟨x10.name, freeOf K x10.name + x10.n, goneOf K x10.name⟩ := by unfold adj; rw [Int.add_zero]
              show MpG kStr b1 (kvs Gd.name encG (adj K x10.name x10.n 0)) C5
              rw [e, ← putG]; exact h5))
     ·refine WO.h rfl Wt.none rfl (Hd.loadAll (n := 2) kr_ rfl mem_ (by rfl) ⟨_, rfl, ?_⟩)
      refine WA.one (i := 3) kr_ ?_
      refine WO.h rfl Wt.none rfl (Hd.load1 kr_ rfl mem_ (by rfl) ⟨_, rfl, ?_⟩)
      refine WA.one (i := 7) kr_ ?_
      refine WO.s rfl Wt.none (Hd.mapSet (k0 := kStr) (KT := 9) (ET := 191) (TD := .string) (n := x10.name) kr_ Tryz.underlying9 rfl rfl rfl rfl hK (by rw [kvs_keys]; exact inv.knd) sp_ fun C5 h5 => ⟨rfl, ?_⟩)
      refine WA.done kr_ ?_
      refine ts_ ?_
      refine WC.region ?_
      refine a_ rfl rfl ?_
      refine nt_ ?_
      refine WC.ret ?_
      first | refine DN.fit (C := row p [.map (some b1), .map (some b2)] 189 :: (C5 ++ C4)) sp_ ?_ | refine DN.fit (C := row p [.map (some b1), .map (some b2)] 189 :: (C1 ++ C2)) sp_ ?_
      refine DN.ret1 Tryz.results124 rfl ?_
      first
        | (rw [hnone, delK_none hnone]
           unfold leaveKs
           rw [hnone]
           exact ⟨rfl, hS⟩)
        | (unfold leaveKs
           rw [hsome]
           refine ⟨rfl, b1, b2, C5, C4, rfl, ?_, by rw [← delG_kvs]; exact h4⟩
           first
           | (have e : adj K x10.name 0 x10.n = putK Gd.name K ⟨x10.name, freeOf K x10.name, goneOf K x10.name + x10.n⟩ := by unfold adj; rw [Int.add_zero]
              show MpG kStr b1 (kvs Gd.name encG (adj K x10.name 0 x10.n)) C5
              rw [e, ← putG]; exact h5)
           | (have e : adj K x10.name x10.n 0 = putK Gd.name K ⟨x10.name, freeOf K x10.name + x10.n, goneOf K x10.name⟩ := by unfold adj; rw [Int.add_zero]
              show MpG kStr b1 (kvs Gd.name encG (adj K x10.name x10.n 0)) C5
              rw [e, ← putG]; exact h5))
    ·refine WO.h rfl Wt.none rfl (Hd.loadAll (n := 2) kr_ rfl mem_ (by rfl) ⟨_, rfl, ?_⟩)
     refine WA.two (i := 3) (j := 5) kr_ ?_ ?_
     ·refine WO.h rfl Wt.none rfl (Hd.load1 kr_ rfl mem_ (by rfl) ⟨_, rfl, ?_⟩)
      refine WA.one (i := 5) kr_ ?_
      refine WO.h rfl Wt.none rfl (Hd.load1 kr_ rfl mem_ (by rfl) ⟨_, rfl, ?_⟩)
      refine WA.one (i := 7) kr_ ?_
      refine WO.s rfl Wt.none (Hd.mapSet (k0 := kStr) (KT := 9) (ET := 191) (TD := .string) (n := x10.name) kr_ Tryz.underlying9 rfl rfl rfl rfl hK (by rw [kvs_keys]; exact inv.knd) sp_ fun C5 h5 => ⟨rfl, ?_⟩)
      refine WA.done kr_ ?_
      refine ts_ ?_
      refine WC.region ?_
      refine a_ rfl rfl ?_
      refine nt_ ?_
      refine WC.ret ?_
      first | refine DN.fit (C := row p [.map (some b1), .map (some b2)] 189 :: (C5 ++ C4)) sp_ ?_ | refine DN.fit (C := row p [.map (some b1), .map (some b2)] 189 :: (C1 ++ C2)) sp_ ?_
      refine DN.ret1 Tryz.results124 rfl ?_
      first
        | (rw [hnone, delK_none hnone]
           unfold leaveKs
           rw [hnone]
           exact ⟨rfl, hS⟩)
        | (unfold leaveKs
           rw [hsome]
           refine ⟨rfl, b1, b2, C5, C4, rfl, ?_, by rw [← delG_kvs]; exact h4⟩
           first
           | (have e : adj K x10.name 0 x10.n = putK Gd.name K ⟨x10.name, freeOf K x10.name, goneOf K x10.name + x10.n⟩ := by unfold adj; rw [Int.add_zero]
              show MpG kStr b1 (kvs Gd.name encG (adj K x10.name 0 x10.n)) C5
              rw [e, ← putG]; exact h5)
           | (have e : adj K x10.name x10.n 0 = putK Gd.name K ⟨x10.name, freeOf K x10.name + x10.n, goneOf K x10.name⟩ := by unfold adj; rw [Int.add_zero]
              show MpG kStr b1 (kvs Gd.name encG (adj K x10.name x10.n 0)) C5
              rw [e, ← putG]; exact h5))
     ·refine WO.h rfl Wt.none rfl (Hd.load1 kr_ rfl mem_ (by rfl) ⟨_, rfl, ?_⟩)
      refine WA.one (i := 3) kr_ ?_
      refine WO.h rfl Wt.none rfl (Hd.load1 kr_ rfl mem_ (by rfl) ⟨_, rfl, ?_⟩)
      refine WA.one (i := 7) kr_ ?_
      refine WO.s rfl Wt.none (Hd.mapSet (k0 := kStr) (KT := 9) (ET := 191) (TD := .string) (n := x10.name) kr_ Tryz.underlying9 rfl rfl rfl rfl hK (by rw [kvs_keys]; exact inv.knd) sp_ fun C5 h5 => ⟨rfl, ?_⟩)
      refine WA.done kr_ ?_
      refine ts_ ?_
      refine WC.region ?_
      refine a_ rfl rfl ?_
      refine nt_ ?_
      refine WC.ret ?_
      first | refine DN.fit (C := row p [.map (some b1), .map (some b2)] 189 :: (C5 ++ C4)) sp_ ?_ | refine DN.fit (C := row p [.map (some b1), .map (some b2)] 189 :: (C1 ++ C2)) sp_ ?_
      refine DN.ret1 Tryz.results124 rfl ?_
      first
        | (rw [hnone, delK_none hnone]
           unfold leaveKs
           rw [hnone]
           exact ⟨rfl, hS⟩)
        | (unfold leaveKs
           rw [hsome]
           refine ⟨rfl, b1, b2, C5, C4, rfl, ?_, by rw [← delG_kvs]; exact h4⟩
           first
           | (have e : adj K x10.name 0 x10.n = putK Gd.name K ⟨x10.name, freeOf K x10.name, goneOf K x10.name + x10.n⟩ := by unfold adj; rw [Int.add_zero]
              show MpG kStr b1 (kvs Gd.name encG (adj K x10.name 0 x10.n)) C5
              rw [e, ← putG]; exact h5)
           | (have e : adj K x10.name x10.n 0 = putK Gd.name K ⟨x10.name, freeOf K x10.name + x10.n, goneOf K x10.name⟩ := by unfold adj; rw [Int.add_zero]
              show MpG kStr b1 (kvs Gd.name encG (adj K x10.name x10.n 0)) C5
              rw [e, ← putG]; exact h5))
   ·subst h35
    refine WC.region ?_
    refine f_ 0 kr_ rfl rfl ?_
    refine d_ kr_ rfl mem_ (by rfl) rfl ?_
    refine f_ 2 kr_ rfl rfl ?_
    refine d_ kr_ rfl mem_ (by rfl) rfl ?_
    refine WL.y rfl (Yd.add rfl rfl (by omega) (by omega)) ?_
    refine f_ 0 kr_ rfl rfl ?_
    refine WL.s (Hd.store1s kr_ rfl rfl (by rfl) fr_ (by rfl) (by first | (simp only [List.set_cons_zero, List.set_cons_succ, Nat.zero_add, Nat.add_zero, Nat.reduceAdd]; rfl) | rfl) ⟨rfl, ?_⟩)
    refine nt_ ?_
    refine WC.seq ?_
    refine WC.draw 8 kr_ rfl ?_
    refine WA.y (i := 0) (NoPanic.then (NoPanic.body)) rfl kr_ kr_ kr_ rfl (Yd.move rfl) ?_
    refine WA.y (i := 1) (NoPanic.then (NoPanic.body)) rfl kr_ kr_ kr_ rfl (Yd.notNil rfl) ?_
    refine WA.y (i := 2) (NoPanic.then (NoPanic.body)) rfl kr_ kr_ kr_ rfl (Yd.fieldAddr (k := 0) kr_ rfl) ?_
    refine WA.y (i := 4) (NoPanic.then (NoPanic.body)) rfl kr_ kr_ kr_ rfl (Yd.fieldAddr (k := 1) kr_ rfl) ?_
    refine WA.three (i := 3) (j := 5) (k := 6) kr_ ?_ ?_ ?_
    ·refine WO.h rfl Wt.none rfl (Hd.load1 kr_ rfl mem_ (by rfl) ⟨_, rfl, ?_⟩)
     refine WA.two (i := 5) (j := 6) kr_ ?_ ?_
     ·refine WO.h rfl Wt.none rfl (Hd.load1 kr_ rfl mem_ (by rfl) ⟨_, rfl, ?_⟩)
      refine WA.one (i := 6) kr_ ?_
      refine WO.h rfl Wt.none rfl (Hd.loadAll (n := 2) kr_ rfl mem_ (by rfl) ⟨_, rfl, ?_⟩)
      refine WA.one (i := 7) kr_ ?_
      refine WO.s rfl Wt.none (Hd.mapSet (k0 := kStr) (KT := 9) (ET := 191) (TD := .string) (n := x10.name) kr_ Tryz.underlying9 rfl rfl rfl rfl hK (by rw [kvs_keys]; exact inv.knd) sp_ fun C5 h5 => ⟨rfl, ?_⟩)
      refine WA.done kr_ ?_
      refine ts_ ?_
      refine WC.region ?_
      refine a_ rfl rfl ?_
      refine nt_ ?_
      refine WC.ret ?_
      first | refine DN.fit (C := row p [.map (some b1), .map (some b2)] 189 :: (C5 ++ C4)) sp_ ?_ | refine DN.fit (C := row p [.map (some b1), .map (some b2)] 189 :: (C1 ++ C2)) sp_ ?_
      refine DN.ret1 Tryz.results124 rfl ?_
      first
        | (rw [hnone, delK_none hnone]
           unfold leaveKs
           rw [hnone]
           exact ⟨rfl, hS⟩)
        | (unfold leaveKs
           rw [hsome]
           refine ⟨rfl, b1, b2, C5, C4, rfl, ?_, by rw [← delG_kvs]; exact h4⟩
           first
           | (have e : adj K x10.name 0 x10.n = putK Gd.name K ⟨x10.name, freeOf K x10.name, goneOf K x10.name + x10.n⟩ := by unfold adj; rw [Int.add_zero]
              show MpG kStr b1 (kvs Gd.name encG (adj K x10.name 0 x10.n)) C5
              rw [e, ← putG]; exact h5)
           | (have e : adj K x10.name x10.n 0 = putK Gd.name K ⟨x10.name, freeOf K x10.name + x10.n, goneOf K x10.name⟩ := by unfold adj; rw [Int.add_zero]
              show MpG kStr b1 (kvs Gd.name encG (adj K x10.name x10.n 0)) C5
              rw [e, ← putG]; exact h5))
     ·refine WO.h rfl Wt.none rfl (Hd.loadAll (n := 2) kr_ rfl mem_ (by rfl) ⟨_, rfl, ?_⟩)
      refine WA.one (i := 5) kr_ ?_
      refine WO.h rfl Wt.none rfl (Hd.load1 kr_ rfl mem_ (by rfl) ⟨_, rfl, ?_⟩)
      refine WA.one (i := 7) kr_ ?_
      refine WO.s rfl Wt.none (Hd.mapSet (k0 := kStr) (KT := 9) (ET := 191) (TD := .string) (n := x10.name) kr_ Tryz.underlying9 rfl rfl rfl rfl hK (by rw [kvs_keys]; exact inv.knd) sp_ fun C5 h5 => ⟨rfl, ?_⟩)
      refine WA.done kr_ ?_
      refine ts_ ?_
      refine WC.region ?_
      refine a_ rfl rfl ?_
      refine nt_ ?_
      refine WC.ret ?_
      first | refine DN.fit (C := row p [.map (some b1), .map (some b2)] 189 :: (C5 ++ C4)) sp_ ?_ | refine DN.fit (C := row p [.map (some b1), .map (some b2)] 189 :: (C1 ++ C2)) sp_ ?_
      refine DN.ret1 Tryz.results124 rfl ?_
      first
        | (rw [hnone, delK_none hnone]
           unfold leaveKs
           rw [hnone]
           exact ⟨rfl, hS⟩)
        | (unfold leaveKs
           rw [hsome]
           refine ⟨rfl, b1, b2, C5, C4, rfl, ?_, by rw [← delG_kvs]; exact h4⟩
           first
           | (have e : adj K x10.name 0 x10.n = putK Gd.name K ⟨x10.name, freeOf K x10.name, goneOf K x10.name + x10.n⟩ := by unfold adj; rw [Int.add_zero]
              show MpG kStr b1 (kvs Gd.name encG (adj K x10.name 0 x10.n)) C5
              rw [e, ← putG]; exact h5)
           | (have e : adj K x10.name x10.n 0 = putK Gd.name K ⟨x10.name, freeOf K x10.name + x10.n, goneOf K x10.name⟩ := by unfold adj; rw [Int.add_zero]
              show MpG kStr b1 (kvs Gd.name encG (adj K x10.name x10.n 0)) C5
              rw [e, ← putG]; exact h5))
    ·refine WO.h rfl Wt.none rfl (Hd.load1 kr_ rfl mem_ (by rfl) ⟨_, rfl, ?_⟩)
     refine WA.two (i := 3) (j := 6) kr_ ?_ ?_
     ·refine WO.h rfl Wt.none rfl (Hd.load1 kr_ rfl mem_ (by rfl) ⟨_, rfl, ?_⟩)
      refine WA.one (i := 6) kr_ ?_
      refine WO.h rfl Wt.none rfl (Hd.loadAll (n := 2) kr_ rfl mem_ (by rfl) ⟨_, rfl, ?_⟩)
      refine WA.one (i := 7) kr_ ?_
      refine WO.s rfl Wt.none (Hd.mapSet (k0 := kStr) (KT := 9) (ET := 191) (TD := .string) (n := x10.name) kr_ Tryz.underlying9 rfl rfl rfl rfl hK (by rw [kvs_keys]; exact inv.knd) sp_ fun C5 h5 => ⟨rfl, ?_⟩)
      refine WA.done kr_ ?_
      refine ts_ ?_
      refine WC.region ?_
      refine a_ rfl rfl ?_
      refine nt_ ?_
      refine WC.ret ?_
      first | refine DN.fit (C := row p [.map (some b1), .map (some b2)] 189 :: (C5 ++ C4)) sp_ ?_ | refine DN.fit (C := row p [.map (some b1), .map (some b2)] 189 :: (C1 ++ C2)) sp_ ?_
      refine DN.ret1 Tryz.results124 rfl ?_
      first
        | (rw [hnone, delK_none hnone]
           unfold leaveKs
           rw [hnone]
           exact ⟨rfl, hS⟩)
        | (unfold leaveKs
           rw [hsome]
           refine ⟨rfl, b1, b2, C5, C4, rfl, ?_, by rw [← delG_kvs]; exact h4⟩
           first
           | (have e : adj K x10.name 0 x10.n = putK Gd.name K ⟨x10.name, freeOf K x10.name, goneOf K x10.name + x10.n⟩ := by unfold adj; rw [Int.add_zero]
              show MpG kStr b1 (kvs Gd.name encG (adj K x10.name 0 x10.n)) C5
              rw [e, ← putG]; exact h5)
           | (have e : adj K x10.name x10.n 0 = putK Gd.name K ⟨x10.name, freeOf K x10.name + x10.n, goneOf K x10.name⟩ := by unfold adj; rw [Int.add_zero]
              show MpG kStr b1 (kvs Gd.name encG (adj K x10.name x10.n 0)) C5
              rw [e, ← putG]; exact h5))
     ·refine WO.h rfl Wt.none rfl (Hd.loadAll (n := 2) kr_ rfl mem_ (by rfl) ⟨_, rfl, ?_⟩)
      refine WA.one (i := 3) kr_ ?_
      refine WO.h rfl Wt.none rfl (Hd.load1 kr_ rfl mem_ (by rfl) ⟨_, rfl, ?_⟩)
      refine WA.one (i := 7) kr_ ?_
      refine WO.s rfl Wt.none (Hd.mapSet (k0 := kStr) (KT := 9) (ET := 191) (TD := .string) (n := x10.name) kr_ Tryz.underlying9 rfl rfl rfl rfl hK (by rw [kvs_keys]; exact inv.knd) sp_ fun C5 h5 => ⟨rfl, ?_⟩)
      refine WA.done kr_ ?_
      refine ts_ ?_
      refine WC.region ?_
      refine a_ rfl rfl ?_
      refine nt_ ?_
      refine WC.ret ?_
      first | refine DN.fit (C := row p [.map (some b1), .map (some b2)] 189 :: (C5 ++ C4)) sp_ ?_ | refine DN.fit (C := row p [.map (some b1), .map (some b2)] 189 :: (C1 ++ C2)) sp_ ?_
      refine DN.ret1 Tryz.results124 rfl ?_
      first
        | (rw [hnone, delK_none hnone]
           unfold leaveKs
           rw [hnone]
           exact ⟨rfl, hS⟩)
        | (unfold leaveKs
           rw [hsome]
           refine ⟨rfl, b1, b2, C5, C4, rfl, ?_, by rw [← delG_kvs]; exact h4⟩
           first
           | (have e : adj K x10.name 0 x10.n = putK Gd.name K ⟨x10.name, freeOf K x10.name, goneOf K x10.name + x10.n⟩ := by unfold adj; rw [Int.add_zero]
              show MpG kStr b1 (kvs Gd.name encG (adj K x10.name 0 x10.n)) C5
              rw [e, ← putG]; exact h5)
           | (have e : adj K x10.name x10.n 0 = putK Gd.name K ⟨x10.name, freeOf K x10.name + x10.n, goneOf K x10.name⟩ := by unfold adj; rw [Int.add_zero]
              show MpG kStr b1 (kvs Gd.name encG (adj K x10.name x10.n 0)) C5
              rw [e, ← putG]; exact h5))
    ·refine WO.h rfl Wt.none rfl (Hd.loadAll (n := 2) kr_ rfl mem_ (by rfl) ⟨_, rfl, ?_⟩)
     refine WA.two (i := 3) (j := 5) kr_ ?_ ?_
     ·refine WO.h rfl Wt.none rfl (Hd.load1 kr_ rfl mem_ (by rfl) ⟨_, rfl, ?_⟩)
      refine WA.one (i := 5) kr_ ?_
      refine WO.h rfl Wt.none rfl (Hd.load1 kr_ rfl mem_ (by rfl) ⟨_, rfl, ?_⟩)
      refine WA.one (i := 7) kr_ ?_
      refine WO.s rfl Wt.none (Hd.mapSet (k0 := kStr) (KT := 9) (ET := 191) (TD := .string) (n := x10.name) kr_ Tryz.underlying9 rfl rfl rfl rfl hK (by rw [kvs_keys]; exact inv.knd) sp_ fun C5 h5 => ⟨rfl, ?_⟩)
      refine WA.done kr_ ?_
      refine ts_ ?_
      refine WC.region ?_
      refine a_ rfl rfl ?_
      refine nt_ ?_
      refine WC.ret ?_
      first | refine DN.fit (C := row p [.map (some b1), .map (some b2)] 189 :: (C5 ++ C4)) sp_ ?_ | refine DN.fit (C := row p [.map (some b1), .map (some b2)] 189 :: (C1 ++ C2)) sp_ ?_
      refine DN.ret1 Tryz.results124 rfl ?_
      first
        | (rw [hnone, delK_none hnone]
           unfold leaveKs
           rw [hnone]
           exact ⟨rfl, hS⟩)
        | (unfold leaveKs
           rw [hsome]
           refine ⟨rfl, b1, b2, C5, C4, rfl, ?_, by rw [← delG_kvs]; exact h4⟩
           first
           | (have e : adj K x10.name 0 x10.n = putK Gd.name K ⟨x10.name, freeOf K x10.name, goneOf K x10.name + x10.n⟩ := by unfold adj; rw [Int.add_zero]
              show MpG kStr b1 (kvs Gd.name encG (adj K x10.name 0 x10.n)) C5
              rw [e, ← putG]; exact h5)
           | (have e : adj K x10.name x10.n 0 = putK Gd.name K ⟨x10.name, freeOf K x10.name + x10.n, goneOf K x10.name⟩ := by unfold adj; rw [Int.add_zero]
              show MpG kStr b1 (kvs Gd.name encG (adj K x10.name x10.n 0)) C5
              rw [e, ← putG]; exact h5))
     ·refine WO.h rfl Wt.none rfl (Hd.load1 kr_ rfl mem_ (by rfl) ⟨_, rfl, ?_⟩)
      refine WA.one (i := 3) kr_ ?_
      refine WO.h rfl Wt.none rfl (Hd.load1 kr_ rfl mem_ (by rfl) ⟨_, rfl, ?_⟩)
      refine WA.one (i := 7) kr_ ?_
      refine WO.s rfl Wt.none (Hd.mapSet (k0 := kStr) (KT := 9) (ET := 191) (TD := .string) (n := x10.name) kr_ Tryz.underlying9 rfl rfl rfl rfl hK (by rw [kvs_keys]; exact inv.knd) sp_ fun C5 h5 => ⟨rfl, ?_⟩)
      refine WA.done kr_ ?_
      refine ts_ ?_
      refine WC.region ?_
      refine a_ rfl rfl ?_
      refine nt_ ?_
      refine WC.ret ?_
      first | refine DN.fit (C := row p [.map (some b1), .map (some b2)] 189 :: (C5 ++ C4)) sp_ ?_ | refine DN.fit (C := row p [.map (some b1), .map (some b2)] 189 :: (C1 ++ C2)) sp_ ?_
      refine DN.ret1 Tryz.results124 rfl ?_
      first
        | (rw [hnone, delK_none hnone]
           unfold leaveKs
           rw [hnone]
           exact ⟨rfl, hS⟩)
        | (unfold leaveKs
           rw [hsome]
           refine ⟨rfl, b1, b2, C5, C4, rfl, ?_, by rw [← delG_kvs]; exact h4⟩
           first
           | (have e : adj K x10.name 0 x10.n = putK Gd.name K ⟨x10.name, freeOf K x10.name, goneOf K x10.name + x10.n⟩ := by unfold adj; rw [Int.add_zero]
              show MpG kStr b1 (kvs Gd.name encG (adj K x10.name 0 x10.n)) C5
              rw [e, ← putG]; exact h5)
           | (have e : adj K x10.name x10.n 0 = putK Gd.name K ⟨x10.name, freeOf K x10.name + x10.n, goneOf K x10.name⟩ := by unfold adj; rw [Int.add_zero]
              show MpG kStr b1 (kvs Gd.name encG (adj K x10.name x10.n 0)) C5
              rw [e, ← putG]; exact h5))
theorem free_tells (p : Nat) (first K : List Gd) (L : List Ho) (C : List Ck) (h : StAt 189 p K L C) (inv : SInv first K L) (o : BitVec 32) : Tells Tryz.prog 120 [.pointer (some ⟨p, 0, none⟩), .int .u32 o.toNat] C fun r H' => r = .int .i64 (vd (findK Ho.o L o).isSome) ∧ StAt 189 p (leaveKs K L o false) (delK Ho.o L o) H' := by
 refine Tells.enter Tryz.func120 rfl Tryz.ntmps120 rfl ?_
 intro w0 R
 refine sr_ ?_
 refine a_ rfl rfl ?_
 refine ntsr_ ?_
 refine m_ rfl rfl ?_
 refine m_ rfl rfl ?_
 refine WL.c rfl (Ent.func Tryz.call124 rfl) (leave_tells p first K L C h inv o false) (Sp.p sp_) ?_
 rintro q C9 ⟨rfl, h9⟩
 refine a_ rfl rfl ?_
 refine nt_ ?_
 refine WC.ret ?_
 refine DN.ret1 Tryz.results120 rfl ?_
 exact ⟨rfl, by simpa using h9⟩
theorem ship_tells (p : Nat) (first K : List Gd) (L : List Ho) (C : List Ck) (h : StAt 189 p K L C) (inv : SInv first K L) (o : BitVec 32) : Tells Tryz.prog 88 [.pointer (some ⟨p, 0, none⟩), .int .u32 o.toNat] C fun r H' => r = .int .i64 (vd (findK Ho.o L o).isSome) ∧ StAt 189 p (leaveKs K L o true) (delK Ho.o L o) H' := by
 refine Tells.enter Tryz.func88 rfl Tryz.ntmps88 rfl ?_
 intro w0 R
 refine sr_ ?_
 refine a_ rfl rfl ?_
 refine ntsr_ ?_
 refine m_ rfl rfl ?_
 refine m_ rfl rfl ?_
 refine WL.c rfl (Ent.func Tryz.call124 rfl) (leave_tells p first K L C h inv o true) (Sp.p sp_) ?_
 rintro q C9 ⟨rfl, h9⟩
 refine a_ rfl rfl ?_
 refine nt_ ?_
 refine WC.ret ?_
 refine DN.ret1 Tryz.results88 rfl ?_
 exact ⟨rfl, by simpa using h9⟩
end Go.Proofs.YtkamlondepceiaaGreat.St
