/-
  The walks of the document's sum (drayageref02) and of what turns bits (drayagelaw02).
-/
import Derived.Test.YtfacofbobmlmiaaRows
import Derived.Test.YtfacofbobmlmiaaSLMore
import Derived.Test.YtfacofbobmlmiaaLists
import Derived.Test.YtfacofbobmlmiaaSumMore
set_option linter.unusedVariables false
set_option linter.unusedSimpArgs false
namespace Go.Proofs.Ytfacofbobmlmiaa
open Go.SL Go.Sum
/-- the cells of the taps -/
def tc : List Value := taps.map fun t => .int .i64 (t : Nat)
def tap (k : Nat) : Nat := taps.getD k 0
theorem tc_get (k : Nat) (h : k < 14) : tc[k]? = some (.int .i64 (tap k : Nat)) := by
  have : taps.length = 14 := rfl
  simp [tc, tap, this, h, List.getElem?_eq_getElem]
theorem taps_lt (k : Nat) : tap k < 32 := by
  by_cases h : k < 14
  · exact (by decide : ∀ k, k < 14 → tap k < 32) k h
  · have : taps[k]? = none := List.getElem?_eq_none (by simpa [taps] using Nat.le_of_not_lt h)
    simp [tap, this]
theorem turnK_next (r : List Bool) (k : Nat) (hk : k < 14) : (turnK r k).set (tap k) (!(turnK r k).getD (tap k) false) = turnK r (k + 1) := by
  have h : k < taps.length := hk
  rw [turnK_succ r k h, turnBit]
  have : tap k = taps[k] := by simp [tap, List.getD, h]
  rw [this]
theorem turnK_all (r : List Bool) : turnK r 14 = turnAll r := rfl
theorem turnAll_length (r : List Bool) : (turnAll r).length = r.length := turnK_length r 14
def ones (i : Nat) : List Bool := (List.range 32).map fun j => decide (j < i)
theorem ones_length (i : Nat) : (ones i).length = 32 := by simp [ones]
theorem ones_set (i : Nat) (h : i < 32) : (ones i).set i true = ones (i + 1) := by
  apply List.ext_getElem
  · simp [ones]
  · intro j h1 h2
    simp only [ones, List.getElem_set, List.getElem_map, List.getElem_range]
    by_cases e : i = j
    · subst e; simp
    · rw [if_neg e]; congr 1; apply propext; omega
theorem ones_zero : boc (ones 0) = List.replicate 32 (.bool false) := rfl
theorem ones_all : ones 32 = List.replicate 32 true := by decide
theorem reg_length (l : List Bool) : ∀ r : List Bool, r.length = 32 → (reg r l).length = 32 := by
  induction l with
  | nil => intro r h; exact h
  | cons b l ih =>
    intro r h
    apply ih
    split
    · rw [turnAll_length]; simp [sh, shK]
    · simp [sh, shK]
theorem reg_next (l : List Bool) (i : Nat) (h : i < l.length) (r : List Bool) : reg r (l.take (i + 1)) = if !((reg r (l.take i)).getD 0 false == l.getD i false) then turnAll (sh (reg r (l.take i))) else sh (reg r (l.take i)) := by
  rw [List.take_succ_eq_append_getElem h, reg_append]
  have : l.getD i false = l[i] := by simp [List.getD, h]
  rw [this]
  rfl
theorem take_boc {r : List Bool} (h : r.length = 32) : ((boc r).drop 0).take 32 = boc r := by
  rw [List.drop_zero]; exact List.take_of_length_le (by rw [boc_length, h]; omega)
theorem sh_row (r : List Bool) (b : Nat) (T : TypeId) : row b ((boc (shK r 31)).set (0 + Int.toNat 31 * 1) (.bool false)) T = row b (boc (sh r)) T := by
  rw [show 0 + Int.toNat 31 * 1 = 31 from rfl, boc_set]; rfl
theorem splice_boc {a r : List Bool} (h : a.length = 32) (hr : r.length = 32) : splice (boc a) 0 (Value.cells (.agg (boc r).toArray)).toList = boc r := by
  simp [splice, Value.cells, boc_length, h, hr]


/-- drayage/drayageref02.turn -/
theorem turn_reads (r : List Bool) (hr : r.length = 32) (H : List Ck) : Reads Try.prog 40 [.agg (boc r).toArray] H (.agg (boc (turnAll r)).toArray) := by
  refine Tells.enter Try.func40 rfl Try.ntmps40 rfl ?_
  intro w0 R
  refine WC.seq ?_
  refine WC.region ?_
  refine WL.h rfl (Hd.box rfl fun b => ⟨_, rfl, ?_⟩)
  refine WL.h rfl (Hd.alloc (zs := boc (ones 0)) (by kernel_rfl) fun b2 => ⟨_, rfl, ?_⟩)
  refine WL.nil ?_
  refine DN.then_normal ?_
  refine WC.seq ?_
  refine WC.region ?_
  refine WL.h rfl (Hd.buildSlice (e := 3) (sz := 1) (zs := [.int .i64 0]) (parts := (List.range 14).zip (taps.map fun t => .const (.int .i64 (t : Nat)))) (vs := (List.range 14).zip tc) (cells := tc) (by kernel_rfl) (by kernel_rfl) (by kernel_rfl) (by kernel_rfl) (by kernel_rfl) (by kernel_rfl) fun b3 => ⟨_, rfl, ?_⟩)
  refine WL.y rfl (Yd.assign rfl) ?_
  refine WL.nil ?_
  refine DN.then_normal ?_
  refine WC.seq ?_
  refine WC.seq ?_
  refine WC.region ?_
  refine WL.y rfl (Yd.assign rfl) ?_
  refine WL.nil ?_
  refine DN.then_normal ?_
  refine WC.block ?_
  refine WC.loop (fun k : Nat => k ≤ 14) (fun k => [(1, .pointer (some ⟨b, 0, none⟩)), (2, .pointer (some ⟨b2, 0, none⟩)), (3, .slice (some ⟨b3, 0, none⟩) 14 14), (4, .int .i64 k)]) (fun k => row b (boc (turnK r k)) 64 :: row b3 tc 3 :: row b2 (boc (ones 0)) 64 :: H) (fun k => 14 - k) 0 (Nat.zero_le _) ⟨rfl, rfl, rfl, rfl, trivial⟩ (by rw [show (Value.cells (.agg (boc r).toArray)).toList = boc (turnK r 0) from rfl]; (repeat' (first | exact List.Perm.refl _ | refine List.Perm.cons _ ?_ | refine (List.Perm.cons _ ?_).trans (List.perm_middle (l₁ := [_])).symm | refine (List.Perm.cons _ ?_).trans (List.perm_middle (l₁ := [_, _])).symm | refine (List.Perm.cons _ ?_).trans (List.perm_middle (l₁ := [_, _, _])).symm | refine (List.Perm.cons _ ?_).trans (List.perm_middle (l₁ := [_, _, _, _])).symm | refine (List.Perm.cons _ ?_).trans (List.perm_middle (l₁ := [_, _, _, _, _])).symm))) ?_
  intro k hk
  refine WC.seq ?_
  refine WC.seq ?_
  refine WC.region ?_
  refine WL.y rfl (Yd.move rfl) ?_
  refine WL.y rfl (Yd.move rfl) ?_
  refine WL.y rfl (Yd.len (e := 3) (by kernel_rfl) rfl) ?_
  refine WL.y rfl (Yd.lss rfl rfl) ?_
  refine WL.nil ?_
  refine DN.then_normal ?_
  refine WC.ite rfl (fun h9 => ?_) (fun h9 => ?_)
  · have h9 : k < 14 := by omega
    have htk := taps_lt k
    refine WC.skip ?_
    refine DN.then_normal ?_
    refine WC.seq ?_
    refine WC.block ?_
    refine WC.draw 13 (by kernel_rfl) rfl ?_
    refine WA.y (i := 0) (NoPanic.block (NoPanic.then (NoPanic.then (NoPanic.block (NoPanic.then (NoPanic.body)))))) rfl (by kernel_rfl) (by kernel_rfl) (by kernel_rfl) rfl (Yd.move rfl) ?_
    refine WA.y (i := 1) (NoPanic.block (NoPanic.then (NoPanic.then (NoPanic.block (NoPanic.then (NoPanic.body)))))) rfl (by kernel_rfl) (by kernel_rfl) (by kernel_rfl) rfl (Yd.move rfl) ?_
    refine WA.y (i := 2) (NoPanic.block (NoPanic.then (NoPanic.then (NoPanic.block (NoPanic.then (NoPanic.body)))))) rfl (by kernel_rfl) (by kernel_rfl) (by kernel_rfl) rfl (Yd.indexAddr (e := 3) (s := 1) (by kernel_rfl) (by kernel_rfl) rfl rfl (by omega) (by omega)) ?_
    refine WA.y (i := 4) (NoPanic.block (NoPanic.then (NoPanic.then (NoPanic.block (NoPanic.then (NoPanic.body)))))) rfl (by kernel_rfl) (by kernel_rfl) (by kernel_rfl) rfl (Yd.move rfl) ?_
    refine WA.y (i := 5) (NoPanic.block (NoPanic.then (NoPanic.then (NoPanic.block (NoPanic.then (NoPanic.body)))))) rfl (by kernel_rfl) (by kernel_rfl) (by kernel_rfl) rfl (Yd.move rfl) ?_
    refine WA.y (i := 6) (NoPanic.block (NoPanic.then (NoPanic.then (NoPanic.block (NoPanic.then (NoPanic.body)))))) rfl (by kernel_rfl) (by kernel_rfl) (by kernel_rfl) rfl (Yd.indexAddr (e := 3) (s := 1) (by kernel_rfl) (by kernel_rfl) rfl rfl (by omega) (by omega)) ?_
    refine WA.two (i := 3) (j := 7) (by kernel_rfl) ?_ ?_
    · refine WO.h rfl Wt.none rfl (Hd.load1 (b := b3) (cs := tc) (by kernel_rfl) rfl (List.mem_cons_of_mem _ List.mem_cons_self) (by simpa using tc_get k h9) ⟨_, rfl, ?_⟩)
      refine WA.one (i := 7) (by kernel_rfl) ?_
      refine WO.h rfl Wt.none rfl (Hd.load1 (b := b3) (cs := tc) (by kernel_rfl) rfl (List.mem_cons_of_mem _ List.mem_cons_self) (by simpa using tc_get k h9) ⟨_, rfl, ?_⟩)
      refine WA.y (i := 8) (NoPanic.block (NoPanic.then (NoPanic.then (NoPanic.block (NoPanic.then (NoPanic.body)))))) rfl (by kernel_rfl) (by kernel_rfl) (by kernel_rfl) rfl (Yd.indexArr (n := 32) (e := 4) (s := 1) (by kernel_rfl) (by kernel_rfl) rfl rfl (by omega) (by omega)) ?_
      refine WA.one (i := 9) (by kernel_rfl) ?_
      refine WO.h rfl Wt.none rfl (Hd.load1 (b := b) (cs := boc (turnK r k)) (by kernel_rfl) rfl List.mem_cons_self (by simpa using boc_getD (l := turnK r k) (i := tap k) (by rw [turnK_length, hr]; exact taps_lt k)) ⟨_, rfl, ?_⟩)
      refine WA.y (i := 10) (NoPanic.block (NoPanic.then (NoPanic.then (NoPanic.block (NoPanic.then (NoPanic.body)))))) rfl (by kernel_rfl) (by kernel_rfl) (by kernel_rfl) rfl (Yd.notB rfl) ?_
      refine WA.y (i := 11) (NoPanic.block (NoPanic.then (NoPanic.then (NoPanic.block (NoPanic.then (NoPanic.body)))))) rfl (by kernel_rfl) (by kernel_rfl) (by kernel_rfl) rfl (Yd.indexArr (n := 32) (e := 4) (s := 1) (by kernel_rfl) (by kernel_rfl) rfl rfl (by omega) (by omega)) ?_
      refine WA.one (i := 12) (by kernel_rfl) ?_
      refine WO.s rfl Wt.none (Hd.store1 (b := b) (cs := boc (turnK r k)) (T' := 64) (D := row b3 tc 3 :: row b2 (boc (ones 0)) 64 :: H) (by kernel_rfl) rfl rfl rfl (List.Perm.refl _) (by rw [boc_length, turnK_length, hr]; omega) ⟨rfl, ?_⟩)
      refine WA.done (by kernel_rfl) ?_
      refine DN.block_normal ?_
      refine DN.then_normal ?_
      refine WC.region ?_
      refine WL.y rfl (Yd.move rfl) ?_
      refine WL.y rfl (Yd.add rfl rfl (by omega) (by omega)) ?_
      refine WL.y rfl (Yd.assign rfl) ?_
      refine WL.nil ?_
      refine DN.again (k + 1) (by omega) (by omega) ⟨rfl, rfl, rfl, rfl, trivial⟩ ?_
      rw [← turnK_next r k h9, ← boc_set]
      simp
    · refine WO.h rfl Wt.none rfl (Hd.load1 (b := b3) (cs := tc) (by kernel_rfl) rfl (List.mem_cons_of_mem _ List.mem_cons_self) (by simpa using tc_get k h9) ⟨_, rfl, ?_⟩)
      refine WA.y (i := 8) (NoPanic.block (NoPanic.then (NoPanic.then (NoPanic.block (NoPanic.then (NoPanic.body)))))) rfl (by kernel_rfl) (by kernel_rfl) (by kernel_rfl) rfl (Yd.indexArr (n := 32) (e := 4) (s := 1) (by kernel_rfl) (by kernel_rfl) rfl rfl (by omega) (by omega)) ?_
      refine WA.two (i := 3) (j := 9) (by kernel_rfl) ?_ ?_
      · refine WO.h rfl Wt.none rfl (Hd.load1 (b := b3) (cs := tc) (by kernel_rfl) rfl (List.mem_cons_of_mem _ List.mem_cons_self) (by simpa using tc_get k h9) ⟨_, rfl, ?_⟩)
        refine WA.one (i := 9) (by kernel_rfl) ?_
        refine WO.h rfl Wt.none rfl (Hd.load1 (b := b) (cs := boc (turnK r k)) (by kernel_rfl) rfl List.mem_cons_self (by simpa using boc_getD (l := turnK r k) (i := tap k) (by rw [turnK_length, hr]; exact taps_lt k)) ⟨_, rfl, ?_⟩)
        refine WA.y (i := 10) (NoPanic.block (NoPanic.then (NoPanic.then (NoPanic.block (NoPanic.then (NoPanic.body)))))) rfl (by kernel_rfl) (by kernel_rfl) (by kernel_rfl) rfl (Yd.notB rfl) ?_
        refine WA.y (i := 11) (NoPanic.block (NoPanic.then (NoPanic.then (NoPanic.block (NoPanic.then (NoPanic.body)))))) rfl (by kernel_rfl) (by kernel_rfl) (by kernel_rfl) rfl (Yd.indexArr (n := 32) (e := 4) (s := 1) (by kernel_rfl) (by kernel_rfl) rfl rfl (by omega) (by omega)) ?_
        refine WA.one (i := 12) (by kernel_rfl) ?_
        refine WO.s rfl Wt.none (Hd.store1 (b := b) (cs := boc (turnK r k)) (T' := 64) (D := row b3 tc 3 :: row b2 (boc (ones 0)) 64 :: H) (by kernel_rfl) rfl rfl rfl (List.Perm.refl _) (by rw [boc_length, turnK_length, hr]; omega) ⟨rfl, ?_⟩)
        refine WA.done (by kernel_rfl) ?_
        refine DN.block_normal ?_
        refine DN.then_normal ?_
        refine WC.region ?_
        refine WL.y rfl (Yd.move rfl) ?_
        refine WL.y rfl (Yd.add rfl rfl (by omega) (by omega)) ?_
        refine WL.y rfl (Yd.assign rfl) ?_
        refine WL.nil ?_
        refine DN.again (k + 1) (by omega) (by omega) ⟨rfl, rfl, rfl, rfl, trivial⟩ ?_
        rw [← turnK_next r k h9, ← boc_set]
        simp
      · refine WO.h rfl Wt.none rfl (Hd.load1 (b := b) (cs := boc (turnK r k)) (by kernel_rfl) rfl List.mem_cons_self (by simpa using boc_getD (l := turnK r k) (i := tap k) (by rw [turnK_length, hr]; exact taps_lt k)) ⟨_, rfl, ?_⟩)
        refine WA.y (i := 10) (NoPanic.block (NoPanic.then (NoPanic.then (NoPanic.block (NoPanic.then (NoPanic.body)))))) rfl (by kernel_rfl) (by kernel_rfl) (by kernel_rfl) rfl (Yd.notB rfl) ?_
        refine WA.one (i := 3) (by kernel_rfl) ?_
        refine WO.h rfl Wt.none rfl (Hd.load1 (b := b3) (cs := tc) (by kernel_rfl) rfl (List.mem_cons_of_mem _ List.mem_cons_self) (by simpa using tc_get k h9) ⟨_, rfl, ?_⟩)
        refine WA.y (i := 11) (NoPanic.block (NoPanic.then (NoPanic.then (NoPanic.block (NoPanic.then (NoPanic.body)))))) rfl (by kernel_rfl) (by kernel_rfl) (by kernel_rfl) rfl (Yd.indexArr (n := 32) (e := 4) (s := 1) (by kernel_rfl) (by kernel_rfl) rfl rfl (by omega) (by omega)) ?_
        refine WA.one (i := 12) (by kernel_rfl) ?_
        refine WO.s rfl Wt.none (Hd.store1 (b := b) (cs := boc (turnK r k)) (T' := 64) (D := row b3 tc 3 :: row b2 (boc (ones 0)) 64 :: H) (by kernel_rfl) rfl rfl rfl (List.Perm.refl _) (by rw [boc_length, turnK_length, hr]; omega) ⟨rfl, ?_⟩)
        refine WA.done (by kernel_rfl) ?_
        refine DN.block_normal ?_
        refine DN.then_normal ?_
        refine WC.region ?_
        refine WL.y rfl (Yd.move rfl) ?_
        refine WL.y rfl (Yd.add rfl rfl (by omega) (by omega)) ?_
        refine WL.y rfl (Yd.assign rfl) ?_
        refine WL.nil ?_
        refine DN.again (k + 1) (by omega) (by omega) ⟨rfl, rfl, rfl, rfl, trivial⟩ ?_
        rw [← turnK_next r k h9, ← boc_set]
        simp
  · have hk14 : k = 14 := by omega
    subst hk14
    refine WC.exit ?_
    refine DN.then_exit ?_
    refine DN.then_exit ?_
    refine DN.block_exit ?_
    refine DN.then_normal ?_
    refine WC.seq ?_
    refine WC.region ?_
    refine WL.h rfl (Hd.loadA (n := 32) (b := b) (cs := boc (turnK r 14)) (vs := boc (turnK r 14)) (by kernel_rfl) rfl List.mem_cons_self (by rw [boc_length, turnK_length, hr]) (take_boc (by rw [turnK_length, hr])) ⟨_, rfl, ?_⟩)
    refine WL.s (Hd.storeN (n := 32) (b := b2) (cs := boc (ones 0)) (T' := 64) (D := row b (boc (turnK r 14)) 64 :: row b3 tc 3 :: H) (by kernel_rfl) rfl rfl (by simp [Value.cells, boc_length, turnK_length, hr]) (by simpa [Value.cells] using boc_one _) (by (repeat' (first | exact List.Perm.refl _ | refine List.Perm.cons _ ?_ | refine (List.Perm.cons _ ?_).trans (List.perm_middle (l₁ := [_])).symm | refine (List.Perm.cons _ ?_).trans (List.perm_middle (l₁ := [_, _])).symm | refine (List.Perm.cons _ ?_).trans (List.perm_middle (l₁ := [_, _, _])).symm | refine (List.Perm.cons _ ?_).trans (List.perm_middle (l₁ := [_, _, _, _])).symm | refine (List.Perm.cons _ ?_).trans (List.perm_middle (l₁ := [_, _, _, _, _])).symm))) (by simp [boc_length, ones_length]) ⟨rfl, ?_⟩)
    refine WL.nil ?_
    refine DN.then_normal ?_
    refine WC.ret ?_
    refine DN.retCF (cs := boc (turnAll r)) (b := b2) H Try.results40 (by kernel_rfl) rfl (by rw [splice_boc (ones_length 0) (by rw [turnK_length, hr]), turnK_all]; exact List.mem_cons_self) (by rw [boc_length, turnAll_length, hr]) (by (repeat (first | exact List.Sublist.refl _ | exact List.nil_sublist _ | apply List.Sublist.cons_cons | apply List.Sublist.cons | apply List.sublist_append_of_sublist_right))) ?_
    exact ⟨rfl, rfl⟩


set_option maxHeartbeats 2000000
theorem ofInt_nat (k : Nat) : BitVec.ofInt 64 (k : Int) = BitVec.ofNat 64 k := by simp
theorem ofNat_toNat {k : Nat} (h : k < 18446744073709551616) : (BitVec.ofNat 64 k).toNat = k := by simp; omega
theorem shift_all (x : B32) : x >>> 32 = 0#32 := by
  apply BitVec.eq_of_getLsbD_eq
  intro i hi
  simp [BitVec.getLsbD_ushiftRight, BitVec.getLsbD_of_ge x (32 + i) (by omega)]


/-- drayage/drayageref02.Of -/
theorem of2_reads (v : Value) (bs : List B8) (H : List Ck) (hv : Bs v bs H) (hl : bs.length ≤ 1000000) : Reads Try.prog 20 [v] H (.int .u32 (crcOf bs).toNat) := by
  refine Tells.enter Try.func20 rfl Try.ntmps20 rfl ?_
  intro w0 R
  obtain ⟨ao, c, rfl, hc⟩ := Bs.form hv
  refine WC.seq ?_
  refine WC.region ?_
  refine WL.y rfl (Yd.assign (v := .int .u32 ((0#32).toNat : Int)) rfl) ?_
  refine WL.nil ?_
  refine DN.then_normal ?_
  refine WC.seq ?_
  refine WC.region ?_
  refine WL.y rfl (Yd.assign rfl) ?_
  refine WL.nil ?_
  refine DN.then_normal ?_
  refine WC.seq ?_
  refine WC.seq ?_
  refine WC.region ?_
  refine WL.y rfl (Yd.assign rfl) ?_
  refine WL.nil ?_
  refine DN.then_normal ?_
  refine WC.block ?_
  refine WC.loop (fun z : Nat × Value × List Ck => z.1 ≤ bs.length ∧ Own z.2.1 (8 * z.1) (boc (bitsOf (bs.take z.1))) 4 1 z.2.2) (fun z => [(0, .slice ao bs.length c), (3, z.2.1), (4, .int .i64 z.1)]) (fun z => z.2.2 ++ H) (fun z => bs.length - z.1) (0, .slice none 0 0, []) ⟨Nat.zero_le _, Own.nil _ _⟩ ⟨rfl, rfl, rfl, trivial⟩ (List.Perm.refl _) ?_
  rintro ⟨i, v3, C⟩ ⟨hi, ho⟩
  simp only at hi ho
  refine WC.seq ?_
  refine WC.seq ?_
  refine WC.region ?_
  refine WL.y rfl (Yd.move rfl) ?_
  refine WL.y rfl (Yd.move rfl) ?_
  refine WL.y rfl (Yd.len (e := 5) (by kernel_rfl) rfl) ?_
  refine WL.y rfl (Yd.lss rfl rfl) ?_
  refine WL.nil ?_
  refine DN.then_normal ?_
  refine WC.ite rfl (fun h16 => ?_) (fun h16 => ?_)
  · have h16 : i < bs.length := by omega
    refine WC.skip ?_
    refine DN.then_normal ?_
    refine WC.seq ?_
    refine WC.block ?_
    refine WC.seq ?_
    refine WC.region ?_
    refine WL.y rfl (Yd.assign rfl) ?_
    refine WL.nil ?_
    refine DN.then_normal ?_
    refine WC.block ?_
    refine WC.loop (fun z : Nat × Value × List Ck => z.1 ≤ 8 ∧ Own z.2.1 (8 * i + z.1) (boc (bitsOf (bs.take i) ++ bits8 bs[i] z.1)) 4 1 z.2.2) (fun z => [(0, .slice ao bs.length c), (3, z.2.1), (4, .int .i64 i), (5, .int .i64 z.1)]) (fun z => z.2.2 ++ H) (fun z => 8 - z.1) (0, v3, C) ⟨Nat.zero_le _, by simpa [Go.Sum.bits8] using ho⟩ ⟨rfl, rfl, rfl, rfl, trivial⟩ (List.Perm.refl _) ?_
    rintro ⟨k, v4, C4⟩ ⟨hk, ho4⟩
    simp only at hk ho4
    refine WC.seq ?_
    refine WC.seq ?_
    refine WC.region ?_
    refine WL.y rfl (Yd.move rfl) ?_
    refine WL.y rfl (Yd.lss rfl rfl) ?_
    refine WL.nil ?_
    refine DN.then_normal ?_
    refine WC.ite rfl (fun h20 => ?_) (fun h20 => ?_)
    · have h20 : k < 8 := by omega
      refine WC.skip ?_
      refine DN.then_normal ?_
      refine WC.seq ?_
      refine WC.block ?_
      refine WC.region ?_
      refine WL.y rfl (Yd.move rfl) ?_
      refine WL.y rfl (Yd.move rfl) ?_
      refine WL.y rfl (Yd.move rfl) ?_
      refine WL.elem (e := 5) (by kernel_rfl) (by kernel_rfl) (by kernel_rfl) rfl rfl (rfl) (hv.mono fun x hx => List.mem_append_right _ hx) (bc_get h16) (h16) rfl rfl ?_
      intro _
      refine WL.y rfl (Yd.move rfl) ?_
      refine WL.y rfl (Yd.to64 (BitVec.ofNat 64 k) (by kernel_rfl) (by kernel_rfl) rfl (ofInt_nat k)) ?_
      refine WL.y rfl (Yd.shr8 _ k rfl rfl rfl (by rw [ofNat_toNat (by omega)])) ?_
      refine WL.y rfl (Yd.rem8 _ (2#8) rfl rfl rfl rfl (by decide)) ?_
      refine WL.y rfl (Yd.eql8 _ (1#8) rfl rfl rfl rfl) ?_
      refine WL.h rfl (Hd.build1 (e := 4) (z := .bool false) (by kernel_rfl) (by kernel_rfl) (by kernel_rfl) rfl rfl fun b => ⟨_, rfl, ?_⟩)
      refine WL.h rfl (Hd.append (e := 4) (sz := 1) (bytes := 1) (zs := [.bool false]) (C := C4) (D := row b (boc [decide ((bs[i] >>> k) % 2#8 = 1#8)]) 4 :: H) (m := 1) (news := boc [decide ((bs[i] >>> k) % 2#8 = 1#8)]) (by kernel_rfl) (by kernel_rfl) rfl (by omega) rfl rfl ho4 (.inr ⟨b, 0, 1, boc [decide ((bs[i] >>> k) % 2#8 = 1#8)], 4, (0, 0), true, rfl, by omega, List.mem_append_right _ List.mem_cons_self, rfl⟩) rfl (boc_one _) (by simp only [maxLen]; omega) (by omega) List.perm_middle.symm fun v5 C5 ho5 _ => ⟨_, rfl, ?_⟩)
      refine WL.y rfl (Yd.assign rfl) ?_
      refine WL.nil ?_
      refine DN.block_normal ?_
      refine DN.then_normal ?_
      refine WC.region ?_
      refine WL.y rfl (Yd.move rfl) ?_
      refine WL.y rfl (Yd.add rfl rfl (by omega) (by omega)) ?_
      refine WL.y rfl (Yd.assign rfl) ?_
      refine WL.nil ?_
      refine DN.forget (C5 ++ H) (List.Sublist.append (List.Sublist.refl _) (List.sublist_cons_self _ _)) ?_
      refine DN.again (k + 1, v5, C5) ⟨by show k + 1 ≤ 8; omega, by rw [bits8_succ, ← List.append_assoc, boc_append]; exact ho5⟩ (by show 8 - (k + 1) < 8 - k; omega) ⟨rfl, rfl, rfl, rfl, trivial⟩ (List.Perm.refl _)
    · have hk8 : k = 8 := by omega
      subst hk8
      refine WC.exit ?_
      refine DN.then_exit ?_
      refine DN.then_exit ?_
      refine DN.block_exit ?_
      refine DN.block_normal ?_
      refine DN.then_normal ?_
      refine WC.region ?_
      refine WL.y rfl (Yd.move rfl) ?_
      refine WL.y rfl (Yd.add rfl rfl (by omega) (by omega)) ?_
      refine WL.y rfl (Yd.assign rfl) ?_
      refine WL.nil ?_
      refine DN.again (i + 1, v4, C4) ⟨by show i + 1 ≤ bs.length; omega, by rw [bitsOf_take_succ _ _ h16]; exact ho4⟩ (by show bs.length - (i + 1) < bs.length - i; omega) ⟨rfl, rfl, rfl, trivial⟩ (List.Perm.refl _)
  · have hib : i = bs.length := by omega
    subst hib
    refine WC.exit ?_
    refine DN.then_exit ?_
    refine DN.then_exit ?_
    refine DN.block_exit ?_
    refine DN.then_normal ?_
    refine WC.seq ?_
    refine WC.region ?_
    refine WL.h rfl (Hd.alloc (zs := boc (ones 0)) (by kernel_rfl) fun b6 => ⟨_, rfl, ?_⟩)
    refine WL.nil ?_
    refine DN.then_normal ?_
    refine WC.seq ?_
    refine WC.seq ?_
    refine WC.region ?_
    refine WL.y rfl (Yd.assign rfl) ?_
    refine WL.nil ?_
    refine DN.then_normal ?_
    refine WC.block ?_
    refine WC.loop (fun i : Nat => i ≤ 32) (fun i => [(3, v3), (6, .pointer (some ⟨b6, 0, none⟩)), (7, .int .i64 i)]) (fun i => row b6 (boc (ones i)) 64 :: (C ++ H)) (fun i => 32 - i) 0 (Nat.zero_le _) ⟨rfl, rfl, rfl, trivial⟩ (List.Perm.refl _) ?_
    intro j hj
    refine WC.seq ?_
    refine WC.seq ?_
    refine WC.region ?_
    refine WL.y rfl (Yd.move rfl) ?_
    refine WL.y rfl (Yd.lss rfl rfl) ?_
    refine WL.nil ?_
    refine DN.then_normal ?_
    refine WC.ite rfl (fun h36 => ?_) (fun h36 => ?_)
    · have h36 : j < 32 := by omega
      refine WC.skip ?_
      refine DN.then_normal ?_
      refine WC.seq ?_
      refine WC.block ?_
      refine WC.region ?_
      refine WL.y rfl (Yd.move rfl) ?_
      refine WL.y rfl (Yd.indexArr (n := 32) (e := 4) (s := 1) (by kernel_rfl) (by kernel_rfl) rfl rfl (by omega) (by omega)) ?_
      refine WL.s (Hd.store1 (b := b6) (cs := boc (ones j)) (T' := 64) (D := C ++ H) (by kernel_rfl) rfl rfl rfl (List.Perm.refl _) (by simp [boc_length, ones_length]; omega) ⟨rfl, ?_⟩)
      refine WL.nil ?_
      refine DN.block_normal ?_
      refine DN.then_normal ?_
      refine WC.region ?_
      refine WL.y rfl (Yd.move rfl) ?_
      refine WL.y rfl (Yd.add rfl rfl (by omega) (by omega)) ?_
      refine WL.y rfl (Yd.assign rfl) ?_
      refine WL.nil ?_
      refine DN.again (j + 1) (by omega) (by omega) ⟨rfl, rfl, rfl, trivial⟩ ?_
      rw [← ones_set j h36, ← boc_set]
      simp
    · have hj32 : j = 32 := by omega
      subst hj32
      refine WC.exit ?_
      refine DN.then_exit ?_
      refine DN.then_exit ?_
      refine DN.block_exit ?_
      refine DN.then_normal ?_
      refine WC.seq ?_
      refine WC.seq ?_
      refine WC.region ?_
      refine WL.y rfl (Yd.assign rfl) ?_
      refine WL.nil ?_
      refine DN.then_normal ?_
      refine WC.block ?_
      obtain ⟨l, hl1⟩ : ∃ l, l = bitsOf bs := ⟨_, rfl⟩
      rw [List.take_length, ← hl1] at ho
      have hll : l.length = 8 * bs.length := by rw [hl1, bitsOf_length]
      rw [ones_all]
      obtain ⟨ao3, c3, rfl, hc3⟩ := ho.form
      refine WC.loop (fun i : Nat => i ≤ 8 * bs.length) (fun i => [(3, .slice ao3 (8 * bs.length) c3), (6, .pointer (some ⟨b6, 0, none⟩)), (8, .int .i64 i)]) (fun i => row b6 (boc (reg (List.replicate 32 true) (l.take i))) 64 :: (C ++ H)) (fun i => 8 * bs.length - i) 0 (Nat.zero_le _) ⟨rfl, rfl, rfl, trivial⟩ (List.Perm.refl _) ?_
      intro i hi
      obtain ⟨r, hr⟩ : ∃ r, r = reg (List.replicate 32 true) (l.take i) := ⟨_, rfl⟩
      have hrl : r.length = 32 := by rw [hr]; exact reg_length _ _ (by simp)
      rw [← hr]
      refine WC.seq ?_
      refine WC.seq ?_
      refine WC.region ?_
      refine WL.y rfl (Yd.move rfl) ?_
      refine WL.y rfl (Yd.move rfl) ?_
      refine WL.y rfl (Yd.len (e := 4) (by kernel_rfl) rfl) ?_
      refine WL.y rfl (Yd.lss rfl rfl) ?_
      refine WL.nil ?_
      refine DN.then_normal ?_
      refine WC.ite rfl (fun h44 => ?_) (fun h44 => ?_)
      · rcases ho with ⟨_, h0, _⟩ | ⟨b3, cap3, extra, he3, hc4, hc5, hx5, hx6, rfl⟩
        · omega
        cases he3
        refine WC.skip ?_
        refine DN.then_normal ?_
        refine WC.seq ?_
        refine WC.block ?_
        refine WC.seq ?_
        refine WC.draw 8 (by kernel_rfl) rfl ?_
        refine WA.y (i := 0) (NoPanic.then (NoPanic.block (NoPanic.then (NoPanic.then (NoPanic.block (NoPanic.then (NoPanic.body))))))) rfl (by kernel_rfl) (by kernel_rfl) (by kernel_rfl) rfl (Yd.indexArr (n := 32) (e := 4) (s := 1) (by kernel_rfl) (by kernel_rfl) rfl rfl (by omega) (by omega)) ?_
        refine WA.y (i := 2) (NoPanic.then (NoPanic.block (NoPanic.then (NoPanic.then (NoPanic.block (NoPanic.then (NoPanic.body))))))) rfl (by kernel_rfl) (by kernel_rfl) (by kernel_rfl) rfl (Yd.move rfl) ?_
        refine WA.y (i := 3) (NoPanic.then (NoPanic.block (NoPanic.then (NoPanic.then (NoPanic.block (NoPanic.then (NoPanic.body))))))) rfl (by kernel_rfl) (by kernel_rfl) (by kernel_rfl) rfl (Yd.move rfl) ?_
        refine WA.y (i := 4) (NoPanic.then (NoPanic.block (NoPanic.then (NoPanic.then (NoPanic.block (NoPanic.then (NoPanic.body))))))) rfl (by kernel_rfl) (by kernel_rfl) (by kernel_rfl) rfl (Yd.indexAddr (e := 4) (s := 1) (by kernel_rfl) (by kernel_rfl) rfl rfl (by omega) (by omega)) ?_
        refine WA.two (i := 1) (j := 5) (by kernel_rfl) ?_ ?_
        · refine WO.h rfl Wt.none rfl (Hd.load1 (b := b6) (cs := boc r) (by kernel_rfl) rfl List.mem_cons_self (boc_getD (l := r) (i := 0) (by omega)) ⟨_, rfl, ?_⟩)
          refine WA.one (i := 5) (by kernel_rfl) ?_
          refine WO.h rfl Wt.none rfl (Hd.load1 (b := b3) (cs := boc l ++ extra) (by kernel_rfl) rfl (List.mem_cons_of_mem _ List.mem_cons_self) (by rw [List.getElem?_append_left (by simp [boc_length]; omega)]; simpa using boc_getD (l := l) (i := i) (by omega)) ⟨_, rfl, ?_⟩)
          refine WA.y (i := 6) (NoPanic.then (NoPanic.block (NoPanic.then (NoPanic.then (NoPanic.block (NoPanic.then (NoPanic.body))))))) rfl (by kernel_rfl) (by kernel_rfl) (by kernel_rfl) rfl (Yd.neqB Try.underlying4 rfl rfl) ?_
          refine WA.y (i := 7) (NoPanic.then (NoPanic.block (NoPanic.then (NoPanic.then (NoPanic.block (NoPanic.then (NoPanic.body))))))) rfl (by kernel_rfl) (by kernel_rfl) (by kernel_rfl) rfl (Yd.assign rfl) ?_
          refine WA.done (by kernel_rfl) ?_
          refine DN.then_normal ?_
          refine WC.seq ?_
          refine WC.seq ?_
          refine WC.region ?_
          refine WL.y rfl (Yd.assign rfl) ?_
          refine WL.nil ?_
          refine DN.then_normal ?_
          refine WC.block ?_
          refine WC.loop (fun k : Nat => k ≤ 31) (fun k => [(3, .slice (some ⟨b3, 0, none⟩) (8 * bs.length) c3), (6, .pointer (some ⟨b6, 0, none⟩)), (8, .int .i64 i), (9, .bool (!(r.getD 0 false == l.getD i false))), (10, .int .i64 k)]) (fun k => row b6 (boc (shK r k)) 64 :: row b3 (boc l ++ extra) 4 :: H) (fun k => 31 - k) 0 (Nat.zero_le _) ⟨rfl, rfl, rfl, rfl, rfl, trivial⟩ (by rw [shK_zero hrl]; exact List.Perm.refl _) ?_
          intro k hk
          refine WC.seq ?_
          refine WC.seq ?_
          refine WC.region ?_
          refine WL.y rfl (Yd.move rfl) ?_
          refine WL.y rfl (Yd.lss rfl rfl) ?_
          refine WL.nil ?_
          refine DN.then_normal ?_
          refine WC.ite rfl (fun h55 => ?_) (fun h55 => ?_)
          · have h55 : k < 31 := by omega
            refine WC.skip ?_
            refine DN.then_normal ?_
            refine WC.seq ?_
            refine WC.block ?_
            refine WC.region ?_
            refine WL.y rfl (Yd.move rfl) ?_
            refine WL.y rfl (Yd.move rfl) ?_
            refine WL.y rfl (Yd.add rfl rfl (by omega) (by omega)) ?_
            refine WL.y rfl (Yd.indexArr (n := 32) (e := 4) (s := 1) (by kernel_rfl) (by kernel_rfl) rfl rfl (by omega) (by omega)) ?_
            refine WL.h rfl (Hd.load1 (b := b6) (cs := boc (shK r k)) (v := .bool (r.getD (k + 1) false)) (by kernel_rfl) rfl List.mem_cons_self (by have := boc_getD (l := shK r k) (i := k + 1) (by rw [shK_length]; omega); rw [shK_get r k h55] at this; rwa [show 0 + ((k : Int) + 1).toNat * 1 = k + 1 by omega]) ⟨_, rfl, ?_⟩)
            refine WL.y rfl (Yd.indexArr (n := 32) (e := 4) (s := 1) (by kernel_rfl) (by kernel_rfl) rfl rfl (by omega) (by omega)) ?_
            refine WL.s (Hd.store1 (b := b6) (cs := boc (shK r k)) (T' := 64) (D := row b3 (boc l ++ extra) 4 :: H) (by kernel_rfl) rfl rfl rfl (List.Perm.refl _) (by simp [boc_length, shK_length]; omega) ⟨rfl, ?_⟩)
            refine WL.nil ?_
            refine DN.block_normal ?_
            refine DN.then_normal ?_
            refine WC.region ?_
            refine WL.y rfl (Yd.move rfl) ?_
            refine WL.y rfl (Yd.add rfl rfl (by omega) (by omega)) ?_
            refine WL.y rfl (Yd.assign rfl) ?_
            refine WL.nil ?_
            refine DN.again (k + 1) (by omega) (by omega) ⟨rfl, rfl, rfl, rfl, rfl, trivial⟩ ?_
            rw [← shK_succ r k h55, ← boc_set]
            simp
          · have hk31 : k = 31 := by omega
            subst hk31
            refine WC.exit ?_
            refine DN.then_exit ?_
            refine DN.then_exit ?_
            refine DN.block_exit ?_
            refine DN.then_normal ?_
            refine WC.seq ?_
            refine WC.region ?_
            refine WL.y rfl (Yd.indexArr (n := 32) (e := 4) (s := 1) (by kernel_rfl) (by kernel_rfl) rfl rfl (by omega) (by omega)) ?_
            refine WL.s (Hd.store1 (b := b6) (cs := boc (shK r 31)) (T' := 64) (D := row b3 (boc l ++ extra) 4 :: H) (by kernel_rfl) rfl rfl rfl (List.Perm.refl _) (by simp [boc_length, shK_length]) ⟨rfl, ?_⟩)
            refine WL.nil ?_
            refine DN.then_normal ?_
            refine WC.seq ?_
            refine WC.region ?_
            refine WL.y rfl (Yd.move rfl) ?_
            refine WL.nil ?_
            refine DN.then_normal ?_
            refine WC.cond rfl (fun h65 => ?_) (fun h65 => ?_)
            · refine WC.region ?_
              refine WL.h rfl (Hd.loadA (n := 32) (b := b6) (cs := boc (sh r)) (vs := boc (sh r)) (by kernel_rfl) rfl (by rw [sh_row]; exact List.mem_cons_self) (by simp [boc_length, sh, shK]) (take_boc (by simp [sh, shK])) ⟨_, rfl, ?_⟩)
              refine WL.r rfl (Ent.func Try.call40 rfl) (turn_reads (sh r) (by simp [sh, shK]) _) ?_
              refine WL.s (Hd.storeN (n := 32) (b := b6) (cs := boc (sh r)) (T' := 64) (D := row b3 (boc l ++ extra) 4 :: H) (by kernel_rfl) rfl rfl (by simp [Value.cells, boc_length, turnAll_length, sh, shK]) (by simpa [Value.cells] using boc_one _) (by rw [sh_row]) (by simp [boc_length, sh, shK]) ⟨rfl, ?_⟩)
              refine WL.nil ?_
              refine DN.block_normal ?_
              refine DN.then_normal ?_
              refine WC.region ?_
              refine WL.y rfl (Yd.move rfl) ?_
              refine WL.y rfl (Yd.add rfl rfl (by omega) (by omega)) ?_
              refine WL.y rfl (Yd.assign rfl) ?_
              refine WL.nil ?_
              refine DN.again (i + 1) (by omega) (by omega) ⟨rfl, rfl, rfl, trivial⟩ ?_
              rw [splice_boc (by simp [sh, shK]) (by rw [turnAll_length]; simp [sh, shK]), reg_next l i (by omega), ← hr, if_pos h65]
              exact List.Perm.refl _
            · refine WC.skip ?_
              refine DN.block_normal ?_
              refine DN.then_normal ?_
              refine WC.region ?_
              refine WL.y rfl (Yd.move rfl) ?_
              refine WL.y rfl (Yd.add rfl rfl (by omega) (by omega)) ?_
              refine WL.y rfl (Yd.assign rfl) ?_
              refine WL.nil ?_
              refine DN.again (i + 1) (by omega) (by omega) ⟨rfl, rfl, rfl, trivial⟩ ?_
              rw [reg_next l i (by omega), ← hr, if_neg (by rw [h65]; simp)]
              show List.Perm (row b6 ((boc (shK r 31)).set 31 (.bool false)) _ :: _) _
              rw [boc_set]
              exact List.Perm.refl _
        · refine WO.h rfl Wt.none rfl (Hd.load1 (b := b3) (cs := boc l ++ extra) (by kernel_rfl) rfl (List.mem_cons_of_mem _ List.mem_cons_self) (by rw [List.getElem?_append_left (by simp [boc_length]; omega)]; simpa using boc_getD (l := l) (i := i) (by omega)) ⟨_, rfl, ?_⟩)
          refine WA.one (i := 1) (by kernel_rfl) ?_
          refine WO.h rfl Wt.none rfl (Hd.load1 (b := b6) (cs := boc r) (by kernel_rfl) rfl List.mem_cons_self (boc_getD (l := r) (i := 0) (by omega)) ⟨_, rfl, ?_⟩)
          refine WA.y (i := 6) (NoPanic.then (NoPanic.block (NoPanic.then (NoPanic.then (NoPanic.block (NoPanic.then (NoPanic.body))))))) rfl (by kernel_rfl) (by kernel_rfl) (by kernel_rfl) rfl (Yd.neqB Try.underlying4 rfl rfl) ?_
          refine WA.y (i := 7) (NoPanic.then (NoPanic.block (NoPanic.then (NoPanic.then (NoPanic.block (NoPanic.then (NoPanic.body))))))) rfl (by kernel_rfl) (by kernel_rfl) (by kernel_rfl) rfl (Yd.assign rfl) ?_
          refine WA.done (by kernel_rfl) ?_
          refine DN.then_normal ?_
          refine WC.seq ?_
          refine WC.seq ?_
          refine WC.region ?_
          refine WL.y rfl (Yd.assign rfl) ?_
          refine WL.nil ?_
          refine DN.then_normal ?_
          refine WC.block ?_
          refine WC.loop (fun k : Nat => k ≤ 31) (fun k => [(3, .slice (some ⟨b3, 0, none⟩) (8 * bs.length) c3), (6, .pointer (some ⟨b6, 0, none⟩)), (8, .int .i64 i), (9, .bool (!(r.getD 0 false == l.getD i false))), (10, .int .i64 k)]) (fun k => row b6 (boc (shK r k)) 64 :: row b3 (boc l ++ extra) 4 :: H) (fun k => 31 - k) 0 (Nat.zero_le _) ⟨rfl, rfl, rfl, rfl, rfl, trivial⟩ (by rw [shK_zero hrl]; exact List.Perm.refl _) ?_
          intro k hk
          refine WC.seq ?_
          refine WC.seq ?_
          refine WC.region ?_
          refine WL.y rfl (Yd.move rfl) ?_
          refine WL.y rfl (Yd.lss rfl rfl) ?_
          refine WL.nil ?_
          refine DN.then_normal ?_
          refine WC.ite rfl (fun h55 => ?_) (fun h55 => ?_)
          · have h55 : k < 31 := by omega
            refine WC.skip ?_
            refine DN.then_normal ?_
            refine WC.seq ?_
            refine WC.block ?_
            refine WC.region ?_
            refine WL.y rfl (Yd.move rfl) ?_
            refine WL.y rfl (Yd.move rfl) ?_
            refine WL.y rfl (Yd.add rfl rfl (by omega) (by omega)) ?_
            refine WL.y rfl (Yd.indexArr (n := 32) (e := 4) (s := 1) (by kernel_rfl) (by kernel_rfl) rfl rfl (by omega) (by omega)) ?_
            refine WL.h rfl (Hd.load1 (b := b6) (cs := boc (shK r k)) (v := .bool (r.getD (k + 1) false)) (by kernel_rfl) rfl List.mem_cons_self (by have := boc_getD (l := shK r k) (i := k + 1) (by rw [shK_length]; omega); rw [shK_get r k h55] at this; rwa [show 0 + ((k : Int) + 1).toNat * 1 = k + 1 by omega]) ⟨_, rfl, ?_⟩)
            refine WL.y rfl (Yd.indexArr (n := 32) (e := 4) (s := 1) (by kernel_rfl) (by kernel_rfl) rfl rfl (by omega) (by omega)) ?_
            refine WL.s (Hd.store1 (b := b6) (cs := boc (shK r k)) (T' := 64) (D := row b3 (boc l ++ extra) 4 :: H) (by kernel_rfl) rfl rfl rfl (List.Perm.refl _) (by simp [boc_length, shK_length]; omega) ⟨rfl, ?_⟩)
            refine WL.nil ?_
            refine DN.block_normal ?_
            refine DN.then_normal ?_
            refine WC.region ?_
            refine WL.y rfl (Yd.move rfl) ?_
            refine WL.y rfl (Yd.add rfl rfl (by omega) (by omega)) ?_
            refine WL.y rfl (Yd.assign rfl) ?_
            refine WL.nil ?_
            refine DN.again (k + 1) (by omega) (by omega) ⟨rfl, rfl, rfl, rfl, rfl, trivial⟩ ?_
            rw [← shK_succ r k h55, ← boc_set]
            simp
          · have hk31 : k = 31 := by omega
            subst hk31
            refine WC.exit ?_
            refine DN.then_exit ?_
            refine DN.then_exit ?_
            refine DN.block_exit ?_
            refine DN.then_normal ?_
            refine WC.seq ?_
            refine WC.region ?_
            refine WL.y rfl (Yd.indexArr (n := 32) (e := 4) (s := 1) (by kernel_rfl) (by kernel_rfl) rfl rfl (by omega) (by omega)) ?_
            refine WL.s (Hd.store1 (b := b6) (cs := boc (shK r 31)) (T' := 64) (D := row b3 (boc l ++ extra) 4 :: H) (by kernel_rfl) rfl rfl rfl (List.Perm.refl _) (by simp [boc_length, shK_length]) ⟨rfl, ?_⟩)
            refine WL.nil ?_
            refine DN.then_normal ?_
            refine WC.seq ?_
            refine WC.region ?_
            refine WL.y rfl (Yd.move rfl) ?_
            refine WL.nil ?_
            refine DN.then_normal ?_
            refine WC.cond rfl (fun h65 => ?_) (fun h65 => ?_)
            · refine WC.region ?_
              refine WL.h rfl (Hd.loadA (n := 32) (b := b6) (cs := boc (sh r)) (vs := boc (sh r)) (by kernel_rfl) rfl (by rw [sh_row]; exact List.mem_cons_self) (by simp [boc_length, sh, shK]) (take_boc (by simp [sh, shK])) ⟨_, rfl, ?_⟩)
              refine WL.r rfl (Ent.func Try.call40 rfl) (turn_reads (sh r) (by simp [sh, shK]) _) ?_
              refine WL.s (Hd.storeN (n := 32) (b := b6) (cs := boc (sh r)) (T' := 64) (D := row b3 (boc l ++ extra) 4 :: H) (by kernel_rfl) rfl rfl (by simp [Value.cells, boc_length, turnAll_length, sh, shK]) (by simpa [Value.cells] using boc_one _) (by rw [sh_row]) (by simp [boc_length, sh, shK]) ⟨rfl, ?_⟩)
              refine WL.nil ?_
              refine DN.block_normal ?_
              refine DN.then_normal ?_
              refine WC.region ?_
              refine WL.y rfl (Yd.move rfl) ?_
              refine WL.y rfl (Yd.add rfl rfl (by omega) (by omega)) ?_
              refine WL.y rfl (Yd.assign rfl) ?_
              refine WL.nil ?_
              refine DN.again (i + 1) (by omega) (by omega) ⟨rfl, rfl, rfl, trivial⟩ ?_
              rw [splice_boc (by simp [sh, shK]) (by rw [turnAll_length]; simp [sh, shK]), reg_next l i (by omega), ← hr, if_pos h65]
              exact List.Perm.refl _
            · refine WC.skip ?_
              refine DN.block_normal ?_
              refine DN.then_normal ?_
              refine WC.region ?_
              refine WL.y rfl (Yd.move rfl) ?_
              refine WL.y rfl (Yd.add rfl rfl (by omega) (by omega)) ?_
              refine WL.y rfl (Yd.assign rfl) ?_
              refine WL.nil ?_
              refine DN.again (i + 1) (by omega) (by omega) ⟨rfl, rfl, rfl, trivial⟩ ?_
              rw [reg_next l i (by omega), ← hr, if_neg (by rw [h65]; simp)]
              show List.Perm (row b6 ((boc (shK r 31)).set 31 (.bool false)) _ :: _) _
              rw [boc_set]
              exact List.Perm.refl _
      · have hi8 : i = 8 * bs.length := by omega
        subst hi8
        refine WC.exit ?_
        refine DN.then_exit ?_
        refine DN.then_exit ?_
        refine DN.block_exit ?_
        refine DN.then_normal ?_
        refine WC.seq ?_
        refine WC.region ?_
        refine WL.y rfl (Yd.assign (v := .int .u32 ((0#32).toNat : Int)) rfl) ?_
        refine WL.nil ?_
        refine DN.then_normal ?_
        refine WC.seq ?_
        refine WC.seq ?_
        refine WC.region ?_
        refine WL.y rfl (Yd.assign rfl) ?_
        refine WL.nil ?_
        refine DN.then_normal ?_
        refine WC.block ?_
        rw [List.take_of_length_le (by omega)] at hr
        obtain ⟨x, hx⟩ : ∃ x, x = l.foldl bitStep (~~~ 0#32) := ⟨_, rfl⟩
        have hrep : Rep r x := by rw [hr, hx]; exact reg_rep (x := 0#32) l ref_start
        have hsum : crcOf bs = ~~~ x := by rw [hx, hl1, crcOf_bits]
        refine WC.loop (fun k : Nat => k ≤ 32) (fun k => [(6, .pointer (some ⟨b6, 0, none⟩)), (11, .int .u32 ((~~~x) >>> k).toNat), (12, .int .i64 ((k : Int) - 1))]) (fun _ => row b6 (boc r) 64 :: (C ++ H)) (fun k => k) 32 (Nat.le_refl _) ⟨rfl, by rw [shift_all]; rfl, rfl, trivial⟩ (List.Perm.refl _) ?_
        intro k hk
        refine WC.seq ?_
        refine WC.seq ?_
        refine WC.region ?_
        refine WL.y rfl (Yd.move rfl) ?_
        refine WL.y rfl (Yd.geq rfl rfl) ?_
        refine WL.nil ?_
        refine DN.then_normal ?_
        refine WC.ite rfl (fun h69 => ?_) (fun h69 => ?_)
        · obtain ⟨j, rfl⟩ : ∃ j, k = j + 1 := ⟨k - 1, by omega⟩
          refine WC.skip ?_
          refine DN.then_normal ?_
          refine WC.seq ?_
          refine WC.block ?_
          refine WC.seq ?_
          refine WC.region ?_
          refine WL.y rfl (Yd.move rfl) ?_
          refine WL.y rfl (Yd.mul32 _ (2#32) rfl rfl rfl rfl) ?_
          refine WL.y rfl (Yd.assign rfl) ?_
          refine WL.nil ?_
          refine DN.then_normal ?_
          refine WC.seq ?_
          refine WC.region ?_
          refine WL.y rfl (Yd.move rfl) ?_
          refine WL.renamed (t := 74) (v := .int .i64 (j : Int)) rfl (congrArg (Value.int .i64) (by omega)) ?_
          refine WL.y rfl (Yd.indexArr (n := 32) (e := 4) (s := 1) (by kernel_rfl) (by kernel_rfl) rfl rfl (by omega) (by omega)) ?_
          refine WL.h rfl (Hd.load1 (v := .bool (r.getD j false)) (b := b6) (cs := boc r) (by kernel_rfl) rfl List.mem_cons_self (by simpa using boc_getD (l := r) (i := j) (by have := hrep.len; omega)) ⟨_, rfl, ?_⟩)
          refine WL.y rfl (Yd.notB rfl) ?_
          refine WL.nil ?_
          refine DN.then_normal ?_
          refine WC.cond rfl (fun h77 => ?_) (fun h77 => ?_)
          · refine WC.region ?_
            refine WL.y rfl (Yd.move rfl) ?_
            refine WL.y rfl (Yd.add32 _ (1#32) rfl rfl rfl rfl) ?_
            refine WL.y rfl (Yd.assign rfl) ?_
            refine WL.nil ?_
            refine DN.block_normal ?_
            refine DN.then_normal ?_
            refine WC.region ?_
            refine WL.y rfl (Yd.move rfl) ?_
            refine WL.y rfl (Yd.sub rfl rfl (by omega) (by omega)) ?_
            refine WL.renamed (t := 71) (v := .int .i64 ((j : Int) - 1)) rfl (congrArg (Value.int .i64) (by omega)) ?_
            refine WL.y rfl (Yd.assign rfl) ?_
            refine WL.nil ?_
            exact DN.again j (by omega) (by omega) ⟨rfl, by rw [ref_num hrep j (by omega), if_pos h77]; rfl, rfl, trivial⟩ (List.Perm.refl _)
          · refine WC.skip ?_
            refine DN.block_normal ?_
            refine DN.then_normal ?_
            refine WC.region ?_
            refine WL.y rfl (Yd.move rfl) ?_
            refine WL.y rfl (Yd.sub rfl rfl (by omega) (by omega)) ?_
            refine WL.renamed (t := 71) (v := .int .i64 ((j : Int) - 1)) rfl (congrArg (Value.int .i64) (by omega)) ?_
            refine WL.y rfl (Yd.assign rfl) ?_
            refine WL.nil ?_
            exact DN.again j (by omega) (by omega) ⟨rfl, by rw [ref_num hrep j (by omega), if_neg (by rw [h77]; simp)]; rfl, rfl, trivial⟩ (List.Perm.refl _)
        · have hk0 : k = 0 := by omega
          subst hk0
          refine WC.exit ?_
          refine DN.then_exit ?_
          refine DN.then_exit ?_
          refine DN.block_exit ?_
          refine DN.then_normal ?_
          refine WC.seq ?_
          refine WC.region ?_
          refine WL.y rfl (Yd.move rfl) ?_
          refine WL.y rfl (Yd.assign rfl) ?_
          refine WL.nil ?_
          refine DN.then_normal ?_
          refine WC.ret ?_
          refine DN.forget H ((List.sublist_append_right _ _).cons _) ?_
          refine DN.ret1 Try.results20 rfl ?_
          exact ⟨by rw [hsum]; simp, rfl⟩


/-- the bit that is meant, of so many bytes -/
def startOf (at_ : Int) (n : Nat) : Nat := (BitVec.ofInt 64 at_ % BitVec.ofNat 64 (8 * n)).toNat
theorem startOf_lt (at_ : Int) {n : Nat} (h : 0 < n) (hn : n ≤ 1000000) : startOf at_ n < 8 * n := by
  unfold startOf
  rw [BitVec.toNat_umod, ofNat_toNat (by omega)]
  exact Nat.mod_lt _ (by omega)
theorem ofInt_8 (n : Nat) : BitVec.ofInt 64 (8 * (n : Int)) = BitVec.ofNat 64 (8 * n) := by
  have := ofInt_nat (8 * n)
  rwa [Int.natCast_mul] at this
theorem turnedAll_nil (s : Nat) (b : B32) : turnedAll [] s b = ([], false) := by
  have : ∀ k, turnedK [] s b k = ([], false) := by
    intro k
    induction k with
    | zero => rfl
    | succ k ih => rw [turnedK, if_neg (by simp), ih]
  exact this 32
theorem turnedK_yes (l : List B8) (s : Nat) (b : B32) (i : Nat) (h : s + i < 8 * l.length) (h2 : (b >>> i) &&& 1#32 = 1#32) : turnedK l s b (i + 1) = (flip (turnedK l s b i).1 (s + i), true) := by rw [turnedK, if_pos ⟨h, h2⟩]
theorem turnedK_no (l : List B8) (s : Nat) (b : B32) (i : Nat) (h2 : ¬ (b >>> i) &&& 1#32 = 1#32) : turnedK l s b (i + 1) = turnedK l s b i := by rw [turnedK, if_neg (fun h => h2 h.2)]


/-- drayage/drayagelaw02.turned -/
theorem turned_tells (v : Value) (bs : List B8) (at_ : Int) (by_ : B32) (H : List Ck) (hv : Bs v bs H) (hl : bs.length ≤ 1000000) : Tells Try.prog 24 [v, .int .i64 at_, .int .u32 by_.toNat] H fun r H' => ∃ u C, r = .tuple #[u, .bool (turnedAll bs (startOf at_ bs.length) by_).2] ∧ Ob 5 u (turnedAll bs (startOf at_ bs.length) by_).1 C ∧ H' = C ++ H := by
  refine Tells.enter Try.func24 rfl Try.ntmps24 rfl ?_
  intro w0 R
  obtain ⟨ao, c, rfl, hc⟩ := Bs.form hv
  obtain ⟨s, hs⟩ : ∃ s, s = startOf at_ bs.length := ⟨_, rfl⟩
  refine WC.seq ?_
  refine WC.region ?_
  refine WL.y rfl (Yd.assign rfl) ?_
  refine WL.y rfl (Yd.assign rfl) ?_
  refine WL.nil ?_
  refine DN.then_normal ?_
  refine WC.seq ?_
  refine WC.region ?_
  refine WL.y rfl (Yd.move rfl) ?_
  refine WL.ca rfl (Ent.func Try.call25 rfl) (copy_spec _ bs H hv hl) ?_
  rintro x H1 ⟨C, hC, rfl⟩
  refine WL.y rfl (Yd.assign rfl) ?_
  refine WL.nil ?_
  refine DN.then_normal ?_
  refine WC.seq ?_
  refine WC.region ?_
  refine WL.y rfl (Yd.assign rfl) ?_
  refine WL.nil ?_
  refine DN.then_normal ?_
  refine WC.seq ?_
  refine WC.seq ?_
  refine WC.region ?_
  refine WL.y rfl (Yd.move rfl) ?_
  refine WL.y rfl (Yd.len (e := 5) (by kernel_rfl) rfl) ?_
  refine WL.y rfl (Yd.eql rfl rfl) ?_
  refine WL.nil ?_
  refine DN.then_normal ?_
  refine WC.ite rfl (fun h17 => ?_) (fun h17 => ?_)
  · have hnil : bs = [] := List.eq_nil_of_length_eq_zero (by omega)
    subst hnil
    refine WC.seq ?_
    refine WC.region ?_
    refine WL.y rfl (Yd.move rfl) ?_
    refine WL.y rfl (Yd.assign rfl) ?_
    refine WL.y rfl (Yd.assign rfl) ?_
    refine WL.nil ?_
    refine DN.then_normal ?_
    refine WC.ret ?_
    refine DN.then_ret ?_
    refine DN.ret2 Try.results24 rfl rfl ?_
    exact ⟨x, C, by rw [turnedAll_nil], by rw [turnedAll_nil]; exact hC, rfl⟩
  · have hpos : 0 < bs.length := by omega
    have hslt : s < 8 * bs.length := by rw [hs]; exact startOf_lt at_ hpos hl
    rcases hC with ⟨_, h0, _⟩ | ⟨b, cap, extra, rfl, hc1, hc2, hx1, hx2, rfl⟩
    · omega
    refine WC.skip ?_
    refine DN.then_normal ?_
    refine WC.seq ?_
    refine WC.region ?_
    refine WL.y rfl (Yd.move rfl) ?_
    refine WL.y rfl (Yd.to64 (BitVec.ofInt 64 at_) (by kernel_rfl) (by kernel_rfl) rfl rfl) ?_
    refine WL.y rfl (Yd.move rfl) ?_
    refine WL.y rfl (Yd.len (e := 5) (by kernel_rfl) rfl) ?_
    refine WL.y rfl (Yd.mul rfl rfl (by omega) (by omega)) ?_
    refine WL.y rfl (Yd.to64 (BitVec.ofNat 64 (8 * bs.length)) (by kernel_rfl) (by kernel_rfl) rfl (ofInt_8 _)) ?_
    refine WL.y rfl (Yd.rem64 (BitVec.ofInt 64 at_) (BitVec.ofNat 64 (8 * bs.length)) rfl rfl rfl rfl (by rw [ofNat_toNat (by omega)]; omega)) ?_
    refine WL.y rfl (Yd.toInt (m := (s : Int)) (by kernel_rfl) (by kernel_rfl) (by rw [hs]; rfl) (by omega) (by omega)) ?_
    refine WL.y rfl (Yd.assign rfl) ?_
    refine WL.nil ?_
    refine DN.then_normal ?_
    refine WC.seq ?_
    refine WC.seq ?_
    refine WC.region ?_
    refine WL.y rfl (Yd.assign rfl) ?_
    refine WL.nil ?_
    refine DN.then_normal ?_
    refine WC.block ?_
    refine WC.loop (fun i : Nat => i ≤ 32) (fun i => [(0, .slice ao bs.length c), (2, .int .u32 by_.toNat), (8, .slice (some ⟨b, 0, none⟩) bs.length cap), (9, .bool (turnedK bs s by_ i).2), (10, .int .i64 s), (11, .int .i64 i)]) (fun i => row b (bc (turnedK bs s by_ i).1 ++ extra) 5 :: H) (fun i => 32 - i) 0 (Nat.zero_le _) ⟨rfl, rfl, rfl, rfl, rfl, rfl, trivial⟩ (List.Perm.refl _) ?_
    intro i hi
    refine WC.seq ?_
    refine WC.seq ?_
    refine WC.region ?_
    refine WL.y rfl (Yd.move rfl) ?_
    refine WL.y rfl (Yd.lss rfl rfl) ?_
    refine WL.y rfl (Yd.move rfl) ?_
    refine WL.partP (t := 29) rfl (fun hg29 => ?_) (fun hg29 => ?_)
    · refine WL.gy (dj := 29) rfl rfl rfl (Yd.move rfl) ?_
      refine WL.gy (dj := 29) rfl rfl rfl (Yd.move rfl) ?_
      refine WL.gy (dj := 29) rfl rfl rfl (Yd.add rfl rfl (by omega) (by omega)) ?_
      refine WL.gy (dj := 29) rfl rfl rfl (Yd.move rfl) ?_
      refine WL.gy (dj := 29) rfl rfl rfl (Yd.len (e := 5) (by kernel_rfl) rfl) ?_
      refine WL.gy (dj := 29) rfl rfl rfl (Yd.mul rfl rfl (by omega) (by omega)) ?_
      refine WL.gy (dj := 29) rfl rfl rfl (Yd.lss rfl rfl) ?_
      refine WL.y rfl (Yd.pickT rfl rfl) ?_
      refine WL.nil ?_
      refine DN.then_normal ?_
      refine WC.ite rfl (fun h37 => ?_) (fun h37 => ?_)
      · have h37n : s + i < 8 * bs.length := by omega
        refine WC.skip ?_
        refine DN.then_normal ?_
        refine WC.seq ?_
        refine WC.block ?_
        refine WC.seq ?_
        refine WC.region ?_
        refine WL.y rfl (Yd.move rfl) ?_
        refine WL.y rfl (Yd.move rfl) ?_
        refine WL.y rfl (Yd.to64 (BitVec.ofNat 64 i) (by kernel_rfl) (by kernel_rfl) rfl (ofInt_nat i)) ?_
        refine WL.y rfl (Yd.shr32 _ i rfl rfl rfl (by rw [ofNat_toNat (by omega)])) ?_
        refine WL.y rfl (Yd.and32 _ (1#32) rfl rfl rfl rfl) ?_
        refine WL.y rfl (Yd.eql32 _ (1#32) rfl rfl rfl rfl) ?_
        refine WL.nil ?_
        refine DN.then_normal ?_
        refine WC.ite rfl (fun h45 => ?_) (fun h45 => ?_)
        · have hyes := turnedK_yes bs s by_ i h37n h45
          have hL := turnedK_length bs s by_ i
          have hq : (s + i) / 8 < bs.length := by omega
          refine WC.seq ?_
          refine WC.region ?_
          refine WL.y rfl (Yd.move rfl) ?_
          refine WL.y rfl (Yd.move rfl) ?_
          refine WL.y rfl (Yd.add rfl rfl (by omega) (by omega)) ?_
          refine WL.y rfl (Yd.assign rfl) ?_
          refine WL.nil ?_
          refine DN.then_normal ?_
          refine WC.seq ?_
          refine WC.region ?_
          refine WL.y rfl (Yd.move rfl) ?_
          refine WL.y rfl (Yd.move rfl) ?_
          refine WL.y rfl (Yd.quo rfl rfl (by omega) (by omega) (by omega)) ?_
          refine WL.renamed (t := 51) (v := .int .i64 (((s + i) / 8 : Nat) : Int)) rfl (congrArg (Value.int .i64) (by omega)) ?_
          refine WL.y rfl (Yd.move rfl) ?_
          refine WL.y rfl (Yd.move rfl) ?_
          refine WL.y rfl (Yd.quo rfl rfl (by omega) (by omega) (by omega)) ?_
          refine WL.renamed (t := 54) (v := .int .i64 (((s + i) / 8 : Nat) : Int)) rfl (congrArg (Value.int .i64) (by omega)) ?_
          refine WL.y rfl (Yd.indexAddr (e := 5) (s := 1) (by kernel_rfl) (by kernel_rfl) rfl rfl (by omega) (by omega)) ?_
          refine WL.h rfl (Hd.load1 (v := .int .u8 ((turnedK bs s by_ i).1.getD ((s + i) / 8) 0#8).toNat) (b := b) (cs := bc (turnedK bs s by_ i).1 ++ extra) (by kernel_rfl) rfl List.mem_cons_self (by rw [List.getElem?_append_left (by simp [bc_length]; omega)]; have := bc_getD (l := (turnedK bs s by_ i).1) (i := (s + i) / 8) (by omega); rwa [show 0 + (((s + i) / 8 : Nat) : Int).toNat * 1 = (s + i) / 8 by omega]) ⟨_, rfl, ?_⟩)
          refine WL.y rfl (Yd.move rfl) ?_
          refine WL.y rfl (Yd.rem rfl rfl (by omega) (by omega)) ?_
          refine WL.renamed (t := 58) (v := .int .i64 (((s + i) % 8 : Nat) : Int)) rfl (congrArg (Value.int .i64) (by omega)) ?_
          refine WL.y rfl (Yd.to64 (BitVec.ofNat 64 ((s + i) % 8)) (by kernel_rfl) (by kernel_rfl) rfl (ofInt_nat _)) ?_
          refine WL.y rfl (Yd.shl8 (1#8) ((s + i) % 8) rfl rfl rfl (by rw [ofNat_toNat (by omega)])) ?_
          refine WL.y rfl (Yd.xor8 _ _ rfl rfl rfl rfl) ?_
          refine WL.y rfl (Yd.indexAddr (e := 5) (s := 1) (by kernel_rfl) (by kernel_rfl) rfl rfl (by omega) (by omega)) ?_
          refine WL.s (Hd.store1 (b := b) (cs := bc (turnedK bs s by_ i).1 ++ extra) (T' := 5) (D := H) (by kernel_rfl) rfl rfl rfl (List.Perm.refl _) (by simp [bc_length]; omega) ⟨rfl, ?_⟩)
          refine WL.nil ?_
          refine DN.then_normal ?_
          refine WC.region ?_
          refine WL.y rfl (Yd.assign rfl) ?_
          refine WL.nil ?_
          refine DN.block_normal ?_
          refine DN.then_normal ?_
          refine WC.region ?_
          refine WL.y rfl (Yd.move rfl) ?_
          refine WL.y rfl (Yd.add rfl rfl (by omega) (by omega)) ?_
          refine WL.y rfl (Yd.assign rfl) ?_
          refine WL.nil ?_
          refine DN.again (i + 1) (by omega) (by omega) ⟨rfl, rfl, rfl, by rw [hyes]; rfl, rfl, rfl, trivial⟩ ?_
          rw [hyes, show 0 + (((s + i) / 8 : Nat) : Int).toNat * 1 = (s + i) / 8 by omega, set_front _ _ _ _ (by rw [bc_length]; omega), bc_set]
          exact List.Perm.refl _
        · have hno := turnedK_no bs s by_ i h45
          refine WC.skip ?_
          refine DN.block_normal ?_
          refine DN.then_normal ?_
          refine WC.region ?_
          refine WL.y rfl (Yd.move rfl) ?_
          refine WL.y rfl (Yd.add rfl rfl (by omega) (by omega)) ?_
          refine WL.y rfl (Yd.assign rfl) ?_
          refine WL.nil ?_
          refine DN.again (i + 1) (by omega) (by omega) ⟨rfl, rfl, rfl, by rw [hno]; rfl, rfl, rfl, trivial⟩ ?_
          rw [hno]
      · refine WC.exit ?_
        refine DN.then_exit ?_
        refine DN.then_exit ?_
        refine DN.block_exit ?_
        refine DN.then_normal ?_
        refine WC.seq ?_
        refine WC.region ?_
        refine WL.y rfl (Yd.move rfl) ?_
        refine WL.y rfl (Yd.move rfl) ?_
        refine WL.y rfl (Yd.assign rfl) ?_
        refine WL.y rfl (Yd.assign rfl) ?_
        refine WL.nil ?_
        refine DN.then_normal ?_
        refine WC.ret ?_
        refine DN.ret2 Try.results24 rfl rfl ?_
        have hfin : turnedK bs s by_ i = turnedAll bs (startOf at_ bs.length) by_ := by rw [← hs]; exact (turnedK_past bs s by_ i (by omega) 32 hi).symm
        rw [hfin]
        have hL : (turnedAll bs (startOf at_ bs.length) by_).1.length = bs.length := turnedK_length _ _ _ _
        exact ⟨_, _, rfl, .inr ⟨b, cap, extra, by rw [hL], by omega, hc2, by rw [bc_length]; omega, by rw [hL]; exact hx2, rfl⟩, rfl⟩
    · refine WL.gn (dj := 29) rfl rfl rfl rfl ?_
      refine WL.gn (dj := 29) rfl rfl rfl rfl ?_
      refine WL.gn (dj := 29) rfl rfl rfl rfl ?_
      refine WL.gn (dj := 29) rfl rfl rfl rfl ?_
      refine WL.gn (dj := 29) rfl rfl rfl rfl ?_
      refine WL.gn (dj := 29) rfl rfl rfl rfl ?_
      refine WL.gn (dj := 29) rfl rfl rfl rfl ?_
      refine WL.y rfl (Yd.pickF rfl rfl) ?_
      refine WL.nil ?_
      refine DN.then_normal ?_
      refine WC.no rfl ?_
      refine WC.exit ?_
      refine DN.then_exit ?_
      refine DN.then_exit ?_
      refine DN.block_exit ?_
      refine DN.then_normal ?_
      refine WC.seq ?_
      refine WC.region ?_
      refine WL.y rfl (Yd.move rfl) ?_
      refine WL.y rfl (Yd.move rfl) ?_
      refine WL.y rfl (Yd.assign rfl) ?_
      refine WL.y rfl (Yd.assign rfl) ?_
      refine WL.nil ?_
      refine DN.then_normal ?_
      refine WC.ret ?_
      refine DN.ret2 Try.results24 rfl rfl ?_
      have hfin : turnedK bs s by_ i = turnedAll bs (startOf at_ bs.length) by_ := by rw [← hs, show i = 32 by omega]; rfl
      rw [hfin]
      have hL : (turnedAll bs (startOf at_ bs.length) by_).1.length = bs.length := turnedK_length _ _ _ _
      exact ⟨_, _, rfl, .inr ⟨b, cap, extra, by rw [hL], by omega, hc2, by rw [bc_length]; omega, by rw [hL]; exact hx2, rfl⟩, rfl⟩

end Go.Proofs.Ytfacofbobmlmiaa
