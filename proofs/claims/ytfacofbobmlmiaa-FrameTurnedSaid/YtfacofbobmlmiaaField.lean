/-
  The walks of the writer and the reader of fields.
-/
import Derived.Test.YtfacofbobmlmiaaRows
import Derived.Test.YtfacofbobmlmiaaSLMore2
import Derived.Test.YtfacofbobmlmiaaFrameMath
set_option linter.unusedVariables false
set_option linter.unusedSimpArgs false
set_option maxHeartbeats 2000000
namespace Go.Proofs.Ytfacofbobmlmiaa
open Go.SL Go.Sum
abbrev B8' := BitVec 8
theorem perm_tail2 (a b : Ck) (C : List Ck) : (a :: b :: C).Perm (C ++ [b, a]) := (List.perm_append_comm (l₁ := [a, b]) (l₂ := C)).trans (List.Perm.append_left C (List.Perm.swap _ _ _))
theorem perm_tail1 (a : Ck) (C : List Ck) : (a :: C).Perm (C ++ [a]) := List.perm_append_comm (l₁ := [a]) (l₂ := C)


/-- drayage/field.NewWriter -/
theorem newWriter_tells : Tells Try.prog 43 [] [] fun r H' => ∃ b, r = .pointer (some ⟨b, 0, none⟩) ∧ H' = [row b [.slice none 0 0, .bool false] 82] := by
  refine Tells.enter Try.func43 rfl Try.ntmps43 rfl ?_
  intro w0 R
  refine WC.seq ?_
  refine WC.region ?_
  refine WL.y rfl (Yd.assign rfl) ?_
  refine WL.nil ?_
  refine DN.then_normal ?_
  refine WC.seq ?_
  refine WC.region ?_
  refine WL.y rfl (Yd.build (pl := [(0, 1), (1, 1)]) (zs := [.slice none 0 0, .bool false]) (parts := []) (vs := []) (cells := [.slice none 0 0, .bool false]) (by kernel_rfl) (by kernel_rfl) rfl (by kernel_rfl)) ?_
  refine WL.h rfl (Hd.box rfl fun b => ⟨_, rfl, ?_⟩)
  refine WL.y rfl (Yd.assign rfl) ?_
  refine WL.nil ?_
  refine DN.then_normal ?_
  refine WC.ret ?_
  refine DN.ret1 Try.results43 rfl ?_
  exact ⟨b, rfl, rfl⟩

/-- (*drayage/field.Writer).put -/
theorem put_tells (bw : Nat) (v : Value) (l : List B8') (C : List Ck) (n : BitVec 64) (size : Nat) (hs : size ≤ 8) (ho : Ob 5 v l C) (hl : l.length ≤ 1000000) : Tells Try.prog 52 [.pointer (some ⟨bw, 0, none⟩), .int .u64 n.toNat, .int .i64 size] (row bw [v, .bool false] 82 :: C) fun r H' => r = .pointer (some ⟨bw, 0, none⟩) ∧ ∃ v' C', Ob 5 v' (l ++ beW n size) C' ∧ H' = row bw [v', .bool false] 82 :: C' := by
  refine Tells.enter Try.func52 rfl Try.ntmps52 rfl ?_
  intro w0 R
  refine WC.seq ?_
  refine WC.region ?_
  refine WL.y rfl (Yd.assign rfl) ?_
  refine WL.nil ?_
  refine DN.then_normal ?_
  refine WC.seq ?_
  refine WC.seq ?_
  refine WC.region ?_
  refine WL.y rfl (Yd.move rfl) ?_
  refine WL.y rfl (Yd.eqlNil Try.underlying69 rfl rfl) ?_
  refine WL.renamed (t := 9) (v := .bool false) rfl (congrArg Value.bool (rfl)) ?_
  refine WL.nil ?_
  refine DN.then_normal ?_
  refine WC.no rfl ?_
  refine WC.skip ?_
  refine DN.then_normal ?_
  refine WC.seq ?_
  refine WC.seq ?_
  refine WC.region ?_
  refine WL.y rfl (Yd.move rfl) ?_
  refine WL.y rfl (Yd.move rfl) ?_
  refine WL.nil ?_
  refine DN.then_normal ?_
  refine WC.block ?_
  refine WC.loop (fun z : Nat × Value × List Ck => z.1 ≤ size ∧ Ob 5 z.2.1 (l ++ (beW n size).take z.1) z.2.2) (fun z => [(0, .pointer (some ⟨bw, 0, none⟩)), (1, .int .u64 n.toNat), (2, .int .i64 size), (10, .int .i64 size), (11, .int .i64 z.1)]) (fun z => row bw [z.2.1, .bool false] 82 :: z.2.2) (fun z => size - z.1) (0, v, C) ⟨Nat.zero_le _, by simpa using ho⟩ ⟨rfl, rfl, rfl, rfl, rfl, trivial⟩ (List.Perm.refl _) ?_
  rintro ⟨i, u, Cu⟩ ⟨hi, hu⟩
  simp only at hi hu
  refine WC.seq ?_
  refine WC.region ?_
  refine WL.y rfl (Yd.lss rfl rfl) ?_
  refine WL.nil ?_
  refine DN.then_normal ?_
  refine WC.seq ?_
  refine WC.ite rfl (fun h12 => ?_) (fun h12 => ?_)
  · have hlt : i < size := by omega
    have hL : (l ++ (beW n size).take i).length ≤ 1000008 := by simp only [List.length_append, List.length_take]; omega
    refine WC.skip ?_
    refine DN.then_normal ?_
    refine WC.seq ?_
    refine WC.block ?_
    refine WC.seq ?_
    refine WC.region ?_
    refine WL.y rfl (Yd.move rfl) ?_
    refine WL.y rfl (Yd.assign rfl) ?_
    refine WL.nil ?_
    refine DN.then_normal ?_
    refine WC.draw 18 (by kernel_rfl) rfl ?_
    refine WA.y (i := 0) (NoPanic.block (NoPanic.then (NoPanic.then (NoPanic.block (NoPanic.then (NoPanic.body)))))) rfl (by kernel_rfl) (by kernel_rfl) (by kernel_rfl) rfl (Yd.move rfl) ?_
    refine WA.y (i := 1) (NoPanic.block (NoPanic.then (NoPanic.then (NoPanic.block (NoPanic.then (NoPanic.body)))))) rfl (by kernel_rfl) (by kernel_rfl) (by kernel_rfl) rfl (Yd.move rfl) ?_
    refine WA.y (i := 2) (NoPanic.block (NoPanic.then (NoPanic.then (NoPanic.block (NoPanic.then (NoPanic.body)))))) rfl (by kernel_rfl) (by kernel_rfl) (by kernel_rfl) rfl (Yd.notNil rfl) ?_
    refine WA.y (i := 3) (NoPanic.block (NoPanic.then (NoPanic.then (NoPanic.block (NoPanic.then (NoPanic.body)))))) rfl (by kernel_rfl) (by kernel_rfl) (by kernel_rfl) rfl (Yd.fieldAddr (k := 0) (by kernel_rfl) rfl) ?_
    refine WA.y (i := 5) (NoPanic.block (NoPanic.then (NoPanic.then (NoPanic.block (NoPanic.then (NoPanic.body)))))) rfl (by kernel_rfl) (by kernel_rfl) (by kernel_rfl) rfl (Yd.move rfl) ?_
    refine WA.y (i := 6) (NoPanic.block (NoPanic.then (NoPanic.then (NoPanic.block (NoPanic.then (NoPanic.body)))))) rfl (by kernel_rfl) (by kernel_rfl) (by kernel_rfl) rfl (Yd.move rfl) ?_
    refine WA.y (i := 7) (NoPanic.block (NoPanic.then (NoPanic.then (NoPanic.block (NoPanic.then (NoPanic.body)))))) rfl (by kernel_rfl) (by kernel_rfl) (by kernel_rfl) rfl (Yd.sub rfl rfl (by omega) (by omega)) ?_
    refine WA.y (i := 8) (NoPanic.block (NoPanic.then (NoPanic.then (NoPanic.block (NoPanic.then (NoPanic.body)))))) rfl (by kernel_rfl) (by kernel_rfl) (by kernel_rfl) rfl (Yd.move rfl) ?_
    refine WA.y (i := 9) (NoPanic.block (NoPanic.then (NoPanic.then (NoPanic.block (NoPanic.then (NoPanic.body)))))) rfl (by kernel_rfl) (by kernel_rfl) (by kernel_rfl) rfl (Yd.sub rfl rfl (by omega) (by omega)) ?_
    refine WA.y (i := 10) (NoPanic.block (NoPanic.then (NoPanic.then (NoPanic.block (NoPanic.then (NoPanic.body)))))) rfl (by kernel_rfl) (by kernel_rfl) (by kernel_rfl) rfl (Yd.mul rfl rfl (by omega) (by omega)) ?_
    refine WA.renamed (t := 24) (v := .int .i64 ((8 * (size - 1 - i) : Nat) : Int)) rfl (congrArg (Value.int .i64) (by omega)) ?_
    refine WA.y (i := 11) (NoPanic.block (NoPanic.then (NoPanic.then (NoPanic.block (NoPanic.then (NoPanic.body)))))) rfl (by kernel_rfl) (by kernel_rfl) (by kernel_rfl) rfl (Yd.shr64 _ (8 * (size - 1 - i)) rfl rfl rfl rfl) ?_
    refine WA.y (i := 12) (NoPanic.block (NoPanic.then (NoPanic.then (NoPanic.block (NoPanic.then (NoPanic.body)))))) rfl (by kernel_rfl) (by kernel_rfl) (by kernel_rfl) rfl (Yd.conv64_8 _ (by kernel_rfl) (by kernel_rfl) rfl rfl) ?_
    refine WA.two (i := 4) (j := 13) (by kernel_rfl) ?_ ?_
    · refine WO.h rfl Wt.none rfl (Hd.load1 (v := u) (b := bw) (cs := [u, .bool false]) (by kernel_rfl) rfl (by first | exact List.mem_cons_self | exact List.mem_cons_of_mem _ List.mem_cons_self) rfl ⟨_, rfl, ?_⟩)
      refine WA.one (i := 13) (by kernel_rfl) ?_
      refine WO.h rfl Wt.none rfl (Hd.build1 (e := 5) (z := .int .u8 0) (by kernel_rfl) (by kernel_rfl) (by kernel_rfl) rfl rfl fun rb => ⟨_, rfl, ?_⟩)
      refine WA.one (i := 14) (by kernel_rfl) ?_
      refine WO.h rfl Wt.none rfl (Hd.appendB (e := 5) (zs := [.int .u8 0]) (C := Cu) (D := [row bw [u, .bool false] 82, row rb (bc [(n >>> (8 * (size - 1 - i))).setWidth 8]) 5]) (by kernel_rfl) (by kernel_rfl) rfl rfl rfl hu (Bs.block (bs := [(n >>> (8 * (size - 1 - i))).setWidth 8]) rfl (by simp) (List.mem_append_right _ (List.mem_cons_of_mem _ List.mem_cons_self))) (by simp only [List.length_cons, List.length_nil]; omega) (perm_tail2 _ _ _) fun u2 C2 hu2 _ => ⟨_, rfl, ?_⟩)
      refine WA.y (i := 15) (NoPanic.block (NoPanic.then (NoPanic.then (NoPanic.block (NoPanic.then (NoPanic.body)))))) rfl (by kernel_rfl) (by kernel_rfl) (by kernel_rfl) rfl (Yd.notNil rfl) ?_
      refine WA.y (i := 16) (NoPanic.block (NoPanic.then (NoPanic.then (NoPanic.block (NoPanic.then (NoPanic.body)))))) rfl (by kernel_rfl) (by kernel_rfl) (by kernel_rfl) rfl (Yd.fieldAddr (k := 0) (by kernel_rfl) rfl) ?_
      refine WA.one (i := 17) (by kernel_rfl) ?_
      refine WO.s rfl Wt.none (Hd.store1 (b := bw) (cs := [u, .bool false]) (T' := 82) (D := C2 ++ [row rb (bc [(n >>> (8 * (size - 1 - i))).setWidth 8]) 5]) (by kernel_rfl) rfl rfl (by obtain ⟨_, _, rfl, _⟩ := hu2.form; rfl) (List.perm_middle (l₁ := C2)) (by simp) ⟨rfl, ?_⟩)
      refine WA.done (by kernel_rfl) ?_
      refine DN.block_normal ?_
      refine DN.then_normal ?_
      refine WC.region ?_
      refine WL.y rfl (Yd.add rfl rfl (by omega) (by omega)) ?_
      refine WL.y rfl (Yd.move rfl) ?_
      refine WL.nil ?_
      refine DN.forget (row bw [u2, .bool false] 82 :: C2) (List.Sublist.cons_cons _ (List.sublist_append_left _ _)) ?_
      exact DN.again (i + 1, u2, C2) ⟨by show i + 1 ≤ size; omega, by rw [beW_next n size i hlt, ← List.append_assoc]; exact hu2⟩ (by show size - (i + 1) < size - i; omega) ⟨rfl, rfl, rfl, rfl, rfl, trivial⟩ (List.Perm.refl _)
    · refine WO.h rfl Wt.none rfl (Hd.build1 (e := 5) (z := .int .u8 0) (by kernel_rfl) (by kernel_rfl) (by kernel_rfl) rfl rfl fun rb => ⟨_, rfl, ?_⟩)
      refine WA.one (i := 4) (by kernel_rfl) ?_
      refine WO.h rfl Wt.none rfl (Hd.load1 (v := u) (b := bw) (cs := [u, .bool false]) (by kernel_rfl) rfl (by first | exact List.mem_cons_self | exact List.mem_cons_of_mem _ List.mem_cons_self) rfl ⟨_, rfl, ?_⟩)
      refine WA.one (i := 14) (by kernel_rfl) ?_
      refine WO.h rfl Wt.none rfl (Hd.appendB (e := 5) (zs := [.int .u8 0]) (C := Cu) (D := [row bw [u, .bool false] 82, row rb (bc [(n >>> (8 * (size - 1 - i))).setWidth 8]) 5]) (by kernel_rfl) (by kernel_rfl) rfl rfl rfl hu (Bs.block (bs := [(n >>> (8 * (size - 1 - i))).setWidth 8]) rfl (by simp) (List.mem_append_right _ (List.mem_cons_of_mem _ List.mem_cons_self))) (by simp only [List.length_cons, List.length_nil]; omega) (perm_tail2 _ _ _) fun u2 C2 hu2 _ => ⟨_, rfl, ?_⟩)
      refine WA.y (i := 15) (NoPanic.block (NoPanic.then (NoPanic.then (NoPanic.block (NoPanic.then (NoPanic.body)))))) rfl (by kernel_rfl) (by kernel_rfl) (by kernel_rfl) rfl (Yd.notNil rfl) ?_
      refine WA.y (i := 16) (NoPanic.block (NoPanic.then (NoPanic.then (NoPanic.block (NoPanic.then (NoPanic.body)))))) rfl (by kernel_rfl) (by kernel_rfl) (by kernel_rfl) rfl (Yd.fieldAddr (k := 0) (by kernel_rfl) rfl) ?_
      refine WA.one (i := 17) (by kernel_rfl) ?_
      refine WO.s rfl Wt.none (Hd.store1 (b := bw) (cs := [u, .bool false]) (T' := 82) (D := C2 ++ [row rb (bc [(n >>> (8 * (size - 1 - i))).setWidth 8]) 5]) (by kernel_rfl) rfl rfl (by obtain ⟨_, _, rfl, _⟩ := hu2.form; rfl) (List.perm_middle (l₁ := C2)) (by simp) ⟨rfl, ?_⟩)
      refine WA.done (by kernel_rfl) ?_
      refine DN.block_normal ?_
      refine DN.then_normal ?_
      refine WC.region ?_
      refine WL.y rfl (Yd.add rfl rfl (by omega) (by omega)) ?_
      refine WL.y rfl (Yd.move rfl) ?_
      refine WL.nil ?_
      refine DN.forget (row bw [u2, .bool false] 82 :: C2) (List.Sublist.cons_cons _ (List.sublist_append_left _ _)) ?_
      exact DN.again (i + 1, u2, C2) ⟨by show i + 1 ≤ size; omega, by rw [beW_next n size i hlt, ← List.append_assoc]; exact hu2⟩ (by show size - (i + 1) < size - i; omega) ⟨rfl, rfl, rfl, rfl, rfl, trivial⟩ (List.Perm.refl _)
  · have hie : i = size := by omega
    subst hie
    rw [List.take_of_length_le (by rw [beW_length]; omega)] at hu
    refine WC.exit ?_
    refine DN.then_exit ?_
    refine DN.then_exit ?_
    refine DN.block_exit ?_
    refine DN.then_normal ?_
    refine WC.seq ?_
    refine WC.region ?_
    refine WL.y rfl (Yd.move rfl) ?_
    refine WL.y rfl (Yd.assign rfl) ?_
    refine WL.nil ?_
    refine DN.then_normal ?_
    refine WC.ret ?_
    refine DN.ret1 Try.results52 rfl ?_
    exact ⟨rfl, u, Cu, hu, rfl⟩

/-- (*drayage/field.Writer).U16 -/
theorem wU16_tells (bw : Nat) (v : Value) (l : List B8') (C : List Ck) (n : BitVec 16) (ho : Ob 5 v l C) (hl : l.length ≤ 1000000) : Tells Try.prog 44 [.pointer (some ⟨bw, 0, none⟩), .int .u16 n.toNat] (row bw [v, .bool false] 82 :: C) fun r H' => r = .pointer (some ⟨bw, 0, none⟩) ∧ ∃ v' C', Ob 5 v' (l ++ beW (n.setWidth 64) 2) C' ∧ H' = row bw [v', .bool false] 82 :: C' := by
  refine Tells.enter Try.func44 rfl Try.ntmps44 rfl ?_
  intro w0 R
  refine WC.seq ?_
  refine WC.region ?_
  refine WL.y rfl (Yd.assign rfl) ?_
  refine WL.nil ?_
  refine DN.then_normal ?_
  refine WC.seq ?_
  refine WC.region ?_
  refine WL.y rfl (Yd.move rfl) ?_
  refine WL.y rfl (Yd.move rfl) ?_
  refine WL.y rfl (Yd.conv16_64 _ (by kernel_rfl) (by kernel_rfl) rfl rfl) ?_
  refine WL.ca rfl (Ent.func Try.call52 rfl) (put_tells bw v l C (n.setWidth 64) 2 (by omega) ho hl) ?_
  rintro x H1 ⟨rfl, v', C', ho', rfl⟩
  refine WL.y rfl (Yd.assign rfl) ?_
  refine WL.nil ?_
  refine DN.then_normal ?_
  refine WC.ret ?_
  refine DN.ret1 Try.results44 rfl ?_
  exact ⟨rfl, v', C', ho', rfl⟩

/-- (*drayage/field.Writer).U32 -/
theorem wU32_tells (bw : Nat) (v : Value) (l : List B8') (C : List Ck) (n : BitVec 32) (ho : Ob 5 v l C) (hl : l.length ≤ 1000000) : Tells Try.prog 46 [.pointer (some ⟨bw, 0, none⟩), .int .u32 n.toNat] (row bw [v, .bool false] 82 :: C) fun r H' => r = .pointer (some ⟨bw, 0, none⟩) ∧ ∃ v' C', Ob 5 v' (l ++ beW (n.setWidth 64) 4) C' ∧ H' = row bw [v', .bool false] 82 :: C' := by
  refine Tells.enter Try.func46 rfl Try.ntmps46 rfl ?_
  intro w0 R
  refine WC.seq ?_
  refine WC.region ?_
  refine WL.y rfl (Yd.assign rfl) ?_
  refine WL.nil ?_
  refine DN.then_normal ?_
  refine WC.seq ?_
  refine WC.region ?_
  refine WL.y rfl (Yd.move rfl) ?_
  refine WL.y rfl (Yd.move rfl) ?_
  refine WL.y rfl (Yd.conv32_64 _ (by kernel_rfl) (by kernel_rfl) rfl rfl) ?_
  refine WL.ca rfl (Ent.func Try.call52 rfl) (put_tells bw v l C (n.setWidth 64) 4 (by omega) ho hl) ?_
  rintro x H1 ⟨rfl, v', C', ho', rfl⟩
  refine WL.y rfl (Yd.assign rfl) ?_
  refine WL.nil ?_
  refine DN.then_normal ?_
  refine WC.ret ?_
  refine DN.ret1 Try.results46 rfl ?_
  exact ⟨rfl, v', C', ho', rfl⟩

/-- (*drayage/field.Writer).Done -/
theorem wDone_tells (bw : Nat) (v : Value) (l : List B8') (C : List Ck) (ho : Ob 5 v l C) (hl : l.length ≤ 1000000) : Tells Try.prog 45 [.pointer (some ⟨bw, 0, none⟩)] (row bw [v, .bool false] 82 :: C) fun r H' => ∃ v' C', r = .tuple #[v', .int .i64 0] ∧ Ob 5 v' l C' ∧ v' ≠ .slice none 0 0 ∧ H' = C' := by
  refine Tells.enter Try.func45 rfl Try.ntmps45 rfl ?_
  intro w0 R
  refine WC.seq ?_
  refine WC.region ?_
  refine WL.y rfl (Yd.assign rfl) ?_
  refine WL.y rfl (Yd.assign rfl) ?_
  refine WL.nil ?_
  refine DN.then_normal ?_
  refine WC.seq ?_
  refine WC.block ?_
  refine WC.seq ?_
  refine WC.region ?_
  refine WL.y rfl (Yd.move rfl) ?_
  refine WL.y rfl (Yd.eqlNil Try.underlying69 rfl rfl) ?_
  refine WL.renamed (t := 6) (v := .bool false) rfl (congrArg Value.bool (rfl)) ?_
  refine WL.y rfl (Yd.assign rfl) ?_
  refine WL.nil ?_
  refine DN.then_normal ?_
  refine WC.no rfl ?_
  refine WC.seq ?_
  refine WC.region ?_
  refine WL.y rfl (Yd.move rfl) ?_
  refine WL.y rfl (Yd.notNil rfl) ?_
  refine WL.y rfl (Yd.fieldAddr (k := 1) (by kernel_rfl) rfl) ?_
  refine WL.h rfl (Hd.load1 (v := .bool false) (b := bw) (cs := [v, .bool false]) (by kernel_rfl) rfl List.mem_cons_self rfl ⟨_, rfl, ?_⟩)
  refine WL.renamed (t := 11) (v := .bool false) rfl (congrArg Value.bool (rfl)) ?_
  refine WL.y rfl (Yd.assign rfl) ?_
  refine WL.nil ?_
  refine DN.then_normal ?_
  refine WC.no rfl ?_
  refine WC.skip ?_
  refine DN.block_normal ?_
  refine DN.then_normal ?_
  refine WC.seq ?_
  refine WC.region ?_
  refine WL.h rfl (Hd.buildBytes (e := 5) [] (by kernel_rfl) (by kernel_rfl) (by kernel_rfl) rfl rfl (by kernel_rfl) fun rb => ⟨_, rfl, ?_⟩)
  refine WL.y rfl (Yd.move rfl) ?_
  refine WL.y rfl (Yd.notNil rfl) ?_
  refine WL.y rfl (Yd.fieldAddr (k := 0) (by kernel_rfl) rfl) ?_
  refine WL.h rfl (Hd.load1 (v := v) (b := bw) (cs := [v, .bool false]) (by kernel_rfl) rfl (List.mem_cons_of_mem _ List.mem_cons_self) rfl ⟨_, rfl, ?_⟩)
  refine WL.h rfl (Hd.appendB (e := 5) (zs := [.int .u8 0]) (a := []) (C := [row rb (bc []) 5]) (D := row bw [v, .bool false] 82 :: C) (by kernel_rfl) (by kernel_rfl) rfl rfl rfl (.inr ⟨rb, 0, [], rfl, Nat.le_refl _, by simp only [maxLen]; omega, rfl, rfl, rfl⟩) (ho.bs.mono fun x hx => by simp [hx]) (by simp; omega) (List.Perm.refl _) fun v' C' ho' hn' => ⟨_, rfl, ?_⟩)
  refine WL.y rfl (Yd.assign rfl) ?_
  refine WL.y rfl (Yd.assign rfl) ?_
  refine WL.nil ?_
  refine DN.then_normal ?_
  refine WC.ret ?_
  refine DN.forget C' (List.sublist_append_left _ _) ?_
  refine DN.ret2 Try.results45 rfl rfl ?_
  exact ⟨v', C', rfl, by simpa using ho', (fun h => by have := hn'.1 h; cases this.1), rfl⟩

/-- drayage/field.NewReader -/
theorem newReader_tells (v : Value) (bs : List B8') (H : List Ck) (hv : Bs v bs H) (hl : bs.length ≤ 1000000) : Tells Try.prog 48 [v] H fun r H' => ∃ b v' C', r = .pointer (some ⟨b, 0, none⟩) ∧ Bs v' bs C' ∧ H' = row b [v', .bool false] 85 :: C' ++ H := by
  refine Tells.enter Try.func48 rfl Try.ntmps48 rfl ?_
  intro w0 R
  refine WC.seq ?_
  refine WC.region ?_
  refine WL.y rfl (Yd.assign rfl) ?_
  refine WL.nil ?_
  refine DN.then_normal ?_
  refine WC.seq ?_
  refine WC.region ?_
  refine WL.h rfl (Hd.buildBytes (e := 5) [] (by kernel_rfl) (by kernel_rfl) (by kernel_rfl) rfl rfl (by kernel_rfl) fun rb => ⟨_, rfl, ?_⟩)
  refine WL.y rfl (Yd.move rfl) ?_
  refine WL.h rfl (Hd.appendB (e := 5) (zs := [.int .u8 0]) (a := []) (C := [row rb (bc []) 5]) (D := H) (by kernel_rfl) (by kernel_rfl) rfl rfl rfl (.inr ⟨rb, 0, [], rfl, Nat.le_refl _, by simp only [maxLen]; omega, rfl, rfl, rfl⟩) (hv.mono fun x hx => by simp [hx]) (by simp; omega) (List.Perm.refl _) fun v' C' ho' hn' => ⟨_, rfl, ?_⟩)
  obtain ⟨vo, vc, rfl, hvc⟩ := ho'.form
  refine WL.y rfl (Yd.build (pl := [(0, 1), (1, 1)]) (zs := [.slice none 0 0, .bool false]) (parts := [(0, .tmp 5)]) (vs := [(0, .slice vo _ vc)]) (cells := [.slice vo _ vc, .bool false]) (by kernel_rfl) (by kernel_rfl) rfl rfl) ?_
  refine WL.h rfl (Hd.box rfl fun b => ⟨_, rfl, ?_⟩)
  refine WL.y rfl (Yd.assign rfl) ?_
  refine WL.nil ?_
  refine DN.then_normal ?_
  refine WC.ret ?_
  refine DN.ret1 Try.results48 rfl ?_
  exact ⟨b, _, C', rfl, by simpa using ho'.bs, rfl⟩

/-- (*drayage/field.Reader).take -/
theorem take_tells (br : Nat) (u : Value) (bs : List B8') (sh : Bool) (C : List Ck) (k : Nat) (hu : Bs u bs C) (hl : bs.length ≤ 1000000) (hk : k ≤ 8) : Tells Try.prog 54 [.pointer (some ⟨br, 0, none⟩), .int .i64 k] (row br [u, .bool sh] 85 :: C) fun r H' => ∃ u', Bs r (rdGot bs sh k) C ∧ Bs u' (rdRest bs sh k) C ∧ H' = row br [u', .bool (rdShort bs sh k)] 85 :: C := by
  refine Tells.enter Try.func54 rfl Try.ntmps54 rfl ?_
  intro w0 R
  obtain ⟨uo, uc, rfl, huc⟩ := hu.form
  refine WC.seq ?_
  refine WC.region ?_
  refine WL.y rfl (Yd.assign rfl) ?_
  refine WL.nil ?_
  refine DN.then_normal ?_
  refine WC.seq ?_
  refine WC.seq ?_
  refine WC.region ?_
  refine WL.y rfl (Yd.move rfl) ?_
  refine WL.y rfl (Yd.eqlNil Try.underlying76 rfl rfl) ?_
  refine WL.renamed (t := 7) (v := .bool false) rfl (congrArg Value.bool (rfl)) ?_
  refine WL.nil ?_
  refine DN.then_normal ?_
  refine WC.no rfl ?_
  refine WC.skip ?_
  refine DN.then_normal ?_
  refine WC.seq ?_
  refine WC.seq ?_
  refine WC.region ?_
  refine WL.y rfl (Yd.move rfl) ?_
  refine WL.y rfl (Yd.move rfl) ?_
  refine WL.y rfl (Yd.notNil rfl) ?_
  refine WL.y rfl (Yd.fieldAddr (k := 1) (by kernel_rfl) rfl) ?_
  refine WL.h rfl (Hd.load1 (v := .bool sh) (b := br) (cs := [.slice uo bs.length uc, .bool sh]) (by kernel_rfl) rfl List.mem_cons_self rfl ⟨_, rfl, ?_⟩)
  refine WL.y rfl (Yd.move rfl) ?_
  refine WL.part (t := 13) rfl (fun hg13 => ?_) (fun hg13 => ?_)
  · refine WL.gn (dj := 13) rfl rfl rfl rfl ?_
    refine WL.gn (dj := 13) rfl rfl rfl rfl ?_
    refine WL.gn (dj := 13) rfl rfl rfl rfl ?_
    refine WL.gn (dj := 13) rfl rfl rfl rfl ?_
    refine WL.gn (dj := 13) rfl rfl rfl rfl ?_
    refine WL.gn (dj := 13) rfl rfl rfl rfl ?_
    refine WL.gn (dj := 13) rfl rfl rfl rfl ?_
    refine WL.y rfl (Yd.pickT rfl rfl) ?_
    refine WL.renamed (t := 21) (v := .bool (rdShort bs sh k)) rfl (congrArg Value.bool (by subst hg13; simp [rdShort])) ?_
    refine WL.y rfl (Yd.notNil rfl) ?_
    refine WL.y rfl (Yd.fieldAddr (k := 1) (by kernel_rfl) rfl) ?_
    refine WL.s (Hd.store1 (b := br) (cs := [.slice uo bs.length uc, .bool sh]) (T' := 85) (D := C) (by kernel_rfl) rfl rfl rfl (List.Perm.refl _) (by simp) ⟨rfl, ?_⟩)
    refine WL.nil ?_
    refine DN.then_normal ?_
    refine WC.seq ?_
    refine WC.region ?_
    refine WL.y rfl (Yd.move rfl) ?_
    refine WL.y rfl (Yd.notNil rfl) ?_
    refine WL.y rfl (Yd.fieldAddr (k := 1) (by kernel_rfl) rfl) ?_
    refine WL.h rfl (Hd.load1 (v := .bool (rdShort bs sh k)) (b := br) (cs := [.slice uo bs.length uc, .bool (rdShort bs sh k)]) (by kernel_rfl) rfl List.mem_cons_self rfl ⟨_, rfl, ?_⟩)
    refine WL.nil ?_
    refine DN.then_normal ?_
    refine WC.cond rfl (fun h27 => ?_) (fun h27 => ?_)
    · have hgot : rdGot bs sh k = [] := by simp [rdGot, h27]
      have hrest : rdRest bs sh k = bs := by simp [rdRest, h27]
      refine WC.seq ?_
      refine WC.region ?_
      refine WL.y rfl (Yd.assign rfl) ?_
      refine WL.nil ?_
      refine DN.then_normal ?_
      refine WC.ret ?_
      refine DN.then_ret ?_
      refine DN.ret1 Try.results54 rfl ?_
      exact ⟨_, by rw [hgot]; exact .inl ⟨_, _, rfl, rfl, rfl⟩, by rw [hrest]; exact hu, rfl⟩
    · have hgot : rdGot bs sh k = bs.take k := by simp [rdGot, h27]
      have hrest : rdRest bs sh k = bs.drop k := by simp [rdRest, h27]
      have hkl : k ≤ bs.length := by simp [rdShort] at h27; omega
      refine WC.skip ?_
      refine DN.then_normal ?_
      refine WC.seq ?_
      refine WC.region ?_
      refine WL.y rfl (Yd.move rfl) ?_
      refine WL.y rfl (Yd.notNil rfl) ?_
      refine WL.y rfl (Yd.fieldAddr (k := 0) (by kernel_rfl) rfl) ?_
      refine WL.h rfl (Hd.load1 (v := .slice uo bs.length uc) (b := br) (cs := [.slice uo bs.length uc, .bool (rdShort bs sh k)]) (by kernel_rfl) rfl List.mem_cons_self rfl ⟨_, rfl, ?_⟩)
      refine WL.y rfl (Yd.move rfl) ?_
      refine WL.y rfl (Yd.sliceTo (e := 5) (s := 1) (j := k) (by kernel_rfl) (by kernel_rfl) rfl rfl rfl (by omega)) ?_
      refine WL.y rfl (Yd.assign rfl) ?_
      refine WL.nil ?_
      refine DN.then_normal ?_
      refine WC.seq ?_
      refine WC.region ?_
      refine WL.y rfl (Yd.move rfl) ?_
      refine WL.y rfl (Yd.move rfl) ?_
      refine WL.y rfl (Yd.notNil rfl) ?_
      refine WL.y rfl (Yd.fieldAddr (k := 0) (by kernel_rfl) rfl) ?_
      refine WL.h rfl (Hd.load1 (v := .slice uo bs.length uc) (b := br) (cs := [.slice uo bs.length uc, .bool (rdShort bs sh k)]) (by kernel_rfl) rfl List.mem_cons_self rfl ⟨_, rfl, ?_⟩)
      refine WL.y rfl (Yd.move rfl) ?_
      refine WL.y rfl (Yd.slice (e := 5) (s := 1) (i := k) (j := bs.length) (by kernel_rfl) (by kernel_rfl) rfl ⟨_, _, rfl, rfl⟩ rfl hkl (by omega)) ?_
      refine WL.y rfl (Yd.notNil rfl) ?_
      refine WL.y rfl (Yd.fieldAddr (k := 0) (by kernel_rfl) rfl) ?_
      refine WL.s (Hd.store1 (b := br) (cs := [.slice uo bs.length uc, .bool (rdShort bs sh k)]) (T' := 85) (D := C) (by kernel_rfl) rfl rfl rfl (List.Perm.refl _) (by simp) ⟨rfl, ?_⟩)
      refine WL.nil ?_
      refine DN.then_normal ?_
      refine WC.seq ?_
      refine WC.region ?_
      refine WL.y rfl (Yd.move rfl) ?_
      refine WL.y rfl (Yd.assign rfl) ?_
      refine WL.nil ?_
      refine DN.then_normal ?_
      refine WC.ret ?_
      refine DN.ret1 Try.results54 rfl ?_
      exact ⟨_, by rw [hgot]; exact hu.upto hkl, by rw [hrest]; have := hu.sub (i := k) (j := bs.length) hkl (Nat.le_refl _); rwa [List.take_of_length_le (by simp)] at this, rfl⟩
  · refine WL.gy (dj := 13) rfl rfl rfl (Yd.move rfl) ?_
    refine WL.gy (dj := 13) rfl rfl rfl (Yd.notNil rfl) ?_
    refine WL.gy (dj := 13) rfl rfl rfl (Yd.fieldAddr (k := 0) (by kernel_rfl) rfl) ?_
    refine WL.gh (dj := 13) rfl rfl rfl (Hd.load1 (v := .slice uo bs.length uc) (b := br) (cs := [.slice uo bs.length uc, .bool sh]) (by kernel_rfl) rfl List.mem_cons_self rfl ⟨_, rfl, ?_⟩)
    refine WL.gy (dj := 13) rfl rfl rfl (Yd.len (e := 5) (by kernel_rfl) rfl) ?_
    refine WL.gy (dj := 13) rfl rfl rfl (Yd.move rfl) ?_
    refine WL.gy (dj := 13) rfl rfl rfl (Yd.lss rfl rfl) ?_
    refine WL.y rfl (Yd.pickF rfl rfl) ?_
    refine WL.renamed (t := 21) (v := .bool (rdShort bs sh k)) rfl (congrArg Value.bool (by subst hg13; simp [rdShort])) ?_
    refine WL.y rfl (Yd.notNil rfl) ?_
    refine WL.y rfl (Yd.fieldAddr (k := 1) (by kernel_rfl) rfl) ?_
    refine WL.s (Hd.store1 (b := br) (cs := [.slice uo bs.length uc, .bool sh]) (T' := 85) (D := C) (by kernel_rfl) rfl rfl rfl (List.Perm.refl _) (by simp) ⟨rfl, ?_⟩)
    refine WL.nil ?_
    refine DN.then_normal ?_
    refine WC.seq ?_
    refine WC.region ?_
    refine WL.y rfl (Yd.move rfl) ?_
    refine WL.y rfl (Yd.notNil rfl) ?_
    refine WL.y rfl (Yd.fieldAddr (k := 1) (by kernel_rfl) rfl) ?_
    refine WL.h rfl (Hd.load1 (v := .bool (rdShort bs sh k)) (b := br) (cs := [.slice uo bs.length uc, .bool (rdShort bs sh k)]) (by kernel_rfl) rfl List.mem_cons_self rfl ⟨_, rfl, ?_⟩)
    refine WL.nil ?_
    refine DN.then_normal ?_
    refine WC.cond rfl (fun h27 => ?_) (fun h27 => ?_)
    · have hgot : rdGot bs sh k = [] := by simp [rdGot, h27]
      have hrest : rdRest bs sh k = bs := by simp [rdRest, h27]
      refine WC.seq ?_
      refine WC.region ?_
      refine WL.y rfl (Yd.assign rfl) ?_
      refine WL.nil ?_
      refine DN.then_normal ?_
      refine WC.ret ?_
      refine DN.then_ret ?_
      refine DN.ret1 Try.results54 rfl ?_
      exact ⟨_, by rw [hgot]; exact .inl ⟨_, _, rfl, rfl, rfl⟩, by rw [hrest]; exact hu, rfl⟩
    · have hgot : rdGot bs sh k = bs.take k := by simp [rdGot, h27]
      have hrest : rdRest bs sh k = bs.drop k := by simp [rdRest, h27]
      have hkl : k ≤ bs.length := by simp [rdShort] at h27; omega
      refine WC.skip ?_
      refine DN.then_normal ?_
      refine WC.seq ?_
      refine WC.region ?_
      refine WL.y rfl (Yd.move rfl) ?_
      refine WL.y rfl (Yd.notNil rfl) ?_
      refine WL.y rfl (Yd.fieldAddr (k := 0) (by kernel_rfl) rfl) ?_
      refine WL.h rfl (Hd.load1 (v := .slice uo bs.length uc) (b := br) (cs := [.slice uo bs.length uc, .bool (rdShort bs sh k)]) (by kernel_rfl) rfl List.mem_cons_self rfl ⟨_, rfl, ?_⟩)
      refine WL.y rfl (Yd.move rfl) ?_
      refine WL.y rfl (Yd.sliceTo (e := 5) (s := 1) (j := k) (by kernel_rfl) (by kernel_rfl) rfl rfl rfl (by omega)) ?_
      refine WL.y rfl (Yd.assign rfl) ?_
      refine WL.nil ?_
      refine DN.then_normal ?_
      refine WC.seq ?_
      refine WC.region ?_
      refine WL.y rfl (Yd.move rfl) ?_
      refine WL.y rfl (Yd.move rfl) ?_
      refine WL.y rfl (Yd.notNil rfl) ?_
      refine WL.y rfl (Yd.fieldAddr (k := 0) (by kernel_rfl) rfl) ?_
      refine WL.h rfl (Hd.load1 (v := .slice uo bs.length uc) (b := br) (cs := [.slice uo bs.length uc, .bool (rdShort bs sh k)]) (by kernel_rfl) rfl List.mem_cons_self rfl ⟨_, rfl, ?_⟩)
      refine WL.y rfl (Yd.move rfl) ?_
      refine WL.y rfl (Yd.slice (e := 5) (s := 1) (i := k) (j := bs.length) (by kernel_rfl) (by kernel_rfl) rfl ⟨_, _, rfl, rfl⟩ rfl hkl (by omega)) ?_
      refine WL.y rfl (Yd.notNil rfl) ?_
      refine WL.y rfl (Yd.fieldAddr (k := 0) (by kernel_rfl) rfl) ?_
      refine WL.s (Hd.store1 (b := br) (cs := [.slice uo bs.length uc, .bool (rdShort bs sh k)]) (T' := 85) (D := C) (by kernel_rfl) rfl rfl rfl (List.Perm.refl _) (by simp) ⟨rfl, ?_⟩)
      refine WL.nil ?_
      refine DN.then_normal ?_
      refine WC.seq ?_
      refine WC.region ?_
      refine WL.y rfl (Yd.move rfl) ?_
      refine WL.y rfl (Yd.assign rfl) ?_
      refine WL.nil ?_
      refine DN.then_normal ?_
      refine WC.ret ?_
      refine DN.ret1 Try.results54 rfl ?_
      exact ⟨_, by rw [hgot]; exact hu.upto hkl, by rw [hrest]; have := hu.sub (i := k) (j := bs.length) hkl (Nat.le_refl _); rwa [List.take_of_length_le (by simp)] at this, rfl⟩

/-- (*drayage/field.Reader).number -/
theorem number_tells (br : Nat) (u : Value) (bs : List B8') (sh : Bool) (C : List Ck) (k : Nat) (hu : Bs u bs C) (hl : bs.length ≤ 1000000) (hk : k ≤ 8) : Tells Try.prog 53 [.pointer (some ⟨br, 0, none⟩), .int .i64 k] (row br [u, .bool sh] 85 :: C) fun r H' => ∃ u', r = .int .u64 (beN (rdGot bs sh k)).toNat ∧ Bs u' (rdRest bs sh k) C ∧ H' = row br [u', .bool (rdShort bs sh k)] 85 :: C := by
  refine Tells.enter Try.func53 rfl Try.ntmps53 rfl ?_
  intro w0 R
  refine WC.seq ?_
  refine WC.region ?_
  refine WL.y rfl (Yd.assign (v := .int .u64 ((0#64).toNat : Int)) rfl) ?_
  refine WL.nil ?_
  refine DN.then_normal ?_
  refine WC.seq ?_
  refine WC.region ?_
  refine WL.y rfl (Yd.assign (v := .int .u64 ((0#64).toNat : Int)) rfl) ?_
  refine WL.nil ?_
  refine DN.then_normal ?_
  refine WC.seq ?_
  refine WC.seq ?_
  refine WC.region ?_
  refine WL.y rfl (Yd.move rfl) ?_
  refine WL.y rfl (Yd.move rfl) ?_
  refine WL.ca rfl (Ent.func Try.call54 rfl) (take_tells br u bs sh C k hu hl hk) ?_
  rintro x H1 ⟨u', hx, hu', rfl⟩
  obtain ⟨got, hgot⟩ : ∃ got, got = rdGot bs sh k := ⟨_, rfl⟩
  rw [← hgot] at hx
  rw [← hgot]
  have hgl : got.length ≤ 8 := by rw [hgot, rdGot]; split <;> simp; omega
  obtain ⟨xo, xc, rfl, hxc⟩ := hx.form
  refine WL.y rfl (Yd.len (e := 5) (by kernel_rfl) rfl) ?_
  refine WL.y rfl (Yd.move rfl) ?_
  refine WL.nil ?_
  refine DN.then_normal ?_
  refine WC.block ?_
  refine WC.loop (fun i : Nat => i ≤ got.length) (fun i => [(5, .int .u64 (beN (got.take i)).toNat), (10, .slice xo got.length xc), (11, .int .i64 got.length), (12, .int .i64 i)]) (fun _ => row br [u', .bool (rdShort bs sh k)] 85 :: C) (fun i => got.length - i) 0 (Nat.zero_le _) ⟨rfl, rfl, rfl, rfl, trivial⟩ (List.Perm.refl _) ?_
  intro i hi
  refine WC.seq ?_
  refine WC.region ?_
  refine WL.y rfl (Yd.lss rfl rfl) ?_
  refine WL.nil ?_
  refine DN.then_normal ?_
  refine WC.seq ?_
  refine WC.ite rfl (fun h13 => ?_) (fun h13 => ?_)
  · have hlt : i < got.length := by omega
    refine WC.skip ?_
    refine DN.then_normal ?_
    refine WC.seq ?_
    refine WC.block ?_
    refine WC.seq ?_
    refine WC.region ?_
    refine WL.elem (e := 5) (by kernel_rfl) (by kernel_rfl) (by kernel_rfl) rfl rfl (rfl) (hx.mono fun y hy => List.mem_cons_of_mem _ hy) (bc_get hlt) (hlt) rfl rfl ?_
    intro _
    refine WL.y rfl (Yd.assign rfl) ?_
    refine WL.nil ?_
    refine DN.then_normal ?_
    refine WC.region ?_
    refine WL.y rfl (Yd.move rfl) ?_
    refine WL.y rfl (Yd.shl64 _ 8 rfl rfl rfl rfl) ?_
    refine WL.y rfl (Yd.move rfl) ?_
    refine WL.y rfl (Yd.conv8_64 _ (by kernel_rfl) (by kernel_rfl) rfl rfl) ?_
    refine WL.y rfl (Yd.or64 _ _ rfl rfl rfl rfl) ?_
    refine WL.y rfl (Yd.assign rfl) ?_
    refine WL.nil ?_
    refine DN.block_normal ?_
    refine DN.then_normal ?_
    refine WC.region ?_
    refine WL.y rfl (Yd.add rfl rfl (by omega) (by omega)) ?_
    refine WL.y rfl (Yd.move rfl) ?_
    refine WL.nil ?_
    exact DN.again (i + 1) (by omega) (by omega) ⟨by rw [beN_next got i hlt]; rfl, rfl, rfl, rfl, trivial⟩ (List.Perm.refl _)
  · have hie : i = got.length := by omega
    subst hie
    rw [List.take_length]
    refine WC.exit ?_
    refine DN.then_exit ?_
    refine DN.then_exit ?_
    refine DN.block_exit ?_
    refine DN.then_normal ?_
    refine WC.seq ?_
    refine WC.region ?_
    refine WL.y rfl (Yd.move rfl) ?_
    refine WL.y rfl (Yd.assign rfl) ?_
    refine WL.nil ?_
    refine DN.then_normal ?_
    refine WC.ret ?_
    refine DN.ret1 Try.results53 rfl ?_
    exact ⟨u', rfl, hu', rfl⟩

/-- (*drayage/field.Reader).U16 -/
theorem rU16_tells (br : Nat) (u : Value) (bs : List B8') (sh : Bool) (C : List Ck) (hu : Bs u bs C) (hl : bs.length ≤ 1000000) : Tells Try.prog 49 [.pointer (some ⟨br, 0, none⟩)] (row br [u, .bool sh] 85 :: C) fun r H' => ∃ u', r = .int .u16 ((beN (rdGot bs sh 2)).setWidth 16).toNat ∧ Bs u' (rdRest bs sh 2) C ∧ H' = row br [u', .bool (rdShort bs sh 2)] 85 :: C := by
  refine Tells.enter Try.func49 rfl Try.ntmps49 rfl ?_
  intro w0 R
  refine WC.seq ?_
  refine WC.region ?_
  refine WL.y rfl (Yd.assign (v := .int .u16 ((0#16).toNat : Int)) rfl) ?_
  refine WL.nil ?_
  refine DN.then_normal ?_
  refine WC.seq ?_
  refine WC.region ?_
  refine WL.y rfl (Yd.move rfl) ?_
  refine WL.ca rfl (Ent.func Try.call53 rfl) (number_tells br u bs sh C 2 hu hl (by omega)) ?_
  rintro x H1 ⟨u', rfl, hu', rfl⟩
  refine WL.y rfl (Yd.conv64_16 _ (by kernel_rfl) (by kernel_rfl) rfl rfl) ?_
  refine WL.y rfl (Yd.assign rfl) ?_
  refine WL.nil ?_
  refine DN.then_normal ?_
  refine WC.ret ?_
  refine DN.ret1 Try.results49 rfl ?_
  exact ⟨u', rfl, hu', rfl⟩

/-- (*drayage/field.Reader).U32 -/
theorem rU32_tells (br : Nat) (u : Value) (bs : List B8') (sh : Bool) (C : List Ck) (hu : Bs u bs C) (hl : bs.length ≤ 1000000) : Tells Try.prog 50 [.pointer (some ⟨br, 0, none⟩)] (row br [u, .bool sh] 85 :: C) fun r H' => ∃ u', r = .int .u32 ((beN (rdGot bs sh 4)).setWidth 32).toNat ∧ Bs u' (rdRest bs sh 4) C ∧ H' = row br [u', .bool (rdShort bs sh 4)] 85 :: C := by
  refine Tells.enter Try.func50 rfl Try.ntmps50 rfl ?_
  intro w0 R
  refine WC.seq ?_
  refine WC.region ?_
  refine WL.y rfl (Yd.assign (v := .int .u32 ((0#32).toNat : Int)) rfl) ?_
  refine WL.nil ?_
  refine DN.then_normal ?_
  refine WC.seq ?_
  refine WC.region ?_
  refine WL.y rfl (Yd.move rfl) ?_
  refine WL.ca rfl (Ent.func Try.call53 rfl) (number_tells br u bs sh C 4 hu hl (by omega)) ?_
  rintro x H1 ⟨u', rfl, hu', rfl⟩
  refine WL.y rfl (Yd.conv64_32 _ (by kernel_rfl) (by kernel_rfl) rfl rfl) ?_
  refine WL.y rfl (Yd.assign rfl) ?_
  refine WL.nil ?_
  refine DN.then_normal ?_
  refine WC.ret ?_
  refine DN.ret1 Try.results50 rfl ?_
  exact ⟨u', rfl, hu', rfl⟩

/-- (*drayage/field.Reader).Done -/
theorem rDone_tells (br : Nat) (u : Value) (bs : List B8') (sh : Bool) (C : List Ck) (hu : Bs u bs C) : Reads Try.prog 51 [.pointer (some ⟨br, 0, none⟩)] (row br [u, .bool sh] 85 :: C) (.int .i64 (if sh then 10 else if 0 < bs.length then 11 else 0)) := by
  refine Tells.enter Try.func51 rfl Try.ntmps51 rfl ?_
  intro w0 R
  obtain ⟨uo, uc, rfl, huc⟩ := hu.form
  refine WC.seq ?_
  refine WC.region ?_
  refine WL.y rfl (Yd.assign rfl) ?_
  refine WL.nil ?_
  refine DN.then_normal ?_
  refine WC.seq ?_
  refine WC.block ?_
  refine WC.seq ?_
  refine WC.region ?_
  refine WL.y rfl (Yd.move rfl) ?_
  refine WL.y rfl (Yd.eqlNil Try.underlying76 rfl rfl) ?_
  refine WL.renamed (t := 5) (v := .bool false) rfl (congrArg Value.bool (rfl)) ?_
  refine WL.y rfl (Yd.assign rfl) ?_
  refine WL.nil ?_
  refine DN.then_normal ?_
  refine WC.no rfl ?_
  refine WC.seq ?_
  refine WC.region ?_
  refine WL.y rfl (Yd.move rfl) ?_
  refine WL.y rfl (Yd.notNil rfl) ?_
  refine WL.y rfl (Yd.fieldAddr (k := 1) (by kernel_rfl) rfl) ?_
  refine WL.h rfl (Hd.load1 (v := .bool sh) (b := br) (cs := [.slice uo bs.length uc, .bool sh]) (by kernel_rfl) rfl List.mem_cons_self rfl ⟨_, rfl, ?_⟩)
  refine WL.y rfl (Yd.assign rfl) ?_
  refine WL.nil ?_
  refine DN.then_normal ?_
  refine WC.cond rfl (fun h6 => ?_) (fun h6 => ?_)
  · subst h6
    refine WC.seq ?_
    refine WC.region ?_
    refine WL.y rfl (Yd.assign rfl) ?_
    refine WL.nil ?_
    refine DN.then_normal ?_
    refine WC.ret ?_
    refine DN.block_ret ?_
    refine DN.then_ret ?_
    refine DN.ret1 Try.results51 rfl ?_
    exact ⟨rfl, rfl⟩
  · subst h6
    refine WC.seq ?_
    refine WC.region ?_
    refine WL.y rfl (Yd.move rfl) ?_
    refine WL.y rfl (Yd.notNil rfl) ?_
    refine WL.y rfl (Yd.fieldAddr (k := 0) (by kernel_rfl) rfl) ?_
    refine WL.h rfl (Hd.load1 (v := .slice uo bs.length uc) (b := br) (cs := [.slice uo bs.length uc, .bool false]) (by kernel_rfl) rfl List.mem_cons_self rfl ⟨_, rfl, ?_⟩)
    refine WL.y rfl (Yd.len (e := 5) (by kernel_rfl) rfl) ?_
    refine WL.y rfl (Yd.gtr rfl rfl) ?_
    refine WL.y rfl (Yd.assign rfl) ?_
    refine WL.nil ?_
    refine DN.then_normal ?_
    refine WC.ite rfl (fun h11 => ?_) (fun h11 => ?_)
    · refine WC.seq ?_
      refine WC.region ?_
      refine WL.y rfl (Yd.assign rfl) ?_
      refine WL.nil ?_
      refine DN.then_normal ?_
      refine WC.ret ?_
      refine DN.block_ret ?_
      refine DN.then_ret ?_
      refine DN.ret1 Try.results51 rfl ?_
      exact ⟨by rw [if_neg (by decide), if_pos (by omega)], rfl⟩
    · refine WC.skip ?_
      refine DN.block_normal ?_
      refine DN.then_normal ?_
      refine WC.seq ?_
      refine WC.region ?_
      refine WL.y rfl (Yd.assign rfl) ?_
      refine WL.nil ?_
      refine DN.then_normal ?_
      refine WC.ret ?_
      refine DN.ret1 Try.results51 rfl ?_
      exact ⟨by rw [if_neg (by decide), if_neg (by omega)], rfl⟩

end Go.Proofs.Ytfacofbobmlmiaa
