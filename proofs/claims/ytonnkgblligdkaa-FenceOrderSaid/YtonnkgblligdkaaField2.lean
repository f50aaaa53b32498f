/-
  The walks of the writer and the reader of fields.
-/
import Derived.Test.YtonnkgblligdkaaRows
import Derived.Test.YtonnkgblligdkaaFieldMath
import Derived.Test.YtonnkgblligdkaaSLFloat
set_option linter.unusedVariables false
set_option linter.unusedSimpArgs false
set_option maxHeartbeats 2000000
namespace Go.Proofs.Ytonnkgblligdkaa
open Go.SL


/-- drayage/field.NewWriter -/
theorem newWriter_tells : Tells Try.prog 49 [] [] fun r H' => ∃ b, r = .pointer (some ⟨b, 0, none⟩) ∧ H' = [row b [.slice none 0 0, .bool false] 121] := by
  refine Tells.enter Try.func49 rfl Try.ntmps49 rfl ?_
  intro w0 R
  refine WC.seq ?_
  refine WC.region ?_
  refine WL.y rfl (Yd.assign rfl) ?_
  refine WL.nil ?_
  refine DN.then_normal ?_
  refine WC.seq ?_
  refine WC.region ?_
  refine WL.y rfl (Yd.buildL (pl := [(0, 1), (1, 1)]) (zs := [.slice none 0 0, .bool false]) (parts := []) (vs := []) (cells := [.slice none 0 0, .bool false]) kr_ kr_ rfl rfl) ?_
  refine WL.h rfl (Hd.boxA rfl fun b => ⟨_, rfl, ?_⟩)
  refine WL.y rfl (Yd.assign rfl) ?_
  refine WL.nil ?_
  refine DN.then_normal ?_
  refine WC.ret ?_
  refine DN.ret1 Try.results49 rfl ?_
  exact ⟨b, rfl, rfl⟩

/-- (*drayage/field.Writer).put -/
theorem put_tells (bw : Nat) (v : Value) (l : List (BitVec 8)) (C : List Ck) (n : BitVec 64) (size : Nat) (hs : size ≤ 8) (ho : Ob 5 v l C) (hl : l.length ≤ 1000000) : Tells Try.prog 71 [.pointer (some ⟨bw, 0, none⟩), .int .u64 n.toNat, .int .i64 size] (row bw [v, .bool false] 121 :: C) fun r H' => r = .pointer (some ⟨bw, 0, none⟩) ∧ ∃ v' C', Ob 5 v' (l ++ beW n size) C' ∧ H' = row bw [v', .bool false] 121 :: C' := by
  refine Tells.enter Try.func71 rfl Try.ntmps71 rfl ?_
  intro w0 R
  refine WC.seq ?_
  refine WC.region ?_
  refine WL.y rfl (Yd.assign rfl) ?_
  refine WL.nil ?_
  refine DN.then_normal ?_
  refine WC.seq ?_
  refine WC.seq ?_
  refine WC.region ?_
  refine WL.y rfl (Yd.move rfl) ?_
  refine WL.y rfl (Yd.eqlNil Try.underlying91 rfl rfl) ?_
  refine WL.renamed (t := 9) (v := .bool false) rfl (congrArg Value.bool (rfl)) ?_
  refine WL.nil ?_
  refine DN.then_normal ?_
  refine WC.no rfl ?_
  refine WC.skip ?_
  refine DN.then_normal ?_
  refine WC.seq ?_
  refine WC.seq ?_
  refine WC.region ?_
  refine WL.y rfl (Yd.move rfl) ?_
  refine WL.y rfl (Yd.move rfl) ?_
  refine WL.nil ?_
  refine DN.then_normal ?_
  refine WC.block ?_
  refine WC.loopS (fun z : Nat × Value × List Ck => z.1 ≤ size ∧ Ob 5 z.2.1 (l ++ (beW n size).take z.1) z.2.2) (fun z : Nat × Value × List Ck => [(11, .int .i64 (z.1 : Int))]) (fun z : Nat × Value × List Ck => row bw [z.2.1, .bool false] 121 :: z.2.2) (fun z : Nat × Value × List Ck => size - z.1) (⟨0, v, C⟩) (show 0 ≤ size ∧ Ob 5 v (l ++ (beW n size).take 0) C from ⟨Nat.zero_le _, by simpa using ho⟩) (Sx.put rfl (sx_)) sp_ ?_
  rintro ⟨i, u, Cu⟩ hI
  replace hI : i ≤ size ∧ Ob 5 u (l ++ (beW n size).take i) Cu := hI
  obtain ⟨hi, hu⟩ := hI
  change WC _ _ _ _ _ _ ([(11, .int .i64 (i : Int))] ++ _) (row bw [u, .bool false] 121 :: Cu)
  obtain ⟨uo, uc, rfl, huc⟩ := hu.form
  refine WC.seq ?_
  refine WC.region ?_
  refine WL.y rfl (Yd.lss rfl rfl) ?_
  refine WL.nil ?_
  refine DN.then_normal ?_
  refine WC.seq ?_
  refine WC.ite rfl (fun h12 => ?_) (fun h12 => ?_)
  · have hlt : i < size := by omega
    have hL : (l ++ (beW n size).take i).length ≤ 1000008 := by simp only [List.length_append, List.length_take]; omega
    refine WC.skip ?_
    refine DN.then_normal ?_
    refine WC.seq ?_
    refine WC.block ?_
    refine WC.seq ?_
    refine WC.region ?_
    refine WL.y rfl (Yd.move rfl) ?_
    refine WL.y rfl (Yd.assign rfl) ?_
    refine WL.nil ?_
    refine DN.then_normal ?_
    refine WC.draw 18 kr_ rfl ?_
    refine WA.y (i := 0) (NoPanic.block (NoPanic.then (NoPanic.then (NoPanic.block (NoPanic.then (NoPanic.body)))))) rfl kr_ kr_ kr_ rfl (Yd.move rfl) ?_
    refine WA.y (i := 1) (NoPanic.block (NoPanic.then (NoPanic.then (NoPanic.block (NoPanic.then (NoPanic.body)))))) rfl kr_ kr_ kr_ rfl (Yd.move rfl) ?_
    refine WA.y (i := 2) (NoPanic.block (NoPanic.then (NoPanic.then (NoPanic.block (NoPanic.then (NoPanic.body)))))) rfl kr_ kr_ kr_ rfl (Yd.notNil rfl) ?_
    refine WA.y (i := 3) (NoPanic.block (NoPanic.then (NoPanic.then (NoPanic.block (NoPanic.then (NoPanic.body)))))) rfl kr_ kr_ kr_ rfl (Yd.fieldAddr (k := 0) kr_ rfl) ?_
    refine WA.y (i := 5) (NoPanic.block (NoPanic.then (NoPanic.then (NoPanic.block (NoPanic.then (NoPanic.body)))))) rfl kr_ kr_ kr_ rfl (Yd.move rfl) ?_
    refine WA.y (i := 6) (NoPanic.block (NoPanic.then (NoPanic.then (NoPanic.block (NoPanic.then (NoPanic.body)))))) rfl kr_ kr_ kr_ rfl (Yd.move rfl) ?_
    refine WA.y (i := 7) (NoPanic.block (NoPanic.then (NoPanic.then (NoPanic.block (NoPanic.then (NoPanic.body)))))) rfl kr_ kr_ kr_ rfl (Yd.sub rfl rfl (by omega) (by omega)) ?_
    refine WA.y (i := 8) (NoPanic.block (NoPanic.then (NoPanic.then (NoPanic.block (NoPanic.then (NoPanic.body)))))) rfl kr_ kr_ kr_ rfl (Yd.move rfl) ?_
    refine WA.y (i := 9) (NoPanic.block (NoPanic.then (NoPanic.then (NoPanic.block (NoPanic.then (NoPanic.body)))))) rfl kr_ kr_ kr_ rfl (Yd.sub rfl rfl (by omega) (by omega)) ?_
    refine WA.y (i := 10) (NoPanic.block (NoPanic.then (NoPanic.then (NoPanic.block (NoPanic.then (NoPanic.body)))))) rfl kr_ kr_ kr_ rfl (Yd.mul rfl rfl (by omega) (by omega)) ?_
    refine WA.renamed (t := 24) (v := .int .i64 ((8 * (size - 1 - i) : Nat) : Int)) rfl (congrArg (Value.int .i64) (by omega)) ?_
    refine WA.y (i := 11) (NoPanic.block (NoPanic.then (NoPanic.then (NoPanic.block (NoPanic.then (NoPanic.body)))))) rfl kr_ kr_ kr_ rfl (Yd.shr64 _ (8 * (size - 1 - i)) rfl rfl rfl rfl) ?_
    refine WA.y (i := 12) (NoPanic.block (NoPanic.then (NoPanic.then (NoPanic.block (NoPanic.then (NoPanic.body)))))) rfl kr_ kr_ kr_ rfl (Yd.conv64_8 _ kr_ kr_ rfl rfl) ?_
    refine WA.two (i := 4) (j := 13) kr_ ?_ ?_
    · refine WO.h rfl Wt.none rfl (Hd.load1 kr_ rfl mem_ (by rfl) ⟨_, rfl, ?_⟩)
      refine WA.one (i := 13) kr_ ?_
      refine WO.h rfl Wt.none rfl (Hd.build1 (e := 5) (z := .int .u8 0) kr_ kr_ kr_ rfl rfl fun rb => ⟨_, rfl, ?_⟩)
      refine WA.one (i := 14) kr_ ?_
      refine WO.h rfl Wt.none rfl (Hd.appendBs (e := 5) (zs := [.int .u8 0]) kr_ kr_ rfl rfl rfl hu sp_ (Bs.block (bs := [(n >>> (8 * (size - 1 - i))).setWidth 8]) rfl (by simp) mem_) (by simp only [List.length_cons, List.length_nil]; omega) fun u2 C2 hu2 => ⟨_, rfl, ?_⟩)
      refine WA.y (i := 15) (NoPanic.block (NoPanic.then (NoPanic.then (NoPanic.block (NoPanic.then (NoPanic.body)))))) rfl kr_ kr_ kr_ rfl (Yd.notNil rfl) ?_
      refine WA.y (i := 16) (NoPanic.block (NoPanic.then (NoPanic.then (NoPanic.block (NoPanic.then (NoPanic.body)))))) rfl kr_ kr_ kr_ rfl (Yd.fieldAddr (k := 0) kr_ rfl) ?_
      refine WA.one (i := 17) kr_ ?_
      refine WO.s rfl Wt.none (Hd.store1s kr_ rfl rfl hu2.one_cell fr_ (by rfl) rfl ⟨rfl, ?_⟩)
      refine WA.done kr_ ?_
      refine DN.block_normal ?_
      refine DN.then_normal ?_
      refine WC.region ?_
      refine WL.y rfl (Yd.add rfl rfl (by omega) (by omega)) ?_
      refine WL.y rfl (Yd.move rfl) ?_
      refine WL.nil ?_
      exact DN.againS (⟨i + 1, u2, C2⟩) (show (i + 1) ≤ size ∧ Ob 5 u2 (l ++ (beW n size).take (i + 1)) C2 from ⟨by omega, by rw [beW_next n size i hlt, ← List.append_assoc]; exact hu2⟩) (show size - (i + 1) < size - i by omega) (Sx.put rfl (sx_)) sp_
    · refine WO.h rfl Wt.none rfl (Hd.build1 (e := 5) (z := .int .u8 0) kr_ kr_ kr_ rfl rfl fun rb => ⟨_, rfl, ?_⟩)
      refine WA.one (i := 4) kr_ ?_
      refine WO.h rfl Wt.none rfl (Hd.load1 kr_ rfl mem_ (by rfl) ⟨_, rfl, ?_⟩)
      refine WA.one (i := 14) kr_ ?_
      refine WO.h rfl Wt.none rfl (Hd.appendBs (e := 5) (zs := [.int .u8 0]) kr_ kr_ rfl rfl rfl hu sp_ (Bs.block (bs := [(n >>> (8 * (size - 1 - i))).setWidth 8]) rfl (by simp) mem_) (by simp only [List.length_cons, List.length_nil]; omega) fun u2 C2 hu2 => ⟨_, rfl, ?_⟩)
      refine WA.y (i := 15) (NoPanic.block (NoPanic.then (NoPanic.then (NoPanic.block (NoPanic.then (NoPanic.body)))))) rfl kr_ kr_ kr_ rfl (Yd.notNil rfl) ?_
      refine WA.y (i := 16) (NoPanic.block (NoPanic.then (NoPanic.then (NoPanic.block (NoPanic.then (NoPanic.body)))))) rfl kr_ kr_ kr_ rfl (Yd.fieldAddr (k := 0) kr_ rfl) ?_
      refine WA.one (i := 17) kr_ ?_
      refine WO.s rfl Wt.none (Hd.store1s kr_ rfl rfl hu2.one_cell fr_ (by rfl) rfl ⟨rfl, ?_⟩)
      refine WA.done kr_ ?_
      refine DN.block_normal ?_
      refine DN.then_normal ?_
      refine WC.region ?_
      refine WL.y rfl (Yd.add rfl rfl (by omega) (by omega)) ?_
      refine WL.y rfl (Yd.move rfl) ?_
      refine WL.nil ?_
      exact DN.againS (⟨i + 1, u2, C2⟩) (show (i + 1) ≤ size ∧ Ob 5 u2 (l ++ (beW n size).take (i + 1)) C2 from ⟨by omega, by rw [beW_next n size i hlt, ← List.append_assoc]; exact hu2⟩) (show size - (i + 1) < size - i by omega) (Sx.put rfl (sx_)) sp_
  · have hie : i = size := by omega
    subst hie
    refine WC.exit ?_
    refine DN.then_exit ?_
    refine DN.then_exit ?_
    refine DN.block_exit ?_
    refine DN.then_normal ?_
    refine WC.seq ?_
    refine WC.region ?_
    refine WL.y rfl (Yd.move rfl) ?_
    refine WL.y rfl (Yd.assign rfl) ?_
    refine WL.nil ?_
    refine DN.then_normal ?_
    refine WC.ret ?_
    refine DN.ret1 Try.results71 rfl ?_
    refine ⟨rfl, _, Cu, ?_, rfl⟩
    rw [List.take_of_length_le (by rw [beW_length]; omega)] at hu ⊢
    exact hu

/-- (*drayage/field.Writer).U8 -/
theorem wU8_tells (bw : Nat) (v : Value) (l : List (BitVec 8)) (C : List Ck) (n : BitVec 8) (ho : Ob 5 v l C) (hl : l.length ≤ 1000000) : Tells Try.prog 51 [.pointer (some ⟨bw, 0, none⟩), .int .u8 n.toNat] (row bw [v, .bool false] 121 :: C) fun r H' => r = .pointer (some ⟨bw, 0, none⟩) ∧ ∃ v' C', Ob 5 v' (l ++ [n]) C' ∧ H' = row bw [v', .bool false] 121 :: C' := by
  refine Tells.enter Try.func51 rfl Try.ntmps51 rfl ?_
  intro w0 R
  refine WC.seq ?_
  refine WC.region ?_
  refine WL.y rfl (Yd.assign rfl) ?_
  refine WL.nil ?_
  refine DN.then_normal ?_
  refine WC.seq ?_
  refine WC.region ?_
  refine WL.y rfl (Yd.move rfl) ?_
  refine WL.y rfl (Yd.move rfl) ?_
  refine WL.y rfl (Yd.conv8_64 _ kr_ kr_ rfl rfl) ?_
  refine WL.ca rfl (Ent.func Try.call71 rfl) (put_tells bw v l C (n.setWidth 64) 1 (by omega) ho hl) ?_
  rintro x H1 ⟨rfl, v', C', ho', rfl⟩
  refine WL.y rfl (Yd.assign rfl) ?_
  refine WL.nil ?_
  refine DN.then_normal ?_
  refine WC.ret ?_
  refine DN.ret1 Try.results51 rfl ?_
  exact ⟨rfl, v', C', by rw [beW_one] at ho'; exact ho', rfl⟩

/-- (*drayage/field.Writer).U32 -/
theorem wU32_tells (bw : Nat) (v : Value) (l : List (BitVec 8)) (C : List Ck) (n : BitVec 32) (ho : Ob 5 v l C) (hl : l.length ≤ 1000000) : Tells Try.prog 50 [.pointer (some ⟨bw, 0, none⟩), .int .u32 n.toNat] (row bw [v, .bool false] 121 :: C) fun r H' => r = .pointer (some ⟨bw, 0, none⟩) ∧ ∃ v' C', Ob 5 v' (l ++ beW (n.setWidth 64) 4) C' ∧ H' = row bw [v', .bool false] 121 :: C' := by
  refine Tells.enter Try.func50 rfl Try.ntmps50 rfl ?_
  intro w0 R
  refine WC.seq ?_
  refine WC.region ?_
  refine WL.y rfl (Yd.assign rfl) ?_
  refine WL.nil ?_
  refine DN.then_normal ?_
  refine WC.seq ?_
  refine WC.region ?_
  refine WL.y rfl (Yd.move rfl) ?_
  refine WL.y rfl (Yd.move rfl) ?_
  refine WL.y rfl (Yd.conv32_64 _ kr_ kr_ rfl rfl) ?_
  refine WL.ca rfl (Ent.func Try.call71 rfl) (put_tells bw v l C (n.setWidth 64) 4 (by omega) ho hl) ?_
  rintro x H1 ⟨rfl, v', C', ho', rfl⟩
  refine WL.y rfl (Yd.assign rfl) ?_
  refine WL.nil ?_
  refine DN.then_normal ?_
  refine WC.ret ?_
  refine DN.ret1 Try.results50 rfl ?_
  exact ⟨rfl, v', C', ho', rfl⟩

/-- (*drayage/field.Writer).Text -/
theorem wText_tells (bw : Nat) (v : Value) (l : List (BitVec 8)) (C : List Ck) (H : List Ck) (vs : Value) (s : List (BitVec 8)) (hs : Bs vs s H) (hsl : s.length ≤ 255) (ho : Ob 5 v l C) (hl : l.length ≤ 900000) : Tells Try.prog 52 [.pointer (some ⟨bw, 0, none⟩), vs] (row bw [v, .bool false] 121 :: (C ++ H)) fun r H' => r = .pointer (some ⟨bw, 0, none⟩) ∧ ∃ v' C', Ob 5 v' (l ++ tb s) C' ∧ H' = row bw [v', .bool false] 121 :: (C' ++ H) := by
  refine Tells.enter Try.func52 rfl Try.ntmps52 rfl ?_
  intro w0 R
  obtain ⟨so, sc, rfl, hsc⟩ := hs.form
  refine WC.seq ?_
  refine WC.region ?_
  refine WL.y rfl (Yd.assign rfl) ?_
  refine WL.nil ?_
  refine DN.then_normal ?_
  refine WC.seq ?_
  refine WC.block ?_
  refine WC.seq ?_
  refine WC.region ?_
  refine WL.y rfl (Yd.move rfl) ?_
  refine WL.y rfl (Yd.eqlNil Try.underlying91 rfl rfl) ?_
  refine WL.renamed (t := 7) (v := .bool false) rfl (congrArg Value.bool (rfl)) ?_
  refine WL.y rfl (Yd.assign rfl) ?_
  refine WL.nil ?_
  refine DN.then_normal ?_
  refine WC.no rfl ?_
  refine WC.seq ?_
  refine WC.region ?_
  refine WL.y rfl (Yd.move rfl) ?_
  refine WL.y rfl (Yd.len (e := 5) kr_ rfl) ?_
  refine WL.y rfl (Yd.gtr rfl rfl) ?_
  refine WL.renamed (t := 11) (v := .bool false) rfl (congrArg Value.bool (decide_eq_false (by omega))) ?_
  refine WL.y rfl (Yd.assign rfl) ?_
  refine WL.nil ?_
  refine DN.then_normal ?_
  refine WC.no rfl ?_
  refine WC.skip ?_
  refine DN.block_normal ?_
  refine DN.then_normal ?_
  refine WC.seq ?_
  refine WC.region ?_
  refine WL.y rfl (Yd.move rfl) ?_
  refine WL.y rfl (Yd.move rfl) ?_
  refine WL.y rfl (Yd.len (e := 5) kr_ rfl) ?_
  refine WL.y rfl (Yd.to8 _ kr_ kr_ rfl rfl) ?_
  refine WL.c rfl (Ent.func Try.call51 rfl) (wU8_tells bw v l C (BitVec.ofInt 8 (s.length : Int)) ho (by omega)) (Sp.p sp_) ?_
  rintro x H1 ⟨rfl, v1, C1, ho1, rfl⟩
  obtain ⟨o1, c1, rfl, hc1⟩ := ho1.form
  refine WL.nil ?_
  refine DN.then_normal ?_
  refine WC.seq ?_
  refine WC.region ?_
  refine WL.y rfl (Yd.move rfl) ?_
  refine WL.y rfl (Yd.move rfl) ?_
  refine WL.y rfl (Yd.notNil rfl) ?_
  refine WL.y rfl (Yd.fieldAddr (k := 0) kr_ rfl) ?_
  refine WL.h rfl (Hd.load1 kr_ rfl mem_ (by rfl) ⟨_, rfl, ?_⟩)
  refine WL.y rfl (Yd.move rfl) ?_
  refine WL.h rfl (Hd.appendBs (e := 5) (zs := [.int .u8 0]) kr_ kr_ rfl rfl rfl ho1 sp_ (hs.mono gr_) (by simp only [List.length_append, List.length_cons, List.length_nil]; omega) fun v2 C2 ho2 => ⟨_, rfl, ?_⟩)
  obtain ⟨o2, c2, rfl, hc2⟩ := ho2.form
  refine WL.y rfl (Yd.notNil rfl) ?_
  refine WL.y rfl (Yd.fieldAddr (k := 0) kr_ rfl) ?_
  refine WL.s (Hd.store1s kr_ rfl rfl (by rfl) fr_ (by rfl) (by first | (simp only [List.set_cons_zero, List.set_cons_succ, Nat.zero_add, Nat.add_zero, Nat.reduceAdd]; rfl) | rfl) ⟨rfl, ?_⟩)
  refine WL.nil ?_
  refine DN.then_normal ?_
  refine WC.seq ?_
  refine WC.region ?_
  refine WL.y rfl (Yd.move rfl) ?_
  refine WL.y rfl (Yd.assign rfl) ?_
  refine WL.nil ?_
  refine DN.then_normal ?_
  refine WC.ret ?_
  refine DN.fit (C := row bw [.slice o2 ((l ++ [BitVec.ofInt 8 (s.length : Int)]) ++ s).length c2, .bool false] 121 :: (C2 ++ H)) sp_ ?_
  refine DN.ret1 Try.results52 rfl ?_
  exact ⟨rfl, _, C2, by rw [List.append_assoc] at ho2; exact ho2, by rw [List.append_assoc]⟩

/-- (*drayage/field.Writer).Done -/
theorem wDone_tells (bw : Nat) (v : Value) (l : List (BitVec 8)) (C : List Ck) (ho : Ob 5 v l C) (hl : l.length ≤ 1000000) : Tells Try.prog 53 [.pointer (some ⟨bw, 0, none⟩)] (row bw [v, .bool false] 121 :: C) fun r H' => ∃ v' C', r = .tuple #[v', .int .i64 0] ∧ Ob 5 v' l C' ∧ H' = C' := by
  refine Tells.enter Try.func53 rfl Try.ntmps53 rfl ?_
  intro w0 R
  obtain ⟨vo, vc, rfl, hvc⟩ := ho.form
  refine WC.seq ?_
  refine WC.region ?_
  refine WL.y rfl (Yd.assign rfl) ?_
  refine WL.y rfl (Yd.assign rfl) ?_
  refine WL.nil ?_
  refine DN.then_normal ?_
  refine WC.seq ?_
  refine WC.block ?_
  refine WC.seq ?_
  refine WC.region ?_
  refine WL.y rfl (Yd.move rfl) ?_
  refine WL.y rfl (Yd.eqlNil Try.underlying91 rfl rfl) ?_
  refine WL.renamed (t := 6) (v := .bool false) rfl (congrArg Value.bool (rfl)) ?_
  refine WL.y rfl (Yd.assign rfl) ?_
  refine WL.nil ?_
  refine DN.then_normal ?_
  refine WC.no rfl ?_
  refine WC.seq ?_
  refine WC.region ?_
  refine WL.y rfl (Yd.move rfl) ?_
  refine WL.y rfl (Yd.notNil rfl) ?_
  refine WL.y rfl (Yd.fieldAddr (k := 1) kr_ rfl) ?_
  refine WL.h rfl (Hd.load1 kr_ rfl mem_ (by rfl) ⟨_, rfl, ?_⟩)
  refine WL.renamed (t := 11) (v := .bool false) rfl (congrArg Value.bool (rfl)) ?_
  refine WL.y rfl (Yd.assign rfl) ?_
  refine WL.nil ?_
  refine DN.then_normal ?_
  refine WC.no rfl ?_
  refine WC.skip ?_
  refine DN.block_normal ?_
  refine DN.then_normal ?_
  refine WC.seq ?_
  refine WC.region ?_
  refine WL.h rfl (Hd.buildBytes (e := 5) [] kr_ kr_ kr_ rfl rfl kr_ fun b12 => ⟨_, rfl, ?_⟩)
  refine WL.y rfl (Yd.move rfl) ?_
  refine WL.y rfl (Yd.notNil rfl) ?_
  refine WL.y rfl (Yd.fieldAddr (k := 0) kr_ rfl) ?_
  refine WL.h rfl (Hd.load1 kr_ rfl mem_ (by rfl) ⟨_, rfl, ?_⟩)
  refine WL.h rfl (Hd.appendBs (e := 5) (zs := [.int .u8 0]) kr_ kr_ rfl rfl rfl (Ob.block b12 [] (by simp)) sp_ (ho.bs.mono gr_) (by simp; omega) fun v' C' ho' => ⟨_, rfl, ?_⟩)
  refine WL.y rfl (Yd.assign rfl) ?_
  refine WL.y rfl (Yd.assign rfl) ?_
  refine WL.nil ?_
  refine DN.then_normal ?_
  refine WC.ret ?_
  refine DN.fit (C := C') sp_ ?_
  refine DN.ret2 Try.results53 rfl rfl ?_
  exact ⟨v', C', rfl, by simpa using ho', rfl⟩

/-- drayage/field.NewReader -/
theorem newReader_tells (v : Value) (bs : List (BitVec 8)) (H : List Ck) (hv : Bs v bs H) (hl : bs.length ≤ 1000000) : Tells Try.prog 55 [v] H fun r H' => ∃ b v' C', r = .pointer (some ⟨b, 0, none⟩) ∧ Bs v' bs C' ∧ H' = row b [v', .bool false] 125 :: (C' ++ H) := by
  refine Tells.enter Try.func55 rfl Try.ntmps55 rfl ?_
  intro w0 R
  refine WC.seq ?_
  refine WC.region ?_
  refine WL.y rfl (Yd.assign rfl) ?_
  refine WL.nil ?_
  refine DN.then_normal ?_
  refine WC.seq ?_
  refine WC.region ?_
  refine WL.h rfl (Hd.buildBytes (e := 5) [] kr_ kr_ kr_ rfl rfl kr_ fun b3 => ⟨_, rfl, ?_⟩)
  refine WL.y rfl (Yd.move rfl) ?_
  refine WL.h rfl (Hd.appendBs (e := 5) (zs := [.int .u8 0]) kr_ kr_ rfl rfl rfl (Ob.block b3 [] (by simp)) sp_ (hv.mono gr_) (by simp; omega) fun v' C' ho' => ⟨_, rfl, ?_⟩)
  rw [List.nil_append] at ho'
  obtain ⟨vo, vc, rfl, hvc⟩ := ho'.form
  refine WL.y rfl (Yd.buildL (pl := [(0, 1), (1, 1)]) (zs := [.slice none 0 0, .bool false]) (parts := [(0, .tmp 5)]) (vs := [(0, _)]) (cells := [_, .bool false]) kr_ kr_ rfl rfl) ?_
  refine WL.h rfl (Hd.boxA rfl fun b => ⟨_, rfl, ?_⟩)
  refine WL.y rfl (Yd.assign rfl) ?_
  refine WL.nil ?_
  refine DN.then_normal ?_
  refine WC.ret ?_
  refine DN.fit (C := row b [.slice vo bs.length vc, .bool false] 125 :: (C' ++ H)) sp_ ?_
  refine DN.ret1 Try.results55 rfl ?_
  exact ⟨b, _, C', rfl, ho'.bs, rfl⟩

/-- (*drayage/field.Reader).take -/
theorem take_tells (br : Nat) (u : Value) (bs : List (BitVec 8)) (sh : Bool) (C : List Ck) (k : Nat) (hu : Bs u bs C) (hl : bs.length ≤ 1000000) (hk : k ≤ 1000) : Tells Try.prog 74 [.pointer (some ⟨br, 0, none⟩), .int .i64 k] (row br [u, .bool sh] 125 :: C) fun r H' => ∃ u', Bs r (rdGot bs sh k) C ∧ Bs u' (rdRest bs sh k) C ∧ H' = row br [u', .bool (rdShort bs sh k)] 125 :: C := by
  refine Tells.enter Try.func74 rfl Try.ntmps74 rfl ?_
  intro w0 R
  obtain ⟨uo, uc, rfl, huc⟩ := hu.form
  refine WC.seq ?_
  refine WC.region ?_
  refine WL.y rfl (Yd.assign rfl) ?_
  refine WL.nil ?_
  refine DN.then_normal ?_
  refine WC.seq ?_
  refine WC.seq ?_
  refine WC.region ?_
  refine WL.y rfl (Yd.move rfl) ?_
  refine WL.y rfl (Yd.eqlNil Try.underlying101 rfl rfl) ?_
  refine WL.renamed (t := 7) (v := .bool false) rfl (congrArg Value.bool (rfl)) ?_
  refine WL.nil ?_
  refine DN.then_normal ?_
  refine WC.no rfl ?_
  refine WC.skip ?_
  refine DN.then_normal ?_
  refine WC.seq ?_
  refine WC.seq ?_
  refine WC.region ?_
  refine WL.y rfl (Yd.move rfl) ?_
  refine WL.y rfl (Yd.move rfl) ?_
  refine WL.y rfl (Yd.notNil rfl) ?_
  refine WL.y rfl (Yd.fieldAddr (k := 1) kr_ rfl) ?_
  refine WL.h rfl (Hd.load1 kr_ rfl mem_ (by rfl) ⟨_, rfl, ?_⟩)
  refine WL.y rfl (Yd.move rfl) ?_
  refine WL.part (t := 13) rfl (fun hg13 => ?_) (fun hg13 => ?_)
  · refine WL.gn (dj := 13) rfl rfl rfl rfl ?_
    refine WL.gn (dj := 13) rfl rfl rfl rfl ?_
    refine WL.gn (dj := 13) rfl rfl rfl rfl ?_
    refine WL.gn (dj := 13) rfl rfl rfl rfl ?_
    refine WL.gn (dj := 13) rfl rfl rfl rfl ?_
    refine WL.gn (dj := 13) rfl rfl rfl rfl ?_
    refine WL.gn (dj := 13) rfl rfl rfl rfl ?_
    refine WL.y rfl (Yd.pickT rfl rfl) ?_
    refine WL.renamed (t := 21) (v := .bool (rdShort bs sh k)) rfl (congrArg Value.bool (by subst hg13; simp [rdShort])) ?_
    refine WL.y rfl (Yd.notNil rfl) ?_
    refine WL.y rfl (Yd.fieldAddr (k := 1) kr_ rfl) ?_
    refine WL.s (Hd.store1s kr_ rfl rfl (by rfl) fr_ (by rfl) (by first | (simp only [List.set_cons_zero, List.set_cons_succ, Nat.zero_add, Nat.add_zero, Nat.reduceAdd]; rfl) | rfl) ⟨rfl, ?_⟩)
    refine WL.nil ?_
    refine DN.then_normal ?_
    refine WC.seq ?_
    refine WC.region ?_
    refine WL.y rfl (Yd.move rfl) ?_
    refine WL.y rfl (Yd.notNil rfl) ?_
    refine WL.y rfl (Yd.fieldAddr (k := 1) kr_ rfl) ?_
    refine WL.h rfl (Hd.load1 kr_ rfl mem_ (by rfl) ⟨_, rfl, ?_⟩)
    refine WL.nil ?_
    refine DN.then_normal ?_
    refine WC.cond rfl (fun h27 => ?_) (fun h27 => ?_)
    · have hgot : rdGot bs sh k = [] := by simp [rdGot, h27]
      have hrest : rdRest bs sh k = bs := by simp [rdRest, h27]
      refine WC.seq ?_
      refine WC.region ?_
      refine WL.y rfl (Yd.assign rfl) ?_
      refine WL.nil ?_
      refine DN.then_normal ?_
      refine WC.ret ?_
      refine DN.then_ret ?_
      refine DN.ret1 Try.results74 rfl ?_
      exact ⟨_, by rw [hgot]; exact .inl ⟨_, _, rfl, rfl, rfl⟩, by rw [hrest]; exact hu, rfl⟩
    · have hgot : rdGot bs sh k = bs.take k := by simp [rdGot, h27]
      have hrest : rdRest bs sh k = bs.drop k := by simp [rdRest, h27]
      have hkl : k ≤ bs.length := by simp [rdShort] at h27; omega
      refine WC.skip ?_
      refine DN.then_normal ?_
      refine WC.seq ?_
      refine WC.region ?_
      refine WL.y rfl (Yd.move rfl) ?_
      refine WL.y rfl (Yd.notNil rfl) ?_
      refine WL.y rfl (Yd.fieldAddr (k := 0) kr_ rfl) ?_
      refine WL.h rfl (Hd.load1 kr_ rfl mem_ (by rfl) ⟨_, rfl, ?_⟩)
      refine WL.y rfl (Yd.move rfl) ?_
      refine WL.y rfl (Yd.sliceTo (e := 5) (s := 1) (j := k) kr_ kr_ rfl rfl rfl (by omega)) ?_
      refine WL.y rfl (Yd.assign rfl) ?_
      refine WL.nil ?_
      refine DN.then_normal ?_
      refine WC.seq ?_
      refine WC.region ?_
      refine WL.y rfl (Yd.move rfl) ?_
      refine WL.y rfl (Yd.move rfl) ?_
      refine WL.y rfl (Yd.notNil rfl) ?_
      refine WL.y rfl (Yd.fieldAddr (k := 0) kr_ rfl) ?_
      refine WL.h rfl (Hd.load1 kr_ rfl mem_ (by rfl) ⟨_, rfl, ?_⟩)
      refine WL.y rfl (Yd.move rfl) ?_
      refine WL.y rfl (Yd.slice (e := 5) (s := 1) (i := k) (j := bs.length) kr_ kr_ rfl ⟨_, _, rfl, rfl⟩ rfl hkl (by omega)) ?_
      refine WL.y rfl (Yd.notNil rfl) ?_
      refine WL.y rfl (Yd.fieldAddr (k := 0) kr_ rfl) ?_
      refine WL.s (Hd.store1s kr_ rfl rfl (by rfl) fr_ (by rfl) (by first | (simp only [List.set_cons_zero, List.set_cons_succ, Nat.zero_add, Nat.add_zero, Nat.reduceAdd]; rfl) | rfl) ⟨rfl, ?_⟩)
      refine WL.nil ?_
      refine DN.then_normal ?_
      refine WC.seq ?_
      refine WC.region ?_
      refine WL.y rfl (Yd.move rfl) ?_
      refine WL.y rfl (Yd.assign rfl) ?_
      refine WL.nil ?_
      refine DN.then_normal ?_
      refine WC.ret ?_
      refine DN.ret1 Try.results74 rfl ?_
      exact ⟨_, by rw [hgot]; exact hu.upto hkl, by rw [hrest]; have := hu.sub (i := k) (j := bs.length) hkl (Nat.le_refl _); rwa [List.take_of_length_le (by simp)] at this, rfl⟩
  · refine WL.gy (dj := 13) rfl rfl rfl (Yd.move rfl) ?_
    refine WL.gy (dj := 13) rfl rfl rfl (Yd.notNil rfl) ?_
    refine WL.gy (dj := 13) rfl rfl rfl (Yd.fieldAddr (k := 0) kr_ rfl) ?_
    refine WL.gh (dj := 13) rfl rfl rfl (Hd.load1 kr_ rfl mem_ (by rfl) ⟨_, rfl, ?_⟩)
    refine WL.gy (dj := 13) rfl rfl rfl (Yd.len (e := 5) kr_ rfl) ?_
    refine WL.gy (dj := 13) rfl rfl rfl (Yd.move rfl) ?_
    refine WL.gy (dj := 13) rfl rfl rfl (Yd.lss rfl rfl) ?_
    refine WL.y rfl (Yd.pickF rfl rfl) ?_
    refine WL.renamed (t := 21) (v := .bool (rdShort bs sh k)) rfl (congrArg Value.bool (by subst hg13; simp [rdShort])) ?_
    refine WL.y rfl (Yd.notNil rfl) ?_
    refine WL.y rfl (Yd.fieldAddr (k := 1) kr_ rfl) ?_
    refine WL.s (Hd.store1s kr_ rfl rfl (by rfl) fr_ (by rfl) (by first | (simp only [List.set_cons_zero, List.set_cons_succ, Nat.zero_add, Nat.add_zero, Nat.reduceAdd]; rfl) | rfl) ⟨rfl, ?_⟩)
    refine WL.nil ?_
    refine DN.then_normal ?_
    refine WC.seq ?_
    refine WC.region ?_
    refine WL.y rfl (Yd.move rfl) ?_
    refine WL.y rfl (Yd.notNil rfl) ?_
    refine WL.y rfl (Yd.fieldAddr (k := 1) kr_ rfl) ?_
    refine WL.h rfl (Hd.load1 kr_ rfl mem_ (by rfl) ⟨_, rfl, ?_⟩)
    refine WL.nil ?_
    refine DN.then_normal ?_
    refine WC.cond rfl (fun h27 => ?_) (fun h27 => ?_)
    · have hgot : rdGot bs sh k = [] := by simp [rdGot, h27]
      have hrest : rdRest bs sh k = bs := by simp [rdRest, h27]
      refine WC.seq ?_
      refine WC.region ?_
      refine WL.y rfl (Yd.assign rfl) ?_
      refine WL.nil ?_
      refine DN.then_normal ?_
      refine WC.ret ?_
      refine DN.then_ret ?_
      refine DN.ret1 Try.results74 rfl ?_
      exact ⟨_, by rw [hgot]; exact .inl ⟨_, _, rfl, rfl, rfl⟩, by rw [hrest]; exact hu, rfl⟩
    · have hgot : rdGot bs sh k = bs.take k := by simp [rdGot, h27]
      have hrest : rdRest bs sh k = bs.drop k := by simp [rdRest, h27]
      have hkl : k ≤ bs.length := by simp [rdShort] at h27; omega
      refine WC.skip ?_
      refine DN.then_normal ?_
      refine WC.seq ?_
      refine WC.region ?_
      refine WL.y rfl (Yd.move rfl) ?_
      refine WL.y rfl (Yd.notNil rfl) ?_
      refine WL.y rfl (Yd.fieldAddr (k := 0) kr_ rfl) ?_
      refine WL.h rfl (Hd.load1 kr_ rfl mem_ (by rfl) ⟨_, rfl, ?_⟩)
      refine WL.y rfl (Yd.move rfl) ?_
      refine WL.y rfl (Yd.sliceTo (e := 5) (s := 1) (j := k) kr_ kr_ rfl rfl rfl (by omega)) ?_
      refine WL.y rfl (Yd.assign rfl) ?_
      refine WL.nil ?_
      refine DN.then_normal ?_
      refine WC.seq ?_
      refine WC.region ?_
      refine WL.y rfl (Yd.move rfl) ?_
      refine WL.y rfl (Yd.move rfl) ?_
      refine WL.y rfl (Yd.notNil rfl) ?_
      refine WL.y rfl (Yd.fieldAddr (k := 0) kr_ rfl) ?_
      refine WL.h rfl (Hd.load1 kr_ rfl mem_ (by rfl) ⟨_, rfl, ?_⟩)
      refine WL.y rfl (Yd.move rfl) ?_
      refine WL.y rfl (Yd.slice (e := 5) (s := 1) (i := k) (j := bs.length) kr_ kr_ rfl ⟨_, _, rfl, rfl⟩ rfl hkl (by omega)) ?_
      refine WL.y rfl (Yd.notNil rfl) ?_
      refine WL.y rfl (Yd.fieldAddr (k := 0) kr_ rfl) ?_
      refine WL.s (Hd.store1s kr_ rfl rfl (by rfl) fr_ (by rfl) (by first | (simp only [List.set_cons_zero, List.set_cons_succ, Nat.zero_add, Nat.add_zero, Nat.reduceAdd]; rfl) | rfl) ⟨rfl, ?_⟩)
      refine WL.nil ?_
      refine DN.then_normal ?_
      refine WC.seq ?_
      refine WC.region ?_
      refine WL.y rfl (Yd.move rfl) ?_
      refine WL.y rfl (Yd.assign rfl) ?_
      refine WL.nil ?_
      refine DN.then_normal ?_
      refine WC.ret ?_
      refine DN.ret1 Try.results74 rfl ?_
      exact ⟨_, by rw [hgot]; exact hu.upto hkl, by rw [hrest]; have := hu.sub (i := k) (j := bs.length) hkl (Nat.le_refl _); rwa [List.take_of_length_le (by simp)] at this, rfl⟩

/-- (*drayage/field.Reader).number -/
theorem number_tells (br : Nat) (u : Value) (bs : List (BitVec 8)) (sh : Bool) (C : List Ck) (k : Nat) (hu : Bs u bs C) (hl : bs.length ≤ 1000000) (hk : k ≤ 8) : Tells Try.prog 73 [.pointer (some ⟨br, 0, none⟩), .int .i64 k] (row br [u, .bool sh] 125 :: C) fun r H' => ∃ u', r = .int .u64 (beN (rdGot bs sh k)).toNat ∧ Bs u' (rdRest bs sh k) C ∧ H' = row br [u', .bool (rdShort bs sh k)] 125 :: C := by
  refine Tells.enter Try.func73 rfl Try.ntmps73 rfl ?_
  intro w0 R
  refine WC.seq ?_
  refine WC.region ?_
  refine WL.y rfl (Yd.assign (v := .int .u64 ((0#64).toNat : Int)) rfl) ?_
  refine WL.nil ?_
  refine DN.then_normal ?_
  refine WC.seq ?_
  refine WC.region ?_
  refine WL.y rfl (Yd.assign (v := .int .u64 ((0#64).toNat : Int)) rfl) ?_
  refine WL.nil ?_
  refine DN.then_normal ?_
  refine WC.seq ?_
  refine WC.seq ?_
  refine WC.region ?_
  refine WL.y rfl (Yd.move rfl) ?_
  refine WL.y rfl (Yd.move rfl) ?_
  refine WL.ca rfl (Ent.func Try.call74 rfl) (take_tells br u bs sh C k hu hl (by omega)) ?_
  rintro x H1 ⟨u', hx, hu', rfl⟩
  obtain ⟨got, hgot⟩ : ∃ got, got = rdGot bs sh k := ⟨_, rfl⟩
  rw [← hgot] at hx
  rw [← hgot]
  have hgl : got.length ≤ 8 := by have := rdGot_len bs sh k; rw [hgot]; omega
  obtain ⟨xo, xc, rfl, hxc⟩ := hx.form
  refine WL.y rfl (Yd.len (e := 5) kr_ rfl) ?_
  refine WL.y rfl (Yd.move rfl) ?_
  refine WL.nil ?_
  refine DN.then_normal ?_
  refine WC.block ?_
  refine WC.loopS (fun z : Nat => z ≤ got.length) (fun z : Nat => [(5, .int .u64 (beN (got.take z)).toNat), (12, .int .i64 (z : Int))]) (fun z : Nat => row br [u', .bool (rdShort bs sh k)] 125 :: C) (fun z : Nat => got.length - z) (0) (show 0 ≤ got.length from Nat.zero_le _) (Sx.put rfl (Sx.put rfl (sx_))) sp_ ?_
  rintro i hI
  replace hI : i ≤ got.length := hI
  obtain hi := hI
  change WC _ _ _ _ _ _ ([(5, .int .u64 (beN (got.take i)).toNat), (12, .int .i64 (i : Int))] ++ _) (row br [u', .bool (rdShort bs sh k)] 125 :: C)
  refine WC.seq ?_
  refine WC.region ?_
  refine WL.y rfl (Yd.lss rfl rfl) ?_
  refine WL.nil ?_
  refine DN.then_normal ?_
  refine WC.seq ?_
  refine WC.ite rfl (fun h13 => ?_) (fun h13 => ?_)
  · have hlt : i < got.length := by omega
    refine WC.skip ?_
    refine DN.then_normal ?_
    refine WC.seq ?_
    refine WC.block ?_
    refine WC.seq ?_
    refine WC.region ?_
    refine WL.elem (e := 5) kr_ kr_ kr_ rfl rfl (rfl) (hx.mono gr_) (bc_get hlt) (hlt) rfl rfl ?_
    intro _
    refine WL.y rfl (Yd.assign rfl) ?_
    refine WL.nil ?_
    refine DN.then_normal ?_
    refine WC.region ?_
    refine WL.y rfl (Yd.move rfl) ?_
    refine WL.y rfl (Yd.shl64 _ 8 rfl rfl rfl rfl) ?_
    refine WL.y rfl (Yd.move rfl) ?_
    refine WL.y rfl (Yd.conv8_64 _ kr_ kr_ rfl rfl) ?_
    refine WL.y rfl (Yd.or64 _ _ rfl rfl rfl rfl) ?_
    refine WL.y rfl (Yd.assign rfl) ?_
    refine WL.nil ?_
    refine DN.block_normal ?_
    refine DN.then_normal ?_
    refine WC.region ?_
    refine WL.y rfl (Yd.add rfl rfl (by omega) (by omega)) ?_
    refine WL.y rfl (Yd.move rfl) ?_
    refine WL.nil ?_
    rw [← beN_next got i hlt]
    exact DN.againS (i + 1) (by show i + 1 ≤ got.length; omega) (by show got.length - (i + 1) < got.length - i; omega) ((Sx.put rfl (Sx.put rfl (sx_)))) sp_
  · have hie : i = got.length := by omega
    subst hie
    rw [List.take_length]
    refine WC.exit ?_
    refine DN.then_exit ?_
    refine DN.then_exit ?_
    refine DN.block_exit ?_
    refine DN.then_normal ?_
    refine WC.seq ?_
    refine WC.region ?_
    refine WL.y rfl (Yd.move rfl) ?_
    refine WL.y rfl (Yd.assign rfl) ?_
    refine WL.nil ?_
    refine DN.then_normal ?_
    refine WC.ret ?_
    refine DN.ret1 Try.results73 rfl ?_
    exact ⟨u', rfl, hu', rfl⟩

/-- (*drayage/field.Reader).U8 -/
theorem rU8_tells (br : Nat) (u : Value) (bs : List (BitVec 8)) (sh : Bool) (C : List Ck) (hu : Bs u bs C) (hl : bs.length ≤ 1000000) : Tells Try.prog 57 [.pointer (some ⟨br, 0, none⟩)] (row br [u, .bool sh] 125 :: C) fun r H' => ∃ u', r = .int .u8 ((beN (rdGot bs sh 1)).setWidth 8).toNat ∧ Bs u' (rdRest bs sh 1) C ∧ H' = row br [u', .bool (rdShort bs sh 1)] 125 :: C := by
  refine Tells.enter Try.func57 rfl Try.ntmps57 rfl ?_
  intro w0 R
  refine WC.seq ?_
  refine WC.region ?_
  refine WL.y rfl (Yd.assign (v := .int .u8 ((0#8).toNat : Int)) rfl) ?_
  refine WL.nil ?_
  refine DN.then_normal ?_
  refine WC.seq ?_
  refine WC.region ?_
  refine WL.y rfl (Yd.move rfl) ?_
  refine WL.ca rfl (Ent.func Try.call73 rfl) (number_tells br u bs sh C 1 hu hl (by omega)) ?_
  rintro x H1 ⟨u', rfl, hu', rfl⟩
  refine WL.y rfl (Yd.conv64_8 _ kr_ kr_ rfl rfl) ?_
  refine WL.y rfl (Yd.assign rfl) ?_
  refine WL.nil ?_
  refine DN.then_normal ?_
  refine WC.ret ?_
  refine DN.ret1 Try.results57 rfl ?_
  exact ⟨u', rfl, hu', rfl⟩

/-- (*drayage/field.Reader).U32 -/
theorem rU32_tells (br : Nat) (u : Value) (bs : List (BitVec 8)) (sh : Bool) (C : List Ck) (hu : Bs u bs C) (hl : bs.length ≤ 1000000) : Tells Try.prog 56 [.pointer (some ⟨br, 0, none⟩)] (row br [u, .bool sh] 125 :: C) fun r H' => ∃ u', r = .int .u32 ((beN (rdGot bs sh 4)).setWidth 32).toNat ∧ Bs u' (rdRest bs sh 4) C ∧ H' = row br [u', .bool (rdShort bs sh 4)] 125 :: C := by
  refine Tells.enter Try.func56 rfl Try.ntmps56 rfl ?_
  intro w0 R
  refine WC.seq ?_
  refine WC.region ?_
  refine WL.y rfl (Yd.assign (v := .int .u32 ((0#32).toNat : Int)) rfl) ?_
  refine WL.nil ?_
  refine DN.then_normal ?_
  refine WC.seq ?_
  refine WC.region ?_
  refine WL.y rfl (Yd.move rfl) ?_
  refine WL.ca rfl (Ent.func Try.call73 rfl) (number_tells br u bs sh C 4 hu hl (by omega)) ?_
  rintro x H1 ⟨u', rfl, hu', rfl⟩
  refine WL.y rfl (Yd.conv64_32 _ kr_ kr_ rfl rfl) ?_
  refine WL.y rfl (Yd.assign rfl) ?_
  refine WL.nil ?_
  refine DN.then_normal ?_
  refine WC.ret ?_
  refine DN.ret1 Try.results56 rfl ?_
  exact ⟨u', rfl, hu', rfl⟩

/-- (*drayage/field.Reader).Text -/
theorem rText_tells (br : Nat) (u : Value) (bs : List (BitVec 8)) (sh : Bool) (C : List Ck) (hu : Bs u bs C) (hl : bs.length ≤ 1000000) : Tells Try.prog 58 [.pointer (some ⟨br, 0, none⟩)] (row br [u, .bool sh] 125 :: C) fun r H' => ∃ u' A, Ob 5 r (txGot bs sh) A ∧ Bs u' (rdRest bs sh (txN bs)) C ∧ H' = A ++ (row br [u', .bool (rdShort bs sh (txN bs))] 125 :: C) := by
  refine Tells.enter Try.func58 rfl Try.ntmps58 rfl ?_
  intro w0 R
  obtain ⟨uo, uc, rfl, huc⟩ := hu.form
  refine WC.seq ?_
  refine WC.region ?_
  refine WL.y rfl (Yd.assign rfl) ?_
  refine WL.nil ?_
  refine DN.then_normal ?_
  refine WC.seq ?_
  refine WC.seq ?_
  refine WC.region ?_
  refine WL.y rfl (Yd.move rfl) ?_
  refine WL.y rfl (Yd.eqlNil Try.underlying101 rfl rfl) ?_
  refine WL.renamed (t := 6) (v := .bool false) rfl (congrArg Value.bool (rfl)) ?_
  refine WL.nil ?_
  refine DN.then_normal ?_
  refine WC.no rfl ?_
  refine WC.skip ?_
  refine DN.then_normal ?_
  refine WC.seq ?_
  refine WC.region ?_
  refine WL.y rfl (Yd.assign rfl) ?_
  refine WL.nil ?_
  refine DN.then_normal ?_
  refine WC.cutK (fun _z : Unit => True) (fun _z : Unit => [(3, .int .i64 (txN bs : Int))]) (fun _z : Unit => row br [.slice uo bs.length uc, .bool sh] 125 :: C) ?_ ?_
  · refine WC.seq ?_
    refine WC.region ?_
    refine WL.y rfl (Yd.move rfl) ?_
    refine WL.y rfl (Yd.notNil rfl) ?_
    refine WL.y rfl (Yd.fieldAddr (k := 0) kr_ rfl) ?_
    refine WL.h rfl (Hd.load1 kr_ rfl mem_ (by rfl) ⟨_, rfl, ?_⟩)
    refine WL.y rfl (Yd.len (e := 5) kr_ rfl) ?_
    refine WL.y rfl (Yd.gtr rfl rfl) ?_
    refine WL.nil ?_
    refine DN.then_normal ?_
    refine WC.ite rfl (fun h12 => ?_) (fun h12 => ?_)
    · refine WC.region ?_
      refine WL.y rfl (Yd.move rfl) ?_
      refine WL.y rfl (Yd.move rfl) ?_
      refine WL.y rfl (Yd.notNil rfl) ?_
      refine WL.y rfl (Yd.fieldAddr (k := 0) kr_ rfl) ?_
      refine WL.h rfl (Hd.load1 kr_ rfl mem_ (by rfl) ⟨_, rfl, ?_⟩)
      refine WL.elem (e := 5) kr_ kr_ kr_ rfl rfl (by rfl) (hu.mono gr_) (show (bc bs)[0]? = some (.int .u8 (bs.headD 0#8).toNat) by cases bs with | nil => simp at h12 | cons x t => rfl) (by omega) rfl rfl ?_
      intro _
      refine WL.y rfl (Yd.int8 _ kr_ kr_ rfl rfl) ?_
      refine WL.y rfl (Yd.add rfl rfl (by omega) (by omega)) ?_
      refine WL.y rfl (Yd.assign rfl) ?_
      refine WL.nil ?_
      rw [show (1 : Int) + ((bs.headD 0#8).toNat : Int) = ((txN bs : Nat) : Int) by unfold txN; omega]
      exact DN.reachK (()) (trivial) (Sx.put rfl (sx_)) (Sp.all sp_)
    · refine WC.skip ?_
      have hb0 : bs = [] := List.eq_nil_of_length_eq_zero (by omega)
      have hn1 : txN bs = 1 := by rw [hb0]; rfl
      rw [hn1]
      exact DN.reachK (()) (trivial) (Sx.put rfl (sx_)) (Sp.all sp_)
  · intro _ _
    have htx := txN_le bs
    refine WC.seq ?_
    refine WC.region ?_
    refine WL.y rfl (Yd.move rfl) ?_
    refine WL.y rfl (Yd.move rfl) ?_
    refine WL.ca rfl (Ent.func Try.call74 rfl) (take_tells br _ bs sh C (txN bs) hu hl (by omega)) ?_
    rintro x H1 ⟨u', hx, hu', rfl⟩
    obtain ⟨got, hgot⟩ : ∃ got, got = rdGot bs sh (txN bs) := ⟨_, rfl⟩
    rw [← hgot] at hx
    have htg : txGot bs sh = got.drop 1 := by rw [hgot]; rfl
    have hgl : got.length ≤ 256 := by have := rdGot_len bs sh (txN bs); rw [hgot]; omega
    obtain ⟨xo, xc, rfl, hxc⟩ := hx.form
    refine WL.y rfl (Yd.assign rfl) ?_
    refine WL.nil ?_
    refine DN.then_normal ?_
    refine WC.seq ?_
    refine WC.seq ?_
    refine WC.region ?_
    refine WL.y rfl (Yd.move rfl) ?_
    refine WL.y rfl (Yd.len (e := 5) kr_ rfl) ?_
    refine WL.y rfl (Yd.eql rfl rfl) ?_
    refine WL.nil ?_
    refine DN.then_normal ?_
    refine WC.ite rfl (fun h27 => ?_) (fun h27 => ?_)
    · have hg0 : got = [] := List.eq_nil_of_length_eq_zero (by omega)
      refine WC.seq ?_
      refine WC.region ?_
      refine WL.y rfl (Yd.assign rfl) ?_
      refine WL.nil ?_
      refine DN.then_normal ?_
      refine WC.ret ?_
      refine DN.then_ret ?_
      refine DN.fit (C := row br [u', .bool (rdShort bs sh (txN bs))] 125 :: C) sp_ ?_
      refine DN.ret1 Try.results58 rfl ?_
      exact ⟨u', [], by rw [htg, hg0]; exact Ob.nil _, hu', rfl⟩
    · refine WC.skip ?_
      refine DN.then_normal ?_
      refine WC.seq ?_
      refine WC.region ?_
      refine WL.h rfl (Hd.buildBytes (e := 5) [] kr_ kr_ kr_ rfl rfl kr_ fun b28 => ⟨_, rfl, ?_⟩)
      refine WL.y rfl (Yd.move rfl) ?_
      refine WL.y rfl (Yd.slice (e := 5) (s := 1) (i := 1) (j := got.length) kr_ kr_ rfl ⟨_, _, rfl, rfl⟩ rfl (by omega) (by omega)) ?_
      refine WL.h rfl (Hd.appendBs (e := 5) (zs := [.int .u8 0]) (b := got.drop 1) kr_ kr_ rfl rfl rfl (Ob.block b28 [] (by simp)) sp_ (by have := hx.sub (i := 1) (j := got.length) (by omega) (Nat.le_refl _); rw [List.take_of_length_le (by simp)] at this; exact this.mono gr_) (by simp; omega) fun v' A ho' => ⟨_, rfl, ?_⟩)
      refine WL.y rfl (Yd.assign rfl) ?_
      refine WL.nil ?_
      refine DN.then_normal ?_
      refine WC.ret ?_
      refine DN.fit (C := A ++ (row br [u', .bool (rdShort bs sh (txN bs))] 125 :: C)) sp_ ?_
      refine DN.ret1 Try.results58 rfl ?_
      exact ⟨u', A, by rw [htg]; simpa using ho', hu', rfl⟩

/-- (*drayage/field.Reader).Done -/
theorem rDone_tells (br : Nat) (u : Value) (bs : List (BitVec 8)) (sh : Bool) (C : List Ck) (hu : Bs u bs C) : Reads Try.prog 59 [.pointer (some ⟨br, 0, none⟩)] (row br [u, .bool sh] 125 :: C) (.int .i64 (if sh then 10 else if 0 < bs.length then 11 else 0)) := by
  refine Tells.enter Try.func59 rfl Try.ntmps59 rfl ?_
  intro w0 R
  obtain ⟨uo, uc, rfl, huc⟩ := hu.form
  refine WC.seq ?_
  refine WC.region ?_
  refine WL.y rfl (Yd.assign rfl) ?_
  refine WL.nil ?_
  refine DN.then_normal ?_
  refine WC.seq ?_
  refine WC.block ?_
  refine WC.seq ?_
  refine WC.region ?_
  refine WL.y rfl (Yd.move rfl) ?_
  refine WL.y rfl (Yd.eqlNil Try.underlying101 rfl rfl) ?_
  refine WL.renamed (t := 5) (v := .bool false) rfl (congrArg Value.bool (rfl)) ?_
  refine WL.y rfl (Yd.assign rfl) ?_
  refine WL.nil ?_
  refine DN.then_normal ?_
  refine WC.no rfl ?_
  refine WC.seq ?_
  refine WC.region ?_
  refine WL.y rfl (Yd.move rfl) ?_
  refine WL.y rfl (Yd.notNil rfl) ?_
  refine WL.y rfl (Yd.fieldAddr (k := 1) kr_ rfl) ?_
  refine WL.h rfl (Hd.load1 kr_ rfl mem_ (by rfl) ⟨_, rfl, ?_⟩)
  refine WL.y rfl (Yd.assign rfl) ?_
  refine WL.nil ?_
  refine DN.then_normal ?_
  refine WC.cond rfl (fun h6 => ?_) (fun h6 => ?_)
  · subst h6
    refine WC.seq ?_
    refine WC.region ?_
    refine WL.y rfl (Yd.assign rfl) ?_
    refine WL.nil ?_
    refine DN.then_normal ?_
    refine WC.ret ?_
    refine DN.block_ret ?_
    refine DN.then_ret ?_
    refine DN.ret1 Try.results59 rfl ?_
    exact ⟨rfl, rfl⟩
  · subst h6
    refine WC.seq ?_
    refine WC.region ?_
    refine WL.y rfl (Yd.move rfl) ?_
    refine WL.y rfl (Yd.notNil rfl) ?_
    refine WL.y rfl (Yd.fieldAddr (k := 0) kr_ rfl) ?_
    refine WL.h rfl (Hd.load1 kr_ rfl mem_ (by rfl) ⟨_, rfl, ?_⟩)
    refine WL.y rfl (Yd.len (e := 5) kr_ rfl) ?_
    refine WL.y rfl (Yd.gtr rfl rfl) ?_
    refine WL.y rfl (Yd.assign rfl) ?_
    refine WL.nil ?_
    refine DN.then_normal ?_
    refine WC.ite rfl (fun h11 => ?_) (fun h11 => ?_)
    · refine WC.seq ?_
      refine WC.region ?_
      refine WL.y rfl (Yd.assign rfl) ?_
      refine WL.nil ?_
      refine DN.then_normal ?_
      refine WC.ret ?_
      refine DN.block_ret ?_
      refine DN.then_ret ?_
      refine DN.ret1 Try.results59 rfl ?_
      exact ⟨by rw [if_neg (by decide), if_pos (by omega)], rfl⟩
    · refine WC.skip ?_
      refine DN.block_normal ?_
      refine DN.then_normal ?_
      refine WC.seq ?_
      refine WC.region ?_
      refine WL.y rfl (Yd.assign rfl) ?_
      refine WL.nil ?_
      refine DN.then_normal ?_
      refine WC.ret ?_
      refine DN.ret1 Try.results59 rfl ?_
      exact ⟨by rw [if_neg (by decide), if_neg (by omega)], rfl⟩

end Go.Proofs.Ytonnkgblligdkaa
