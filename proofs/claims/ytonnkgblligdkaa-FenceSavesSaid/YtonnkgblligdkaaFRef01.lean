/-
  The walks of the document's fields (drayageref01).
-/
import Derived.Test.YtonnkgblligdkaaRows
import Derived.Test.YtonnkgblligdkaaFieldRef
import Derived.Test.YtonnkgblligdkaaLists
import Derived.Test.YtonnkgblligdkaaSLFloat
set_option linter.unusedVariables false
set_option linter.unusedSimpArgs false
set_option maxHeartbeats 4000000
namespace Go.Proofs.Ytonnkgblligdkaa
open Go.SL


/-- drayage/drayageref01.Num -/
theorem rnum_tells (n : BitVec 64) (size : Nat) (hs : size ≤ 8) (H : List Ck) : Tells Try.prog 78 [.int .u64 n.toNat, .int .i64 size] H fun r H' => ∃ C, Ob 5 r (beW n size) C ∧ H' = C ++ H := by
  refine Tells.enter Try.func78 rfl Try.ntmps78 rfl ?_
  intro w0 R
  refine WC.seq ?_
  refine WC.region ?_
  refine WL.y rfl (Yd.assign rfl) ?_
  refine WL.nil ?_
  refine DN.then_normal ?_
  refine WC.seq ?_
  refine WC.region ?_
  refine WL.y rfl (Yd.assign rfl) ?_
  refine WL.nil ?_
  refine DN.then_normal ?_
  refine WC.seq ?_
  refine WC.seq ?_
  refine WC.region ?_
  refine WL.y rfl (Yd.assign rfl) ?_
  refine WL.nil ?_
  refine DN.then_normal ?_
  refine WC.block ?_
  refine WC.loopS (fun z : Nat × Value × List Ck => z.1 ≤ size ∧ Ob 5 z.2.1 (loW n z.1) z.2.2) (fun z : Nat × Value × List Ck => [(0, .int .u64 (n >>> (8 * z.1)).toNat), (5, z.2.1), (6, .int .i64 (z.1 : Int))]) (fun z : Nat × Value × List Ck => z.2.2 ++ H) (fun z : Nat × Value × List Ck => size - z.1) (⟨0, .slice none 0 0, []⟩) (show 0 ≤ size ∧ Ob 5 (.slice none 0 0) (loW n 0) [] from ⟨Nat.zero_le _, Ob.nil _⟩) (Sx.put rfl (Sx.put rfl (Sx.put rfl (sx_)))) sp_ ?_
  rintro ⟨i, u, C⟩ hI
  replace hI : i ≤ size ∧ Ob 5 u (loW n i) C := hI
  obtain ⟨hi, hu⟩ := hI
  change WC _ _ _ _ _ _ ([(0, .int .u64 (n >>> (8 * i)).toNat), (5, u), (6, .int .i64 (i : Int))] ++ _) (C ++ H)
  obtain ⟨uo, uc, rfl, huc⟩ := hu.form
  rw [loW_len] at huc
  refine WC.seq ?_
  refine WC.seq ?_
  refine WC.region ?_
  refine WL.y rfl (Yd.move rfl) ?_
  refine WL.y rfl (Yd.move rfl) ?_
  refine WL.y rfl (Yd.lss rfl rfl) ?_
  refine WL.nil ?_
  refine DN.then_normal ?_
  refine WC.ite rfl (fun h11 => ?_) (fun h11 => ?_)
  · have hlt : i < size := by omega
    refine WC.skip ?_
    refine DN.then_normal ?_
    refine WC.seq ?_
    refine WC.block ?_
    refine WC.seq ?_
    refine WC.region ?_
    refine WL.y rfl (Yd.move rfl) ?_
    refine WL.y rfl (Yd.move rfl) ?_
    refine WL.y rfl (Yd.rem64 _ (256#64) rfl rfl rfl rfl (by decide)) ?_
    refine WL.y rfl (Yd.conv64_8 _ kr_ kr_ rfl rfl) ?_
    refine WL.renamed (t := 17) (v := .int .u8 ((n >>> (8 * i)).setWidth 8).toNat) rfl (congrArg (fun q : BitVec 8 => Value.int .u8 q.toNat) (low_rem _)) ?_
    refine WL.h rfl (Hd.build1 (e := 5) (z := .int .u8 0) kr_ kr_ kr_ rfl rfl fun b18 => ⟨_, rfl, ?_⟩)
    refine WL.h rfl (Hd.appendBs (e := 5) (zs := [.int .u8 0]) kr_ kr_ rfl rfl rfl hu sp_ (Bs.block (bs := [(n >>> (8 * i)).setWidth 8]) rfl (by simp) mem_) (by rw [loW_len]; simp only [List.length_cons, List.length_nil]; omega) fun v1 C1 ho1 => ⟨_, rfl, ?_⟩)
    refine WL.y rfl (Yd.assign rfl) ?_
    refine WL.nil ?_
    refine DN.then_normal ?_
    refine WC.region ?_
    refine WL.y rfl (Yd.move rfl) ?_
    refine WL.y rfl (Yd.quo64 _ (256#64) rfl rfl rfl rfl (by decide)) ?_
    refine WL.renamed (t := 21) (v := .int .u64 (n >>> (8 * (i + 1))).toNat) rfl (congrArg (fun q : BitVec 64 => Value.int .u64 q.toNat) (low_quo n i)) ?_
    refine WL.y rfl (Yd.assign rfl) ?_
    refine WL.nil ?_
    refine DN.block_normal ?_
    refine DN.then_normal ?_
    refine WC.region ?_
    refine WL.y rfl (Yd.move rfl) ?_
    refine WL.y rfl (Yd.add rfl rfl (by omega) (by omega)) ?_
    refine WL.y rfl (Yd.assign rfl) ?_
    refine WL.nil ?_
    exact DN.againS (⟨i + 1, v1, C1⟩) (show (i + 1) ≤ size ∧ Ob 5 v1 (loW n (i + 1)) C1 from ⟨by omega, by rw [loW_next]; exact ho1⟩) (show size - (i + 1) < size - i by omega) (Sx.put rfl (Sx.put rfl (Sx.put rfl (sx_)))) sp_
  · obtain rfl : size = i := by omega
    refine WC.exit ?_
    refine DN.then_exit ?_
    refine DN.then_exit ?_
    refine DN.block_exit ?_
    refine DN.then_normal ?_
    refine WC.seq ?_
    refine WC.region ?_
    refine WL.y rfl (Yd.assign rfl) ?_
    refine WL.nil ?_
    refine DN.then_normal ?_
    refine WC.seq ?_
    refine WC.seq ?_
    refine WC.region ?_
    refine WL.y rfl (Yd.move rfl) ?_
    refine WL.y rfl (Yd.sub rfl rfl (by omega) (by omega)) ?_
    refine WL.renamed (t := 23) (v := .int .i64 ((size : Int) - 1 - ((0 : Nat) : Int))) rfl (congrArg (Value.int .i64) (by omega)) ?_
    refine WL.y rfl (Yd.assign rfl) ?_
    refine WL.nil ?_
    refine DN.then_normal ?_
    refine WC.block ?_
    refine WC.loopS (fun z : Nat × Value × List Ck => z.1 ≤ size ∧ Ob 5 z.2.1 ((beW n size).take z.1) z.2.2) (fun z : Nat × Value × List Ck => [(7, z.2.1), (8, .int .i64 ((size : Int) - 1 - z.1))]) (fun z : Nat × Value × List Ck => z.2.2 ++ (C ++ H)) (fun z : Nat × Value × List Ck => size - z.1) (⟨0, .slice none 0 0, []⟩) (show 0 ≤ size ∧ Ob 5 (.slice none 0 0) ((beW n size).take 0) [] from ⟨Nat.zero_le _, Ob.nil _⟩) (Sx.put rfl (Sx.put rfl (sx_))) sp_ ?_
    rintro ⟨j, w, D⟩ hI
    replace hI : j ≤ size ∧ Ob 5 w ((beW n size).take j) D := hI
    obtain ⟨hj, hw⟩ := hI
    change WC _ _ _ _ _ _ ([(7, w), (8, .int .i64 ((size : Int) - 1 - j))] ++ _) (D ++ (C ++ H))
    refine WC.seq ?_
    refine WC.seq ?_
    refine WC.region ?_
    refine WL.y rfl (Yd.move rfl) ?_
    refine WL.y rfl (Yd.geq rfl rfl) ?_
    refine WL.nil ?_
    refine DN.then_normal ?_
    refine WC.ite rfl (fun h25 => ?_) (fun h25 => ?_)
    · have hlt2 : j < size := by omega
      have hll : ((beW n size).take j).length ≤ 8 := by rw [List.length_take]; omega
      refine WC.skip ?_
      refine DN.then_normal ?_
      refine WC.seq ?_
      refine WC.block ?_
      refine WC.region ?_
      refine WL.y rfl (Yd.move rfl) ?_
      refine WL.y rfl (Yd.move rfl) ?_
      refine WL.y rfl (Yd.move rfl) ?_
      refine WL.elem (e := 5) kr_ kr_ kr_ rfl rfl (by omega) (hu.bs.mono gr_) (bc_at (loW_get (n := n) (show size - 1 - j < size by omega))) (by rw [loW_len]; omega) rfl rfl ?_
      intro _
      refine WL.h rfl (Hd.build1 (e := 5) (z := .int .u8 0) kr_ kr_ kr_ rfl rfl fun b33 => ⟨_, rfl, ?_⟩)
      refine WL.h rfl (Hd.appendBs (e := 5) (zs := [.int .u8 0]) kr_ kr_ rfl rfl rfl hw sp_ (Bs.block (bs := [(n >>> (8 * (size - 1 - j))).setWidth 8]) rfl (by simp) mem_) (by simp only [List.length_cons, List.length_nil]; omega) fun v2 C2 ho2 => ⟨_, rfl, ?_⟩)
      refine WL.y rfl (Yd.assign rfl) ?_
      refine WL.nil ?_
      refine DN.block_normal ?_
      refine DN.then_normal ?_
      refine WC.region ?_
      refine WL.y rfl (Yd.move rfl) ?_
      refine WL.y rfl (Yd.sub rfl rfl (by omega) (by omega)) ?_
      refine WL.y rfl (Yd.assign rfl) ?_
      refine WL.nil ?_
      rw [show (size : Int) - 1 - (j : Int) - 1 = (size : Int) - 1 - ((j + 1 : Nat) : Int) by omega]
      exact DN.againS (j + 1, v2, C2) ⟨by show j + 1 ≤ size; omega, by rw [beW_next n size j hlt2]; exact ho2⟩ (by show size - (j + 1) < size - j; omega) ((Sx.put rfl (Sx.put rfl (sx_)))) sp_
    · obtain rfl : size = j := by omega
      rw [List.take_of_length_le (by rw [beW_length]; omega)] at hw
      refine WC.exit ?_
      refine DN.then_exit ?_
      refine DN.then_exit ?_
      refine DN.block_exit ?_
      refine DN.then_normal ?_
      refine WC.seq ?_
      refine WC.region ?_
      refine WL.y rfl (Yd.move rfl) ?_
      refine WL.y rfl (Yd.assign rfl) ?_
      refine WL.nil ?_
      refine DN.then_normal ?_
      refine WC.ret ?_
      refine DN.fit (C := D ++ H) sp_ ?_
      refine DN.ret1 Try.results78 rfl ?_
      exact ⟨D, hw, rfl⟩

/-- drayage/drayageref01.Of -/
theorem rof_reads (v : Value) (b : List (BitVec 8)) (H : List Ck) (hv : Bs v b H) (hl : b.length ≤ 1000000) : Reads Try.prog 76 [v] H (.int .u64 (beN b).toNat) := by
  refine Tells.enter Try.func76 rfl Try.ntmps76 rfl ?_
  intro w0 R
  obtain ⟨vo, vc, rfl, hvc⟩ := hv.form
  refine WC.seq ?_
  refine WC.region ?_
  refine WL.y rfl (Yd.assign (v := .int .u64 ((0#64).toNat : Int)) rfl) ?_
  refine WL.nil ?_
  refine DN.then_normal ?_
  refine WC.seq ?_
  refine WC.region ?_
  refine WL.y rfl (Yd.assign (v := .int .u64 ((0#64).toNat : Int)) rfl) ?_
  refine WL.nil ?_
  refine DN.then_normal ?_
  refine WC.seq ?_
  refine WC.seq ?_
  refine WC.region ?_
  refine WL.y rfl (Yd.assign rfl) ?_
  refine WL.nil ?_
  refine DN.then_normal ?_
  refine WC.block ?_
  refine WC.loopS (fun z : Nat => z ≤ b.length) (fun z : Nat => [(3, .int .u64 (beN (b.take z)).toNat), (4, .int .i64 (z : Int))]) (fun z : Nat => H) (fun z : Nat => b.length - z) (0) (show 0 ≤ b.length from Nat.zero_le _) (Sx.put rfl (Sx.put rfl (sx_))) sp_ ?_
  rintro i hI
  replace hI : i ≤ b.length := hI
  obtain hi := hI
  change WC _ _ _ _ _ _ ([(3, .int .u64 (beN (b.take i)).toNat), (4, .int .i64 (i : Int))] ++ _) (H)
  refine WC.seq ?_
  refine WC.seq ?_
  refine WC.region ?_
  refine WL.y rfl (Yd.move rfl) ?_
  refine WL.y rfl (Yd.move rfl) ?_
  refine WL.y rfl (Yd.len (e := 5) kr_ rfl) ?_
  refine WL.y rfl (Yd.lss rfl rfl) ?_
  refine WL.nil ?_
  refine DN.then_normal ?_
  refine WC.ite rfl (fun h8 => ?_) (fun h8 => ?_)
  · have hlt : i < b.length := by omega
    refine WC.skip ?_
    refine DN.then_normal ?_
    refine WC.seq ?_
    refine WC.block ?_
    refine WC.region ?_
    refine WL.y rfl (Yd.move rfl) ?_
    refine WL.y rfl (Yd.mul64 _ (256#64) rfl rfl rfl rfl) ?_
    refine WL.y rfl (Yd.move rfl) ?_
    refine WL.y rfl (Yd.move rfl) ?_
    refine WL.elem (e := 5) kr_ kr_ kr_ rfl rfl (rfl) (hv) (bc_get hlt) (hlt) rfl rfl ?_
    intro _
    refine WL.y rfl (Yd.conv8_64 _ kr_ kr_ rfl rfl) ?_
    refine WL.y rfl (Yd.add64 _ _ rfl rfl rfl rfl) ?_
    refine WL.y rfl (Yd.assign rfl) ?_
    refine WL.nil ?_
    refine DN.block_normal ?_
    refine DN.then_normal ?_
    refine WC.region ?_
    refine WL.y rfl (Yd.move rfl) ?_
    refine WL.y rfl (Yd.add rfl rfl (by omega) (by omega)) ?_
    refine WL.y rfl (Yd.assign rfl) ?_
    refine WL.nil ?_
    rw [of_step, ← beN_next b i hlt]
    exact DN.againS (i + 1) (by show i + 1 ≤ b.length; omega) (by show b.length - (i + 1) < b.length - i; omega) ((Sx.put rfl (Sx.put rfl (sx_)))) sp_
  · have hie : i = b.length := by omega
    subst hie
    rw [List.take_length]
    refine WC.exit ?_
    refine DN.then_exit ?_
    refine DN.then_exit ?_
    refine DN.block_exit ?_
    refine DN.then_normal ?_
    refine WC.seq ?_
    refine WC.region ?_
    refine WL.y rfl (Yd.move rfl) ?_
    refine WL.y rfl (Yd.assign rfl) ?_
    refine WL.nil ?_
    refine DN.then_normal ?_
    refine WC.ret ?_
    refine DN.ret1 Try.results76 rfl ?_
    exact ⟨rfl, rfl⟩

/-- drayage/drayageref01.One -/
theorem rone_tells (f : Fld) (vt : Value) (H : List Ck) (hvt : Bs vt f.text H) (hl : f.text.length ≤ 1000000) (hs : f.size ≤ 8) : Tells Try.prog 72 [.agg (fdc f vt).toArray] H fun r H' => ∃ w A, r = .tuple #[w, .int .i64 (oneF f).2] ∧ Ob 5 w (oneF f).1 A ∧ H' = A ++ H := by
  refine Tells.enter Try.func72 rfl Try.ntmps72 rfl ?_
  intro w0 R
  obtain ⟨to_, tc, rfl, htc⟩ := hvt.form
  refine WC.seq ?_
  refine WC.region ?_
  refine WL.h rfl (Hd.boxA rfl fun b1 => ⟨_, rfl, ?_⟩)
  refine WL.y rfl (Yd.assign rfl) ?_
  refine WL.y rfl (Yd.assign rfl) ?_
  refine WL.nil ?_
  refine DN.then_normal ?_
  refine WC.seq ?_
  refine WC.seq ?_
  refine WC.region ?_
  refine WL.y rfl (Yd.fieldAddr (k := 0) kr_ rfl) ?_
  refine WL.h rfl (Hd.load1 kr_ rfl mem_ (by rfl) ⟨_, rfl, ?_⟩)
  refine WL.nil ?_
  refine DN.then_normal ?_
  refine WC.block ?_
  refine WC.seq ?_
  refine WC.region ?_
  refine WL.y rfl (Yd.eql rfl rfl) ?_
  refine WL.y rfl (Yd.assign rfl) ?_
  refine WL.nil ?_
  refine DN.then_normal ?_
  refine WC.ite rfl (fun h7 => ?_) (fun h7 => ?_)
  · have hs0 : f.size = 0 := by omega
    refine WC.seq ?_
    refine WC.seq ?_
    refine WC.region ?_
    refine WL.y rfl (Yd.fieldAddr (k := 1) kr_ rfl) ?_
    refine WL.h rfl (Hd.load1 kr_ rfl mem_ (by rfl) ⟨_, rfl, ?_⟩)
    refine WL.y rfl (Yd.neq64 _ (0#64) rfl rfl rfl rfl) ?_
    refine WL.nil ?_
    refine DN.then_normal ?_
    refine WC.ite rfl (fun h11 => ?_) (fun h11 => ?_)
    · refine WC.seq ?_
      refine WC.region ?_
      refine WL.y rfl (Yd.assign rfl) ?_
      refine WL.y rfl (Yd.assign rfl) ?_
      refine WL.nil ?_
      refine DN.then_normal ?_
      refine WC.ret ?_
      refine DN.then_ret ?_
      refine DN.block_ret ?_
      refine DN.then_ret ?_
      first | refine DN.fit (C := C1 ++ H) sp_ ?_ | refine DN.fit (C := H) sp_ ?_
      refine DN.ret2 Try.results72 rfl rfl ?_
      first
      | (rw [oneF_0a hs0 h11]; exact ⟨_, [], rfl, Ob.nil _, rfl⟩)
      | (rw [oneF_0b hs0 h11 (by omega)]; exact ⟨_, [], rfl, Ob.nil _, rfl⟩)
      | (rw [oneF_0c hs0 h11 (by omega)]; exact ⟨_, C1, rfl, ho1, rfl⟩)
      | (rw [oneF_1b hs0 (of_decide_eq_true (hz25.symm.trans h25)) (one_ok hg33 h42)]; exact ⟨_, C1, rfl, hC1, rfl⟩)
      | (rw [oneF_1a hs0 (of_decide_eq_true (hz25.symm.trans h25)) (.inl (by omega))]; exact ⟨_, [], rfl, Ob.nil _, rfl⟩)
      | (rw [oneF_1a hs0 (of_decide_eq_true (hz25.symm.trans h25)) (.inr (Int.ofNat_le.1 h42))]; exact ⟨_, [], rfl, Ob.nil _, rfl⟩)
      | (rw [oneF_8a hs0 (of_decide_eq_false (hz25.symm.trans h25)) hs8 (by omega)]; exact ⟨_, [], rfl, Ob.nil _, rfl⟩)
      | (rw [oneF_8b hs0 (of_decide_eq_false (hz25.symm.trans h25)) hs8 (by omega)]; exact ⟨_, C1, rfl, hC1, rfl⟩)
      | (rw [oneF_no hs0 (of_decide_eq_false (hz25.symm.trans h25)) hs8]; exact ⟨_, [], rfl, Ob.nil _, rfl⟩)
    · refine WC.skip ?_
      refine DN.then_normal ?_
      refine WC.seq ?_
      refine WC.seq ?_
      refine WC.region ?_
      refine WL.y rfl (Yd.fieldAddr (k := 2) kr_ rfl) ?_
      refine WL.h rfl (Hd.load1 kr_ rfl mem_ (by rfl) ⟨_, rfl, ?_⟩)
      refine WL.y rfl (Yd.len (e := 5) kr_ rfl) ?_
      refine WL.y rfl (Yd.gtr rfl rfl) ?_
      refine WL.nil ?_
      refine DN.then_normal ?_
      refine WC.ite rfl (fun h15 => ?_) (fun h15 => ?_)
      · refine WC.seq ?_
        refine WC.region ?_
        refine WL.y rfl (Yd.assign rfl) ?_
        refine WL.y rfl (Yd.assign rfl) ?_
        refine WL.nil ?_
        refine DN.then_normal ?_
        refine WC.ret ?_
        refine DN.then_ret ?_
        refine DN.block_ret ?_
        refine DN.then_ret ?_
        first | refine DN.fit (C := C1 ++ H) sp_ ?_ | refine DN.fit (C := H) sp_ ?_
        refine DN.ret2 Try.results72 rfl rfl ?_
        first
        | (rw [oneF_0a hs0 h11]; exact ⟨_, [], rfl, Ob.nil _, rfl⟩)
        | (rw [oneF_0b hs0 h11 (by omega)]; exact ⟨_, [], rfl, Ob.nil _, rfl⟩)
        | (rw [oneF_0c hs0 h11 (by omega)]; exact ⟨_, C1, rfl, ho1, rfl⟩)
        | (rw [oneF_1b hs0 (of_decide_eq_true (hz25.symm.trans h25)) (one_ok hg33 h42)]; exact ⟨_, C1, rfl, hC1, rfl⟩)
        | (rw [oneF_1a hs0 (of_decide_eq_true (hz25.symm.trans h25)) (.inl (by omega))]; exact ⟨_, [], rfl, Ob.nil _, rfl⟩)
        | (rw [oneF_1a hs0 (of_decide_eq_true (hz25.symm.trans h25)) (.inr (Int.ofNat_le.1 h42))]; exact ⟨_, [], rfl, Ob.nil _, rfl⟩)
        | (rw [oneF_8a hs0 (of_decide_eq_false (hz25.symm.trans h25)) hs8 (by omega)]; exact ⟨_, [], rfl, Ob.nil _, rfl⟩)
        | (rw [oneF_8b hs0 (of_decide_eq_false (hz25.symm.trans h25)) hs8 (by omega)]; exact ⟨_, C1, rfl, hC1, rfl⟩)
        | (rw [oneF_no hs0 (of_decide_eq_false (hz25.symm.trans h25)) hs8]; exact ⟨_, [], rfl, Ob.nil _, rfl⟩)
      · refine WC.skip ?_
        refine DN.then_normal ?_
        refine WC.seq ?_
        refine WC.region ?_
        refine WL.y rfl (Yd.fieldAddr (k := 2) kr_ rfl) ?_
        refine WL.h rfl (Hd.load1 kr_ rfl mem_ (by rfl) ⟨_, rfl, ?_⟩)
        refine WL.y rfl (Yd.len (e := 5) kr_ rfl) ?_
        refine WL.y rfl (Yd.to8 _ kr_ kr_ rfl rfl) ?_
        refine WL.h rfl (Hd.build1 (e := 5) (z := .int .u8 0) kr_ kr_ kr_ rfl rfl fun b20 => ⟨_, rfl, ?_⟩)
        refine WL.y rfl (Yd.assign rfl) ?_
        refine WL.nil ?_
        refine DN.then_normal ?_
        refine WC.seq ?_
        refine WC.region ?_
        refine WL.y rfl (Yd.move rfl) ?_
        refine WL.y rfl (Yd.fieldAddr (k := 2) kr_ rfl) ?_
        refine WL.h rfl (Hd.load1 kr_ rfl mem_ (by rfl) ⟨_, rfl, ?_⟩)
        refine WL.h rfl (Hd.appendBs (e := 5) (zs := [.int .u8 0]) kr_ kr_ rfl rfl rfl (Ob.block (T := 5) b20 [BitVec.ofInt 8 (f.text.length : Int)] (by simp only [maxLen, List.length_cons, List.length_nil]; omega)) sp_ (hvt.mono gr_) (by simp only [List.length_cons, List.length_nil]; omega) fun v1 C1 ho1 => ⟨_, rfl, ?_⟩)
        refine WL.y rfl (Yd.assign rfl) ?_
        refine WL.y rfl (Yd.assign rfl) ?_
        refine WL.nil ?_
        refine DN.then_normal ?_
        refine WC.ret ?_
        refine DN.block_ret ?_
        refine DN.then_ret ?_
        first | refine DN.fit (C := C1 ++ H) sp_ ?_ | refine DN.fit (C := H) sp_ ?_
        refine DN.ret2 Try.results72 rfl rfl ?_
        first
        | (rw [oneF_0a hs0 h11]; exact ⟨_, [], rfl, Ob.nil _, rfl⟩)
        | (rw [oneF_0b hs0 h11 (by omega)]; exact ⟨_, [], rfl, Ob.nil _, rfl⟩)
        | (rw [oneF_0c hs0 h11 (by omega)]; exact ⟨_, C1, rfl, ho1, rfl⟩)
        | (rw [oneF_1b hs0 (of_decide_eq_true (hz25.symm.trans h25)) (one_ok hg33 h42)]; exact ⟨_, C1, rfl, hC1, rfl⟩)
        | (rw [oneF_1a hs0 (of_decide_eq_true (hz25.symm.trans h25)) (.inl (by omega))]; exact ⟨_, [], rfl, Ob.nil _, rfl⟩)
        | (rw [oneF_1a hs0 (of_decide_eq_true (hz25.symm.trans h25)) (.inr (Int.ofNat_le.1 h42))]; exact ⟨_, [], rfl, Ob.nil _, rfl⟩)
        | (rw [oneF_8a hs0 (of_decide_eq_false (hz25.symm.trans h25)) hs8 (by omega)]; exact ⟨_, [], rfl, Ob.nil _, rfl⟩)
        | (rw [oneF_8b hs0 (of_decide_eq_false (hz25.symm.trans h25)) hs8 (by omega)]; exact ⟨_, C1, rfl, hC1, rfl⟩)
        | (rw [oneF_no hs0 (of_decide_eq_false (hz25.symm.trans h25)) hs8]; exact ⟨_, [], rfl, Ob.nil _, rfl⟩)
  · have hs0 : ¬ f.size = 0 := by omega
    refine WC.cutK (fun z : Bool => z = decide (f.size = 1 ∨ f.size = 2 ∨ f.size = 4)) (fun z : Bool => [(25, .bool z)]) (fun z : Bool => row b1 (fdc f (.slice to_ f.text.length tc)) 98 :: H) ?_ ?_
    · refine WC.seq ?_
      refine WC.region ?_
      refine WL.y rfl (Yd.eql rfl rfl) ?_
      refine WL.y rfl (Yd.assign rfl) ?_
      refine WL.nil ?_
      refine DN.then_normal ?_
      first | refine WC.ite rfl (fun h25 => ?_) (fun h25 => ?_) | refine WC.cond rfl (fun h25 => ?_) (fun h25 => ?_)
      · refine WC.skip ?_
        exact DN.reachK (_) (by rw [Bool.eq_iff_iff]; simp only [decide_eq_true_eq, eq_self, true_iff, Bool.false_eq_true, false_iff]; omega) (Sx.put rfl (sx_)) (Sp.all sp_)
      · refine WC.seq ?_
        refine WC.region ?_
        skip
        refine WL.y rfl (Yd.eql rfl rfl) ?_
        refine WL.y rfl (Yd.assign rfl) ?_
        refine WL.nil ?_
        refine DN.then_normal ?_
        first | refine WC.ite rfl (fun h25 => ?_) (fun h25 => ?_) | refine WC.cond rfl (fun h25 => ?_) (fun h25 => ?_)
        · refine WC.skip ?_
          exact DN.reachK (_) (by rw [Bool.eq_iff_iff]; simp only [decide_eq_true_eq, eq_self, true_iff, Bool.false_eq_true, false_iff]; omega) (Sx.put rfl (sx_)) (Sp.all sp_)
        · refine WC.region ?_
          refine WL.y rfl (Yd.eql rfl rfl) ?_
          refine WL.y rfl (Yd.assign rfl) ?_
          refine WL.nil ?_
          exact DN.reachK (_) (by rw [Bool.eq_iff_iff]; simp only [decide_eq_true_eq, eq_self, true_iff, Bool.false_eq_true, false_iff]; omega) (Sx.put rfl (sx_)) (Sp.all sp_)
    · intro z25 hz25
      first | refine WC.ite rfl (fun h25 => ?_) (fun h25 => ?_) | refine WC.cond rfl (fun h25 => ?_) (fun h25 => ?_)
      · refine WC.seq ?_
        refine WC.seq ?_
        refine WC.region ?_
        refine WL.y rfl (Yd.fieldAddr (k := 2) kr_ rfl) ?_
        refine WL.h rfl (Hd.load1 kr_ rfl mem_ (by rfl) ⟨_, rfl, ?_⟩)
        refine WL.y rfl (Yd.len (e := 5) kr_ rfl) ?_
        refine WL.y rfl (Yd.neq rfl rfl) ?_
        refine WL.y rfl (Yd.move rfl) ?_
        refine WL.partP (t := 33) rfl (fun hg33 => ?_) (fun hg33 => ?_)
        · refine WL.gn (dj := 33) rfl rfl rfl rfl ?_
          refine WL.gn (dj := 33) rfl rfl rfl rfl ?_
          refine WL.gn (dj := 33) rfl rfl rfl rfl ?_
          refine WL.gn (dj := 33) rfl rfl rfl rfl ?_
          refine WL.gn (dj := 33) rfl rfl rfl rfl ?_
          refine WL.gn (dj := 33) rfl rfl rfl rfl ?_
          refine WL.gn (dj := 33) rfl rfl rfl rfl ?_
          refine WL.gn (dj := 33) rfl rfl rfl rfl ?_
          refine WL.y rfl (Yd.pickT rfl rfl) ?_
          refine WL.nil ?_
          refine DN.then_normal ?_
          refine WC.yes rfl ?_
          refine WC.seq ?_
          refine WC.region ?_
          refine WL.y rfl (Yd.assign rfl) ?_
          refine WL.y rfl (Yd.assign rfl) ?_
          refine WL.nil ?_
          refine DN.then_normal ?_
          refine WC.ret ?_
          refine DN.then_ret ?_
          refine DN.block_ret ?_
          refine DN.then_ret ?_
          first | refine DN.fit (C := C1 ++ H) sp_ ?_ | refine DN.fit (C := H) sp_ ?_
          refine DN.ret2 Try.results72 rfl rfl ?_
          first
          | (rw [oneF_0a hs0 h11]; exact ⟨_, [], rfl, Ob.nil _, rfl⟩)
          | (rw [oneF_0b hs0 h11 (by omega)]; exact ⟨_, [], rfl, Ob.nil _, rfl⟩)
          | (rw [oneF_0c hs0 h11 (by omega)]; exact ⟨_, C1, rfl, ho1, rfl⟩)
          | (rw [oneF_1b hs0 (of_decide_eq_true (hz25.symm.trans h25)) (one_ok hg33 h42)]; exact ⟨_, C1, rfl, hC1, rfl⟩)
          | (rw [oneF_1a hs0 (of_decide_eq_true (hz25.symm.trans h25)) (.inl (by omega))]; exact ⟨_, [], rfl, Ob.nil _, rfl⟩)
          | (rw [oneF_1a hs0 (of_decide_eq_true (hz25.symm.trans h25)) (.inr (Int.ofNat_le.1 h42))]; exact ⟨_, [], rfl, Ob.nil _, rfl⟩)
          | (rw [oneF_8a hs0 (of_decide_eq_false (hz25.symm.trans h25)) hs8 (by omega)]; exact ⟨_, [], rfl, Ob.nil _, rfl⟩)
          | (rw [oneF_8b hs0 (of_decide_eq_false (hz25.symm.trans h25)) hs8 (by omega)]; exact ⟨_, C1, rfl, hC1, rfl⟩)
          | (rw [oneF_no hs0 (of_decide_eq_false (hz25.symm.trans h25)) hs8]; exact ⟨_, [], rfl, Ob.nil _, rfl⟩)
        · refine WL.gy (dj := 33) rfl rfl rfl (Yd.fieldAddr (k := 1) kr_ rfl) ?_
          refine WL.gh (dj := 33) rfl rfl rfl (Hd.load1 kr_ rfl mem_ (by rfl) ⟨_, rfl, ?_⟩)
          refine WL.gy (dj := 33) rfl rfl rfl (Yd.fieldAddr (k := 0) kr_ rfl) ?_
          refine WL.gh (dj := 33) rfl rfl rfl (Hd.load1 kr_ rfl mem_ (by rfl) ⟨_, rfl, ?_⟩)
          refine WL.gy (dj := 33) rfl rfl rfl (Yd.mul rfl rfl (by omega) (by omega)) ?_
          refine WL.gy (dj := 33) rfl rfl rfl (Yd.to64 _ kr_ kr_ rfl rfl) ?_
          refine WL.gy (dj := 33) rfl rfl rfl (Yd.shl64 (1#64) _ rfl rfl rfl rfl) ?_
          refine WL.gy (dj := 33) rfl rfl rfl (Yd.geq rfl rfl) ?_
          refine WL.y rfl (Yd.pickF rfl rfl) ?_
          refine WL.nil ?_
          refine DN.then_normal ?_
          refine WC.ite rfl (fun h42 => ?_) (fun h42 => ?_)
          · refine WC.seq ?_
            refine WC.region ?_
            refine WL.y rfl (Yd.assign rfl) ?_
            refine WL.y rfl (Yd.assign rfl) ?_
            refine WL.nil ?_
            refine DN.then_normal ?_
            refine WC.ret ?_
            refine DN.then_ret ?_
            refine DN.block_ret ?_
            refine DN.then_ret ?_
            first | refine DN.fit (C := C1 ++ H) sp_ ?_ | refine DN.fit (C := H) sp_ ?_
            refine DN.ret2 Try.results72 rfl rfl ?_
            first
            | (rw [oneF_0a hs0 h11]; exact ⟨_, [], rfl, Ob.nil _, rfl⟩)
            | (rw [oneF_0b hs0 h11 (by omega)]; exact ⟨_, [], rfl, Ob.nil _, rfl⟩)
            | (rw [oneF_0c hs0 h11 (by omega)]; exact ⟨_, C1, rfl, ho1, rfl⟩)
            | (rw [oneF_1b hs0 (of_decide_eq_true (hz25.symm.trans h25)) (one_ok hg33 h42)]; exact ⟨_, C1, rfl, hC1, rfl⟩)
            | (rw [oneF_1a hs0 (of_decide_eq_true (hz25.symm.trans h25)) (.inl (by omega))]; exact ⟨_, [], rfl, Ob.nil _, rfl⟩)
            | (rw [oneF_1a hs0 (of_decide_eq_true (hz25.symm.trans h25)) (.inr (Int.ofNat_le.1 h42))]; exact ⟨_, [], rfl, Ob.nil _, rfl⟩)
            | (rw [oneF_8a hs0 (of_decide_eq_false (hz25.symm.trans h25)) hs8 (by omega)]; exact ⟨_, [], rfl, Ob.nil _, rfl⟩)
            | (rw [oneF_8b hs0 (of_decide_eq_false (hz25.symm.trans h25)) hs8 (by omega)]; exact ⟨_, C1, rfl, hC1, rfl⟩)
            | (rw [oneF_no hs0 (of_decide_eq_false (hz25.symm.trans h25)) hs8]; exact ⟨_, [], rfl, Ob.nil _, rfl⟩)
          · refine WC.skip ?_
            refine DN.then_normal ?_
            refine WC.seq ?_
            refine WC.region ?_
            refine WL.y rfl (Yd.fieldAddr (k := 1) kr_ rfl) ?_
            refine WL.h rfl (Hd.load1 kr_ rfl mem_ (by rfl) ⟨_, rfl, ?_⟩)
            refine WL.y rfl (Yd.fieldAddr (k := 0) kr_ rfl) ?_
            refine WL.h rfl (Hd.load1 kr_ rfl mem_ (by rfl) ⟨_, rfl, ?_⟩)
            refine WL.c rfl (Ent.func Try.call78 rfl) (rnum_tells f.n f.size hs H) (Sp.p sp_) ?_
            rintro x1 H1 ⟨C1, hC1, rfl⟩
            refine WL.y rfl (Yd.assign rfl) ?_
            refine WL.y rfl (Yd.assign rfl) ?_
            refine WL.nil ?_
            refine DN.then_normal ?_
            refine WC.ret ?_
            refine DN.block_ret ?_
            refine DN.then_ret ?_
            first | refine DN.fit (C := C1 ++ H) sp_ ?_ | refine DN.fit (C := H) sp_ ?_
            refine DN.ret2 Try.results72 rfl rfl ?_
            first
            | (rw [oneF_0a hs0 h11]; exact ⟨_, [], rfl, Ob.nil _, rfl⟩)
            | (rw [oneF_0b hs0 h11 (by omega)]; exact ⟨_, [], rfl, Ob.nil _, rfl⟩)
            | (rw [oneF_0c hs0 h11 (by omega)]; exact ⟨_, C1, rfl, ho1, rfl⟩)
            | (rw [oneF_1b hs0 (of_decide_eq_true (hz25.symm.trans h25)) (one_ok hg33 h42)]; exact ⟨_, C1, rfl, hC1, rfl⟩)
            | (rw [oneF_1a hs0 (of_decide_eq_true (hz25.symm.trans h25)) (.inl (by omega))]; exact ⟨_, [], rfl, Ob.nil _, rfl⟩)
            | (rw [oneF_1a hs0 (of_decide_eq_true (hz25.symm.trans h25)) (.inr (Int.ofNat_le.1 h42))]; exact ⟨_, [], rfl, Ob.nil _, rfl⟩)
            | (rw [oneF_8a hs0 (of_decide_eq_false (hz25.symm.trans h25)) hs8 (by omega)]; exact ⟨_, [], rfl, Ob.nil _, rfl⟩)
            | (rw [oneF_8b hs0 (of_decide_eq_false (hz25.symm.trans h25)) hs8 (by omega)]; exact ⟨_, C1, rfl, hC1, rfl⟩)
            | (rw [oneF_no hs0 (of_decide_eq_false (hz25.symm.trans h25)) hs8]; exact ⟨_, [], rfl, Ob.nil _, rfl⟩)
      · refine WC.seq ?_
        refine WC.region ?_
        refine WL.y rfl (Yd.eql rfl rfl) ?_
        refine WL.y rfl (Yd.assign rfl) ?_
        refine WL.nil ?_
        refine DN.then_normal ?_
        refine WC.ite rfl (fun h48 => ?_) (fun h48 => ?_)
        · have hs8 : f.size = 8 := by omega
          refine WC.seq ?_
          refine WC.seq ?_
          refine WC.region ?_
          refine WL.y rfl (Yd.fieldAddr (k := 2) kr_ rfl) ?_
          refine WL.h rfl (Hd.load1 kr_ rfl mem_ (by rfl) ⟨_, rfl, ?_⟩)
          refine WL.y rfl (Yd.len (e := 5) kr_ rfl) ?_
          refine WL.y rfl (Yd.neq rfl rfl) ?_
          refine WL.nil ?_
          refine DN.then_normal ?_
          refine WC.ite rfl (fun h53 => ?_) (fun h53 => ?_)
          · refine WC.seq ?_
            refine WC.region ?_
            refine WL.y rfl (Yd.assign rfl) ?_
            refine WL.y rfl (Yd.assign rfl) ?_
            refine WL.nil ?_
            refine DN.then_normal ?_
            refine WC.ret ?_
            refine DN.then_ret ?_
            refine DN.block_ret ?_
            refine DN.then_ret ?_
            first | refine DN.fit (C := C1 ++ H) sp_ ?_ | refine DN.fit (C := H) sp_ ?_
            refine DN.ret2 Try.results72 rfl rfl ?_
            first
            | (rw [oneF_0a hs0 h11]; exact ⟨_, [], rfl, Ob.nil _, rfl⟩)
            | (rw [oneF_0b hs0 h11 (by omega)]; exact ⟨_, [], rfl, Ob.nil _, rfl⟩)
            | (rw [oneF_0c hs0 h11 (by omega)]; exact ⟨_, C1, rfl, ho1, rfl⟩)
            | (rw [oneF_1b hs0 (of_decide_eq_true (hz25.symm.trans h25)) (one_ok hg33 h42)]; exact ⟨_, C1, rfl, hC1, rfl⟩)
            | (rw [oneF_1a hs0 (of_decide_eq_true (hz25.symm.trans h25)) (.inl (by omega))]; exact ⟨_, [], rfl, Ob.nil _, rfl⟩)
            | (rw [oneF_1a hs0 (of_decide_eq_true (hz25.symm.trans h25)) (.inr (Int.ofNat_le.1 h42))]; exact ⟨_, [], rfl, Ob.nil _, rfl⟩)
            | (rw [oneF_8a hs0 (of_decide_eq_false (hz25.symm.trans h25)) hs8 (by omega)]; exact ⟨_, [], rfl, Ob.nil _, rfl⟩)
            | (rw [oneF_8b hs0 (of_decide_eq_false (hz25.symm.trans h25)) hs8 (by omega)]; exact ⟨_, C1, rfl, hC1, rfl⟩)
            | (rw [oneF_no hs0 (of_decide_eq_false (hz25.symm.trans h25)) hs8]; exact ⟨_, [], rfl, Ob.nil _, rfl⟩)
          · refine WC.skip ?_
            refine DN.then_normal ?_
            refine WC.seq ?_
            refine WC.region ?_
            refine WL.y rfl (Yd.fieldAddr (k := 1) kr_ rfl) ?_
            refine WL.h rfl (Hd.load1 kr_ rfl mem_ (by rfl) ⟨_, rfl, ?_⟩)
            refine WL.c rfl (Ent.func Try.call78 rfl) (rnum_tells f.n 8 (by omega) H) (Sp.p sp_) ?_
            rintro x1 H1 ⟨C1, hC1, rfl⟩
            refine WL.y rfl (Yd.assign rfl) ?_
            refine WL.y rfl (Yd.assign rfl) ?_
            refine WL.nil ?_
            refine DN.then_normal ?_
            refine WC.ret ?_
            refine DN.block_ret ?_
            refine DN.then_ret ?_
            first | refine DN.fit (C := C1 ++ H) sp_ ?_ | refine DN.fit (C := H) sp_ ?_
            refine DN.ret2 Try.results72 rfl rfl ?_
            first
            | (rw [oneF_0a hs0 h11]; exact ⟨_, [], rfl, Ob.nil _, rfl⟩)
            | (rw [oneF_0b hs0 h11 (by omega)]; exact ⟨_, [], rfl, Ob.nil _, rfl⟩)
            | (rw [oneF_0c hs0 h11 (by omega)]; exact ⟨_, C1, rfl, ho1, rfl⟩)
            | (rw [oneF_1b hs0 (of_decide_eq_true (hz25.symm.trans h25)) (one_ok hg33 h42)]; exact ⟨_, C1, rfl, hC1, rfl⟩)
            | (rw [oneF_1a hs0 (of_decide_eq_true (hz25.symm.trans h25)) (.inl (by omega))]; exact ⟨_, [], rfl, Ob.nil _, rfl⟩)
            | (rw [oneF_1a hs0 (of_decide_eq_true (hz25.symm.trans h25)) (.inr (Int.ofNat_le.1 h42))]; exact ⟨_, [], rfl, Ob.nil _, rfl⟩)
            | (rw [oneF_8a hs0 (of_decide_eq_false (hz25.symm.trans h25)) hs8 (by omega)]; exact ⟨_, [], rfl, Ob.nil _, rfl⟩)
            | (rw [oneF_8b hs0 (of_decide_eq_false (hz25.symm.trans h25)) hs8 (by omega)]; exact ⟨_, C1, rfl, hC1, rfl⟩)
            | (rw [oneF_no hs0 (of_decide_eq_false (hz25.symm.trans h25)) hs8]; exact ⟨_, [], rfl, Ob.nil _, rfl⟩)
        · have hs8 : ¬ f.size = 8 := by omega
          refine WC.skip ?_
          refine DN.block_normal ?_
          refine DN.then_normal ?_
          refine WC.seq ?_
          refine WC.region ?_
          refine WL.y rfl (Yd.assign rfl) ?_
          refine WL.y rfl (Yd.assign rfl) ?_
          refine WL.nil ?_
          refine DN.then_normal ?_
          refine WC.ret ?_
          first | refine DN.fit (C := C1 ++ H) sp_ ?_ | refine DN.fit (C := H) sp_ ?_
          refine DN.ret2 Try.results72 rfl rfl ?_
          first
          | (rw [oneF_0a hs0 h11]; exact ⟨_, [], rfl, Ob.nil _, rfl⟩)
          | (rw [oneF_0b hs0 h11 (by omega)]; exact ⟨_, [], rfl, Ob.nil _, rfl⟩)
          | (rw [oneF_0c hs0 h11 (by omega)]; exact ⟨_, C1, rfl, ho1, rfl⟩)
          | (rw [oneF_1b hs0 (of_decide_eq_true (hz25.symm.trans h25)) (one_ok hg33 h42)]; exact ⟨_, C1, rfl, hC1, rfl⟩)
          | (rw [oneF_1a hs0 (of_decide_eq_true (hz25.symm.trans h25)) (.inl (by omega))]; exact ⟨_, [], rfl, Ob.nil _, rfl⟩)
          | (rw [oneF_1a hs0 (of_decide_eq_true (hz25.symm.trans h25)) (.inr (Int.ofNat_le.1 h42))]; exact ⟨_, [], rfl, Ob.nil _, rfl⟩)
          | (rw [oneF_8a hs0 (of_decide_eq_false (hz25.symm.trans h25)) hs8 (by omega)]; exact ⟨_, [], rfl, Ob.nil _, rfl⟩)
          | (rw [oneF_8b hs0 (of_decide_eq_false (hz25.symm.trans h25)) hs8 (by omega)]; exact ⟨_, C1, rfl, hC1, rfl⟩)
          | (rw [oneF_no hs0 (of_decide_eq_false (hz25.symm.trans h25)) hs8]; exact ⟨_, [], rfl, Ob.nil _, rfl⟩)

/-- drayage/drayageref01.Put -/
theorem rput_tells (v : Value) (cs : List Value) (fs : List Fld) (H : List Ck) (hr : Rs v fs.length cs H) (hk : FVs H cs fs) (hl : fs.length ≤ 3000) (hb : ∀ f ∈ fs, f.text.length ≤ 1000000 ∧ f.size ≤ 8) : Tells Try.prog 54 [v] H fun r H' => ∃ w A, r = .tuple #[w, .int .i64 (putL fs []).2] ∧ Ob 5 w (putL fs []).1 A ∧ H' = A ++ H := by
  refine Tells.enter Try.func54 rfl Try.ntmps54 rfl ?_
  intro w0 R
  obtain ⟨ao, c, rfl, hc⟩ := hr.form
  have hcl := hk.len
  refine WC.seq ?_
  refine WC.region ?_
  refine WL.y rfl (Yd.assign rfl) ?_
  refine WL.y rfl (Yd.assign rfl) ?_
  refine WL.nil ?_
  refine DN.then_normal ?_
  refine WC.seq ?_
  refine WC.region ?_
  refine WL.y rfl (Yd.assign rfl) ?_
  refine WL.nil ?_
  refine DN.then_normal ?_
  refine WC.seq ?_
  refine WC.seq ?_
  refine WC.region ?_
  refine WL.y rfl (Yd.assign rfl) ?_
  refine WL.nil ?_
  refine DN.then_normal ?_
  refine WC.block ?_
  refine WC.loopS (fun z : Nat × List (BitVec 8) × Value × List Ck => z.1 ≤ fs.length ∧ z.2.1.length ≤ z.1 * 256 ∧ putL fs [] = putL (fs.drop z.1) z.2.1 ∧ Ob 5 z.2.2.1 z.2.1 z.2.2.2) (fun z : Nat × List (BitVec 8) × Value × List Ck => [(4, z.2.2.1), (5, .int .i64 (z.1 : Int))]) (fun z : Nat × List (BitVec 8) × Value × List Ck => z.2.2.2 ++ H) (fun z : Nat × List (BitVec 8) × Value × List Ck => fs.length - z.1) (⟨0, [], .slice none 0 0, []⟩) (show 0 ≤ fs.length ∧ [].length ≤ 0 * 256 ∧ putL fs [] = putL (fs.drop 0) [] ∧ Ob 5 (.slice none 0 0) [] [] from ⟨Nat.zero_le _, Nat.le_refl _, rfl, Ob.nil _⟩) (Sx.put rfl (Sx.put rfl (sx_))) sp_ ?_
  rintro ⟨i, o, w, A⟩ hI
  replace hI : i ≤ fs.length ∧ o.length ≤ i * 256 ∧ putL fs [] = putL (fs.drop i) o ∧ Ob 5 w o A := hI
  obtain ⟨hi, hol, hput, hA⟩ := hI
  change WC _ _ _ _ _ _ ([(4, w), (5, .int .i64 (i : Int))] ++ _) (A ++ H)
  refine WC.seq ?_
  refine WC.seq ?_
  refine WC.region ?_
  refine WL.y rfl (Yd.move rfl) ?_
  refine WL.y rfl (Yd.move rfl) ?_
  refine WL.y rfl (Yd.len (e := 98) kr_ rfl) ?_
  refine WL.y rfl (Yd.lss rfl rfl) ?_
  refine WL.nil ?_
  refine DN.then_normal ?_
  refine WC.ite rfl (fun h11 => ?_) (fun h11 => ?_)
  · have hlt : i < fs.length := by omega
    obtain ⟨vt, hg, hvt⟩ := hk.at i hlt
    have hcons := List.drop_eq_getElem_cons hlt
    have hbi := hb _ (List.getElem_mem hlt)
    have hol1 := oneF_len fs[i]
    refine WC.skip ?_
    refine DN.then_normal ?_
    refine WC.seq ?_
    refine WC.block ?_
    refine WC.seq ?_
    refine WC.region ?_
    refine WL.y rfl (Yd.move rfl) ?_
    refine WL.y rfl (Yd.move rfl) ?_
    refine WL.elemA (e := 98) (s := 3) kr_ kr_ kr_ rfl rfl (rfl) (hr.mono gr_) (hg) (by rfl) (by omega) (hlt) rfl rfl ?_
    intro p17
    refine WL.c rfl (Ent.func Try.call72 rfl) (rone_tells fs[i] vt H hvt hbi.1 hbi.2) (Sp.p sp_) ?_
    rintro x1 H1 ⟨w1, A1, rfl, hA1, rfl⟩
    refine WL.y rfl (Yd.move rfl) ?_
    refine WL.y rfl (Yd.extract rfl rfl) ?_
    refine WL.y rfl (Yd.extract rfl rfl) ?_
    refine WL.y rfl (Yd.assign rfl) ?_
    refine WL.y rfl (Yd.assign rfl) ?_
    refine WL.nil ?_
    refine DN.then_normal ?_
    refine WC.seq ?_
    refine WC.seq ?_
    refine WC.region ?_
    refine WL.y rfl (Yd.move rfl) ?_
    refine WL.y rfl (Yd.neq rfl rfl) ?_
    refine WL.nil ?_
    refine DN.then_normal ?_
    refine WC.ite rfl (fun h23 => ?_) (fun h23 => ?_)
    · refine WC.seq ?_
      refine WC.region ?_
      refine WL.y rfl (Yd.move rfl) ?_
      refine WL.y rfl (Yd.assign rfl) ?_
      refine WL.y rfl (Yd.assign rfl) ?_
      refine WL.nil ?_
      refine DN.then_normal ?_
      refine WC.ret ?_
      refine DN.then_ret ?_
      refine DN.block_ret ?_
      refine DN.then_ret ?_
      refine DN.then_ret ?_
      refine DN.block_ret ?_
      refine DN.then_ret ?_
      refine DN.fit (C := H) sp_ ?_
      refine DN.ret2 Try.results54 rfl rfl ?_
      rw [hput, hcons, putL_err h23]
      exact ⟨_, [], rfl, Ob.nil _, rfl⟩
    · refine WC.skip ?_
      refine DN.then_normal ?_
      refine WC.region ?_
      refine WL.y rfl (Yd.move rfl) ?_
      refine WL.y rfl (Yd.move rfl) ?_
      refine WL.h rfl (Hd.appendBs (e := 5) (zs := [.int .u8 0]) kr_ kr_ rfl rfl rfl hA sp_ (hA1.bs.mono gr_) (by omega) fun v2 C2 ho2 => ⟨_, rfl, ?_⟩)
      refine WL.y rfl (Yd.assign rfl) ?_
      refine WL.nil ?_
      refine DN.block_normal ?_
      refine DN.then_normal ?_
      refine WC.region ?_
      refine WL.y rfl (Yd.move rfl) ?_
      refine WL.y rfl (Yd.add rfl rfl (by omega) (by omega)) ?_
      refine WL.y rfl (Yd.assign rfl) ?_
      refine WL.nil ?_
      exact DN.againS (⟨i + 1, o ++ (oneF fs[i]).1, v2, C2⟩) (show (i + 1) ≤ fs.length ∧ (o ++ (oneF fs[i]).1).length ≤ (i + 1) * 256 ∧ putL fs [] = putL (fs.drop (i + 1)) (o ++ (oneF fs[i]).1) ∧ Ob 5 v2 (o ++ (oneF fs[i]).1) C2 from ⟨by omega, by rw [List.length_append]; omega, by rw [hput, hcons, putL_ok h23], ho2⟩) (show fs.length - (i + 1) < fs.length - i by omega) (Sx.put rfl (Sx.put rfl (sx_))) sp_
  · obtain rfl : fs.length = i := by omega
    rw [List.drop_length] at hput
    refine WC.exit ?_
    refine DN.then_exit ?_
    refine DN.then_exit ?_
    refine DN.block_exit ?_
    refine DN.then_normal ?_
    refine WC.seq ?_
    refine WC.region ?_
    refine WL.y rfl (Yd.move rfl) ?_
    refine WL.y rfl (Yd.assign rfl) ?_
    refine WL.y rfl (Yd.assign rfl) ?_
    refine WL.nil ?_
    refine DN.then_normal ?_
    refine WC.ret ?_
    refine DN.fit (C := A ++ H) sp_ ?_
    refine DN.ret2 Try.results54 rfl rfl ?_
    rw [hput]
    exact ⟨_, A, rfl, hA, rfl⟩

/-- (*drayage/drayageref01.Reader).Take -/
theorem rtake_tells (p : Nat) (v : Value) (b : List (BitVec 8)) (a : Nat) (sh : Bool) (H : List Ck) (hv : Bs v b H) (hl : b.length ≤ 1000000) (ha : a ≤ b.length) (k : Nat) (hk : k ≤ 1000) : Tells Try.prog 75 [.pointer (some ⟨p, 0, none⟩), .int .i64 k] (row p [v, .int .i64 (a : Nat), .bool sh] 109 :: H) fun r H' => ∃ w A a', r = .tuple #[w, .bool (!(rdShort (b.drop a) sh k))] ∧ Ob 5 w (rdGot (b.drop a) sh k) A ∧ a' ≤ b.length ∧ b.drop a' = rdRest (b.drop a) sh k ∧ H' = A ++ (row p [v, .int .i64 (a' : Nat), .bool (rdShort (b.drop a) sh k)] 109 :: H) := by
  refine Tells.enter Try.func75 rfl Try.ntmps75 rfl ?_
  intro w0 R
  obtain ⟨bo, bc_, rfl, hbc⟩ := hv.form
  have hdl : (b.drop a).length = b.length - a := List.length_drop
  refine WC.seq ?_
  refine WC.region ?_
  refine WL.y rfl (Yd.assign rfl) ?_
  refine WL.y rfl (Yd.assign rfl) ?_
  refine WL.nil ?_
  refine DN.then_normal ?_
  refine WC.seq ?_
  refine WC.cutK (fun z : Bool => z = rdShort (b.drop a) sh k) (fun z : Bool => [(24, .bool z)]) (fun z : Bool => row p [.slice bo b.length bc_, .int .i64 (a : Nat), .bool sh] 109 :: H) ?_ ?_
  · refine WC.draw 18 kr_ rfl ?_
    refine WA.float (N := 18) rfl ?_
    refine WAF.add (i := 0) (d := 7) rfl (QF.mk [] [] rfl rfl kr_ rfl (QAt.y Wt.none (Yd.move rfl))) ?_
    refine WAF.add (i := 1) (d := 8) rfl (QF.mk [0] [(7, _)] rfl rfl kr_ rfl (QAt.y Wt.none (Yd.notNil rfl))) ?_
    refine WAF.add (i := 2) (d := 9) rfl (QF.mk [1] [(8, _)] rfl rfl kr_ rfl (QAt.y Wt.none (Yd.fieldAddr (k := 2) kr_ rfl))) ?_
    refine WAF.add (i := 3) (d := 10) rfl (QF.mk [2] [(9, _)] rfl rfl kr_ rfl (QAt.rd Wt.none (Rd.load1 kr_ rfl mem_ (by rfl)))) ?_
    refine WAF.add (i := 4) (d := 11) rfl (QF.mk [3] [(10, _)] rfl rfl kr_ rfl (QAt.y Wt.none (Yd.move rfl))) ?_
    refine WAF.part (fun hg11 => ?_) (fun hg11 => ?_)
    · refine WAF.add (i := 5) (d := 12) rfl (QF.mk [4] [(11, _)] rfl rfl kr_ rfl (QAt.gn rfl rfl rfl)) ?_
      refine WAF.add (i := 6) (d := 13) rfl (QF.mk [5, 4] [(12, _), (11, _)] rfl rfl kr_ rfl (QAt.gn rfl rfl rfl)) ?_
      refine WAF.add (i := 7) (d := 14) rfl (QF.mk [6, 4] [(13, _), (11, _)] rfl rfl kr_ rfl (QAt.gn rfl rfl rfl)) ?_
      refine WAF.add (i := 8) (d := 15) rfl (QF.mk [7, 4] [(14, _), (11, _)] rfl rfl kr_ rfl (QAt.gn rfl rfl rfl)) ?_
      refine WAF.add (i := 9) (d := 16) rfl (QF.mk [8, 4] [(15, _), (11, _)] rfl rfl kr_ rfl (QAt.gn rfl rfl rfl)) ?_
      refine WAF.add (i := 10) (d := 17) rfl (QF.mk [4] [(11, _)] rfl rfl kr_ rfl (QAt.gn rfl rfl rfl)) ?_
      refine WAF.add (i := 11) (d := 18) rfl (QF.mk [10, 4] [(17, _), (11, _)] rfl rfl kr_ rfl (QAt.gn rfl rfl rfl)) ?_
      refine WAF.add (i := 12) (d := 19) rfl (QF.mk [11, 4] [(18, _), (11, _)] rfl rfl kr_ rfl (QAt.gn rfl rfl rfl)) ?_
      refine WAF.add (i := 13) (d := 20) rfl (QF.mk [12, 4] [(19, _), (11, _)] rfl rfl kr_ rfl (QAt.gn rfl rfl rfl)) ?_
      refine WAF.add (i := 14) (d := 21) rfl (QF.mk [13, 9, 4] [(20, _), (16, _), (11, _)] rfl rfl kr_ rfl (QAt.gn rfl rfl rfl)) ?_
      refine WAF.add (i := 15) (d := 22) rfl (QF.mk [4] [(11, _)] rfl rfl kr_ rfl (QAt.gn rfl rfl rfl)) ?_
      refine WAF.add (i := 16) (d := 23) rfl (QF.mk [15, 14, 4] [(22, _), (21, _), (11, _)] rfl rfl kr_ rfl (QAt.gn rfl rfl rfl)) ?_
      refine WAF.add (i := 17) (d := 24) rfl (QF.mk [16, 4] [(23, _), (11, _)] rfl rfl kr_ rfl (QAt.y Wt.none (Yd.pickT rfl rfl))) ?_
      refine WAF.done (pd := [(17, 24), (16, 23), (15, 22), (14, 21), (13, 20), (12, 19), (11, 18), (10, 17), (9, 16), (8, 15), (7, 14), (6, 13), (5, 12), (4, 11), (3, 10), (2, 9), (1, 8), (0, 7)]) rfl kr_ kr_ (all_c rfl (all_c rfl (all_c rfl (all_c rfl (all_c rfl (all_c rfl (all_c rfl (all_c rfl (all_c rfl (all_c rfl (all_c rfl (all_c rfl (all_c rfl (all_c rfl (all_c rfl (all_c rfl (all_c rfl (all_c rfl (all_n))))))))))))))))))) (all_c (QF.mk [16, 4] [(23, _), (11, _)] rfl rfl kr_ rfl (QAt.y Wt.none (Yd.pickT rfl rfl))) (all_c (QF.mk [15, 14, 4] [(22, _), (21, _), (11, _)] rfl rfl kr_ rfl (QAt.gn rfl rfl rfl)) (all_c (QF.mk [4] [(11, _)] rfl rfl kr_ rfl (QAt.gn rfl rfl rfl)) (all_c (QF.mk [13, 9, 4] [(20, _), (16, _), (11, _)] rfl rfl kr_ rfl (QAt.gn rfl rfl rfl)) (all_c (QF.mk [12, 4] [(19, _), (11, _)] rfl rfl kr_ rfl (QAt.gn rfl rfl rfl)) (all_c (QF.mk [11, 4] [(18, _), (11, _)] rfl rfl kr_ rfl (QAt.gn rfl rfl rfl)) (all_c (QF.mk [10, 4] [(17, _), (11, _)] rfl rfl kr_ rfl (QAt.gn rfl rfl rfl)) (all_c (QF.mk [4] [(11, _)] rfl rfl kr_ rfl (QAt.gn rfl rfl rfl)) (all_c (QF.mk [8, 4] [(15, _), (11, _)] rfl rfl kr_ rfl (QAt.gn rfl rfl rfl)) (all_c (QF.mk [7, 4] [(14, _), (11, _)] rfl rfl kr_ rfl (QAt.gn rfl rfl rfl)) (all_c (QF.mk [6, 4] [(13, _), (11, _)] rfl rfl kr_ rfl (QAt.gn rfl rfl rfl)) (all_c (QF.mk [5, 4] [(12, _), (11, _)] rfl rfl kr_ rfl (QAt.gn rfl rfl rfl)) (all_c (QF.mk [4] [(11, _)] rfl rfl kr_ rfl (QAt.gn rfl rfl rfl)) (all_c (QF.ren (congrArg Value.bool hg11) (QF.mk [3] [(10, _)] rfl rfl kr_ rfl (QAt.y Wt.none (Yd.move rfl)))) (all_c (QF.mk [2] [(9, _)] rfl rfl kr_ rfl (QAt.rd Wt.none (Rd.load1 kr_ rfl mem_ (by rfl)))) (all_c (QF.mk [1] [(8, _)] rfl rfl kr_ rfl (QAt.y Wt.none (Yd.fieldAddr (k := 2) kr_ rfl))) (all_c (QF.mk [0] [(7, _)] rfl rfl kr_ rfl (QAt.y Wt.none (Yd.notNil rfl))) (all_c (QF.mk [] [] rfl rfl kr_ rfl (QAt.y Wt.none (Yd.move rfl))) (all_n))))))))))))))))))) ?_
      change DN _ _ _ _ _ _ ([(24, _), (23, _), (22, _), (21, _), (20, _), (19, _), (18, _), (17, _), (16, _), (15, _), (14, _), (13, _), (12, _), (11, _), (10, _), (9, _), (8, _), (7, _)] ++ _) _
      exact DN.reachK (_) (by unfold rdShort; rw [hg11]; rfl) (Sx.put rfl (sx_)) (Sp.all sp_)
    · refine WAF.add (i := 5) (d := 12) rfl (QF.mk [4] [(11, _)] rfl rfl kr_ rfl (QAt.y (Wt.yes (dj := 11) rfl rfl) (Yd.move rfl))) ?_
      refine WAF.add (i := 6) (d := 13) rfl (QF.mk [5, 4] [(12, _), (11, _)] rfl rfl kr_ rfl (QAt.y (Wt.yes (dj := 11) rfl rfl) (Yd.notNil rfl))) ?_
      refine WAF.add (i := 7) (d := 14) rfl (QF.mk [6, 4] [(13, _), (11, _)] rfl rfl kr_ rfl (QAt.y (Wt.yes (dj := 11) rfl rfl) (Yd.fieldAddr (k := 0) kr_ rfl))) ?_
      refine WAF.add (i := 8) (d := 15) rfl (QF.mk [7, 4] [(14, _), (11, _)] rfl rfl kr_ rfl (QAt.rd (Wt.yes (dj := 11) rfl rfl) (Rd.load1 kr_ rfl mem_ (by rfl)))) ?_
      refine WAF.add (i := 9) (d := 16) rfl (QF.mk [8, 4] [(15, _), (11, _)] rfl rfl kr_ rfl (QAt.y (Wt.yes (dj := 11) rfl rfl) (Yd.len (e := 5) kr_ rfl))) ?_
      refine WAF.add (i := 10) (d := 17) rfl (QF.mk [4] [(11, _)] rfl rfl kr_ rfl (QAt.y (Wt.yes (dj := 11) rfl rfl) (Yd.move rfl))) ?_
      refine WAF.add (i := 11) (d := 18) rfl (QF.mk [10, 4] [(17, _), (11, _)] rfl rfl kr_ rfl (QAt.y (Wt.yes (dj := 11) rfl rfl) (Yd.notNil rfl))) ?_
      refine WAF.add (i := 12) (d := 19) rfl (QF.mk [11, 4] [(18, _), (11, _)] rfl rfl kr_ rfl (QAt.y (Wt.yes (dj := 11) rfl rfl) (Yd.fieldAddr (k := 1) kr_ rfl))) ?_
      refine WAF.add (i := 13) (d := 20) rfl (QF.mk [12, 4] [(19, _), (11, _)] rfl rfl kr_ rfl (QAt.rd (Wt.yes (dj := 11) rfl rfl) (Rd.load1 kr_ rfl mem_ (by rfl)))) ?_
      refine WAF.add (i := 14) (d := 21) rfl (QF.mk [13, 9, 4] [(20, _), (16, _), (11, _)] rfl rfl kr_ rfl (QAt.y (Wt.yes (dj := 11) rfl rfl) (Yd.sub rfl rfl (by omega) (by omega)))) ?_
      refine WAF.add (i := 15) (d := 22) rfl (QF.mk [4] [(11, _)] rfl rfl kr_ rfl (QAt.y (Wt.yes (dj := 11) rfl rfl) (Yd.move rfl))) ?_
      refine WAF.add (i := 16) (d := 23) rfl (QF.mk [15, 14, 4] [(22, _), (21, _), (11, _)] rfl rfl kr_ rfl (QAt.y (Wt.yes (dj := 11) rfl rfl) (Yd.lss rfl rfl))) ?_
      refine WAF.add (i := 17) (d := 24) rfl (QF.mk [16, 4] [(23, _), (11, _)] rfl rfl kr_ rfl (QAt.y Wt.none (Yd.pickF rfl rfl))) ?_
      refine WAF.done (pd := [(17, 24), (16, 23), (15, 22), (14, 21), (13, 20), (12, 19), (11, 18), (10, 17), (9, 16), (8, 15), (7, 14), (6, 13), (5, 12), (4, 11), (3, 10), (2, 9), (1, 8), (0, 7)]) rfl kr_ kr_ (all_c rfl (all_c rfl (all_c rfl (all_c rfl (all_c rfl (all_c rfl (all_c rfl (all_c rfl (all_c rfl (all_c rfl (all_c rfl (all_c rfl (all_c rfl (all_c rfl (all_c rfl (all_c rfl (all_c rfl (all_c rfl (all_n))))))))))))))))))) (all_c (QF.mk [16, 4] [(23, _), (11, _)] rfl rfl kr_ rfl (QAt.y Wt.none (Yd.pickF rfl rfl))) (all_c (QF.mk [15, 14, 4] [(22, _), (21, _), (11, _)] rfl rfl kr_ rfl (QAt.y (Wt.yes (dj := 11) rfl rfl) (Yd.lss rfl rfl))) (all_c (QF.mk [4] [(11, _)] rfl rfl kr_ rfl (QAt.y (Wt.yes (dj := 11) rfl rfl) (Yd.move rfl))) (all_c (QF.mk [13, 9, 4] [(20, _), (16, _), (11, _)] rfl rfl kr_ rfl (QAt.y (Wt.yes (dj := 11) rfl rfl) (Yd.sub rfl rfl (by omega) (by omega)))) (all_c (QF.mk [12, 4] [(19, _), (11, _)] rfl rfl kr_ rfl (QAt.rd (Wt.yes (dj := 11) rfl rfl) (Rd.load1 kr_ rfl mem_ (by rfl)))) (all_c (QF.mk [11, 4] [(18, _), (11, _)] rfl rfl kr_ rfl (QAt.y (Wt.yes (dj := 11) rfl rfl) (Yd.fieldAddr (k := 1) kr_ rfl))) (all_c (QF.mk [10, 4] [(17, _), (11, _)] rfl rfl kr_ rfl (QAt.y (Wt.yes (dj := 11) rfl rfl) (Yd.notNil rfl))) (all_c (QF.mk [4] [(11, _)] rfl rfl kr_ rfl (QAt.y (Wt.yes (dj := 11) rfl rfl) (Yd.move rfl))) (all_c (QF.mk [8, 4] [(15, _), (11, _)] rfl rfl kr_ rfl (QAt.y (Wt.yes (dj := 11) rfl rfl) (Yd.len (e := 5) kr_ rfl))) (all_c (QF.mk [7, 4] [(14, _), (11, _)] rfl rfl kr_ rfl (QAt.rd (Wt.yes (dj := 11) rfl rfl) (Rd.load1 kr_ rfl mem_ (by rfl)))) (all_c (QF.mk [6, 4] [(13, _), (11, _)] rfl rfl kr_ rfl (QAt.y (Wt.yes (dj := 11) rfl rfl) (Yd.fieldAddr (k := 0) kr_ rfl))) (all_c (QF.mk [5, 4] [(12, _), (11, _)] rfl rfl kr_ rfl (QAt.y (Wt.yes (dj := 11) rfl rfl) (Yd.notNil rfl))) (all_c (QF.mk [4] [(11, _)] rfl rfl kr_ rfl (QAt.y (Wt.yes (dj := 11) rfl rfl) (Yd.move rfl))) (all_c (QF.ren (congrArg Value.bool hg11) (QF.mk [3] [(10, _)] rfl rfl kr_ rfl (QAt.y Wt.none (Yd.move rfl)))) (all_c (QF.mk [2] [(9, _)] rfl rfl kr_ rfl (QAt.rd Wt.none (Rd.load1 kr_ rfl mem_ (by rfl)))) (all_c (QF.mk [1] [(8, _)] rfl rfl kr_ rfl (QAt.y Wt.none (Yd.fieldAddr (k := 2) kr_ rfl))) (all_c (QF.mk [0] [(7, _)] rfl rfl kr_ rfl (QAt.y Wt.none (Yd.notNil rfl))) (all_c (QF.mk [] [] rfl rfl kr_ rfl (QAt.y Wt.none (Yd.move rfl))) (all_n))))))))))))))))))) ?_
      change DN _ _ _ _ _ _ ([(24, _), (23, _), (22, _), (21, _), (20, _), (19, _), (18, _), (17, _), (16, _), (15, _), (14, _), (13, _), (12, _), (11, _), (10, _), (9, _), (8, _), (7, _)] ++ _) _
      exact DN.reachK (_) (by unfold rdShort; rw [hg11, hdl, Bool.false_or, Bool.eq_iff_iff, decide_eq_true_eq, decide_eq_true_eq]; omega) (Sx.put rfl (sx_)) (Sp.all sp_)
  · intro z hz
    refine WC.cond rfl (fun h24 => ?_) (fun h24 => ?_)
    · have hs1 : rdShort (b.drop a) sh k = true := hz.symm.trans h24
      refine WC.seq ?_
      refine WC.region ?_
      refine WL.y rfl (Yd.move rfl) ?_
      refine WL.y rfl (Yd.notNil rfl) ?_
      refine WL.y rfl (Yd.fieldAddr (k := 2) kr_ rfl) ?_
      refine WL.s (Hd.store1s kr_ rfl rfl (by rfl) fr_ (by rfl) (by first | (simp only [List.set_cons_zero, List.set_cons_succ, Nat.zero_add, Nat.add_zero, Nat.reduceAdd]; rfl) | rfl) ⟨rfl, ?_⟩)
      refine WL.nil ?_
      refine DN.then_normal ?_
      refine WC.seq ?_
      refine WC.region ?_
      refine WL.y rfl (Yd.assign rfl) ?_
      refine WL.y rfl (Yd.assign rfl) ?_
      refine WL.nil ?_
      refine DN.then_normal ?_
      refine WC.ret ?_
      refine DN.then_ret ?_
      refine DN.ret2 Try.results75 rfl rfl ?_
      rw [hs1]
      exact ⟨_, [], a, rfl, by unfold rdGot; rw [hs1]; exact Ob.nil _, ha, by unfold rdRest; rw [hs1]; rfl, rfl⟩
    · have hs0 : rdShort (b.drop a) sh k = false := hz.symm.trans h24
      have hs2 : sh = false ∧ a + k ≤ b.length := by
        have h9 := hs0
        unfold rdShort at h9
        rw [Bool.or_eq_false_iff, decide_eq_false_iff_not, hdl] at h9
        exact ⟨h9.1, by omega⟩
      have hcut : Bs (.slice (if bc_ = a then bo else bo.map (·.add (a * 1))) (a + k - a) (bc_ - a)) ((b.drop a).take k) H := by
        have h9 := hv.sub (i := a) (j := a + k) (by omega) hs2.2
        rw [show (b.drop a).take (a + k - a) = (b.drop a).take k by congr 1; omega] at h9
        exact h9
      have hcn : ((b.drop a).take k).length = k := by rw [List.length_take]; omega
      refine WC.skip ?_
      refine DN.then_normal ?_
      refine WC.seq ?_
      refine WC.draw 16 kr_ rfl ?_
      refine WA.float (N := 16) rfl ?_
      refine WAF.add (i := 0) (d := 28) rfl (QF.mk [] [] rfl rfl kr_ rfl (QAt.y Wt.none (Yd.move rfl))) ?_
      refine WAF.add (i := 1) (d := 29) rfl (QF.mk [0] [(28, _)] rfl rfl kr_ rfl (QAt.y Wt.none (Yd.notNil rfl))) ?_
      refine WAF.add (i := 2) (d := 30) rfl (QF.mk [1] [(29, _)] rfl rfl kr_ rfl (QAt.y Wt.none (Yd.fieldAddr (k := 0) kr_ rfl))) ?_
      refine WAF.add (i := 3) (d := 31) rfl (QF.mk [2] [(30, _)] rfl rfl kr_ rfl (QAt.rd Wt.none (Rd.load1 kr_ rfl mem_ (by rfl)))) ?_
      refine WAF.add (i := 4) (d := 32) rfl (QF.mk [] [] rfl rfl kr_ rfl (QAt.y Wt.none (Yd.move rfl))) ?_
      refine WAF.add (i := 5) (d := 33) rfl (QF.mk [4] [(32, _)] rfl rfl kr_ rfl (QAt.y Wt.none (Yd.notNil rfl))) ?_
      refine WAF.add (i := 6) (d := 34) rfl (QF.mk [5] [(33, _)] rfl rfl kr_ rfl (QAt.y Wt.none (Yd.fieldAddr (k := 1) kr_ rfl))) ?_
      refine WAF.add (i := 7) (d := 35) rfl (QF.mk [6] [(34, _)] rfl rfl kr_ rfl (QAt.rd Wt.none (Rd.load1 kr_ rfl mem_ (by rfl)))) ?_
      refine WAF.add (i := 8) (d := 36) rfl (QF.mk [] [] rfl rfl kr_ rfl (QAt.y Wt.none (Yd.move rfl))) ?_
      refine WAF.add (i := 9) (d := 37) rfl (QF.mk [8] [(36, _)] rfl rfl kr_ rfl (QAt.y Wt.none (Yd.notNil rfl))) ?_
      refine WAF.add (i := 10) (d := 38) rfl (QF.mk [9] [(37, _)] rfl rfl kr_ rfl (QAt.y Wt.none (Yd.fieldAddr (k := 1) kr_ rfl))) ?_
      refine WAF.add (i := 11) (d := 39) rfl (QF.mk [10] [(38, _)] rfl rfl kr_ rfl (QAt.rd Wt.none (Rd.load1 kr_ rfl mem_ (by rfl)))) ?_
      refine WAF.add (i := 12) (d := 40) rfl (QF.mk [] [] rfl rfl kr_ rfl (QAt.y Wt.none (Yd.move rfl))) ?_
      refine WAF.add (i := 13) (d := 41) rfl (QF.mk [12, 11] [(40, _), (39, _)] rfl rfl kr_ rfl (QAt.y Wt.none (Yd.add rfl rfl (by omega) (by omega)))) ?_
      refine WAF.add (i := 14) (d := 42) rfl (QF.mk [13, 7, 3] [(41, _), (35, _), (31, _)] rfl rfl kr_ rfl (QAt.y Wt.none (Yd.slice (e := 5) (s := 1) (i := a) (j := a + k) kr_ kr_ rfl ⟨_, _, rfl, rfl⟩ ⟨_, _, rfl, by omega⟩ (by omega) (by omega)))) ?_
      refine WAF.add (i := 15) (d := 6) rfl (QF.mk [14, 13, 12, 11, 10, 9, 8, 7, 6, 5, 4, 3, 2, 1, 0] [(42, _), (41, _), (40, _), (39, _), (38, _), (37, _), (36, _), (35, _), (34, _), (33, _), (32, _), (31, _), (30, _), (29, _), (28, _)] rfl rfl kr_ rfl (QAt.y Wt.none (Yd.assign rfl))) ?_
      refine WAF.done (pd := [(15, 6), (14, 42), (13, 41), (12, 40), (11, 39), (10, 38), (9, 37), (8, 36), (7, 35), (6, 34), (5, 33), (4, 32), (3, 31), (2, 30), (1, 29), (0, 28)]) rfl kr_ kr_ (all_c rfl (all_c rfl (all_c rfl (all_c rfl (all_c rfl (all_c rfl (all_c rfl (all_c rfl (all_c rfl (all_c rfl (all_c rfl (all_c rfl (all_c rfl (all_c rfl (all_c rfl (all_c rfl (all_n))))))))))))))))) (all_c (QF.mk [14, 13, 12, 11, 10, 9, 8, 7, 6, 5, 4, 3, 2, 1, 0] [(42, _), (41, _), (40, _), (39, _), (38, _), (37, _), (36, _), (35, _), (34, _), (33, _), (32, _), (31, _), (30, _), (29, _), (28, _)] rfl rfl kr_ rfl (QAt.y Wt.none (Yd.assign rfl))) (all_c (QF.mk [13, 7, 3] [(41, _), (35, _), (31, _)] rfl rfl kr_ rfl (QAt.y Wt.none (Yd.slice (e := 5) (s := 1) (i := a) (j := a + k) kr_ kr_ rfl ⟨_, _, rfl, rfl⟩ ⟨_, _, rfl, by omega⟩ (by omega) (by omega)))) (all_c (QF.mk [12, 11] [(40, _), (39, _)] rfl rfl kr_ rfl (QAt.y Wt.none (Yd.add rfl rfl (by omega) (by omega)))) (all_c (QF.mk [] [] rfl rfl kr_ rfl (QAt.y Wt.none (Yd.move rfl))) (all_c (QF.mk [10] [(38, _)] rfl rfl kr_ rfl (QAt.rd Wt.none (Rd.load1 kr_ rfl mem_ (by rfl)))) (all_c (QF.mk [9] [(37, _)] rfl rfl kr_ rfl (QAt.y Wt.none (Yd.fieldAddr (k := 1) kr_ rfl))) (all_c (QF.mk [8] [(36, _)] rfl rfl kr_ rfl (QAt.y Wt.none (Yd.notNil rfl))) (all_c (QF.mk [] [] rfl rfl kr_ rfl (QAt.y Wt.none (Yd.move rfl))) (all_c (QF.mk [6] [(34, _)] rfl rfl kr_ rfl (QAt.rd Wt.none (Rd.load1 kr_ rfl mem_ (by rfl)))) (all_c (QF.mk [5] [(33, _)] rfl rfl kr_ rfl (QAt.y Wt.none (Yd.fieldAddr (k := 1) kr_ rfl))) (all_c (QF.mk [4] [(32, _)] rfl rfl kr_ rfl (QAt.y Wt.none (Yd.notNil rfl))) (all_c (QF.mk [] [] rfl rfl kr_ rfl (QAt.y Wt.none (Yd.move rfl))) (all_c (QF.mk [2] [(30, _)] rfl rfl kr_ rfl (QAt.rd Wt.none (Rd.load1 kr_ rfl mem_ (by rfl)))) (all_c (QF.mk [1] [(29, _)] rfl rfl kr_ rfl (QAt.y Wt.none (Yd.fieldAddr (k := 0) kr_ rfl))) (all_c (QF.mk [0] [(28, _)] rfl rfl kr_ rfl (QAt.y Wt.none (Yd.notNil rfl))) (all_c (QF.mk [] [] rfl rfl kr_ rfl (QAt.y Wt.none (Yd.move rfl))) (all_n))))))))))))))))) ?_
      change DN _ _ _ _ _ _ ([(6, _), (42, _), (41, _), (40, _), (39, _), (38, _), (37, _), (36, _), (35, _), (34, _), (33, _), (32, _), (31, _), (30, _), (29, _), (28, _)] ++ _) _
      refine DN.then_normal ?_
      refine WC.seq ?_
      refine WC.region ?_
      refine WL.y rfl (Yd.move rfl) ?_
      refine WL.y rfl (Yd.move rfl) ?_
      refine WL.y rfl (Yd.notNil rfl) ?_
      refine WL.y rfl (Yd.fieldAddr (k := 1) kr_ rfl) ?_
      refine WL.h rfl (Hd.load1 kr_ rfl mem_ (by rfl) ⟨_, rfl, ?_⟩)
      refine WL.y rfl (Yd.move rfl) ?_
      refine WL.y rfl (Yd.add rfl rfl (by omega) (by omega)) ?_
      refine WL.y rfl (Yd.notNil rfl) ?_
      refine WL.y rfl (Yd.fieldAddr (k := 1) kr_ rfl) ?_
      refine WL.s (Hd.store1s kr_ rfl rfl (by rfl) fr_ (by rfl) (by first | (simp only [List.set_cons_zero, List.set_cons_succ, Nat.zero_add, Nat.add_zero, Nat.reduceAdd]; rfl) | rfl) ⟨rfl, ?_⟩)
      refine WL.nil ?_
      refine DN.then_normal ?_
      refine WC.seq ?_
      refine WC.region ?_
      refine WL.y rfl (Yd.move rfl) ?_
      refine WL.c rfl (Ent.func Try.call37 rfl) (copy_spec _ ((b.drop a).take k) H hcut (by omega)) (Sp.p sp_) ?_
      rintro x1 H1 ⟨C1, hC1, rfl⟩
      refine WL.y rfl (Yd.assign rfl) ?_
      refine WL.y rfl (Yd.assign rfl) ?_
      refine WL.nil ?_
      refine DN.then_normal ?_
      refine WC.ret ?_
      refine DN.fit (C := C1 ++ (row p [.slice bo b.length bc_, .int .i64 ((a : Int) + k), .bool sh] 109 :: H)) sp_ ?_
      refine DN.ret2 Try.results75 rfl rfl ?_
      rw [hs0]
      exact ⟨_, C1, a + k, rfl, by unfold rdGot; rw [hs0]; exact hC1, hs2.2, by unfold rdRest; rw [hs0, if_neg (by decide), List.drop_drop], by rw [hs2.1]; rfl⟩

/-- (*drayage/drayageref01.Reader).Num -/
theorem rnum2_tells (p : Nat) (v : Value) (b : List (BitVec 8)) (a : Nat) (sh : Bool) (H : List Ck) (hv : Bs v b H) (hl : b.length ≤ 1000000) (ha : a ≤ b.length) (k : Nat) (hk : k ≤ 8) : Tells Try.prog 60 [.pointer (some ⟨p, 0, none⟩), .int .i64 k] (row p [v, .int .i64 (a : Nat), .bool sh] 109 :: H) fun r H' => ∃ a', r = .int .u64 (beN (rdGot (b.drop a) sh k)).toNat ∧ a' ≤ b.length ∧ b.drop a' = rdRest (b.drop a) sh k ∧ H' = row p [v, .int .i64 (a' : Nat), .bool (rdShort (b.drop a) sh k)] 109 :: H := by
  refine Tells.enter Try.func60 rfl Try.ntmps60 rfl ?_
  intro w0 R
  refine WC.seq ?_
  refine WC.region ?_
  refine WL.y rfl (Yd.assign (v := .int .u64 ((0#64).toNat : Int)) rfl) ?_
  refine WL.nil ?_
  refine DN.then_normal ?_
  refine WC.seq ?_
  refine WC.region ?_
  refine WL.y rfl (Yd.move rfl) ?_
  refine WL.y rfl (Yd.move rfl) ?_
  refine WL.c rfl (Ent.func Try.call75 rfl) (rtake_tells p v b a sh H hv hl ha k (by omega)) (Sp.p sp_) ?_
  rintro x1 H1 ⟨w, A, a', rfl, hA, ha', hrest, rfl⟩
  obtain ⟨wo, wc, rfl, _⟩ := hA.form
  refine WL.y rfl (Yd.move rfl) ?_
  refine WL.y rfl (Yd.extract rfl rfl) ?_
  refine WL.y rfl (Yd.extract rfl rfl) ?_
  refine WL.y rfl (Yd.assign rfl) ?_
  refine WL.y rfl (Yd.assign rfl) ?_
  refine WL.nil ?_
  refine DN.then_normal ?_
  refine WC.seq ?_
  refine WC.region ?_
  refine WL.y rfl (Yd.move rfl) ?_
  refine WL.r rfl (Ent.func Try.call76 rfl) (rof_reads _ (rdGot (b.drop a) sh k) _ (hA.bs.mono gr_) (by have := rdGot_len (b.drop a) sh k; omega)) ?_
  refine WL.y rfl (Yd.assign rfl) ?_
  refine WL.nil ?_
  refine DN.then_normal ?_
  refine WC.ret ?_
  refine DN.fit (C := row p [v, .int .i64 (a' : Nat), .bool (rdShort (b.drop a) sh k)] 109 :: H) sp_ ?_
  refine DN.ret1 Try.results60 rfl ?_
  exact ⟨a', rfl, ha', hrest, rfl⟩

/-- (*drayage/drayageref01.Reader).Text -/
theorem rtext2_tells (p : Nat) (v : Value) (b : List (BitVec 8)) (a : Nat) (sh : Bool) (H : List Ck) (hv : Bs v b H) (hl : b.length ≤ 1000000) (ha : a ≤ b.length) : Tells Try.prog 61 [.pointer (some ⟨p, 0, none⟩)] (row p [v, .int .i64 (a : Nat), .bool sh] 109 :: H) fun r H' => ∃ A a', Bs r (txGot (b.drop a) sh) A ∧ a' ≤ b.length ∧ b.drop a' = rdRest (b.drop a) sh (txN (b.drop a)) ∧ H' = A ++ (row p [v, .int .i64 (a' : Nat), .bool (rdShort (b.drop a) sh (txN (b.drop a)))] 109 :: H) := by
  refine Tells.enter Try.func61 rfl Try.ntmps61 rfl ?_
  intro w0 R
  obtain ⟨bo, bc_, rfl, hbc⟩ := hv.form
  have htx := txN_le (b.drop a)
  refine WC.seq ?_
  refine WC.region ?_
  refine WL.y rfl (Yd.assign rfl) ?_
  refine WL.nil ?_
  refine DN.then_normal ?_
  refine WC.seq ?_
  refine WC.region ?_
  refine WL.y rfl (Yd.assign rfl) ?_
  refine WL.nil ?_
  refine DN.then_normal ?_
  refine WC.cutK (fun _z : Unit => True) (fun _z : Unit => [(3, .int .i64 (((b.drop a).headD 0#8).toNat : Int))]) (fun _z : Unit => row p [.slice bo b.length bc_, .int .i64 (a : Nat), .bool sh] 109 :: H) ?_ ?_
  · refine WC.seq ?_
    refine WC.draw 10 kr_ rfl ?_
    refine WA.float (N := 10) rfl ?_
    refine WAF.add (i := 0) (d := 6) rfl (QF.mk [] [] rfl rfl kr_ rfl (QAt.y Wt.none (Yd.move rfl))) ?_
    refine WAF.add (i := 1) (d := 7) rfl (QF.mk [0] [(6, _)] rfl rfl kr_ rfl (QAt.y Wt.none (Yd.notNil rfl))) ?_
    refine WAF.add (i := 2) (d := 8) rfl (QF.mk [1] [(7, _)] rfl rfl kr_ rfl (QAt.y Wt.none (Yd.fieldAddr (k := 1) kr_ rfl))) ?_
    refine WAF.add (i := 3) (d := 9) rfl (QF.mk [2] [(8, _)] rfl rfl kr_ rfl (QAt.rd Wt.none (Rd.load1 kr_ rfl mem_ (by rfl)))) ?_
    refine WAF.add (i := 4) (d := 10) rfl (QF.mk [] [] rfl rfl kr_ rfl (QAt.y Wt.none (Yd.move rfl))) ?_
    refine WAF.add (i := 5) (d := 11) rfl (QF.mk [4] [(10, _)] rfl rfl kr_ rfl (QAt.y Wt.none (Yd.notNil rfl))) ?_
    refine WAF.add (i := 6) (d := 12) rfl (QF.mk [5] [(11, _)] rfl rfl kr_ rfl (QAt.y Wt.none (Yd.fieldAddr (k := 0) kr_ rfl))) ?_
    refine WAF.add (i := 7) (d := 13) rfl (QF.mk [6] [(12, _)] rfl rfl kr_ rfl (QAt.rd Wt.none (Rd.load1 kr_ rfl mem_ (by rfl)))) ?_
    refine WAF.add (i := 8) (d := 14) rfl (QF.mk [7] [(13, _)] rfl rfl kr_ rfl (QAt.y Wt.none (Yd.len (e := 5) kr_ rfl))) ?_
    refine WAF.add (i := 9) (d := 15) rfl (QF.mk [8, 3] [(14, _), (9, _)] rfl rfl kr_ rfl (QAt.y Wt.none (Yd.lss rfl rfl))) ?_
    refine WAF.done (pd := [(9, 15), (8, 14), (7, 13), (6, 12), (5, 11), (4, 10), (3, 9), (2, 8), (1, 7), (0, 6)]) rfl kr_ kr_ (all_c rfl (all_c rfl (all_c rfl (all_c rfl (all_c rfl (all_c rfl (all_c rfl (all_c rfl (all_c rfl (all_c rfl (all_n))))))))))) (all_c (QF.mk [8, 3] [(14, _), (9, _)] rfl rfl kr_ rfl (QAt.y Wt.none (Yd.lss rfl rfl))) (all_c (QF.mk [7] [(13, _)] rfl rfl kr_ rfl (QAt.y Wt.none (Yd.len (e := 5) kr_ rfl))) (all_c (QF.mk [6] [(12, _)] rfl rfl kr_ rfl (QAt.rd Wt.none (Rd.load1 kr_ rfl mem_ (by rfl)))) (all_c (QF.mk [5] [(11, _)] rfl rfl kr_ rfl (QAt.y Wt.none (Yd.fieldAddr (k := 0) kr_ rfl))) (all_c (QF.mk [4] [(10, _)] rfl rfl kr_ rfl (QAt.y Wt.none (Yd.notNil rfl))) (all_c (QF.mk [] [] rfl rfl kr_ rfl (QAt.y Wt.none (Yd.move rfl))) (all_c (QF.mk [2] [(8, _)] rfl rfl kr_ rfl (QAt.rd Wt.none (Rd.load1 kr_ rfl mem_ (by rfl)))) (all_c (QF.mk [1] [(7, _)] rfl rfl kr_ rfl (QAt.y Wt.none (Yd.fieldAddr (k := 1) kr_ rfl))) (all_c (QF.mk [0] [(6, _)] rfl rfl kr_ rfl (QAt.y Wt.none (Yd.notNil rfl))) (all_c (QF.mk [] [] rfl rfl kr_ rfl (QAt.y Wt.none (Yd.move rfl))) (all_n))))))))))) ?_
    change DN _ _ _ _ _ _ ([(15, _), (14, _), (13, _), (12, _), (11, _), (10, _), (9, _), (8, _), (7, _), (6, _)] ++ _) _
    refine DN.then_normal ?_
    refine WC.ite rfl (fun h15 => ?_) (fun h15 => ?_)
    · refine WC.draw 12 kr_ rfl ?_
      refine WA.float (N := 12) rfl ?_
      refine WAF.add (i := 0) (d := 16) rfl (QF.mk [] [] rfl rfl kr_ rfl (QAt.y Wt.none (Yd.move rfl))) ?_
      refine WAF.add (i := 1) (d := 17) rfl (QF.mk [0] [(16, _)] rfl rfl kr_ rfl (QAt.y Wt.none (Yd.notNil rfl))) ?_
      refine WAF.add (i := 2) (d := 18) rfl (QF.mk [1] [(17, _)] rfl rfl kr_ rfl (QAt.y Wt.none (Yd.fieldAddr (k := 0) kr_ rfl))) ?_
      refine WAF.add (i := 3) (d := 19) rfl (QF.mk [2] [(18, _)] rfl rfl kr_ rfl (QAt.rd Wt.none (Rd.load1 kr_ rfl mem_ (by rfl)))) ?_
      refine WAF.add (i := 4) (d := 20) rfl (QF.mk [] [] rfl rfl kr_ rfl (QAt.y Wt.none (Yd.move rfl))) ?_
      refine WAF.add (i := 5) (d := 21) rfl (QF.mk [4] [(20, _)] rfl rfl kr_ rfl (QAt.y Wt.none (Yd.notNil rfl))) ?_
      refine WAF.add (i := 6) (d := 22) rfl (QF.mk [5] [(21, _)] rfl rfl kr_ rfl (QAt.y Wt.none (Yd.fieldAddr (k := 1) kr_ rfl))) ?_
      refine WAF.add (i := 7) (d := 23) rfl (QF.mk [6] [(22, _)] rfl rfl kr_ rfl (QAt.rd Wt.none (Rd.load1 kr_ rfl mem_ (by rfl)))) ?_
      have hlt : a < b.length := by omega
      have hhd : (b.drop a).headD 0#8 = b[a] := by rw [List.drop_eq_getElem_cons hlt]; rfl
      obtain ⟨lb, lf, lcs, lT, lfr, lex, elo, _, hlm, hlcs⟩ := Rs.lies hv (by omega)
      rw [hhd]
      refine WAF.add (i := 8) (d := 24) rfl (QF.mk [7, 3] [(23, _), (19, _)] rfl rfl kr_ rfl (QAt.y Wt.none (Yd.indexAddr (e := 5) (s := 1) (b := lb) (o := lf) (n := b.length) (c := bc_) kr_ kr_ (congrArg (fun q => some (Value.slice q b.length bc_)) elo) rfl (by omega) (by omega)))) ?_
      refine WAF.add (i := 9) (d := 25) rfl (QF.mk [8] [(24, _)] rfl rfl kr_ rfl (QAt.rd Wt.none (Rd.load1 (v := .int .u8 b[a].toNat) (b := lb) (o := lf + (a : Int).toNat * 1) (cs := lcs) kr_ rfl (Gr.get2 gr_ hlm) (rs_cell1 hlcs (bc_get hlt))))) ?_
      refine WAF.add (i := 10) (d := 26) rfl (QF.mk [9] [(25, _)] rfl rfl kr_ rfl (QAt.y Wt.none (Yd.int8 _ kr_ kr_ rfl rfl))) ?_
      refine WAF.step (pd := [(10, 26), (9, 25), (8, 24), (7, 23), (6, 22), (5, 21), (4, 20), (3, 19), (2, 18), (1, 17), (0, 16)]) [(11, [10, 9, 8, 7, 6, 5, 4, 3, 2, 1, 0])] rfl kr_ kr_ (all_c rfl (all_c rfl (all_c rfl (all_c rfl (all_c rfl (all_c rfl (all_c rfl (all_c rfl (all_c rfl (all_c rfl (all_c rfl (all_n)))))))))))) (all_c (QF.mk [9] [(25, _)] rfl rfl kr_ rfl (QAt.y Wt.none (Yd.int8 _ kr_ kr_ rfl rfl))) (all_c (QF.mk [8] [(24, _)] rfl rfl kr_ rfl (QAt.rd Wt.none (Rd.load1 (v := .int .u8 b[a].toNat) (b := lb) (o := lf + (a : Int).toNat * 1) (cs := lcs) kr_ rfl (Gr.get2 gr_ hlm) (rs_cell1 hlcs (bc_get hlt))))) (all_c (QF.mk [7, 3] [(23, _), (19, _)] rfl rfl kr_ rfl (QAt.y Wt.none (Yd.indexAddr (e := 5) (s := 1) (b := lb) (o := lf) (n := b.length) (c := bc_) kr_ kr_ (congrArg (fun q => some (Value.slice q b.length bc_)) elo) rfl (by omega) (by omega)))) (all_c (QF.mk [6] [(22, _)] rfl rfl kr_ rfl (QAt.rd Wt.none (Rd.load1 kr_ rfl mem_ (by rfl)))) (all_c (QF.mk [5] [(21, _)] rfl rfl kr_ rfl (QAt.y Wt.none (Yd.fieldAddr (k := 1) kr_ rfl))) (all_c (QF.mk [4] [(20, _)] rfl rfl kr_ rfl (QAt.y Wt.none (Yd.notNil rfl))) (all_c (QF.mk [] [] rfl rfl kr_ rfl (QAt.y Wt.none (Yd.move rfl))) (all_c (QF.mk [2] [(18, _)] rfl rfl kr_ rfl (QAt.rd Wt.none (Rd.load1 kr_ rfl mem_ (by rfl)))) (all_c (QF.mk [1] [(17, _)] rfl rfl kr_ rfl (QAt.y Wt.none (Yd.fieldAddr (k := 0) kr_ rfl))) (all_c (QF.mk [0] [(16, _)] rfl rfl kr_ rfl (QAt.y Wt.none (Yd.notNil rfl))) (all_c (QF.mk [] [] rfl rfl kr_ rfl (QAt.y Wt.none (Yd.move rfl))) (all_n)))))))))))) (all_c ?_ (all_n))
      · change SO _ _ _ _ _ _ 11 ([(26, _), (25, _), (24, _), (23, _), (22, _), (21, _), (20, _), (19, _), (18, _), (17, _), (16, _)] ++ _) _ _
        refine SO.y rfl Wt.none rfl (Yd.assign rfl) ?_
        change WAF _ _ _ _ _ _ [] _ [11, 10, 9, 8, 7, 6, 5, 4, 3, 2, 1, 0] ((3, _) :: ([(26, _), (25, _), (24, _), (23, _), (22, _), (21, _), (20, _), (19, _), (18, _), (17, _), (16, _)] ++ _)) _
        refine WAF.done (pd := []) rfl kr_ kr_ (all_n) (all_n) ?_
        change DN _ _ _ _ _ _ ([] ++ _) _
        exact DN.reachK (()) (trivial) (Sx.put rfl (sx_)) (Sp.all sp_)
    · refine WC.skip ?_
      rw [show ((b.drop a).headD 0#8) = 0#8 by rw [List.drop_of_length_le (by omega)]; rfl]
      exact DN.reachK (()) (trivial) (Sx.put rfl (sx_)) (Sp.all sp_)
  · intro _ _
    refine WC.seq ?_
    refine WC.region ?_
    refine WL.y rfl (Yd.move rfl) ?_
    refine WL.y rfl (Yd.move rfl) ?_
    refine WL.y rfl (Yd.add rfl rfl (by omega) (by omega)) ?_
    refine WL.renamed (t := 30) (v := .int .i64 ((txN (b.drop a) : Nat) : Int)) rfl (congrArg (Value.int .i64) (by unfold txN; omega)) ?_
    refine WL.c rfl (Ent.func Try.call75 rfl) (rtake_tells p _ b a sh H hv hl ha (txN (b.drop a)) (by omega)) (Sp.p sp_) ?_
    rintro x1 H1 ⟨w, A, a', rfl, hA, ha', hrest, rfl⟩
    obtain ⟨got, hgot⟩ : ∃ got, got = rdGot (b.drop a) sh (txN (b.drop a)) := ⟨_, rfl⟩
    rw [← hgot] at hA
    have htg : txGot (b.drop a) sh = got.drop 1 := by rw [hgot]; rfl
    obtain ⟨wo, wc, rfl, hwc⟩ := hA.form
    refine WL.y rfl (Yd.move rfl) ?_
    refine WL.y rfl (Yd.extract rfl rfl) ?_
    refine WL.y rfl (Yd.extract rfl rfl) ?_
    refine WL.y rfl (Yd.assign rfl) ?_
    refine WL.y rfl (Yd.assign rfl) ?_
    refine WL.nil ?_
    refine DN.then_normal ?_
    refine WC.seq ?_
    refine WC.seq ?_
    refine WC.region ?_
    refine WL.y rfl (Yd.move rfl) ?_
    refine WL.y rfl (Yd.notB rfl) ?_
    refine WL.nil ?_
    refine DN.then_normal ?_
    refine WC.cond rfl (fun h35 => ?_) (fun h35 => ?_)
    · have hs1 : rdShort (b.drop a) sh (txN (b.drop a)) = true := by simpa using h35
      have hg0 : got = [] := by rw [hgot]; unfold rdGot; rw [hs1]; rfl
      refine WC.seq ?_
      refine WC.region ?_
      refine WL.y rfl (Yd.assign rfl) ?_
      refine WL.nil ?_
      refine DN.then_normal ?_
      refine WC.ret ?_
      refine DN.then_ret ?_
      refine DN.fit (C := row p [.slice bo b.length bc_, .int .i64 (a' : Nat), .bool (rdShort (b.drop a) sh (txN (b.drop a)))] 109 :: H) sp_ ?_
      refine DN.ret1 Try.results61 rfl ?_
      exact ⟨[], a', by rw [htg, hg0]; exact .inl ⟨_, _, rfl, rfl, rfl⟩, ha', hrest, rfl⟩
    · have hs0 : rdShort (b.drop a) sh (txN (b.drop a)) = false := by simpa using h35
      have hgl : 1 ≤ got.length := by
        have h9 := hs0
        unfold rdShort at h9
        rw [Bool.or_eq_false_iff, decide_eq_false_iff_not] at h9
        rw [hgot]; unfold rdGot; rw [hs0, if_neg (by decide), List.length_take]
        have : 1 ≤ txN (b.drop a) := by unfold txN; omega
        omega
      refine WC.skip ?_
      refine DN.then_normal ?_
      refine WC.seq ?_
      refine WC.region ?_
      refine WL.y rfl (Yd.move rfl) ?_
      refine WL.y rfl (Yd.slice (e := 5) (s := 1) (i := 1) (j := got.length) kr_ kr_ rfl ⟨_, _, rfl, rfl⟩ rfl (by omega) (by omega)) ?_
      refine WL.y rfl (Yd.assign rfl) ?_
      refine WL.nil ?_
      refine DN.then_normal ?_
      refine WC.ret ?_
      refine DN.fit (C := A ++ (row p [.slice bo b.length bc_, .int .i64 (a' : Nat), .bool (rdShort (b.drop a) sh (txN (b.drop a)))] 109 :: H)) sp_ ?_
      refine DN.ret1 Try.results61 rfl ?_
      exact ⟨A, a', by rw [htg]; have := hA.bs.sub (i := 1) (j := got.length) hgl (Nat.le_refl _); rw [List.take_of_length_le (by simp)] at this; exact this, ha', hrest, rfl⟩

end Go.Proofs.Ytonnkgblligdkaa
