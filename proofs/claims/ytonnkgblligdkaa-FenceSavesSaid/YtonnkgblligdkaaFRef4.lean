/-
  The walks of the document's fence (drayageref08): Put, Get.
-/
import Derived.Test.YtonnkgblligdkaaFRef1
import Derived.Test.YtonnkgblligdkaaFRef01
import Derived.Test.YtonnkgblligdkaaFenceCode
set_option linter.unusedVariables false
set_option linter.unusedSimpArgs false
set_option maxHeartbeats 4000000
namespace Go.Proofs.Ytonnkgblligdkaa
open Go.SL


/-- drayage/drayageref08.Put -/
theorem rfput_tells (e : BitVec 32) (v : Value) (ks : List Kp) (H : List Ck) (hv : KV v ks H) (hl : ks.length ≤ 1000) : Tells Try.prog 33 [.agg #[.int .u32 e.toNat, v]] H fun r H' => ∃ w A, r = .tuple #[w, .int .i64 (if chk ks then 0 else 2)] ∧ Ob 5 w (if chk ks then putB e ks else []) A ∧ H' = A ++ H := by
  refine Tells.enter Try.func33 rfl Try.ntmps33 rfl ?_
  intro w0 R
  have hv9 := hv
  obtain ⟨cs, hr, hk⟩ := hv
  obtain ⟨ao, c, rfl, hc⟩ := hr.form
  refine WC.seq ?_
  refine WC.region ?_
  refine WL.h rfl (Hd.boxA rfl fun b1 => ⟨_, rfl, ?_⟩)
  refine WL.y rfl (Yd.assign rfl) ?_
  refine WL.y rfl (Yd.assign rfl) ?_
  refine WL.nil ?_
  refine DN.then_normal ?_
  refine WC.seq ?_
  refine WC.region ?_
  refine WL.h rfl (Hd.loadAll (n := 2) kr_ rfl mem_ (by rfl) ⟨_, rfl, ?_⟩)
  refine WL.r rfl (Ent.func Try.call31 rfl) (rfcheck_reads e _ ks _ (hv9.mono gr_) (by omega)) ?_
  refine WL.y rfl (Yd.assign rfl) ?_
  refine WL.nil ?_
  refine DN.then_normal ?_
  refine WC.seq ?_
  refine WC.seq ?_
  refine WC.region ?_
  refine WL.y rfl (Yd.move rfl) ?_
  refine WL.y rfl (Yd.neq rfl rfl) ?_
  refine WL.nil ?_
  refine DN.then_normal ?_
  refine WC.ite rfl (fun h12 => ?_) (fun h12 => ?_)
  · have hck : ¬ chk ks := fun h => by rw [if_pos h] at h12; exact h12 rfl
    refine WC.seq ?_
    refine WC.region ?_
    refine WL.y rfl (Yd.move rfl) ?_
    refine WL.y rfl (Yd.assign rfl) ?_
    refine WL.y rfl (Yd.assign rfl) ?_
    refine WL.nil ?_
    refine DN.then_normal ?_
    refine WC.ret ?_
    refine DN.then_ret ?_
    refine DN.fit (C := H) sp_ ?_
    refine DN.ret2 Try.results33 rfl rfl ?_
    exact ⟨_, [], rfl, by rw [if_neg hck]; exact Ob.nil _, rfl⟩
  · have hck : chk ks := Classical.byContradiction fun h => by rw [if_neg h] at h12; exact h12 (by decide)
    have h200 := hck.1
    refine WC.skip ?_
    refine DN.then_normal ?_
    refine WC.seq ?_
    refine WC.region ?_
    refine WL.y rfl (Yd.fieldAddr (k := 0) kr_ rfl) ?_
    refine WL.h rfl (Hd.load1 kr_ rfl mem_ (by rfl) ⟨_, rfl, ?_⟩)
    refine WL.y rfl (Yd.conv32_64 _ kr_ kr_ rfl rfl) ?_
    refine WL.y rfl (Yd.buildL (pl := [(0, 1), (1, 1), (2, 1)]) (zs := [.int .i64 0, .int .u64 0, .slice none 0 0]) (parts := [(0, .const (.int .i64 4)), (1, .tmp 16)]) (vs := [(0, _), (1, _)]) (cells := [_, _, .slice none 0 0]) kr_ kr_ rfl rfl) ?_
    refine WL.y rfl (Yd.fieldAddr (k := 1) kr_ rfl) ?_
    refine WL.h rfl (Hd.load1 kr_ rfl mem_ (by rfl) ⟨_, rfl, ?_⟩)
    refine WL.y rfl (Yd.len (e := 43) kr_ rfl) ?_
    refine WL.y rfl (Yd.to64 _ kr_ kr_ rfl rfl) ?_
    refine WL.y rfl (Yd.buildL (pl := [(0, 1), (1, 1), (2, 1)]) (zs := [.int .i64 0, .int .u64 0, .slice none 0 0]) (parts := [(0, .const (.int .i64 1)), (1, .tmp 21)]) (vs := [(0, _), (1, _)]) (cells := [_, _, .slice none 0 0]) kr_ kr_ rfl rfl) ?_
    refine WL.h rfl (Hd.buildSlice (e := 98) (sz := 3) (zs := [.int .i64 0, .int .u64 0, .slice none 0 0]) (parts := [(0, .tmp 17), (1, .tmp 22)]) (vs := [(0, .agg (fdc ⟨4, e.setWidth 64, []⟩ (.slice none 0 0)).toArray), (1, .agg (fdc ⟨1, BitVec.ofInt 64 (ks.length : Int), []⟩ (.slice none 0 0)).toArray)]) (cells := (fdc ⟨4, e.setWidth 64, []⟩ (.slice none 0 0)) ++ (fdc ⟨1, BitVec.ofInt 64 (ks.length : Int), []⟩ (.slice none 0 0))) kr_ kr_ kr_ rfl kr_ kr_ fun b23 => ⟨_, rfl, ?_⟩)
    refine WL.y rfl (Yd.assign rfl) ?_
    refine WL.nil ?_
    refine DN.then_normal ?_
    refine WC.seq ?_
    refine WC.seq ?_
    refine WC.region ?_
    refine WL.y rfl (Yd.assign rfl) ?_
    refine WL.nil ?_
    refine DN.then_normal ?_
    refine WC.block ?_
    refine WC.loopS (fun z : Nat × Value × List Value × List Ck => z.1 ≤ ks.length ∧ Own z.2.1 (2 + z.1 * 6) z.2.2.1 98 3 z.2.2.2 ∧ FVs H z.2.2.1 (fsTo e ks z.1)) (fun z : Nat × Value × List Value × List Ck => [(5, z.2.1), (6, .int .i64 (z.1 : Int))]) (fun z : Nat × Value × List Value × List Ck => z.2.2.2 ++ (row b1 [.int .u32 e.toNat, .slice ao ks.length c] 25 :: H)) (fun z : Nat × Value × List Value × List Ck => ks.length - z.1) (⟨0, .slice (some ⟨b23, 0, none⟩) 2 2, (fdc ⟨4, e.setWidth 64, []⟩ (.slice none 0 0)) ++ (fdc ⟨1, BitVec.ofInt 64 (ks.length : Int), []⟩ (.slice none 0 0)), [row b23 ((fdc ⟨4, e.setWidth 64, []⟩ (.slice none 0 0)) ++ (fdc ⟨1, BitVec.ofInt 64 (ks.length : Int), []⟩ (.slice none 0 0))) 98]⟩) (show 0 ≤ ks.length ∧ Own (.slice (some ⟨b23, 0, none⟩) 2 2) (2 + 0 * 6) ((fdc ⟨4, e.setWidth 64, []⟩ (.slice none 0 0)) ++ (fdc ⟨1, BitVec.ofInt 64 (ks.length : Int), []⟩ (.slice none 0 0))) 98 3 ([row b23 ((fdc ⟨4, e.setWidth 64, []⟩ (.slice none 0 0)) ++ (fdc ⟨1, BitVec.ofInt 64 (ks.length : Int), []⟩ (.slice none 0 0))) 98]) ∧ FVs H ((fdc ⟨4, e.setWidth 64, []⟩ (.slice none 0 0)) ++ (fdc ⟨1, BitVec.ofInt 64 (ks.length : Int), []⟩ (.slice none 0 0))) (fsTo e ks 0) from ⟨Nat.zero_le _, .inr ⟨b23, 2, [], rfl, Nat.le_refl _, by simp only [maxLen]; omega, rfl, rfl, by rw [List.append_nil]⟩, FVs.cons (Bs_nil H) (FVs.cons (Bs_nil H) .nil)⟩) (Sx.put rfl (Sx.put rfl (sx_))) sp_ ?_
    rintro ⟨i, vl, cl, Cl⟩ hI
    replace hI : i ≤ ks.length ∧ Own vl (2 + i * 6) cl 98 3 Cl ∧ FVs H cl (fsTo e ks i) := hI
    obtain ⟨hi, hO, hF⟩ := hI
    change WC _ _ _ _ _ _ ([(5, vl), (6, .int .i64 (i : Int))] ++ _) (Cl ++ (row b1 [.int .u32 e.toNat, .slice ao ks.length c] 25 :: H))
    obtain ⟨lo, lc, rfl, hlc⟩ := hO.form
    refine WC.seq ?_
    refine WC.seq ?_
    refine WC.region ?_
    refine WL.y rfl (Yd.move rfl) ?_
    refine WL.y rfl (Yd.fieldAddr (k := 1) kr_ rfl) ?_
    refine WL.h rfl (Hd.load1 kr_ rfl mem_ (by rfl) ⟨_, rfl, ?_⟩)
    refine WL.y rfl (Yd.len (e := 43) kr_ rfl) ?_
    refine WL.y rfl (Yd.lss rfl rfl) ?_
    refine WL.nil ?_
    refine DN.then_normal ?_
    refine WC.ite rfl (fun h28 => ?_) (fun h28 => ?_)
    · have hlt : i < ks.length := by omega
      obtain ⟨va, vr, hg, hva, hvr⟩ := hk.at i hlt
      obtain ⟨ao1, ac1, rfl, _⟩ := hva.form
      obtain ⟨ro1, rc1, rfl, _⟩ := hvr.form
      refine WC.skip ?_
      refine DN.then_normal ?_
      refine WC.seq ?_
      refine WC.block ?_
      refine WC.seq ?_
      refine WC.region ?_
      refine WL.y rfl (Yd.fieldAddr (k := 1) kr_ rfl) ?_
      refine WL.h rfl (Hd.load1 kr_ rfl mem_ (by rfl) ⟨_, rfl, ?_⟩)
      refine WL.y rfl (Yd.move rfl) ?_
      refine WL.elemA (e := 43) (s := 6) kr_ kr_ kr_ rfl rfl (rfl) (hr.mono gr_) (hg) (by rfl) (by omega) (hlt) rfl rfl ?_
      intro p34
      refine WL.h rfl (Hd.alloc (zs := [.int .u32 0, .int .i64 0, .bool false, .slice none 0 0, .int .i64 0, .slice none 0 0]) kr_ fun b7 => ⟨_, rfl, ?_⟩)
      refine WL.s (Hd.storeAll (n := 6) kr_ rfl rfl (by rfl) (kc_one (by rfl) (by rfl)) fr_ (by rfl) ⟨rfl, ?_⟩)
      refine WL.nil ?_
      refine DN.then_normal ?_
      refine WC.seq ?_
      refine WC.region ?_
      refine WL.y rfl (Yd.buildL (pl := [(0, 1), (1, 1), (2, 1)]) (zs := [.int .i64 0, .int .u64 0, .slice none 0 0]) (parts := [(0, .const (.int .i64 1))]) (vs := [(0, _)]) (cells := [_, .int .u64 0, .slice none 0 0]) kr_ kr_ rfl rfl) ?_
      refine WL.h rfl (Hd.alloc (zs := [.int .i64 0, .int .u64 0, .slice none 0 0]) kr_ fun b8 => ⟨_, rfl, ?_⟩)
      refine WL.s (Hd.storeAll (n := 3) kr_ rfl rfl (by rfl) one_ fr_ (by rfl) ⟨rfl, ?_⟩)
      refine WL.nil ?_
      refine DN.then_normal ?_
      refine WC.seq ?_
      refine WC.seq ?_
      refine WC.region ?_
      refine WL.y rfl (Yd.fieldAddr (k := 2) kr_ rfl) ?_
      refine WL.h rfl (Hd.load1 kr_ rfl mem_ (by rfl) ⟨_, rfl, ?_⟩)
      refine WL.nil ?_
      refine DN.then_normal ?_
      refine WC.cond rfl (fun h38 => ?_) (fun h38 => ?_)
      · refine WC.region ?_
        refine WL.y rfl (Yd.fieldAddr (k := 1) kr_ rfl) ?_
        refine WL.s (Hd.store1s kr_ rfl rfl (by rfl) fr_ (by rfl) (by first | (simp only [List.set_cons_zero, List.set_cons_succ, Nat.zero_add, Nat.add_zero, Nat.reduceAdd]; rfl) | rfl) ⟨rfl, ?_⟩)
        refine WL.nil ?_
        refine DN.then_normal ?_
        refine WC.region ?_
        refine WL.y rfl (Yd.move rfl) ?_
        refine WL.y rfl (Yd.fieldAddr (k := 0) kr_ rfl) ?_
        refine WL.h rfl (Hd.load1 kr_ rfl mem_ (by rfl) ⟨_, rfl, ?_⟩)
        refine WL.y rfl (Yd.conv32_64 _ kr_ kr_ rfl rfl) ?_
        refine WL.y rfl (Yd.buildL (pl := [(0, 1), (1, 1), (2, 1)]) (zs := [.int .i64 0, .int .u64 0, .slice none 0 0]) (parts := [(0, .const (.int .i64 4)), (1, .tmp 43)]) (vs := [(0, _), (1, _)]) (cells := [_, _, .slice none 0 0]) kr_ kr_ rfl rfl) ?_
        refine WL.y rfl (Yd.fieldAddr (k := 1) kr_ rfl) ?_
        refine WL.h rfl (Hd.load1 kr_ rfl mem_ (by rfl) ⟨_, rfl, ?_⟩)
        refine WL.y rfl (Yd.to64 _ kr_ kr_ rfl rfl) ?_
        refine WL.y rfl (Yd.buildL (pl := [(0, 1), (1, 1), (2, 1)]) (zs := [.int .i64 0, .int .u64 0, .slice none 0 0]) (parts := [(0, .const (.int .i64 1)), (1, .tmp 47)]) (vs := [(0, _), (1, _)]) (cells := [_, _, .slice none 0 0]) kr_ kr_ rfl rfl) ?_
        refine WL.h rfl (Hd.loadAll (n := 3) kr_ rfl mem_ (by rfl) ⟨_, rfl, ?_⟩)
        refine WL.renamed (t := 49) (v := .agg (fdc ⟨1, ub64 ks[i].undo, []⟩ (.slice none 0 0)).toArray) rfl (by rw [h38]; rfl) ?_
        refine WL.y rfl (Yd.fieldAddr (k := 4) kr_ rfl) ?_
        refine WL.h rfl (Hd.load1 kr_ rfl mem_ (by rfl) ⟨_, rfl, ?_⟩)
        refine WL.y rfl (Yd.to64 _ kr_ kr_ rfl rfl) ?_
        refine WL.y rfl (Yd.buildL (pl := [(0, 1), (1, 1), (2, 1)]) (zs := [.int .i64 0, .int .u64 0, .slice none 0 0]) (parts := [(0, .const (.int .i64 1)), (1, .tmp 52)]) (vs := [(0, _), (1, _)]) (cells := [_, _, .slice none 0 0]) kr_ kr_ rfl rfl) ?_
        refine WL.y rfl (Yd.fieldAddr (k := 3) kr_ rfl) ?_
        refine WL.h rfl (Hd.load1 kr_ rfl mem_ (by rfl) ⟨_, rfl, ?_⟩)
        refine WL.y rfl (Yd.buildL (pl := [(0, 1), (1, 1), (2, 1)]) (zs := [.int .i64 0, .int .u64 0, .slice none 0 0]) (parts := [(2, .tmp 55)]) (vs := [(2, _)]) (cells := [.int .i64 0, .int .u64 0, _]) kr_ kr_ rfl rfl) ?_
        refine WL.y rfl (Yd.fieldAddr (k := 5) kr_ rfl) ?_
        refine WL.h rfl (Hd.load1 kr_ rfl mem_ (by rfl) ⟨_, rfl, ?_⟩)
        refine WL.y rfl (Yd.buildL (pl := [(0, 1), (1, 1), (2, 1)]) (zs := [.int .i64 0, .int .u64 0, .slice none 0 0]) (parts := [(2, .tmp 58)]) (vs := [(2, _)]) (cells := [.int .i64 0, .int .u64 0, _]) kr_ kr_ rfl rfl) ?_
        refine WL.h rfl (Hd.buildSlice (e := 98) (sz := 3) (zs := [.int .i64 0, .int .u64 0, .slice none 0 0]) (parts := [(0, .tmp 44), (1, .tmp 48), (2, .tmp 49), (3, .tmp 53), (4, .tmp 56), (5, .tmp 59)]) (vs := [(0, .agg (fdc ⟨4, ks[i].order.setWidth 64, []⟩ (.slice none 0 0)).toArray), (1, .agg (fdc ⟨1, BitVec.ofInt 64 ks[i].step, []⟩ (.slice none 0 0)).toArray), (2, .agg (fdc ⟨1, ub64 ks[i].undo, []⟩ (.slice none 0 0)).toArray), (3, .agg (fdc ⟨1, BitVec.ofInt 64 ks[i].code, []⟩ (.slice none 0 0)).toArray), (4, .agg (fdc ⟨0, 0#64, ks[i].asked⟩ (.slice ao1 ks[i].asked.length ac1)).toArray), (5, .agg (fdc ⟨0, 0#64, ks[i].reply⟩ (.slice ro1 ks[i].reply.length rc1)).toArray)]) (cells := (fdc ⟨4, ks[i].order.setWidth 64, []⟩ (.slice none 0 0)) ++ (fdc ⟨1, BitVec.ofInt 64 ks[i].step, []⟩ (.slice none 0 0)) ++ (fdc ⟨1, ub64 ks[i].undo, []⟩ (.slice none 0 0)) ++ (fdc ⟨1, BitVec.ofInt 64 ks[i].code, []⟩ (.slice none 0 0)) ++ (fdc ⟨0, 0#64, ks[i].asked⟩ (.slice ao1 ks[i].asked.length ac1)) ++ (fdc ⟨0, 0#64, ks[i].reply⟩ (.slice ro1 ks[i].reply.length rc1))) kr_ kr_ kr_ rfl kr_ kr_ fun b60 => ⟨_, rfl, ?_⟩)
        have hn6 : FVs H ((fdc ⟨4, ks[i].order.setWidth 64, []⟩ (.slice none 0 0)) ++ (fdc ⟨1, BitVec.ofInt 64 ks[i].step, []⟩ (.slice none 0 0)) ++ (fdc ⟨1, ub64 ks[i].undo, []⟩ (.slice none 0 0)) ++ (fdc ⟨1, BitVec.ofInt 64 ks[i].code, []⟩ (.slice none 0 0)) ++ (fdc ⟨0, 0#64, ks[i].asked⟩ (.slice ao1 ks[i].asked.length ac1)) ++ (fdc ⟨0, 0#64, ks[i].reply⟩ (.slice ro1 ks[i].reply.length rc1))) (fK ks[i]) := by
          have hn := FVs.cons (f := ⟨4, ks[i].order.setWidth 64, []⟩) (Bs_nil H) (FVs.cons (f := ⟨1, BitVec.ofInt 64 ks[i].step, []⟩) (Bs_nil H) (FVs.cons (f := ⟨1, ub64 ks[i].undo, []⟩) (Bs_nil H) (FVs.cons (f := ⟨1, BitVec.ofInt 64 ks[i].code, []⟩) (Bs_nil H) (FVs.cons (f := ⟨0, 0#64, ks[i].asked⟩) hva (FVs.cons (f := ⟨0, 0#64, ks[i].reply⟩) hvr .nil)))))
          exact hn
        refine WL.h rfl (Hd.appendMany (e := 98) (sz := 3) (bytes := 40) (zs := [.int .i64 0, .int .u64 0, .slice none 0 0]) (m := 6) (news := (fdc ⟨4, ks[i].order.setWidth 64, []⟩ (.slice none 0 0)) ++ (fdc ⟨1, BitVec.ofInt 64 ks[i].step, []⟩ (.slice none 0 0)) ++ (fdc ⟨1, ub64 ks[i].undo, []⟩ (.slice none 0 0)) ++ (fdc ⟨1, BitVec.ofInt 64 ks[i].code, []⟩ (.slice none 0 0)) ++ (fdc ⟨0, 0#64, ks[i].asked⟩ (.slice ao1 ks[i].asked.length ac1)) ++ (fdc ⟨0, 0#64, ks[i].reply⟩ (.slice ro1 ks[i].reply.length rc1))) kr_ kr_ rfl (by omega) rfl rfl hO sp_ mem_ rfl (FVs.one (H := H) hn6) (by simp only [maxLen]; omega) (by omega) fun v2 C2 ho2 => ⟨_, rfl, ?_⟩)
        refine WL.y rfl (Yd.assign rfl) ?_
        refine WL.nil ?_
        refine DN.block_normal ?_
        refine DN.then_normal ?_
        refine WC.region ?_
        refine WL.y rfl (Yd.move rfl) ?_
        refine WL.y rfl (Yd.add rfl rfl (by omega) (by omega)) ?_
        refine WL.y rfl (Yd.assign rfl) ?_
        refine WL.nil ?_
        exact DN.againS (⟨i + 1, v2, cl ++ ((fdc ⟨4, ks[i].order.setWidth 64, []⟩ (.slice none 0 0)) ++ (fdc ⟨1, BitVec.ofInt 64 ks[i].step, []⟩ (.slice none 0 0)) ++ (fdc ⟨1, ub64 ks[i].undo, []⟩ (.slice none 0 0)) ++ (fdc ⟨1, BitVec.ofInt 64 ks[i].code, []⟩ (.slice none 0 0)) ++ (fdc ⟨0, 0#64, ks[i].asked⟩ (.slice ao1 ks[i].asked.length ac1)) ++ (fdc ⟨0, 0#64, ks[i].reply⟩ (.slice ro1 ks[i].reply.length rc1))), C2⟩) (show (i + 1) ≤ ks.length ∧ Own v2 (2 + (i + 1) * 6) (cl ++ ((fdc ⟨4, ks[i].order.setWidth 64, []⟩ (.slice none 0 0)) ++ (fdc ⟨1, BitVec.ofInt 64 ks[i].step, []⟩ (.slice none 0 0)) ++ (fdc ⟨1, ub64 ks[i].undo, []⟩ (.slice none 0 0)) ++ (fdc ⟨1, BitVec.ofInt 64 ks[i].code, []⟩ (.slice none 0 0)) ++ (fdc ⟨0, 0#64, ks[i].asked⟩ (.slice ao1 ks[i].asked.length ac1)) ++ (fdc ⟨0, 0#64, ks[i].reply⟩ (.slice ro1 ks[i].reply.length rc1)))) 98 3 C2 ∧ FVs H (cl ++ ((fdc ⟨4, ks[i].order.setWidth 64, []⟩ (.slice none 0 0)) ++ (fdc ⟨1, BitVec.ofInt 64 ks[i].step, []⟩ (.slice none 0 0)) ++ (fdc ⟨1, ub64 ks[i].undo, []⟩ (.slice none 0 0)) ++ (fdc ⟨1, BitVec.ofInt 64 ks[i].code, []⟩ (.slice none 0 0)) ++ (fdc ⟨0, 0#64, ks[i].asked⟩ (.slice ao1 ks[i].asked.length ac1)) ++ (fdc ⟨0, 0#64, ks[i].reply⟩ (.slice ro1 ks[i].reply.length rc1)))) (fsTo e ks (i + 1)) from ⟨by omega, by rw [show 2 + (i + 1) * 6 = 2 + i * 6 + 6 by omega]; exact ho2, by rw [fsTo_next hlt]; exact hF.app hn6⟩) (show ks.length - (i + 1) < ks.length - i by omega) (Sx.put rfl (Sx.put rfl (sx_))) sp_
      · refine WC.skip ?_
        refine DN.then_normal ?_
        refine WC.region ?_
        refine WL.y rfl (Yd.move rfl) ?_
        refine WL.y rfl (Yd.fieldAddr (k := 0) kr_ rfl) ?_
        refine WL.h rfl (Hd.load1 kr_ rfl mem_ (by rfl) ⟨_, rfl, ?_⟩)
        refine WL.y rfl (Yd.conv32_64 _ kr_ kr_ rfl rfl) ?_
        refine WL.y rfl (Yd.buildL (pl := [(0, 1), (1, 1), (2, 1)]) (zs := [.int .i64 0, .int .u64 0, .slice none 0 0]) (parts := [(0, .const (.int .i64 4)), (1, .tmp 43)]) (vs := [(0, _), (1, _)]) (cells := [_, _, .slice none 0 0]) kr_ kr_ rfl rfl) ?_
        refine WL.y rfl (Yd.fieldAddr (k := 1) kr_ rfl) ?_
        refine WL.h rfl (Hd.load1 kr_ rfl mem_ (by rfl) ⟨_, rfl, ?_⟩)
        refine WL.y rfl (Yd.to64 _ kr_ kr_ rfl rfl) ?_
        refine WL.y rfl (Yd.buildL (pl := [(0, 1), (1, 1), (2, 1)]) (zs := [.int .i64 0, .int .u64 0, .slice none 0 0]) (parts := [(0, .const (.int .i64 1)), (1, .tmp 47)]) (vs := [(0, _), (1, _)]) (cells := [_, _, .slice none 0 0]) kr_ kr_ rfl rfl) ?_
        refine WL.h rfl (Hd.loadAll (n := 3) kr_ rfl mem_ (by rfl) ⟨_, rfl, ?_⟩)
        refine WL.renamed (t := 49) (v := .agg (fdc ⟨1, ub64 ks[i].undo, []⟩ (.slice none 0 0)).toArray) rfl (by rw [h38]; rfl) ?_
        refine WL.y rfl (Yd.fieldAddr (k := 4) kr_ rfl) ?_
        refine WL.h rfl (Hd.load1 kr_ rfl mem_ (by rfl) ⟨_, rfl, ?_⟩)
        refine WL.y rfl (Yd.to64 _ kr_ kr_ rfl rfl) ?_
        refine WL.y rfl (Yd.buildL (pl := [(0, 1), (1, 1), (2, 1)]) (zs := [.int .i64 0, .int .u64 0, .slice none 0 0]) (parts := [(0, .const (.int .i64 1)), (1, .tmp 52)]) (vs := [(0, _), (1, _)]) (cells := [_, _, .slice none 0 0]) kr_ kr_ rfl rfl) ?_
        refine WL.y rfl (Yd.fieldAddr (k := 3) kr_ rfl) ?_
        refine WL.h rfl (Hd.load1 kr_ rfl mem_ (by rfl) ⟨_, rfl, ?_⟩)
        refine WL.y rfl (Yd.buildL (pl := [(0, 1), (1, 1), (2, 1)]) (zs := [.int .i64 0, .int .u64 0, .slice none 0 0]) (parts := [(2, .tmp 55)]) (vs := [(2, _)]) (cells := [.int .i64 0, .int .u64 0, _]) kr_ kr_ rfl rfl) ?_
        refine WL.y rfl (Yd.fieldAddr (k := 5) kr_ rfl) ?_
        refine WL.h rfl (Hd.load1 kr_ rfl mem_ (by rfl) ⟨_, rfl, ?_⟩)
        refine WL.y rfl (Yd.buildL (pl := [(0, 1), (1, 1), (2, 1)]) (zs := [.int .i64 0, .int .u64 0, .slice none 0 0]) (parts := [(2, .tmp 58)]) (vs := [(2, _)]) (cells := [.int .i64 0, .int .u64 0, _]) kr_ kr_ rfl rfl) ?_
        refine WL.h rfl (Hd.buildSlice (e := 98) (sz := 3) (zs := [.int .i64 0, .int .u64 0, .slice none 0 0]) (parts := [(0, .tmp 44), (1, .tmp 48), (2, .tmp 49), (3, .tmp 53), (4, .tmp 56), (5, .tmp 59)]) (vs := [(0, .agg (fdc ⟨4, ks[i].order.setWidth 64, []⟩ (.slice none 0 0)).toArray), (1, .agg (fdc ⟨1, BitVec.ofInt 64 ks[i].step, []⟩ (.slice none 0 0)).toArray), (2, .agg (fdc ⟨1, ub64 ks[i].undo, []⟩ (.slice none 0 0)).toArray), (3, .agg (fdc ⟨1, BitVec.ofInt 64 ks[i].code, []⟩ (.slice none 0 0)).toArray), (4, .agg (fdc ⟨0, 0#64, ks[i].asked⟩ (.slice ao1 ks[i].asked.length ac1)).toArray), (5, .agg (fdc ⟨0, 0#64, ks[i].reply⟩ (.slice ro1 ks[i].reply.length rc1)).toArray)]) (cells := (fdc ⟨4, ks[i].order.setWidth 64, []⟩ (.slice none 0 0)) ++ (fdc ⟨1, BitVec.ofInt 64 ks[i].step, []⟩ (.slice none 0 0)) ++ (fdc ⟨1, ub64 ks[i].undo, []⟩ (.slice none 0 0)) ++ (fdc ⟨1, BitVec.ofInt 64 ks[i].code, []⟩ (.slice none 0 0)) ++ (fdc ⟨0, 0#64, ks[i].asked⟩ (.slice ao1 ks[i].asked.length ac1)) ++ (fdc ⟨0, 0#64, ks[i].reply⟩ (.slice ro1 ks[i].reply.length rc1))) kr_ kr_ kr_ rfl kr_ kr_ fun b60 => ⟨_, rfl, ?_⟩)
        have hn6 : FVs H ((fdc ⟨4, ks[i].order.setWidth 64, []⟩ (.slice none 0 0)) ++ (fdc ⟨1, BitVec.ofInt 64 ks[i].step, []⟩ (.slice none 0 0)) ++ (fdc ⟨1, ub64 ks[i].undo, []⟩ (.slice none 0 0)) ++ (fdc ⟨1, BitVec.ofInt 64 ks[i].code, []⟩ (.slice none 0 0)) ++ (fdc ⟨0, 0#64, ks[i].asked⟩ (.slice ao1 ks[i].asked.length ac1)) ++ (fdc ⟨0, 0#64, ks[i].reply⟩ (.slice ro1 ks[i].reply.length rc1))) (fK ks[i]) := by
          have hn := FVs.cons (f := ⟨4, ks[i].order.setWidth 64, []⟩) (Bs_nil H) (FVs.cons (f := ⟨1, BitVec.ofInt 64 ks[i].step, []⟩) (Bs_nil H) (FVs.cons (f := ⟨1, ub64 ks[i].undo, []⟩) (Bs_nil H) (FVs.cons (f := ⟨1, BitVec.ofInt 64 ks[i].code, []⟩) (Bs_nil H) (FVs.cons (f := ⟨0, 0#64, ks[i].asked⟩) hva (FVs.cons (f := ⟨0, 0#64, ks[i].reply⟩) hvr .nil)))))
          exact hn
        refine WL.h rfl (Hd.appendMany (e := 98) (sz := 3) (bytes := 40) (zs := [.int .i64 0, .int .u64 0, .slice none 0 0]) (m := 6) (news := (fdc ⟨4, ks[i].order.setWidth 64, []⟩ (.slice none 0 0)) ++ (fdc ⟨1, BitVec.ofInt 64 ks[i].step, []⟩ (.slice none 0 0)) ++ (fdc ⟨1, ub64 ks[i].undo, []⟩ (.slice none 0 0)) ++ (fdc ⟨1, BitVec.ofInt 64 ks[i].code, []⟩ (.slice none 0 0)) ++ (fdc ⟨0, 0#64, ks[i].asked⟩ (.slice ao1 ks[i].asked.length ac1)) ++ (fdc ⟨0, 0#64, ks[i].reply⟩ (.slice ro1 ks[i].reply.length rc1))) kr_ kr_ rfl (by omega) rfl rfl hO sp_ mem_ rfl (FVs.one (H := H) hn6) (by simp only [maxLen]; omega) (by omega) fun v2 C2 ho2 => ⟨_, rfl, ?_⟩)
        refine WL.y rfl (Yd.assign rfl) ?_
        refine WL.nil ?_
        refine DN.block_normal ?_
        refine DN.then_normal ?_
        refine WC.region ?_
        refine WL.y rfl (Yd.move rfl) ?_
        refine WL.y rfl (Yd.add rfl rfl (by omega) (by omega)) ?_
        refine WL.y rfl (Yd.assign rfl) ?_
        refine WL.nil ?_
        exact DN.againS (⟨i + 1, v2, cl ++ ((fdc ⟨4, ks[i].order.setWidth 64, []⟩ (.slice none 0 0)) ++ (fdc ⟨1, BitVec.ofInt 64 ks[i].step, []⟩ (.slice none 0 0)) ++ (fdc ⟨1, ub64 ks[i].undo, []⟩ (.slice none 0 0)) ++ (fdc ⟨1, BitVec.ofInt 64 ks[i].code, []⟩ (.slice none 0 0)) ++ (fdc ⟨0, 0#64, ks[i].asked⟩ (.slice ao1 ks[i].asked.length ac1)) ++ (fdc ⟨0, 0#64, ks[i].reply⟩ (.slice ro1 ks[i].reply.length rc1))), C2⟩) (show (i + 1) ≤ ks.length ∧ Own v2 (2 + (i + 1) * 6) (cl ++ ((fdc ⟨4, ks[i].order.setWidth 64, []⟩ (.slice none 0 0)) ++ (fdc ⟨1, BitVec.ofInt 64 ks[i].step, []⟩ (.slice none 0 0)) ++ (fdc ⟨1, ub64 ks[i].undo, []⟩ (.slice none 0 0)) ++ (fdc ⟨1, BitVec.ofInt 64 ks[i].code, []⟩ (.slice none 0 0)) ++ (fdc ⟨0, 0#64, ks[i].asked⟩ (.slice ao1 ks[i].asked.length ac1)) ++ (fdc ⟨0, 0#64, ks[i].reply⟩ (.slice ro1 ks[i].reply.length rc1)))) 98 3 C2 ∧ FVs H (cl ++ ((fdc ⟨4, ks[i].order.setWidth 64, []⟩ (.slice none 0 0)) ++ (fdc ⟨1, BitVec.ofInt 64 ks[i].step, []⟩ (.slice none 0 0)) ++ (fdc ⟨1, ub64 ks[i].undo, []⟩ (.slice none 0 0)) ++ (fdc ⟨1, BitVec.ofInt 64 ks[i].code, []⟩ (.slice none 0 0)) ++ (fdc ⟨0, 0#64, ks[i].asked⟩ (.slice ao1 ks[i].asked.length ac1)) ++ (fdc ⟨0, 0#64, ks[i].reply⟩ (.slice ro1 ks[i].reply.length rc1)))) (fsTo e ks (i + 1)) from ⟨by omega, by rw [show 2 + (i + 1) * 6 = 2 + i * 6 + 6 by omega]; exact ho2, by rw [fsTo_next hlt]; exact hF.app hn6⟩) (show ks.length - (i + 1) < ks.length - i by omega) (Sx.put rfl (Sx.put rfl (sx_))) sp_
    · obtain rfl : ks.length = i := by omega
      have hfl := fsTo_len (e := e) (Nat.le_refl ks.length)
      have hrs : Rs (.slice lo (2 + ks.length * 6) lc) (fsTo e ks ks.length).length cl Cl := by rw [hfl]; exact hO.rs
      refine WC.exit ?_
      refine DN.then_exit ?_
      refine DN.then_exit ?_
      refine DN.block_exit ?_
      refine DN.then_normal ?_
      refine WC.seq ?_
      refine WC.region ?_
      skip
      refine WL.y rfl (Yd.move rfl) ?_
      refine WL.c rfl (Ent.func Try.call54 rfl) (rput_tells _ cl (fsTo e ks ks.length) (Cl ++ H) (hrs.mono gr_) (hF.mono gr_) (by omega) (fsTo_small hck)) (Sp.p sp_) ?_
      rintro x1 H1 ⟨w, A, rfl, hA, rfl⟩
      rw [putL_fs hck] at hA ⊢
      refine WL.y rfl (Yd.extract rfl rfl) ?_
      refine WL.y rfl (Yd.extract rfl rfl) ?_
      refine WL.y rfl (Yd.assign rfl) ?_
      refine WL.y rfl (Yd.assign rfl) ?_
      refine WL.nil ?_
      refine DN.then_normal ?_
      refine WC.ret ?_
      refine DN.fit (C := A ++ H) sp_ ?_
      refine DN.ret2 Try.results33 rfl rfl ?_
      exact ⟨w, A, by rw [if_pos hck]; rfl, by rw [if_pos hck]; exact hA, rfl⟩

/-- drayage/drayageref08.Get -/
theorem rfget_tells (v : Value) (b : List (BitVec 8)) (H : List Ck) (hv : Bs v b H) (hl : b.length ≤ 900000) : Tells Try.prog 35 [v] H fun r H' => ∃ w D, r = .tuple #[.agg #[.int .u32 (rgetF b).1.toNat, w], .int .i64 (rgetF b).2.2] ∧ KV w (rgetF b).2.1 (D ++ H) ∧ H' = D ++ H := by
  refine Tells.enter Try.func35 rfl Try.ntmps35 rfl ?_
  intro w0 R
  have hcnt := cntB_le b
  obtain ⟨bo, bc9, rfl, hbc⟩ := hv.form
  have hq0 : b.drop 0 = (Rst.mk b false).bs := rfl
  refine WC.seq ?_
  refine WC.region ?_
  refine WL.h rfl (Hd.alloc (zs := [.int .u32 0, .slice none 0 0]) kr_ fun b2 => ⟨_, rfl, ?_⟩)
  refine WL.y rfl (Yd.assign rfl) ?_
  refine WL.nil ?_
  refine DN.then_normal ?_
  refine WC.seq ?_
  refine WC.region ?_
  refine WL.y rfl (Yd.move rfl) ?_
  refine WL.y rfl (Yd.buildL (pl := [(0, 1), (1, 1), (2, 1)]) (zs := [.slice none 0 0, .int .i64 0, .bool false]) (parts := [(0, .tmp 11)]) (vs := [(0, _)]) (cells := [_, .int .i64 0, .bool false]) kr_ kr_ rfl rfl) ?_
  refine WL.h rfl (Hd.boxA rfl fun p => ⟨_, rfl, ?_⟩)
  refine WL.y rfl (Yd.assign rfl) ?_
  refine WL.nil ?_
  refine DN.then_normal ?_
  refine WC.seq ?_
  refine WC.region ?_
  refine WL.y rfl (Yd.move rfl) ?_
  refine WL.c rfl (Ent.func Try.call60 rfl) (rnum2_tells p (.slice bo b.length bc9) b 0 false H hv (by omega) (Nat.zero_le _) 4 (by omega)) (Sp.p sp_) ?_
  rintro x1 H1 ⟨a1, rfl, ha1, hd1, rfl⟩
  rw [hq0] at hd1 ⊢
  change b.drop a1 = ((Rst.mk b false).on 4).bs at hd1
  refine WL.y rfl (Yd.conv64_32 _ kr_ kr_ rfl rfl) ?_
  refine WL.y rfl (Yd.buildL (pl := [(0, 1), (1, 1)]) (zs := [.int .u32 0, .slice none 0 0]) (parts := [(0, .tmp 16)]) (vs := [(0, _)]) (cells := [_, .slice none 0 0]) kr_ kr_ rfl rfl) ?_
  refine WL.h rfl (Hd.alloc (zs := [.int .u32 0, .slice none 0 0]) kr_ fun b5 => ⟨_, rfl, ?_⟩)
  refine WL.s (Hd.storeAll (n := 2) kr_ rfl rfl (by rfl) one_ fr_ (by rfl) ⟨rfl, ?_⟩)
  refine WL.nil ?_
  refine DN.then_normal ?_
  refine WC.seq ?_
  refine WC.region ?_
  refine WL.y rfl (Yd.move rfl) ?_
  refine WL.c rfl (Ent.func Try.call60 rfl) (rnum2_tells p (.slice bo b.length bc9) b a1 ((Rst.mk b false).on 4).sh H hv (by omega) ha1 1 (by omega)) (Sp.p sp_) ?_
  rintro x2 H2 ⟨a2, rfl, ha2, hd2, rfl⟩
  rw [hd1] at hd2 ⊢
  change b.drop a2 = (((Rst.mk b false).on 4).on 1).bs at hd2
  refine WL.renamed (t := 19) (v := .int .u64 ((cntB b : Nat) : Int)) rfl (congrArg (fun q : Nat => Value.int .u64 (q : Int)) (Rst.u8_nat ((Rst.mk b false).on 4))) ?_
  refine WL.y rfl (Yd.toInt kr_ kr_ rfl (by omega) (by omega)) ?_
  refine WL.y rfl (Yd.assign rfl) ?_
  refine WL.nil ?_
  refine DN.then_normal ?_
  refine WC.seq ?_
  refine WC.seq ?_
  refine WC.region ?_
  refine WL.y rfl (Yd.assign rfl) ?_
  refine WL.nil ?_
  refine DN.then_normal ?_
  refine WC.block ?_
  refine WC.loopS (fun z : Nat × Nat × Value × List Value × List Ck × List Ck => z.1 ≤ cntB b ∧ z.2.1 ≤ b.length ∧ b.drop z.2.1 = (rIt z.1 (rB b)).bs ∧ Own z.2.2.1 z.1 z.2.2.2.1 43 6 z.2.2.2.2.1 ∧ KVs z.2.2.2.2.2 z.2.2.2.1 (ksTo uPos (rB b) z.1)) (fun z : Nat × Nat × Value × List Value × List Ck × List Ck => [(7, .int .i64 (z.1 : Int))]) (fun z : Nat × Nat × Value × List Value × List Ck × List Ck => row b5 [.int .u32 (epB b).toNat, z.2.2.1] 25 :: (z.2.2.2.2.1 ++ (z.2.2.2.2.2 ++ (row p [.slice bo b.length bc9, .int .i64 (z.2.1 : Nat), .bool (rIt z.1 (rB b)).sh] 109 :: (row b2 [.int .u32 0, .slice none 0 0] 25 :: H))))) (fun z : Nat × Nat × Value × List Value × List Ck × List Ck => cntB b - z.1) (⟨0, a2, .slice none 0 0, [], [], []⟩) (show 0 ≤ cntB b ∧ a2 ≤ b.length ∧ b.drop a2 = (rIt 0 (rB b)).bs ∧ Own (.slice none 0 0) 0 [] 43 6 [] ∧ KVs [] [] (ksTo uPos (rB b) 0) from ⟨Nat.zero_le _, ha2, hd2, Own.nil _ _, .nil⟩) (Sx.put rfl (sx_)) sp_ ?_
  rintro ⟨i, a, vl, cl, Cl, Dl⟩ hI
  replace hI : i ≤ cntB b ∧ a ≤ b.length ∧ b.drop a = (rIt i (rB b)).bs ∧ Own vl i cl 43 6 Cl ∧ KVs Dl cl (ksTo uPos (rB b) i) := hI
  obtain ⟨hi, ha, hd, hOl, hKv⟩ := hI
  change WC _ _ _ _ _ _ ([(7, .int .i64 (i : Int))] ++ _) (row b5 [.int .u32 (epB b).toNat, vl] 25 :: (Cl ++ (Dl ++ (row p [.slice bo b.length bc9, .int .i64 (a : Nat), .bool (rIt i (rB b)).sh] 109 :: (row b2 [.int .u32 0, .slice none 0 0] 25 :: H)))))
  obtain ⟨lo, lc, rfl, hlc⟩ := hOl.form
  refine WC.seq ?_
  refine WC.seq ?_
  refine WC.region ?_
  refine WL.y rfl (Yd.move rfl) ?_
  refine WL.y rfl (Yd.move rfl) ?_
  refine WL.y rfl (Yd.lss rfl rfl) ?_
  refine WL.nil ?_
  refine DN.then_normal ?_
  refine WC.ite rfl (fun h23 => ?_) (fun h23 => ?_)
  · have hlt : i < cntB b := by omega
    refine WC.skip ?_
    refine DN.then_normal ?_
    refine WC.seq ?_
    refine WC.block ?_
    refine WC.seq ?_
    refine WC.region ?_
    refine WL.y rfl (Yd.buildL (pl := [(0, 1), (1, 1), (2, 1), (3, 1), (4, 1), (5, 1)]) (zs := [.int .u32 0, .int .i64 0, .bool false, .slice none 0 0, .int .i64 0, .slice none 0 0]) (parts := []) (vs := []) (cells := [.int .u32 0, .int .i64 0, .bool false, .slice none 0 0, .int .i64 0, .slice none 0 0]) kr_ kr_ rfl rfl) ?_
    refine WL.h rfl (Hd.alloc (zs := [.int .u32 0, .int .i64 0, .bool false, .slice none 0 0, .int .i64 0, .slice none 0 0]) kr_ fun b8 => ⟨_, rfl, ?_⟩)
    refine WL.s (Hd.storeAll (n := 6) kr_ rfl rfl (by rfl) one_ fr_ (by rfl) ⟨rfl, ?_⟩)
    refine WL.nil ?_
    refine DN.then_normal ?_
    refine WC.seq ?_
    refine WC.region ?_
    refine WL.y rfl (Yd.move rfl) ?_
    refine WL.c rfl (Ent.func Try.call60 rfl) (rnum2_tells p (.slice bo b.length bc9) b a (rIt i (rB b)).sh H hv (by omega) ha 4 (by omega)) (Sp.p sp_) ?_
    rintro x3 H3 ⟨a3, rfl, ha3, hd3, rfl⟩
    rw [hd] at hd3 ⊢
    change b.drop a3 = ((rIt i (rB b)).on 4).bs at hd3
    refine WL.y rfl (Yd.conv64_32 _ kr_ kr_ rfl rfl) ?_
    refine WL.y rfl (Yd.fieldAddr (k := 0) kr_ rfl) ?_
    refine WL.s (Hd.store1s kr_ rfl rfl (by rfl) fr_ (by rfl) (by first | (simp only [List.set_cons_zero, List.set_cons_succ, Nat.zero_add, Nat.add_zero, Nat.reduceAdd]; rfl) | rfl) ⟨rfl, ?_⟩)
    refine WL.nil ?_
    refine DN.then_normal ?_
    refine WC.seq ?_
    refine WC.region ?_
    refine WL.y rfl (Yd.move rfl) ?_
    refine WL.c rfl (Ent.func Try.call60 rfl) (rnum2_tells p (.slice bo b.length bc9) b a3 ((rIt i (rB b)).on 4).sh H hv (by omega) ha3 1 (by omega)) (Sp.p sp_) ?_
    rintro x4 H4 ⟨a4, rfl, ha4, hd4, rfl⟩
    rw [hd3] at hd4 ⊢
    change b.drop a4 = (((rIt i (rB b)).on 4).on 1).bs at hd4
    refine WL.renamed (t := 32) (v := .int .u64 (((((rIt i (rB b)).on 4).u8.toNat : Nat)) : Int)) rfl (congrArg (fun q : Nat => Value.int .u64 (q : Int)) (Rst.u8_nat ((rIt i (rB b)).on 4))) ?_
    refine WL.y rfl (Yd.toInt kr_ kr_ rfl (by omega) (by omega)) ?_
    refine WL.y rfl (Yd.fieldAddr (k := 1) kr_ rfl) ?_
    refine WL.s (Hd.store1s kr_ rfl rfl (by rfl) fr_ (by rfl) (by first | (simp only [List.set_cons_zero, List.set_cons_succ, Nat.zero_add, Nat.add_zero, Nat.reduceAdd]; rfl) | rfl) ⟨rfl, ?_⟩)
    refine WL.nil ?_
    refine DN.then_normal ?_
    refine WC.seq ?_
    refine WC.region ?_
    refine WL.y rfl (Yd.move rfl) ?_
    refine WL.c rfl (Ent.func Try.call60 rfl) (rnum2_tells p (.slice bo b.length bc9) b a4 (((rIt i (rB b)).on 4).on 1).sh H hv (by omega) ha4 1 (by omega)) (Sp.p sp_) ?_
    rintro x5 H5 ⟨a5, rfl, ha5, hd5, rfl⟩
    rw [hd4] at hd5 ⊢
    change b.drop a5 = ((((rIt i (rB b)).on 4).on 1).on 1).bs at hd5
    refine WL.renamed (t := 36) (v := .int .u64 (((unb (rIt i (rB b))).toNat : Nat) : Int)) rfl (congrArg (fun q : Nat => Value.int .u64 (q : Int)) (Rst.u8_nat (((rIt i (rB b)).on 4).on 1))) ?_
    refine WL.y rfl (Yd.gtr rfl rfl) ?_
    refine WL.y rfl (Yd.fieldAddr (k := 2) kr_ rfl) ?_
    refine WL.s (Hd.store1s kr_ rfl rfl (by rfl) fr_ (by rfl) (by first | (simp only [List.set_cons_zero, List.set_cons_succ, Nat.zero_add, Nat.add_zero, Nat.reduceAdd]; rfl) | rfl) ⟨rfl, ?_⟩)
    refine WL.nil ?_
    refine DN.then_normal ?_
    refine WC.seq ?_
    refine WC.region ?_
    refine WL.y rfl (Yd.move rfl) ?_
    refine WL.c rfl (Ent.func Try.call60 rfl) (rnum2_tells p (.slice bo b.length bc9) b a5 ((((rIt i (rB b)).on 4).on 1).on 1).sh H hv (by omega) ha5 1 (by omega)) (Sp.p sp_) ?_
    rintro x6 H6 ⟨a6, rfl, ha6, hd6, rfl⟩
    rw [hd5] at hd6 ⊢
    change b.drop a6 = (((((rIt i (rB b)).on 4).on 1).on 1).on 1).bs at hd6
    refine WL.renamed (t := 40) (v := .int .u64 (((((((rIt i (rB b)).on 4).on 1).on 1).u8.toNat : Nat)) : Int)) rfl (congrArg (fun q : Nat => Value.int .u64 (q : Int)) (Rst.u8_nat ((((rIt i (rB b)).on 4).on 1).on 1))) ?_
    refine WL.y rfl (Yd.toInt kr_ kr_ rfl (by omega) (by omega)) ?_
    refine WL.y rfl (Yd.fieldAddr (k := 4) kr_ rfl) ?_
    refine WL.s (Hd.store1s kr_ rfl rfl (by rfl) fr_ (by rfl) (by first | (simp only [List.set_cons_zero, List.set_cons_succ, Nat.zero_add, Nat.add_zero, Nat.reduceAdd]; rfl) | rfl) ⟨rfl, ?_⟩)
    refine WL.nil ?_
    refine DN.then_normal ?_
    refine WC.seq ?_
    refine WC.region ?_
    refine WL.y rfl (Yd.move rfl) ?_
    refine WL.c rfl (Ent.func Try.call61 rfl) (rtext2_tells p (.slice bo b.length bc9) b a6 (((((rIt i (rB b)).on 4).on 1).on 1).on 1).sh H hv (by omega) ha6) (Sp.p sp_) ?_
    rintro x7 H7 ⟨A7, a7, hA7, ha7, hd7, rfl⟩
    rw [hd6] at hA7 hd7 ⊢
    change b.drop a7 = ((((((rIt i (rB b)).on 4).on 1).on 1).on 1).onT).bs at hd7
    obtain ⟨o7, c7, rfl, _⟩ := hA7.form
    refine WL.y rfl (Yd.fieldAddr (k := 3) kr_ rfl) ?_
    refine WL.s (Hd.store1s kr_ rfl rfl (by rfl) fr_ (by rfl) (by first | (simp only [List.set_cons_zero, List.set_cons_succ, Nat.zero_add, Nat.add_zero, Nat.reduceAdd]; rfl) | rfl) ⟨rfl, ?_⟩)
    refine WL.nil ?_
    refine DN.then_normal ?_
    refine WC.seq ?_
    refine WC.region ?_
    refine WL.y rfl (Yd.move rfl) ?_
    refine WL.c rfl (Ent.func Try.call61 rfl) (rtext2_tells p (.slice bo b.length bc9) b a7 ((((((rIt i (rB b)).on 4).on 1).on 1).on 1).onT).sh H hv (by omega) ha7) (Sp.p sp_) ?_
    rintro x8 H8 ⟨A8, a8, hA8, ha8, hd8, rfl⟩
    rw [hd7] at hA8 hd8 ⊢
    change b.drop a8 = (((((((rIt i (rB b)).on 4).on 1).on 1).on 1).onT).onT).bs at hd8
    obtain ⟨o8, c8, rfl, _⟩ := hA8.form
    refine WL.y rfl (Yd.fieldAddr (k := 5) kr_ rfl) ?_
    refine WL.s (Hd.store1s kr_ rfl rfl (by rfl) fr_ (by rfl) (by first | (simp only [List.set_cons_zero, List.set_cons_succ, Nat.zero_add, Nat.add_zero, Nat.reduceAdd]; rfl) | rfl) ⟨rfl, ?_⟩)
    refine WL.nil ?_
    refine DN.then_normal ?_
    refine WC.region ?_
    refine WL.y rfl (Yd.fieldAddr (k := 1) kr_ rfl) ?_
    refine WL.h rfl (Hd.load1 kr_ rfl mem_ (by rfl) ⟨_, rfl, ?_⟩)
    refine WL.h rfl (Hd.loadAll (n := 6) kr_ rfl mem_ (by rfl) ⟨_, rfl, ?_⟩)
    refine WL.h rfl (Hd.buildA (e := 43) (sz := 6) (zs := [.int .u32 0, .int .i64 0, .bool false, .slice none 0 0, .int .i64 0, .slice none 0 0]) kr_ kr_ kr_ rfl rfl (by rfl) kr_ fun b52 => ⟨_, rfl, ?_⟩)
    refine WL.h rfl (Hd.appendRow (e := 43) (sz := 6) (bytes := 80) (zs := [.int .u32 0, .int .i64 0, .bool false, .slice none 0 0, .int .i64 0, .slice none 0 0]) kr_ kr_ rfl (by omega) rfl rfl (hOl) sp_ mem_ (by rfl) (kc_one (k := kpOf uPos (rIt i (rB b))) (va := .slice o7 ((((((rIt i (rB b)).on 4).on 1).on 1).on 1).text).length c7) (vr := .slice o8 (((((((rIt i (rB b)).on 4).on 1).on 1).on 1).onT).text).length c8) (by rfl) (by rfl)) (by simp only [maxLen]; omega) (by omega) fun v2 C2 h2 => ⟨_, rfl, ?_⟩)
    obtain ⟨lo2, lc2, rfl, hlc2⟩ := h2.form
    refine WL.y rfl (Yd.fieldAddr (k := 1) kr_ rfl) ?_
    refine WL.s (Hd.store1s kr_ rfl rfl (by rfl) fr_ (by rfl) (by first | (simp only [List.set_cons_zero, List.set_cons_succ, Nat.zero_add, Nat.add_zero, Nat.reduceAdd]; rfl) | rfl) ⟨rfl, ?_⟩)
    refine WL.nil ?_
    refine DN.block_normal ?_
    refine DN.then_normal ?_
    refine WC.region ?_
    refine WL.y rfl (Yd.move rfl) ?_
    refine WL.y rfl (Yd.add rfl rfl (by omega) (by omega)) ?_
    refine WL.y rfl (Yd.assign rfl) ?_
    refine WL.nil ?_
    exact DN.againS (⟨i + 1, a8, .slice lo2 (i + 1) lc2, cl ++ kc (kpOf uPos (rIt i (rB b))) (.slice o7 ((((((rIt i (rB b)).on 4).on 1).on 1).on 1).text).length c7) (.slice o8 (((((((rIt i (rB b)).on 4).on 1).on 1).on 1).onT).text).length c8), C2, Dl ++ (A7 ++ A8)⟩) (show (i + 1) ≤ cntB b ∧ a8 ≤ b.length ∧ b.drop a8 = (rIt (i + 1) (rB b)).bs ∧ Own (.slice lo2 (i + 1) lc2) (i + 1) (cl ++ kc (kpOf uPos (rIt i (rB b))) (.slice o7 ((((((rIt i (rB b)).on 4).on 1).on 1).on 1).text).length c7) (.slice o8 (((((((rIt i (rB b)).on 4).on 1).on 1).on 1).onT).text).length c8)) 43 6 C2 ∧ KVs (Dl ++ (A7 ++ A8)) (cl ++ kc (kpOf uPos (rIt i (rB b))) (.slice o7 ((((((rIt i (rB b)).on 4).on 1).on 1).on 1).text).length c7) (.slice o8 (((((((rIt i (rB b)).on 4).on 1).on 1).on 1).onT).text).length c8)) (ksTo uPos (rB b) (i + 1)) from ⟨by omega, ha8, hd8, h2, by rw [ksTo_next]; exact hKv.snoc hA7 hA8⟩) (show cntB b - (i + 1) < cntB b - i by omega) (Sx.put rfl (sx_)) sp_
  · obtain rfl : i = cntB b := by omega
    refine WC.exit ?_
    refine DN.then_exit ?_
    refine DN.then_exit ?_
    refine DN.block_exit ?_
    refine DN.then_normal ?_
    refine WC.seq ?_
    refine WC.region ?_
    refine WL.h rfl (Hd.loadAll (n := 2) kr_ rfl mem_ (by rfl) ⟨_, rfl, ?_⟩)
    refine WL.c rfl (Ent.func Try.call33 rfl) (rfput_tells (epB b) (.slice lo (cntB b) lc) (ksTo uPos (rB b) (cntB b)) (Cl ++ Dl) ⟨cl, by rw [ksTo_len]; exact hOl.rs.mono gr_, hKv.mono gr_⟩ (by rw [ksTo_len]; omega)) (Sp.p sp_) ?_
    rintro x9 H9 ⟨w9, A, rfl, hA, rfl⟩
    obtain ⟨o9, c9, rfl, _⟩ := hA.form
    refine WL.y rfl (Yd.move rfl) ?_
    refine WL.y rfl (Yd.extract rfl rfl) ?_
    refine WL.y rfl (Yd.extract rfl rfl) ?_
    refine WL.y rfl (Yd.assign rfl) ?_
    refine WL.y rfl (Yd.assign rfl) ?_
    refine WL.nil ?_
    refine DN.then_normal ?_
    refine WC.seq ?_
    refine WC.cutK (fun z : Bool => z = !decide (chk (ksTo uPos (rB b) (cntB b)) ∧ putB (epB b) (ksTo uPos (rB b) (cntB b)) = b)) (fun z : Bool => [(68, .bool z)]) (fun z : Bool => row b5 [.int .u32 (epB b).toNat, .slice lo (cntB b) lc] 25 :: (Cl ++ (Dl ++ (row b2 [.int .u32 0, .slice none 0 0] 25 :: H)))) ?_ ?_
    · refine WC.region ?_
      refine WL.y rfl (Yd.move rfl) ?_
      refine WL.y rfl (Yd.neq rfl rfl) ?_
      refine WL.y rfl (Yd.move rfl) ?_
      refine WL.partP (t := 62) rfl (fun hg62 => ?_) (fun hg62 => ?_)
      · refine WL.gn (dj := 62) rfl rfl rfl rfl ?_
        refine WL.gn (dj := 62) rfl rfl rfl rfl ?_
        refine WL.gn (dj := 62) rfl rfl rfl rfl ?_
        refine WL.gn (dj := 62) rfl rfl rfl rfl ?_
        refine WL.gn (dj := 62) rfl rfl rfl rfl ?_
        refine WL.y rfl (Yd.pickT rfl rfl) ?_
        refine WL.nil ?_
        exact DN.reachS (_) (by first | exact rg_a hg62 | exact rg_b hg62) (Sx.put rfl (sx_)) sp_
      · refine WL.gy (dj := 62) rfl rfl rfl (Yd.move rfl) ?_
        refine WL.gh (dj := 62) rfl rfl rfl (Hd.toStr (e := 5) (bs := if chk (ksTo uPos (rB b) (cntB b)) then putB (epB b) (ksTo uPos (rB b) (cntB b)) else []) kr_ kr_ Try.underlying9 rfl (hA.bs.mono gr_) ⟨_, rfl, ?_⟩)
        refine WL.gy (dj := 62) rfl rfl rfl (Yd.move rfl) ?_
        refine WL.gh (dj := 62) rfl rfl rfl (Hd.toStr (e := 5) (bs := b) kr_ kr_ Try.underlying9 rfl (hv.mono gr_) ⟨_, rfl, ?_⟩)
        refine WL.gy (dj := 62) rfl rfl rfl (Yd.neqS rfl rfl) ?_
        refine WL.y rfl (Yd.pickF rfl rfl) ?_
        refine WL.nil ?_
        exact DN.reachS (_) (by first | exact rg_a hg62 | exact rg_b hg62) (Sx.put rfl (sx_)) sp_
    · intro z9 hz9
      refine WC.cond rfl (fun h68 => ?_) (fun h68 => ?_)
      · refine WC.seq ?_
        refine WC.region ?_
        refine WL.y rfl (Yd.buildL (pl := [(0, 1), (1, 1)]) (zs := [.int .u32 0, .slice none 0 0]) (parts := []) (vs := []) (cells := [.int .u32 0, .slice none 0 0]) kr_ kr_ rfl rfl) ?_
        refine WL.s (Hd.storeAll (n := 2) kr_ rfl rfl (by rfl) one_ fr_ (by rfl) ⟨rfl, ?_⟩)
        refine WL.y rfl (Yd.assign rfl) ?_
        refine WL.nil ?_
        refine DN.then_normal ?_
        refine WC.ret ?_
        refine DN.then_ret ?_
        refine DN.retCT (s := 2) H Try.results35 kr_ rfl rfl mem_ (by rfl) sp_ ?_
        rw [show rgetF b = (0#32, [], 82) from if_neg (rg_no (hz9.symm.trans h68))]
        exact ⟨_, [], rfl, KV_nil _, rfl⟩
      · refine WC.skip ?_
        refine DN.then_normal ?_
        refine WC.seq ?_
        refine WC.region ?_
        refine WL.h rfl (Hd.loadAll (n := 2) kr_ rfl mem_ (by rfl) ⟨_, rfl, ?_⟩)
        refine WL.s (Hd.storeAll (n := 2) kr_ rfl rfl (by rfl) one_ fr_ (by rfl) ⟨rfl, ?_⟩)
        refine WL.y rfl (Yd.assign rfl) ?_
        refine WL.nil ?_
        refine DN.then_normal ?_
        refine WC.ret ?_
        refine DN.retCT (s := 2) (Cl ++ (Dl ++ H)) Try.results35 kr_ rfl rfl mem_ (by rfl) sp_ ?_
        rw [show rgetF b = (epB b, ksTo uPos (rB b) (cntB b), 0) from if_pos (rg_yes (hz9.symm.trans h68))]
        exact ⟨_, Cl ++ Dl, rfl, ⟨cl, by rw [ksTo_len]; exact hOl.rs.mono (Gr.left (Gr.left Gr.refl)), hKv.mono (Gr.left (Gr.app Gr.refl))⟩, by rw [List.append_assoc]⟩

end Go.Proofs.Ytonnkgblligdkaa
