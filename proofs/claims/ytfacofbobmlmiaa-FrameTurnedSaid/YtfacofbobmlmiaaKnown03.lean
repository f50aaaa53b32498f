/-
  The walk of the chapter's examples (drayagelaw03.known).
-/
import Derived.Test.YtfacofbobmlmiaaRef3c
import Derived.Test.YtfacofbobmlmiaaOwn
import Derived.Test.YtfacofbobmlmiaaLists
set_option linter.unusedVariables false
set_option linter.unusedSimpArgs false
set_option maxHeartbeats 2000000
set_option maxRecDepth 100000
namespace Go.Proofs.Ytfacofbobmlmiaa
open Go.SL Go.Sum
def ex0 : List B8' := [215#8, 166#8, 0#8, 0#8, 65#8, 217#8, 18#8, 255#8]
theorem put_ex0 : putOf [] = ex0 := by kernel_rfl
theorem all_ex1 : allOf (ex0 ++ [0#8]) = ([[]], 8, 0) := by kernel_rfl
theorem all_ex2 : allOf ((ex0 ++ [0#8]).set 7 0#8) = ([], 0, 31) := by kernel_rfl


/-- drayage/drayagelaw03.known -/
theorem known03 (H : List Ck) : Reads Try.prog 27 [] H (.bool true) := by
  refine Tells.enter Try.func27 rfl Try.ntmps27 rfl ?_
  intro w0 R
  refine WC.seq ?_
  refine WC.region ?_
  refine WL.y rfl (Yd.assign rfl) ?_
  refine WL.nil ?_
  refine DN.then_normal ?_
  refine WC.seq ?_
  refine WC.region ?_
  refine WL.ca rfl (Ent.func Try.call28 rfl) (put2_tells _ [] H (.inl ⟨_, _, rfl, rfl, rfl⟩) (by decide)) ?_
  rintro q H1 ⟨v1, C1, rfl, h1, rfl⟩
  rw [put_ex0] at h1
  refine WL.y rfl (Yd.move rfl) ?_
  refine WL.y rfl (Yd.extract rfl rfl) ?_
  refine WL.y rfl (Yd.extract rfl rfl) ?_
  refine WL.y rfl (Yd.assign rfl) ?_
  refine WL.y rfl (Yd.assign rfl) ?_
  refine WL.nil ?_
  refine DN.then_normal ?_
  refine WC.seq ?_
  refine WC.seq ?_
  refine WC.region ?_
  refine WL.y rfl (Yd.move rfl) ?_
  refine WL.y rfl (Yd.neq rfl rfl) ?_
  refine WL.renamed (t := 15) (v := .bool false) rfl (congrArg Value.bool (by kernel_rfl)) ?_
  refine WL.y rfl (Yd.move rfl) ?_
  refine WL.gy (dj := 16) rfl rfl rfl (Yd.move rfl) ?_
  refine WL.gh (dj := 16) rfl rfl rfl (Hd.toStr (e := 5) (bs := ex0) (by kernel_rfl) (by kernel_rfl) Try.underlying9 rfl (h1.bs.mono fun x hx => List.mem_append_left _ hx) ⟨_, rfl, ?_⟩)
  refine WL.gy (dj := 16) rfl rfl rfl (Yd.neqS rfl rfl) ?_
  refine WL.renamed (t := 19) (v := .bool false) rfl (congrArg Value.bool (decide_eq_false (fun h => h (by kernel_rfl)))) ?_
  refine WL.y rfl (Yd.pickF rfl rfl) ?_
  refine WL.nil ?_
  refine DN.then_normal ?_
  refine WC.no rfl ?_
  refine WC.skip ?_
  refine DN.then_normal ?_
  refine WC.seq ?_
  refine WC.region ?_
  refine WL.y rfl (Yd.move rfl) ?_
  refine WL.ca rfl (Ent.func Try.call25 rfl) (copy_spec _ ex0 _ (h1.bs.mono fun y hy => List.mem_append_left _ hy) (by decide)) ?_
  rintro v2 H2 ⟨C2, h2, rfl⟩
  refine WL.y rfl (Yd.assign rfl) ?_
  refine WL.nil ?_
  refine DN.then_normal ?_
  refine WC.seq ?_
  refine WC.region ?_
  refine WL.y rfl (Yd.move rfl) ?_
  refine WL.h rfl (Hd.buildBytes (e := 5) [0#8] (by kernel_rfl) (by kernel_rfl) (by kernel_rfl) rfl rfl (by kernel_rfl) fun rb => ⟨_, rfl, ?_⟩)
  refine WL.h rfl (Hd.appendB (e := 5) (zs := [.int .u8 0]) (C := C2) (D := row rb (bc [0#8]) 5 :: (C1 ++ H)) (by kernel_rfl) (by kernel_rfl) rfl rfl rfl h2 (Bs.block (bs := [0#8]) rfl (by simp) (List.mem_append_right _ List.mem_cons_self)) (by decide) (List.perm_middle).symm fun x1 K1 hx1 _ => ⟨_, rfl, ?_⟩)
  refine WL.y rfl (Yd.assign rfl) ?_
  refine WL.nil ?_
  refine DN.then_normal ?_
  refine WC.seq ?_
  refine WC.region ?_
  refine WL.y rfl (Yd.move rfl) ?_
  refine WL.ca rfl (Ent.func Try.call36 rfl) (all2_tells _ (ex0 ++ [0#8]) _ (hx1.bs.mono fun y hy => by simp [hy]) (by decide)) ?_
  rintro q H3 ⟨u3, ws3, Ca3, Da3, rfl, hu3, hws3, rfl⟩
  rw [all_ex1] at hu3 hws3 ⊢
  refine WL.y rfl (Yd.move rfl) ?_
  refine WL.y rfl (Yd.extract rfl rfl) ?_
  refine WL.y rfl (Yd.extract rfl rfl) ?_
  refine WL.y rfl (Yd.extract rfl rfl) ?_
  refine WL.y rfl (Yd.assign rfl) ?_
  refine WL.y rfl (Yd.assign rfl) ?_
  refine WL.y rfl (Yd.assign rfl) ?_
  refine WL.nil ?_
  refine DN.then_normal ?_
  refine WC.seq ?_
  refine WC.region ?_
  have hK1 := hx1
  rcases hx1 with ⟨_, h0, _⟩ | ⟨b, cap, extra, rfl, hc1, hc2, hx2, hx3, rfl⟩
  · cases h0
  have h9 : (ex0 ++ [0#8]).length = 9 := rfl
  refine WL.y rfl (Yd.move rfl) ?_
  refine WL.y rfl (Yd.indexAddr (e := 5) (s := 1) (by kernel_rfl) (by kernel_rfl) rfl rfl (by omega) (by omega)) ?_
  refine WL.s (Hd.store1 (b := b) (cs := bc (ex0 ++ [0#8]) ++ extra) (T' := 5) (D := Ca3 ++ (Da3 ++ (row rb (bc [0#8]) 5 :: (C1 ++ H)))) (by kernel_rfl) rfl rfl rfl (by classical exact List.perm_iff_count.2 fun q => by simp only [List.count_append, List.count_cons, List.count_nil]; omega) (by simp [bc_length, ex0]; omega) ⟨rfl, ?_⟩)
  refine WL.nil ?_
  refine DN.then_normal ?_
  refine WC.seq ?_
  refine WC.region ?_
  rw [show (0 + Int.toNat 7 * 1) = 7 from rfl, set_front _ _ _ _ (by decide), show (Value.int .u8 0) = Value.int .u8 (0#8).toNat from rfl, bc_set]
  refine WL.y rfl (Yd.move rfl) ?_
  refine WL.ca rfl (Ent.func Try.call36 rfl) (all2_tells _ ((ex0 ++ [0#8]).set 7 0#8) _ ((show Ob 5 (.slice (some ⟨b, 0, none⟩) (ex0 ++ [0#8]).length cap) ((ex0 ++ [0#8]).set 7 0#8) [row b (bc ((ex0 ++ [0#8]).set 7 0#8) ++ extra) 5] from .inr ⟨b, cap, extra, rfl, hc1, hc2, rfl, hx3, rfl⟩).bs.mono fun y hy => by rw [List.mem_singleton.1 hy]; exact List.mem_cons_self) (by decide)) ?_
  rintro q H4 ⟨u4, ws4, Ca4, Da4, rfl, hu4, hws4, rfl⟩
  rw [all_ex2] at hu4 hws4 ⊢
  obtain ⟨o3, c3, rfl, hc3⟩ := hu3.form
  obtain ⟨o4, c4, rfl, hc4⟩ := hu4.form
  obtain ⟨w0, hw0, hbw⟩ := hws3.get 0 (by decide)
  obtain ⟨ow, cw, rfl, hcw⟩ := hbw.form
  refine WL.y rfl (Yd.move rfl) ?_
  refine WL.y rfl (Yd.extract rfl rfl) ?_
  refine WL.y rfl (Yd.extract rfl rfl) ?_
  refine WL.y rfl (Yd.extract rfl rfl) ?_
  refine WL.y rfl (Yd.assign rfl) ?_
  refine WL.y rfl (Yd.assign rfl) ?_
  refine WL.y rfl (Yd.assign rfl) ?_
  refine WL.nil ?_
  refine DN.then_normal ?_
  refine WC.seq ?_
  refine WC.region ?_
  refine WL.y rfl (Yd.move rfl) ?_
  refine WL.y rfl (Yd.len (e := 22) (by kernel_rfl) rfl) ?_
  refine WL.y rfl (Yd.eql rfl rfl) ?_
  refine WL.renamed (t := 42) (v := .bool true) rfl (congrArg Value.bool (by kernel_rfl)) ?_
  refine WL.y rfl (Yd.move rfl) ?_
  refine WL.gy (dj := 43) rfl rfl rfl (Yd.move rfl) ?_
  refine WL.elemN (e := 22) (dj := 43) (by kernel_rfl) (by kernel_rfl) (by kernel_rfl) rfl rfl (rfl) (hu3.rs.mono fun y hy => by simp [hy]) (hw0) (by decide) rfl rfl rfl rfl rfl ?_
  intro _
  refine WL.gy (dj := 43) rfl rfl rfl (Yd.len (e := 5) (by kernel_rfl) rfl) ?_
  refine WL.gy (dj := 43) rfl rfl rfl (Yd.eql rfl rfl) ?_
  refine WL.renamed (t := 48) (v := .bool true) rfl (congrArg Value.bool (by kernel_rfl)) ?_
  refine WL.y rfl (Yd.pickT rfl rfl) ?_
  refine WL.y rfl (Yd.move rfl) ?_
  refine WL.gy (dj := 50) rfl rfl rfl (Yd.move rfl) ?_
  refine WL.gy (dj := 50) rfl rfl rfl (Yd.eql rfl rfl) ?_
  refine WL.renamed (t := 52) (v := .bool true) rfl (congrArg Value.bool (by kernel_rfl)) ?_
  refine WL.y rfl (Yd.pickT rfl rfl) ?_
  refine WL.y rfl (Yd.move rfl) ?_
  refine WL.gy (dj := 54) rfl rfl rfl (Yd.move rfl) ?_
  refine WL.gy (dj := 54) rfl rfl rfl (Yd.eql rfl rfl) ?_
  refine WL.renamed (t := 56) (v := .bool true) rfl (congrArg Value.bool (by kernel_rfl)) ?_
  refine WL.y rfl (Yd.pickT rfl rfl) ?_
  refine WL.y rfl (Yd.move rfl) ?_
  refine WL.gy (dj := 58) rfl rfl rfl (Yd.move rfl) ?_
  refine WL.gy (dj := 58) rfl rfl rfl (Yd.len (e := 22) (by kernel_rfl) rfl) ?_
  refine WL.gy (dj := 58) rfl rfl rfl (Yd.eql rfl rfl) ?_
  refine WL.renamed (t := 61) (v := .bool true) rfl (congrArg Value.bool (by kernel_rfl)) ?_
  refine WL.y rfl (Yd.pickT rfl rfl) ?_
  refine WL.y rfl (Yd.move rfl) ?_
  refine WL.gy (dj := 63) rfl rfl rfl (Yd.move rfl) ?_
  refine WL.gy (dj := 63) rfl rfl rfl (Yd.eql rfl rfl) ?_
  refine WL.renamed (t := 65) (v := .bool true) rfl (congrArg Value.bool (by kernel_rfl)) ?_
  refine WL.y rfl (Yd.pickT rfl rfl) ?_
  refine WL.y rfl (Yd.move rfl) ?_
  refine WL.gy (dj := 67) rfl rfl rfl (Yd.move rfl) ?_
  refine WL.gy (dj := 67) rfl rfl rfl (Yd.eql rfl rfl) ?_
  refine WL.renamed (t := 69) (v := .bool true) rfl (congrArg Value.bool (by kernel_rfl)) ?_
  refine WL.y rfl (Yd.pickT rfl rfl) ?_
  refine WL.y rfl (Yd.move rfl) ?_
  refine WL.gr (dj := 71) rfl rfl rfl (Ent.func Try.call32 rfl) (size_reads 3 _) ?_
  refine WL.gy (dj := 71) rfl rfl rfl (Yd.eql rfl rfl) ?_
  refine WL.renamed (t := 73) (v := .bool true) rfl (congrArg Value.bool (by kernel_rfl)) ?_
  refine WL.y rfl (Yd.pickT rfl rfl) ?_
  refine WL.y rfl (Yd.move rfl) ?_
  refine WL.gr (dj := 75) rfl rfl rfl (Ent.func Try.call32 rfl) (size_reads 2001 _) ?_
  refine WL.gy (dj := 75) rfl rfl rfl (Yd.eql rfl rfl) ?_
  refine WL.renamed (t := 77) (v := .bool true) rfl (congrArg Value.bool (by kernel_rfl)) ?_
  refine WL.y rfl (Yd.pickT rfl rfl) ?_
  refine WL.y rfl (Yd.assign rfl) ?_
  refine WL.nil ?_
  refine DN.then_normal ?_
  refine WC.ret ?_
  refine DN.forget H (by (repeat (first | exact List.Sublist.refl _ | exact List.nil_sublist _ | apply List.Sublist.cons_cons | apply List.Sublist.cons | apply List.sublist_append_of_sublist_right))) ?_
  refine DN.ret1 Try.results27 rfl ?_
  exact ⟨rfl, rfl⟩

end Go.Proofs.Ytfacofbobmlmiaa
