/-
  The walks of the lists' functions (drayageref00).
-/
import Derived.Test.YtonnkgblligdkaaRows
import Derived.Test.YtonnkgblligdkaaSLOps
set_option linter.unusedVariables false
set_option linter.unusedSimpArgs false
namespace Go.Proofs.Ytonnkgblligdkaa
open Go.SL
abbrev B8 := BitVec 8


/-- drayage/drayageref00.Copy -/
theorem copy_spec (v : Value) (bs : List B8) (H : List Ck) (hv : Bs v bs H) (hl : bs.length ≤ 1000000) : Tells Try.prog 37 [v] H fun r H' => ∃ C, Ob 5 r bs C ∧ H' = C ++ H := by
  refine Tells.enter Try.func37 rfl Try.ntmps37 rfl ?_
  intro w0 R
  refine WC.seq ?_
  refine WC.region ?_
  refine WL.y rfl (Yd.assign rfl) ?_
  refine WL.nil ?_
  refine DN.then_normal ?_
  refine WC.seq ?_
  refine WC.region ?_
  refine WL.y rfl (Yd.assign rfl) ?_
  refine WL.nil ?_
  refine DN.then_normal ?_
  refine WC.seq ?_
  refine WC.region ?_
  refine WL.y rfl (Yd.move rfl) ?_
  refine WL.y rfl (Yd.move rfl) ?_
  refine WL.h rfl (Hd.appendB (e := 5) (zs := [.int .u8 0]) (C := []) (D := H) (by kernel_rfl) (by kernel_rfl) rfl rfl rfl (Ob.nil _) hv (by simp; omega) (List.Perm.refl _) fun r C hC _ => ⟨_, rfl, ?_⟩)
  refine WL.y rfl (Yd.assign rfl) ?_
  refine WL.nil ?_
  refine DN.then_normal ?_
  refine WC.ret ?_
  refine DN.ret1 Try.results37 rfl ?_
  exact ⟨C, by simpa using hC, rfl⟩

/-- drayage/drayageref00.Lent -/
theorem lent_spec (v : Value) (bs : List B8) (H : List Ck) (hv : Bs v bs H) (hl : bs.length ≤ 1000000) : Tells Try.prog 14 [v] H fun r H' => ∃ ao cap C, r = .slice ao bs.length cap ∧ Ob 5 (.slice ao (bs.length + 2) cap) (bs ++ [91#8, 92#8]) C ∧ H' = C ++ H := by
  refine Tells.enter Try.func14 rfl Try.ntmps14 rfl ?_
  intro w0 R
  obtain ⟨vo, vc, rfl, hvc⟩ := Bs.form hv
  refine WC.seq ?_
  refine WC.region ?_
  refine WL.y rfl (Yd.assign rfl) ?_
  refine WL.nil ?_
  refine DN.then_normal ?_
  refine WC.seq ?_
  refine WC.region ?_
  refine WL.y rfl (Yd.move rfl) ?_
  refine WL.ca rfl (Ent.func Try.call37 rfl) (copy_spec _ bs H hv hl) ?_
  rintro x H1 ⟨C, hC, rfl⟩
  refine WL.y rfl (Yd.assign rfl) ?_
  refine WL.nil ?_
  refine DN.then_normal ?_
  refine WC.seq ?_
  refine WC.region ?_
  refine WL.y rfl (Yd.move rfl) ?_
  refine WL.h rfl (Hd.buildBytes (e := 5) [91#8, 92#8] (by kernel_rfl) (by kernel_rfl) (by kernel_rfl) rfl rfl (by kernel_rfl) fun b => ⟨_, rfl, ?_⟩)
  refine WL.h rfl (Hd.appendB (e := 5) (zs := [.int .u8 0]) (C := C) (D := row b (bc [91#8, 92#8]) 5 :: H) (by kernel_rfl) (by kernel_rfl) rfl rfl rfl hC (Bs.block (bs := [91#8, 92#8]) rfl (by decide) (List.mem_append_right _ List.mem_cons_self)) (by simp; omega) List.perm_middle.symm fun r C2 hC2 _ => ⟨_, rfl, ?_⟩)
  refine WL.y rfl (Yd.assign rfl) ?_
  refine WL.nil ?_
  refine DN.then_normal ?_
  refine WC.seq ?_
  refine WC.region ?_
  obtain ⟨ro, rc, rfl, hrc⟩ := Ob.form hC2
  rw [List.length_append] at hrc
  simp only [List.length_append] at hC2 ⊢
  refine WL.y rfl (Yd.move rfl) ?_
  refine WL.y rfl (Yd.move rfl) ?_
  refine WL.y rfl (Yd.len (e := 5) (by kernel_rfl) rfl) ?_
  refine WL.y rfl (Yd.sliceTo (e := 5) (s := 1) (j := bs.length) (by kernel_rfl) (by kernel_rfl) rfl rfl rfl (by omega)) ?_
  refine WL.y rfl (Yd.assign rfl) ?_
  refine WL.nil ?_
  refine DN.then_normal ?_
  refine WC.ret ?_
  refine DN.forget (C2 ++ H) (List.Sublist.append (List.Sublist.refl _) (List.sublist_cons_self _ _)) ?_
  refine DN.ret1 Try.results14 rfl ?_
  exact ⟨_, _, C2, rfl, hC2, rfl⟩

/-- drayage/drayageref00.Whole -/
theorem whole_reads (ao : Option Addr) (cap : Nat) (v : Value) (bs : List B8) (H : List Ck) (hx : Bs (.slice ao (bs.length + 2) cap) (bs ++ [91#8, 92#8]) H) (hv : Bs v bs H) (hl : bs.length ≤ 1000000) : Reads Try.prog 17 [.slice ao bs.length cap, v] H (.bool true) := by
  refine Tells.enter Try.func17 rfl Try.ntmps17 rfl ?_
  intro w0 R
  obtain ⟨vo, vc, rfl, hvc⟩ := Bs.form hv
  have hcap : bs.length + 2 ≤ cap := by
    obtain ⟨_, _, h1, h2⟩ := Bs.form hx
    simp at h1 h2; omega
  refine WC.seq ?_
  refine WC.region ?_
  refine WL.y rfl (Yd.assign rfl) ?_
  refine WL.nil ?_
  refine DN.then_normal ?_
  refine WC.seq ?_
  refine WC.seq ?_
  refine WC.region ?_
  refine WL.y rfl (Yd.move rfl) ?_
  refine WL.y rfl (Yd.len (e := 5) (by kernel_rfl) rfl) ?_
  refine WL.y rfl (Yd.move rfl) ?_
  refine WL.y rfl (Yd.len (e := 5) (by kernel_rfl) rfl) ?_
  refine WL.y rfl (Yd.neq rfl rfl) ?_
  refine WL.renamed (t := 10) (v := .bool false) rfl (congrArg Value.bool (by simp)) ?_
  refine WL.nil ?_
  refine DN.then_normal ?_
  refine WC.no rfl ?_
  refine WC.skip ?_
  refine DN.then_normal ?_
  refine WC.seq ?_
  refine WC.region ?_
  refine WL.y rfl (Yd.move rfl) ?_
  refine WL.y rfl (Yd.move rfl) ?_
  refine WL.y rfl (Yd.len (e := 5) (by kernel_rfl) rfl) ?_
  refine WL.y rfl (Yd.add rfl rfl (by omega) (by omega)) ?_
  refine WL.y rfl (Yd.sliceTo (e := 5) (s := 1) (j := bs.length + 2) (by kernel_rfl) (by kernel_rfl) rfl rfl (by omega) hcap) ?_
  refine WL.y rfl (Yd.assign rfl) ?_
  refine WL.nil ?_
  refine DN.then_normal ?_
  refine WC.seq ?_
  refine WC.region ?_
  refine WL.y rfl (Yd.move rfl) ?_
  refine WL.y rfl (Yd.move rfl) ?_
  refine WL.y rfl (Yd.len (e := 5) (by kernel_rfl) rfl) ?_
  refine WL.elem (e := 5) (by kernel_rfl) (by kernel_rfl) (by kernel_rfl) rfl rfl (rfl) (hx) (show (bc (bs ++ [91#8, 92#8]))[bs.length]? = some (.int .u8 (91#8).toNat) by simp [bc]) (by omega) rfl rfl ?_
  intro _
  refine WL.y rfl (Yd.eql8 _ (91#8) rfl rfl rfl rfl) ?_
  refine WL.renamed (t := 21) (v := .bool true) rfl (congrArg Value.bool (decide_eq_true rfl)) ?_
  refine WL.y rfl (Yd.move rfl) ?_
  refine WL.gy (dj := 22) rfl rfl rfl (Yd.move rfl) ?_
  refine WL.gy (dj := 22) rfl rfl rfl (Yd.move rfl) ?_
  refine WL.gy (dj := 22) rfl rfl rfl (Yd.len (e := 5) (by kernel_rfl) rfl) ?_
  refine WL.gy (dj := 22) rfl rfl rfl (Yd.add rfl rfl (by omega) (by omega)) ?_
  refine WL.elemN (e := 5) (dj := 22) (by kernel_rfl) (by kernel_rfl) (by kernel_rfl) rfl rfl (by omega) (hx) (show (bc (bs ++ [91#8, 92#8]))[bs.length + 1]? = some (.int .u8 (92#8).toNat) by simp [bc]) (by omega) rfl rfl rfl rfl rfl ?_
  intro _
  refine WL.gy (dj := 22) rfl rfl rfl (Yd.eql8 _ (92#8) rfl rfl rfl rfl) ?_
  refine WL.renamed (t := 29) (v := .bool true) rfl (congrArg Value.bool (decide_eq_true rfl)) ?_
  refine WL.y rfl (Yd.pickT rfl rfl) ?_
  refine WL.y rfl (Yd.move rfl) ?_
  refine WL.gy (dj := 31) rfl rfl rfl (Yd.move rfl) ?_
  refine WL.gh (dj := 31) rfl rfl rfl (Hd.toStr (e := 5) (bs := bs) (by kernel_rfl) (by kernel_rfl) Try.underlying9 rfl (by have := Bs.upto (j := bs.length) hx (by omega); simpa using this) ⟨_, rfl, ?_⟩)
  refine WL.gy (dj := 31) rfl rfl rfl (Yd.move rfl) ?_
  refine WL.gh (dj := 31) rfl rfl rfl (Hd.toStr (e := 5) (bs := bs) (by kernel_rfl) (by kernel_rfl) Try.underlying9 rfl hv ⟨_, rfl, ?_⟩)
  refine WL.gy (dj := 31) rfl rfl rfl (Yd.eqlS rfl rfl) ?_
  refine WL.renamed (t := 36) (v := .bool true) rfl (congrArg Value.bool (decide_eq_true rfl)) ?_
  refine WL.y rfl (Yd.pickT rfl rfl) ?_
  refine WL.y rfl (Yd.assign rfl) ?_
  refine WL.nil ?_
  refine DN.then_normal ?_
  refine WC.ret ?_
  refine DN.ret1 Try.results17 rfl ?_
  exact ⟨rfl, rfl⟩

/-- drayage/drayageref00.Same -/
theorem same_reads (u v : Value) (xs bs : List B8) (H : List Ck) (hu : Bs u xs H) (hv : Bs v bs H) : Reads Try.prog 36 [u, v] H (.bool (decide (xs = bs))) := by
  refine Tells.enter Try.func36 rfl Try.ntmps36 rfl ?_
  intro w0 R
  refine WC.seq ?_
  refine WC.region ?_
  refine WL.y rfl (Yd.assign rfl) ?_
  refine WL.nil ?_
  refine DN.then_normal ?_
  refine WC.seq ?_
  refine WC.region ?_
  refine WL.y rfl (Yd.move rfl) ?_
  refine WL.h rfl (Hd.toStr (e := 5) (bs := xs) (by kernel_rfl) (by kernel_rfl) Try.underlying9 rfl hu ⟨_, rfl, ?_⟩)
  refine WL.y rfl (Yd.move rfl) ?_
  refine WL.h rfl (Hd.toStr (e := 5) (bs := bs) (by kernel_rfl) (by kernel_rfl) Try.underlying9 rfl hv ⟨_, rfl, ?_⟩)
  refine WL.y rfl (Yd.eqlS rfl rfl) ?_
  refine WL.y rfl (Yd.assign rfl) ?_
  refine WL.nil ?_
  refine DN.then_normal ?_
  refine WC.ret ?_
  refine DN.ret1 Try.results36 rfl ?_
  exact ⟨by simp [str_inj], rfl⟩

end Go.Proofs.Ytonnkgblligdkaa
