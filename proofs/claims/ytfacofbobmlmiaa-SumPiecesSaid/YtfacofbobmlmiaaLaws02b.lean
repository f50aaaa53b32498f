/-
  The walks of the laws of chapter 02, continued.
-/
import Derived.Test.YtfacofbobmlmiaaLaws02
set_option linter.unusedVariables false
set_option linter.unusedSimpArgs false
set_option maxHeartbeats 2000000
namespace Go.Proofs.Ytfacofbobmlmiaa
open Go.SL Go.Sum
theorem linear_law (a b : List B8) (n : Nat) (ha : n ≤ a.length) (hb : n ≤ b.length) : crcOf (a.take n) ^^^ crcOf (b.take n) ^^^ crcOf (List.zipWith (· ^^^ ·) (a.take n) (b.take n)) ^^^ crcOf (List.replicate n 0#8) = 0#32 := by
  have h := linear (a.take n) (b.take n) (by simp; omega)
  have : (a.take n).length = n := by simp; omega
  rwa [this] at h
theorem of_more (a b : List B8) : crcMore (crcOf a) b = crcOf (a ++ b) := crcMore_append 0#32 a b
theorem capped_flat (ls : List (List B8)) (h : ls.length + capped ls ≤ 3000) : ls.flatten.length = capped ls := by
  cases ls with
  | nil => rfl
  | cons l ls => exact capped_all _ (by simp only [List.length_cons] at h; omega)
theorem one_word (x : B8) : [Value.int .u8 (x.toNat : Int)] = bc [x] := rfl


/-- drayage/drayagelaw02.SumLinear -/
theorem law_SumLinear (u v : Value) (a b : List B8) (H : List Ck) (hu : Bs u a H) (hv : Bs v b H) (hla : a.length ≤ 9223372036854775807) (hlb : b.length ≤ 9223372036854775807) : Reads Try.prog 6 [u, v] H (.bool true) := by
  refine Tells.enter Try.func6 rfl Try.ntmps6 rfl ?_
  intro w0 R
  obtain ⟨ua, uc, rfl, huc⟩ := Bs.form hu
  obtain ⟨va, vc, rfl, hvc⟩ := Bs.form hv
  obtain ⟨n, hn⟩ : ∃ n, n = min a.length b.length := ⟨_, rfl⟩
  have hna : n ≤ a.length := by omega
  have hnb : n ≤ b.length := by omega
  refine WC.seq ?_
  refine WC.region ?_
  refine WL.y rfl (Yd.assign rfl) ?_
  refine WL.nil ?_
  refine DN.then_normal ?_
  refine WC.seq ?_
  refine WC.region ?_
  refine WL.y rfl (Yd.move rfl) ?_
  refine WL.y rfl (Yd.len (e := 5) (by kernel_rfl) rfl) ?_
  refine WL.y rfl (Yd.move rfl) ?_
  refine WL.y rfl (Yd.len (e := 5) (by kernel_rfl) rfl) ?_
  refine WL.y rfl (Yd.min2 rfl rfl) ?_
  refine WL.renamed (t := 12) (v := .int .i64 (n : Int)) rfl (congrArg (Value.int .i64) (by omega)) ?_
  refine WL.y rfl (Yd.assign rfl) ?_
  refine WL.nil ?_
  refine DN.then_normal ?_
  refine WC.seq ?_
  refine WC.seq ?_
  refine WC.region ?_
  refine WL.y rfl (Yd.move rfl) ?_
  refine WL.y rfl (Yd.gtr rfl rfl) ?_
  refine WL.nil ?_
  refine DN.then_normal ?_
  refine WC.ite rfl (fun h14 => ?_) (fun h14 => ?_)
  · refine WC.seq ?_
    refine WC.region ?_
    refine WL.r rfl (Ent.func Try.call17 rfl) (known02 _) ?_
    refine WL.y rfl (Yd.assign rfl) ?_
    refine WL.nil ?_
    refine DN.then_normal ?_
    refine WC.ret ?_
    refine DN.then_ret ?_
    refine DN.forget H (by (repeat (first | exact List.Sublist.refl _ | exact List.nil_sublist _ | apply List.Sublist.cons_cons | apply List.Sublist.cons | apply List.sublist_append_of_sublist_right))) ?_
    refine DN.ret1 Try.results6 rfl ?_
    exact ⟨rfl, rfl⟩
  · have h3 : n ≤ 3000 := by omega
    refine WC.skip ?_
    refine DN.then_normal ?_
    refine WC.seq ?_
    refine WC.region ?_
    refine WL.y rfl (Yd.assign rfl) ?_
    refine WL.nil ?_
    refine DN.then_normal ?_
    refine WC.seq ?_
    refine WC.seq ?_
    refine WC.region ?_
    refine WL.y rfl (Yd.assign rfl) ?_
    refine WL.nil ?_
    refine DN.then_normal ?_
    refine WC.block ?_
    refine WC.loop (fun z : Nat × Value × List Ck => z.1 ≤ n ∧ Ob 5 z.2.1 (List.zipWith (· ^^^ ·) (a.take z.1) (b.take z.1)) z.2.2) (fun z => [(0, .slice ua a.length uc), (1, .slice va b.length vc), (5, .int .i64 n), (6, z.2.1), (7, .int .i64 z.1)]) (fun z => z.2.2 ++ H) (fun z => n - z.1) (0, .slice none 0 0, []) ⟨Nat.zero_le _, Ob.nil _⟩ ⟨rfl, rfl, rfl, rfl, rfl, trivial⟩ (List.Perm.refl _) ?_
    rintro ⟨i, v6, C⟩ ⟨hi, ho⟩
    simp only at hi ho
    refine WC.seq ?_
    refine WC.seq ?_
    refine WC.region ?_
    refine WL.y rfl (Yd.move rfl) ?_
    refine WL.y rfl (Yd.move rfl) ?_
    refine WL.y rfl (Yd.lss rfl rfl) ?_
    refine WL.nil ?_
    refine DN.then_normal ?_
    refine WC.ite rfl (fun h18 => ?_) (fun h18 => ?_)
    · have hin : i < n := by omega
      obtain ⟨ba, oa, csa, Ta, fra, exa, ea, hma, hga⟩ := hu.at (by intro e; have h9 := congrArg List.length e; rw [bc_length] at h9; simp only [List.length_nil] at h9; omega)
      obtain ⟨bb, ob, csb, Tb, frb, exb, eb, hmb, hgb⟩ := hv.at (by intro e; have h9 := congrArg List.length e; rw [bc_length] at h9; simp only [List.length_nil] at h9; omega)
      subst ea
      subst eb
      refine WC.skip ?_
      refine DN.then_normal ?_
      refine WC.seq ?_
      refine WC.block ?_
      refine WC.draw 13 (by kernel_rfl) rfl ?_
      refine WA.y (i := 0) (NoPanic.block (NoPanic.then (NoPanic.then (NoPanic.block (NoPanic.then (NoPanic.body)))))) rfl (by kernel_rfl) (by kernel_rfl) (by kernel_rfl) rfl (Yd.move rfl) ?_
      refine WA.y (i := 1) (NoPanic.block (NoPanic.then (NoPanic.then (NoPanic.block (NoPanic.then (NoPanic.body)))))) rfl (by kernel_rfl) (by kernel_rfl) (by kernel_rfl) rfl (Yd.move rfl) ?_
      refine WA.y (i := 2) (NoPanic.block (NoPanic.then (NoPanic.then (NoPanic.block (NoPanic.then (NoPanic.body)))))) rfl (by kernel_rfl) (by kernel_rfl) (by kernel_rfl) rfl (Yd.move rfl) ?_
      refine WA.y (i := 3) (NoPanic.block (NoPanic.then (NoPanic.then (NoPanic.block (NoPanic.then (NoPanic.body)))))) rfl (by kernel_rfl) (by kernel_rfl) (by kernel_rfl) rfl (Yd.indexAddr (e := 5) (s := 1) (by kernel_rfl) (by kernel_rfl) rfl rfl (by omega) (by omega)) ?_
      refine WA.y (i := 5) (NoPanic.block (NoPanic.then (NoPanic.then (NoPanic.block (NoPanic.then (NoPanic.body)))))) rfl (by kernel_rfl) (by kernel_rfl) (by kernel_rfl) rfl (Yd.move rfl) ?_
      refine WA.y (i := 6) (NoPanic.block (NoPanic.then (NoPanic.then (NoPanic.block (NoPanic.then (NoPanic.body)))))) rfl (by kernel_rfl) (by kernel_rfl) (by kernel_rfl) rfl (Yd.move rfl) ?_
      refine WA.y (i := 7) (NoPanic.block (NoPanic.then (NoPanic.then (NoPanic.block (NoPanic.then (NoPanic.body)))))) rfl (by kernel_rfl) (by kernel_rfl) (by kernel_rfl) rfl (Yd.indexAddr (e := 5) (s := 1) (by kernel_rfl) (by kernel_rfl) rfl rfl (by omega) (by omega)) ?_
      refine WA.two (i := 4) (j := 8) (by kernel_rfl) ?_ ?_
      · refine WO.h rfl Wt.none rfl (Hd.load1 (v := .int .u8 a[i].toNat) (b := ba) (cs := csa.toList) (by kernel_rfl) rfl (List.mem_append_right _ (by simpa using hma)) (by have := hga i _ (bc_get (l := a) (by omega)); simpa using this) ⟨_, rfl, ?_⟩)
        refine WA.one (i := 8) (by kernel_rfl) ?_
        refine WO.h rfl Wt.none rfl (Hd.load1 (v := .int .u8 b[i].toNat) (b := bb) (cs := csb.toList) (by kernel_rfl) rfl (List.mem_append_right _ (by simpa using hmb)) (by have := hgb i _ (bc_get (l := b) (by omega)); simpa using this) ⟨_, rfl, ?_⟩)
        refine WA.y (i := 9) (NoPanic.block (NoPanic.then (NoPanic.then (NoPanic.block (NoPanic.then (NoPanic.body)))))) rfl (by kernel_rfl) (by kernel_rfl) (by kernel_rfl) rfl (Yd.xor8 _ _ rfl rfl rfl rfl) ?_
        refine WA.one (i := 10) (by kernel_rfl) ?_
        refine WO.h rfl Wt.none rfl (Hd.build1 (e := 5) (z := .int .u8 0) (by kernel_rfl) (by kernel_rfl) (by kernel_rfl) rfl rfl fun r => ⟨_, rfl, ?_⟩)
        refine WA.one (i := 11) (by kernel_rfl) ?_
        refine WO.h rfl Wt.none rfl (Hd.appendB (e := 5) (zs := [.int .u8 0]) (C := C) (D := row r (bc [a[i] ^^^ b[i]]) 5 :: H) (by kernel_rfl) (by kernel_rfl) rfl rfl rfl ho (Bs.block (bs := [a[i] ^^^ b[i]]) rfl (by decide) (List.mem_append_right _ List.mem_cons_self)) (by simp; omega) List.perm_middle.symm fun v7 C6 ho6 _ => ⟨_, rfl, ?_⟩)
        refine WA.y (i := 12) (NoPanic.block (NoPanic.then (NoPanic.then (NoPanic.block (NoPanic.then (NoPanic.body)))))) rfl (by kernel_rfl) (by kernel_rfl) (by kernel_rfl) rfl (Yd.assign rfl) ?_
        refine WA.done (by kernel_rfl) ?_
        refine DN.block_normal ?_
        refine DN.then_normal ?_
        refine WC.region ?_
        refine WL.y rfl (Yd.move rfl) ?_
        refine WL.y rfl (Yd.add rfl rfl (by omega) (by omega)) ?_
        refine WL.y rfl (Yd.assign rfl) ?_
        refine WL.nil ?_
        refine DN.forget (C6 ++ H) (List.Sublist.append (List.Sublist.refl _) (List.sublist_cons_self _ _)) ?_
        exact DN.again (i + 1, v7, C6) ⟨by show i + 1 ≤ n; omega, by rw [zip_next a b i (by omega) (by omega)]; exact ho6⟩ (by show n - (i + 1) < n - i; omega) ⟨rfl, rfl, rfl, rfl, rfl, trivial⟩ (List.Perm.refl _)
      · refine WO.h rfl Wt.none rfl (Hd.load1 (v := .int .u8 b[i].toNat) (b := bb) (cs := csb.toList) (by kernel_rfl) rfl (List.mem_append_right _ (by simpa using hmb)) (by have := hgb i _ (bc_get (l := b) (by omega)); simpa using this) ⟨_, rfl, ?_⟩)
        refine WA.one (i := 4) (by kernel_rfl) ?_
        refine WO.h rfl Wt.none rfl (Hd.load1 (v := .int .u8 a[i].toNat) (b := ba) (cs := csa.toList) (by kernel_rfl) rfl (List.mem_append_right _ (by simpa using hma)) (by have := hga i _ (bc_get (l := a) (by omega)); simpa using this) ⟨_, rfl, ?_⟩)
        refine WA.y (i := 9) (NoPanic.block (NoPanic.then (NoPanic.then (NoPanic.block (NoPanic.then (NoPanic.body)))))) rfl (by kernel_rfl) (by kernel_rfl) (by kernel_rfl) rfl (Yd.xor8 _ _ rfl rfl rfl rfl) ?_
        refine WA.one (i := 10) (by kernel_rfl) ?_
        refine WO.h rfl Wt.none rfl (Hd.build1 (e := 5) (z := .int .u8 0) (by kernel_rfl) (by kernel_rfl) (by kernel_rfl) rfl rfl fun r => ⟨_, rfl, ?_⟩)
        refine WA.one (i := 11) (by kernel_rfl) ?_
        refine WO.h rfl Wt.none rfl (Hd.appendB (e := 5) (zs := [.int .u8 0]) (C := C) (D := row r (bc [a[i] ^^^ b[i]]) 5 :: H) (by kernel_rfl) (by kernel_rfl) rfl rfl rfl ho (Bs.block (bs := [a[i] ^^^ b[i]]) rfl (by decide) (List.mem_append_right _ List.mem_cons_self)) (by simp; omega) List.perm_middle.symm fun v7 C6 ho6 _ => ⟨_, rfl, ?_⟩)
        refine WA.y (i := 12) (NoPanic.block (NoPanic.then (NoPanic.then (NoPanic.block (NoPanic.then (NoPanic.body)))))) rfl (by kernel_rfl) (by kernel_rfl) (by kernel_rfl) rfl (Yd.assign rfl) ?_
        refine WA.done (by kernel_rfl) ?_
        refine DN.block_normal ?_
        refine DN.then_normal ?_
        refine WC.region ?_
        refine WL.y rfl (Yd.move rfl) ?_
        refine WL.y rfl (Yd.add rfl rfl (by omega) (by omega)) ?_
        refine WL.y rfl (Yd.assign rfl) ?_
        refine WL.nil ?_
        refine DN.forget (C6 ++ H) (List.Sublist.append (List.Sublist.refl _) (List.sublist_cons_self _ _)) ?_
        exact DN.again (i + 1, v7, C6) ⟨by show i + 1 ≤ n; omega, by rw [zip_next a b i (by omega) (by omega)]; exact ho6⟩ (by show n - (i + 1) < n - i; omega) ⟨rfl, rfl, rfl, rfl, rfl, trivial⟩ (List.Perm.refl _)
    · have hin : i = n := by omega
      subst hin
      have hx := ho.bs.mono (B := C ++ H) fun x hx => List.mem_append_left _ hx
      have hu2 := (hu.mono (B := C ++ H) fun x hx => List.mem_append_right _ hx).upto (j := i) hna
      have hv2 := (hv.mono (B := C ++ H) fun x hx => List.mem_append_right _ hx).upto (j := i) hnb
      refine WC.exit ?_
      refine DN.then_exit ?_
      refine DN.then_exit ?_
      refine DN.block_exit ?_
      refine DN.then_normal ?_
      refine WC.seq ?_
      refine WC.draw 21 (by kernel_rfl) rfl ?_
      refine WA.y (i := 0) (NoPanic.then (NoPanic.body)) rfl (by kernel_rfl) (by kernel_rfl) (by kernel_rfl) rfl (Yd.move rfl) ?_
      refine WA.y (i := 1) (NoPanic.then (NoPanic.body)) rfl (by kernel_rfl) (by kernel_rfl) (by kernel_rfl) rfl (Yd.move rfl) ?_
      refine WA.y (i := 2) (NoPanic.then (NoPanic.body)) rfl (by kernel_rfl) (by kernel_rfl) (by kernel_rfl) rfl (Yd.sliceTo (e := 5) (s := 1) (j := i) (by kernel_rfl) (by kernel_rfl) rfl rfl rfl (by omega)) ?_
      refine WA.y (i := 4) (NoPanic.then (NoPanic.body)) rfl (by kernel_rfl) (by kernel_rfl) (by kernel_rfl) rfl (Yd.move rfl) ?_
      refine WA.y (i := 5) (NoPanic.then (NoPanic.body)) rfl (by kernel_rfl) (by kernel_rfl) (by kernel_rfl) rfl (Yd.move rfl) ?_
      refine WA.y (i := 6) (NoPanic.then (NoPanic.body)) rfl (by kernel_rfl) (by kernel_rfl) (by kernel_rfl) rfl (Yd.sliceTo (e := 5) (s := 1) (j := i) (by kernel_rfl) (by kernel_rfl) rfl rfl rfl (by omega)) ?_
      refine WA.y (i := 9) (NoPanic.then (NoPanic.body)) rfl (by kernel_rfl) (by kernel_rfl) (by kernel_rfl) rfl (Yd.move rfl) ?_
      refine WA.y (i := 12) (NoPanic.then (NoPanic.body)) rfl (by kernel_rfl) (by kernel_rfl) (by kernel_rfl) rfl (Yd.move rfl) ?_
      refine WA.two (i := 3) (j := 13) (by kernel_rfl) ?_ ?_
      · refine WO.r rfl Wt.none rfl (Ent.func Try.call19 rfl) (of_reads _ _ _ (by first | exact hu2 | exact hu2.mono fun x hx => List.mem_cons_of_mem _ hx) (by simp; omega)) ?_
        refine WA.two (i := 7) (j := 13) (by kernel_rfl) ?_ ?_
        · refine WO.r rfl Wt.none rfl (Ent.func Try.call19 rfl) (of_reads _ _ _ (by first | exact hv2 | exact hv2.mono fun x hx => List.mem_cons_of_mem _ hx) (by simp; omega)) ?_
          refine WA.y (i := 8) (NoPanic.then (NoPanic.body)) rfl (by kernel_rfl) (by kernel_rfl) (by kernel_rfl) rfl (Yd.xor32 _ _ rfl rfl rfl rfl) ?_
          refine WA.two (i := 10) (j := 13) (by kernel_rfl) ?_ ?_
          · refine WO.r rfl Wt.none rfl (Ent.func Try.call19 rfl) (of_reads _ _ _ (by first | exact hx | exact hx.mono fun x hx => List.mem_cons_of_mem _ hx) (by simp; omega)) ?_
            refine WA.y (i := 11) (NoPanic.then (NoPanic.body)) rfl (by kernel_rfl) (by kernel_rfl) (by kernel_rfl) rfl (Yd.xor32 _ _ rfl rfl rfl rfl) ?_
            refine WA.one (i := 13) (by kernel_rfl) ?_
            refine WO.h rfl Wt.none rfl (Hd.make1 (e := 5) (n := i) (bytes := 1) (z := .int .u8 0) (by kernel_rfl) (by kernel_rfl) rfl rfl rfl rfl (by omega) (by omega) fun m => ⟨_, rfl, ?_⟩)
            refine WA.one (i := 14) (by kernel_rfl) ?_
            refine WO.r rfl Wt.none rfl (Ent.func Try.call19 rfl) (of_reads _ (List.replicate i 0#8) _ (Bs.block (by simp) (Nat.le_refl _) (by rw [rep_bc]; exact List.mem_cons_self)) (by simp; omega)) ?_
            refine WA.y (i := 15) (NoPanic.then (NoPanic.body)) rfl (by kernel_rfl) (by kernel_rfl) (by kernel_rfl) rfl (Yd.xor32 _ _ rfl rfl rfl rfl) ?_
            refine WA.y (i := 16) (NoPanic.then (NoPanic.body)) rfl (by kernel_rfl) (by kernel_rfl) (by kernel_rfl) rfl (Yd.eql32 _ (0#32) rfl rfl rfl rfl) ?_
            refine WA.renamed (t := 49) (v := .bool true) rfl (congrArg Value.bool (decide_eq_true (linear_law a b i hna hnb))) ?_
            refine WA.y (i := 17) (NoPanic.then (NoPanic.body)) rfl (by kernel_rfl) (by kernel_rfl) (by kernel_rfl) rfl (Yd.move rfl) ?_
            refine WA.one (i := 18) (by kernel_rfl) ?_
            refine WO.r rfl (Wt.yes (dj := 50) rfl rfl) rfl (Ent.func Try.call17 rfl) (known02 _) ?_
            refine WA.y (i := 19) (NoPanic.then (NoPanic.body)) rfl (by kernel_rfl) (by kernel_rfl) (by kernel_rfl) rfl (Yd.pickT rfl rfl) ?_
            refine WA.y (i := 20) (NoPanic.then (NoPanic.body)) rfl (by kernel_rfl) (by kernel_rfl) (by kernel_rfl) rfl (Yd.assign rfl) ?_
            refine WA.done (by kernel_rfl) ?_
            refine DN.then_normal ?_
            refine WC.ret ?_
            refine DN.forget H (by (repeat (first | exact List.Sublist.refl _ | exact List.nil_sublist _ | apply List.Sublist.cons_cons | apply List.Sublist.cons | apply List.sublist_append_of_sublist_right))) ?_
            refine DN.ret1 Try.results6 rfl ?_
            exact ⟨rfl, rfl⟩
          · refine WO.h rfl Wt.none rfl (Hd.make1 (e := 5) (n := i) (bytes := 1) (z := .int .u8 0) (by kernel_rfl) (by kernel_rfl) rfl rfl rfl rfl (by omega) (by omega) fun m => ⟨_, rfl, ?_⟩)
            refine WA.one (i := 10) (by kernel_rfl) ?_
            refine WO.r rfl Wt.none rfl (Ent.func Try.call19 rfl) (of_reads _ _ _ (by first | exact hx | exact hx.mono fun x hx => List.mem_cons_of_mem _ hx) (by simp; omega)) ?_
            refine WA.y (i := 11) (NoPanic.then (NoPanic.body)) rfl (by kernel_rfl) (by kernel_rfl) (by kernel_rfl) rfl (Yd.xor32 _ _ rfl rfl rfl rfl) ?_
            refine WA.one (i := 14) (by kernel_rfl) ?_
            refine WO.r rfl Wt.none rfl (Ent.func Try.call19 rfl) (of_reads _ (List.replicate i 0#8) _ (Bs.block (by simp) (Nat.le_refl _) (by rw [rep_bc]; exact List.mem_cons_self)) (by simp; omega)) ?_
            refine WA.y (i := 15) (NoPanic.then (NoPanic.body)) rfl (by kernel_rfl) (by kernel_rfl) (by kernel_rfl) rfl (Yd.xor32 _ _ rfl rfl rfl rfl) ?_
            refine WA.y (i := 16) (NoPanic.then (NoPanic.body)) rfl (by kernel_rfl) (by kernel_rfl) (by kernel_rfl) rfl (Yd.eql32 _ (0#32) rfl rfl rfl rfl) ?_
            refine WA.renamed (t := 49) (v := .bool true) rfl (congrArg Value.bool (decide_eq_true (linear_law a b i hna hnb))) ?_
            refine WA.y (i := 17) (NoPanic.then (NoPanic.body)) rfl (by kernel_rfl) (by kernel_rfl) (by kernel_rfl) rfl (Yd.move rfl) ?_
            refine WA.one (i := 18) (by kernel_rfl) ?_
            refine WO.r rfl (Wt.yes (dj := 50) rfl rfl) rfl (Ent.func Try.call17 rfl) (known02 _) ?_
            refine WA.y (i := 19) (NoPanic.then (NoPanic.body)) rfl (by kernel_rfl) (by kernel_rfl) (by kernel_rfl) rfl (Yd.pickT rfl rfl) ?_
            refine WA.y (i := 20) (NoPanic.then (NoPanic.body)) rfl (by kernel_rfl) (by kernel_rfl) (by kernel_rfl) rfl (Yd.assign rfl) ?_
            refine WA.done (by kernel_rfl) ?_
            refine DN.then_normal ?_
            refine WC.ret ?_
            refine DN.forget H (by (repeat (first | exact List.Sublist.refl _ | exact List.nil_sublist _ | apply List.Sublist.cons_cons | apply List.Sublist.cons | apply List.sublist_append_of_sublist_right))) ?_
            refine DN.ret1 Try.results6 rfl ?_
            exact ⟨rfl, rfl⟩
        · refine WO.h rfl Wt.none rfl (Hd.make1 (e := 5) (n := i) (bytes := 1) (z := .int .u8 0) (by kernel_rfl) (by kernel_rfl) rfl rfl rfl rfl (by omega) (by omega) fun m => ⟨_, rfl, ?_⟩)
          refine WA.one (i := 7) (by kernel_rfl) ?_
          refine WO.r rfl Wt.none rfl (Ent.func Try.call19 rfl) (of_reads _ _ _ (by first | exact hv2 | exact hv2.mono fun x hx => List.mem_cons_of_mem _ hx) (by simp; omega)) ?_
          refine WA.y (i := 8) (NoPanic.then (NoPanic.body)) rfl (by kernel_rfl) (by kernel_rfl) (by kernel_rfl) rfl (Yd.xor32 _ _ rfl rfl rfl rfl) ?_
          refine WA.one (i := 10) (by kernel_rfl) ?_
          refine WO.r rfl Wt.none rfl (Ent.func Try.call19 rfl) (of_reads _ _ _ (by first | exact hx | exact hx.mono fun x hx => List.mem_cons_of_mem _ hx) (by simp; omega)) ?_
          refine WA.y (i := 11) (NoPanic.then (NoPanic.body)) rfl (by kernel_rfl) (by kernel_rfl) (by kernel_rfl) rfl (Yd.xor32 _ _ rfl rfl rfl rfl) ?_
          refine WA.one (i := 14) (by kernel_rfl) ?_
          refine WO.r rfl Wt.none rfl (Ent.func Try.call19 rfl) (of_reads _ (List.replicate i 0#8) _ (Bs.block (by simp) (Nat.le_refl _) (by rw [rep_bc]; exact List.mem_cons_self)) (by simp; omega)) ?_
          refine WA.y (i := 15) (NoPanic.then (NoPanic.body)) rfl (by kernel_rfl) (by kernel_rfl) (by kernel_rfl) rfl (Yd.xor32 _ _ rfl rfl rfl rfl) ?_
          refine WA.y (i := 16) (NoPanic.then (NoPanic.body)) rfl (by kernel_rfl) (by kernel_rfl) (by kernel_rfl) rfl (Yd.eql32 _ (0#32) rfl rfl rfl rfl) ?_
          refine WA.renamed (t := 49) (v := .bool true) rfl (congrArg Value.bool (decide_eq_true (linear_law a b i hna hnb))) ?_
          refine WA.y (i := 17) (NoPanic.then (NoPanic.body)) rfl (by kernel_rfl) (by kernel_rfl) (by kernel_rfl) rfl (Yd.move rfl) ?_
          refine WA.one (i := 18) (by kernel_rfl) ?_
          refine WO.r rfl (Wt.yes (dj := 50) rfl rfl) rfl (Ent.func Try.call17 rfl) (known02 _) ?_
          refine WA.y (i := 19) (NoPanic.then (NoPanic.body)) rfl (by kernel_rfl) (by kernel_rfl) (by kernel_rfl) rfl (Yd.pickT rfl rfl) ?_
          refine WA.y (i := 20) (NoPanic.then (NoPanic.body)) rfl (by kernel_rfl) (by kernel_rfl) (by kernel_rfl) rfl (Yd.assign rfl) ?_
          refine WA.done (by kernel_rfl) ?_
          refine DN.then_normal ?_
          refine WC.ret ?_
          refine DN.forget H (by (repeat (first | exact List.Sublist.refl _ | exact List.nil_sublist _ | apply List.Sublist.cons_cons | apply List.Sublist.cons | apply List.sublist_append_of_sublist_right))) ?_
          refine DN.ret1 Try.results6 rfl ?_
          exact ⟨rfl, rfl⟩
      · refine WO.h rfl Wt.none rfl (Hd.make1 (e := 5) (n := i) (bytes := 1) (z := .int .u8 0) (by kernel_rfl) (by kernel_rfl) rfl rfl rfl rfl (by omega) (by omega) fun m => ⟨_, rfl, ?_⟩)
        refine WA.one (i := 3) (by kernel_rfl) ?_
        refine WO.r rfl Wt.none rfl (Ent.func Try.call19 rfl) (of_reads _ _ _ (by first | exact hu2 | exact hu2.mono fun x hx => List.mem_cons_of_mem _ hx) (by simp; omega)) ?_
        refine WA.one (i := 7) (by kernel_rfl) ?_
        refine WO.r rfl Wt.none rfl (Ent.func Try.call19 rfl) (of_reads _ _ _ (by first | exact hv2 | exact hv2.mono fun x hx => List.mem_cons_of_mem _ hx) (by simp; omega)) ?_
        refine WA.y (i := 8) (NoPanic.then (NoPanic.body)) rfl (by kernel_rfl) (by kernel_rfl) (by kernel_rfl) rfl (Yd.xor32 _ _ rfl rfl rfl rfl) ?_
        refine WA.one (i := 10) (by kernel_rfl) ?_
        refine WO.r rfl Wt.none rfl (Ent.func Try.call19 rfl) (of_reads _ _ _ (by first | exact hx | exact hx.mono fun x hx => List.mem_cons_of_mem _ hx) (by simp; omega)) ?_
        refine WA.y (i := 11) (NoPanic.then (NoPanic.body)) rfl (by kernel_rfl) (by kernel_rfl) (by kernel_rfl) rfl (Yd.xor32 _ _ rfl rfl rfl rfl) ?_
        refine WA.one (i := 14) (by kernel_rfl) ?_
        refine WO.r rfl Wt.none rfl (Ent.func Try.call19 rfl) (of_reads _ (List.replicate i 0#8) _ (Bs.block (by simp) (Nat.le_refl _) (by rw [rep_bc]; exact List.mem_cons_self)) (by simp; omega)) ?_
        refine WA.y (i := 15) (NoPanic.then (NoPanic.body)) rfl (by kernel_rfl) (by kernel_rfl) (by kernel_rfl) rfl (Yd.xor32 _ _ rfl rfl rfl rfl) ?_
        refine WA.y (i := 16) (NoPanic.then (NoPanic.body)) rfl (by kernel_rfl) (by kernel_rfl) (by kernel_rfl) rfl (Yd.eql32 _ (0#32) rfl rfl rfl rfl) ?_
        refine WA.renamed (t := 49) (v := .bool true) rfl (congrArg Value.bool (decide_eq_true (linear_law a b i hna hnb))) ?_
        refine WA.y (i := 17) (NoPanic.then (NoPanic.body)) rfl (by kernel_rfl) (by kernel_rfl) (by kernel_rfl) rfl (Yd.move rfl) ?_
        refine WA.one (i := 18) (by kernel_rfl) ?_
        refine WO.r rfl (Wt.yes (dj := 50) rfl rfl) rfl (Ent.func Try.call17 rfl) (known02 _) ?_
        refine WA.y (i := 19) (NoPanic.then (NoPanic.body)) rfl (by kernel_rfl) (by kernel_rfl) (by kernel_rfl) rfl (Yd.pickT rfl rfl) ?_
        refine WA.y (i := 20) (NoPanic.then (NoPanic.body)) rfl (by kernel_rfl) (by kernel_rfl) (by kernel_rfl) rfl (Yd.assign rfl) ?_
        refine WA.done (by kernel_rfl) ?_
        refine DN.then_normal ?_
        refine WC.ret ?_
        refine DN.forget H (by (repeat (first | exact List.Sublist.refl _ | exact List.nil_sublist _ | apply List.Sublist.cons_cons | apply List.Sublist.cons | apply List.sublist_append_of_sublist_right))) ?_
        refine DN.ret1 Try.results6 rfl ?_
        exact ⟨rfl, rfl⟩

/-- drayage/drayagelaw02.SumPieces -/
theorem law_SumPieces (v : Value) (ls : List (List B8)) (H : List Ck) (hv : Bss v ls H) (hl : ls.length ≤ 9223372036854775807) (hls : ∀ l ∈ ls, l.length ≤ 9223372036854775807) : Reads Try.prog 4 [v] H (.bool true) := by
  refine Tells.enter Try.func4 rfl Try.ntmps4 rfl ?_
  intro w0 R
  obtain ⟨vo, vc, rfl, hvc⟩ := Bss.form hv
  obtain ⟨vs, hrs, hvl, hvs⟩ := hv.open
  obtain ⟨N, hN⟩ : ∃ N, N = ls.length := ⟨_, rfl⟩
  rw [← hN] at hrs hvc
  rw [← hN]
  refine WC.seq ?_
  refine WC.region ?_
  refine WL.y rfl (Yd.assign rfl) ?_
  refine WL.nil ?_
  refine DN.then_normal ?_
  refine WC.seq ?_
  refine WC.region ?_
  refine WL.y rfl (Yd.move rfl) ?_
  refine WL.y rfl (Yd.len (e := 22) (by kernel_rfl) rfl) ?_
  refine WL.y rfl (Yd.assign rfl) ?_
  refine WL.nil ?_
  refine DN.then_normal ?_
  refine WC.seq ?_
  refine WC.seq ?_
  refine WC.region ?_
  refine WL.y rfl (Yd.assign rfl) ?_
  refine WL.nil ?_
  refine DN.then_normal ?_
  refine WC.block ?_
  refine WC.loop (fun i : Nat => i ≤ N ∧ N + capped (ls.take i) ≤ 9223372036854775807) (fun i => [(0, .slice vo N vc), (3, .int .i64 ((N + capped (ls.take i) : Nat) : Int)), (4, .int .i64 i)]) (fun _ => H) (fun i => N - i) 0 ⟨Nat.zero_le _, by simp [capped]; omega⟩ ⟨rfl, by simp [capped]; rfl, rfl, trivial⟩ (List.Perm.refl _) ?_
  rintro i ⟨hi, hib⟩
  refine WC.seq ?_
  refine WC.seq ?_
  refine WC.region ?_
  refine WL.y rfl (Yd.move rfl) ?_
  refine WL.y rfl (Yd.move rfl) ?_
  refine WL.y rfl (Yd.len (e := 22) (by kernel_rfl) rfl) ?_
  refine WL.y rfl (Yd.lss rfl rfl) ?_
  refine WL.y rfl (Yd.move rfl) ?_
  refine WL.partP (t := 15) rfl (fun hg15 => ?_) (fun hg15 => ?_)
  · refine WL.gy (dj := 15) rfl rfl rfl (Yd.move rfl) ?_
    refine WL.gy (dj := 15) rfl rfl rfl (Yd.leq rfl rfl) ?_
    refine WL.y rfl (Yd.pickT rfl rfl) ?_
    refine WL.nil ?_
    refine DN.then_normal ?_
    refine WC.ite rfl (fun h18 => ?_) (fun h18 => ?_)
    · obtain ⟨eo, ec, hg, hb⟩ := hvs i (by omega)
      have hli := hls ls[i] (List.getElem_mem _)
      have hcn := capped_next ls i (by omega)
      refine WC.skip ?_
      refine DN.then_normal ?_
      refine WC.seq ?_
      refine WC.block ?_
      refine WC.region ?_
      refine WL.y rfl (Yd.move rfl) ?_
      refine WL.y rfl (Yd.move rfl) ?_
      refine WL.y rfl (Yd.move rfl) ?_
      refine WL.elem (e := 22) (by kernel_rfl) (by kernel_rfl) (by kernel_rfl) rfl rfl (rfl) (hrs) (hg) (by omega) rfl rfl ?_
      intro _
      refine WL.y rfl (Yd.len (e := 5) (by kernel_rfl) rfl) ?_
      refine WL.y rfl (Yd.min2 rfl rfl) ?_
      refine WL.y rfl (Yd.add rfl rfl (by omega) (by omega)) ?_
      refine WL.renamed (t := 28) (v := .int .i64 ((N + (capped (ls.take i) + min ls[i].length 3000) : Nat) : Int)) rfl (congrArg (Value.int .i64) (by omega)) ?_
      refine WL.y rfl (Yd.assign rfl) ?_
      refine WL.nil ?_
      refine DN.block_normal ?_
      refine DN.then_normal ?_
      refine WC.region ?_
      refine WL.y rfl (Yd.move rfl) ?_
      refine WL.y rfl (Yd.add rfl rfl (by omega) (by omega)) ?_
      refine WL.y rfl (Yd.assign rfl) ?_
      refine WL.nil ?_
      exact DN.again (i + 1) ⟨by omega, by omega⟩ (by omega) ⟨rfl, by rw [hcn]; rfl, rfl, trivial⟩ (List.Perm.refl _)
    · refine WC.exit ?_
      refine DN.then_exit ?_
      refine DN.then_exit ?_
      refine DN.block_exit ?_
      refine DN.then_normal ?_
      refine WC.seq ?_
      refine WC.seq ?_
      refine WC.region ?_
      refine WL.y rfl (Yd.move rfl) ?_
      refine WL.y rfl (Yd.gtr rfl rfl) ?_
      refine WL.nil ?_
      refine DN.then_normal ?_
      refine WC.ite rfl (fun h30 => ?_) (fun h30 => ?_)
      · refine WC.seq ?_
        refine WC.region ?_
        refine WL.r rfl (Ent.func Try.call17 rfl) (known02 _) ?_
        refine WL.y rfl (Yd.assign rfl) ?_
        refine WL.nil ?_
        refine DN.then_normal ?_
        refine WC.ret ?_
        refine DN.then_ret ?_
        refine DN.forget H (by (repeat (first | exact List.Sublist.refl _ | exact List.nil_sublist _ | apply List.Sublist.cons_cons | apply List.Sublist.cons | apply List.sublist_append_of_sublist_right))) ?_
        refine DN.ret1 Try.results4 rfl ?_
        exact ⟨rfl, rfl⟩
      · have hiN : i = ls.length := by omega
        have hcap : capped ls = capped (ls.take i) := by rw [hiN, List.take_length]
        have hflat := capped_flat ls (by omega)
        have hflat3 : ls.flatten.length ≤ 3000 := by omega
        refine WC.skip ?_
        refine DN.then_normal ?_
        refine WC.seq ?_
        refine WC.region ?_
        refine WL.y rfl (Yd.assign rfl) ?_
        refine WL.nil ?_
        refine DN.then_normal ?_
        refine WC.seq ?_
        refine WC.region ?_
        refine WL.r rfl (Ent.func Try.call19 rfl) (of_reads _ [] _ (.inl ⟨_, _, rfl, rfl, rfl⟩) (by decide)) ?_
        refine WL.y rfl (Yd.assign rfl) ?_
        refine WL.nil ?_
        refine DN.then_normal ?_
        refine WC.seq ?_
        refine WC.region ?_
        refine WL.r rfl (Ent.func Try.call19 rfl) (of_reads _ [] _ (.inl ⟨_, _, rfl, rfl, rfl⟩) (by decide)) ?_
        refine WL.y rfl (Yd.assign rfl) ?_
        refine WL.nil ?_
        refine DN.then_normal ?_
        refine WC.seq ?_
        refine WC.seq ?_
        refine WC.region ?_
        refine WL.y rfl (Yd.assign rfl) ?_
        refine WL.nil ?_
        refine DN.then_normal ?_
        refine WC.block ?_
        refine WC.loop (fun z : Nat × Value × List Ck => z.1 ≤ N ∧ Ob 5 z.2.1 (ls.take z.1).flatten z.2.2) (fun z => [(0, .slice vo N vc), (5, z.2.1), (6, .int .u32 (crcOf (ls.take z.1).flatten).toNat), (7, .int .u32 (crcOf (ls.take z.1).flatten).toNat), (8, .int .i64 z.1)]) (fun z => z.2.2 ++ H) (fun z => N - z.1) (0, .slice none 0 0, []) ⟨Nat.zero_le _, Ob.nil _⟩ ⟨rfl, rfl, rfl, rfl, rfl, trivial⟩ (List.Perm.refl _) ?_
        rintro ⟨j, v5, C⟩ ⟨hj, ho⟩
        simp only at hj ho
        refine WC.seq ?_
        refine WC.seq ?_
        refine WC.region ?_
        refine WL.y rfl (Yd.move rfl) ?_
        refine WL.y rfl (Yd.move rfl) ?_
        refine WL.y rfl (Yd.len (e := 22) (by kernel_rfl) rfl) ?_
        refine WL.y rfl (Yd.lss rfl rfl) ?_
        refine WL.nil ?_
        refine DN.then_normal ?_
        refine WC.ite rfl (fun h37 => ?_) (fun h37 => ?_)
        · obtain ⟨eo, ec, hg, hb⟩ := hvs j (by omega)
          have hfm := flat_mono ls (j + 1)
          rw [flat_next ls j (by omega), List.length_append] at hfm
          obtain ⟨bv, ov, csv, Tv, frv, exv, ev_, hmv, hgv⟩ := hrs.at (by intro e; have h9 := congrArg List.length e; simp only [List.length_nil] at h9; omega)
          subst ev_
          have hcr := hgv j _ hg
          refine WC.skip ?_
          refine DN.then_normal ?_
          refine WC.seq ?_
          refine WC.block ?_
          refine WC.seq ?_
          refine WC.region ?_
          refine WL.y rfl (Yd.move rfl) ?_
          refine WL.y rfl (Yd.move rfl) ?_
          refine WL.y rfl (Yd.move rfl) ?_
          refine WL.elem (e := 22) (by kernel_rfl) (by kernel_rfl) (by kernel_rfl) rfl rfl (rfl) (hrs.mono fun x hx => List.mem_append_right _ hx) (hg) (by omega) rfl rfl ?_
          intro _
          refine WL.h rfl (Hd.appendB (e := 5) (zs := [.int .u8 0]) (C := C) (D := H) (by kernel_rfl) (by kernel_rfl) rfl rfl rfl ho (hb.mono fun x hx => List.mem_append_right _ hx) (by omega) (List.Perm.refl _) fun v6 C6 ho6 _ => ⟨_, rfl, ?_⟩)
          refine WL.y rfl (Yd.assign rfl) ?_
          refine WL.nil ?_
          refine DN.then_normal ?_
          refine WC.seq ?_
          refine WC.region ?_
          refine WL.y rfl (Yd.move rfl) ?_
          refine WL.y rfl (Yd.move rfl) ?_
          refine WL.y rfl (Yd.move rfl) ?_
          refine WL.elem (e := 22) (by kernel_rfl) (by kernel_rfl) (by kernel_rfl) rfl rfl (rfl) (hrs.mono fun x hx => List.mem_append_right _ hx) (hg) (by omega) rfl rfl ?_
          intro _
          refine WL.r rfl (Ent.func Try.call22 rfl) (more_reads _ _ ls[j] _ (hb.mono fun x hx => List.mem_append_right _ hx) (by omega)) ?_
          refine WL.y rfl (Yd.assign rfl) ?_
          refine WL.nil ?_
          refine DN.then_normal ?_
          refine WC.draw 14 (by kernel_rfl) rfl ?_
          refine WA.y (i := 0) (NoPanic.block (NoPanic.then (NoPanic.then (NoPanic.block (NoPanic.then (NoPanic.body)))))) rfl (by kernel_rfl) (by kernel_rfl) (by kernel_rfl) rfl (Yd.move rfl) ?_
          refine WA.y (i := 1) (NoPanic.block (NoPanic.then (NoPanic.then (NoPanic.block (NoPanic.then (NoPanic.body)))))) rfl (by kernel_rfl) (by kernel_rfl) (by kernel_rfl) rfl (Yd.move rfl) ?_
          refine WA.y (i := 2) (NoPanic.block (NoPanic.then (NoPanic.then (NoPanic.block (NoPanic.then (NoPanic.body)))))) rfl (by kernel_rfl) (by kernel_rfl) (by kernel_rfl) rfl (Yd.move rfl) ?_
          refine WA.y (i := 3) (NoPanic.block (NoPanic.then (NoPanic.then (NoPanic.block (NoPanic.then (NoPanic.body)))))) rfl (by kernel_rfl) (by kernel_rfl) (by kernel_rfl) rfl (Yd.indexAddr (e := 22) (s := 1) (by kernel_rfl) (by kernel_rfl) rfl rfl (by omega) (by omega)) ?_
          refine WA.y (i := 6) (NoPanic.block (NoPanic.then (NoPanic.then (NoPanic.block (NoPanic.then (NoPanic.body)))))) rfl (by kernel_rfl) (by kernel_rfl) (by kernel_rfl) rfl (Yd.move rfl) ?_
          refine WA.y (i := 7) (NoPanic.block (NoPanic.then (NoPanic.then (NoPanic.block (NoPanic.then (NoPanic.body)))))) rfl (by kernel_rfl) (by kernel_rfl) (by kernel_rfl) rfl (Yd.move rfl) ?_
          refine WA.y (i := 8) (NoPanic.block (NoPanic.then (NoPanic.then (NoPanic.block (NoPanic.then (NoPanic.body)))))) rfl (by kernel_rfl) (by kernel_rfl) (by kernel_rfl) rfl (Yd.indexAddr (e := 22) (s := 1) (by kernel_rfl) (by kernel_rfl) rfl rfl (by omega) (by omega)) ?_
          refine WA.two (i := 4) (j := 9) (by kernel_rfl) ?_ ?_
          · refine WO.h rfl Wt.none rfl (Hd.load1 (b := bv) (cs := csv.toList) (by kernel_rfl) rfl (List.mem_append_right _ (by simpa using hmv)) (by simpa using hcr) ⟨_, rfl, ?_⟩)
            refine WA.two (i := 5) (j := 9) (by kernel_rfl) ?_ ?_
            · refine WO.r rfl Wt.none rfl (Ent.func Try.call19 rfl) (of_reads _ ls[j] _ (hb.mono fun x hx => List.mem_append_right _ hx) (by omega)) ?_
              refine WA.one (i := 9) (by kernel_rfl) ?_
              refine WO.h rfl Wt.none rfl (Hd.load1 (b := bv) (cs := csv.toList) (by kernel_rfl) rfl (List.mem_append_right _ (by simpa using hmv)) (by simpa using hcr) ⟨_, rfl, ?_⟩)
              refine WA.y (i := 10) (NoPanic.block (NoPanic.then (NoPanic.then (NoPanic.block (NoPanic.then (NoPanic.body)))))) rfl (by kernel_rfl) (by kernel_rfl) (by kernel_rfl) rfl (Yd.len (e := 5) (by kernel_rfl) rfl) ?_
              refine WA.y (i := 11) (NoPanic.block (NoPanic.then (NoPanic.then (NoPanic.block (NoPanic.then (NoPanic.body)))))) rfl (by kernel_rfl) (by kernel_rfl) (by kernel_rfl) rfl (Yd.to64 (BitVec.ofNat 64 ls[j].length) (by kernel_rfl) (by kernel_rfl) rfl (ofInt_nat _)) ?_
              refine WA.one (i := 12) (by kernel_rfl) ?_
              refine WO.r rfl Wt.none rfl (Ent.func Try.call23 rfl) (join_reads _ _ (BitVec.ofNat 64 ls[j].length) _) ?_
              refine WA.y (i := 13) (NoPanic.block (NoPanic.then (NoPanic.then (NoPanic.block (NoPanic.then (NoPanic.body)))))) rfl (by kernel_rfl) (by kernel_rfl) (by kernel_rfl) rfl (Yd.assign rfl) ?_
              refine WA.done (by kernel_rfl) ?_
              refine DN.block_normal ?_
              refine DN.then_normal ?_
              refine WC.region ?_
              refine WL.y rfl (Yd.move rfl) ?_
              refine WL.y rfl (Yd.add rfl rfl (by omega) (by omega)) ?_
              refine WL.y rfl (Yd.assign rfl) ?_
              refine WL.nil ?_
              exact DN.again (j + 1, v6, C6) ⟨by show j + 1 ≤ N; omega, by rw [flat_next ls j (by omega)]; exact ho6⟩ (by show N - (j + 1) < N - j; omega) ⟨rfl, rfl, by rw [flat_next ls j (by omega)]; rw [← of_more]; rfl, by rw [flat_next ls j (by omega), ← join_pieces]; rw [ofNat_toNat (by omega)]; rfl, rfl, trivial⟩ (List.Perm.refl _)
            · refine WO.h rfl Wt.none rfl (Hd.load1 (b := bv) (cs := csv.toList) (by kernel_rfl) rfl (List.mem_append_right _ (by simpa using hmv)) (by simpa using hcr) ⟨_, rfl, ?_⟩)
              refine WA.y (i := 10) (NoPanic.block (NoPanic.then (NoPanic.then (NoPanic.block (NoPanic.then (NoPanic.body)))))) rfl (by kernel_rfl) (by kernel_rfl) (by kernel_rfl) rfl (Yd.len (e := 5) (by kernel_rfl) rfl) ?_
              refine WA.y (i := 11) (NoPanic.block (NoPanic.then (NoPanic.then (NoPanic.block (NoPanic.then (NoPanic.body)))))) rfl (by kernel_rfl) (by kernel_rfl) (by kernel_rfl) rfl (Yd.to64 (BitVec.ofNat 64 ls[j].length) (by kernel_rfl) (by kernel_rfl) rfl (ofInt_nat _)) ?_
              refine WA.one (i := 5) (by kernel_rfl) ?_
              refine WO.r rfl Wt.none rfl (Ent.func Try.call19 rfl) (of_reads _ ls[j] _ (hb.mono fun x hx => List.mem_append_right _ hx) (by omega)) ?_
              refine WA.one (i := 12) (by kernel_rfl) ?_
              refine WO.r rfl Wt.none rfl (Ent.func Try.call23 rfl) (join_reads _ _ (BitVec.ofNat 64 ls[j].length) _) ?_
              refine WA.y (i := 13) (NoPanic.block (NoPanic.then (NoPanic.then (NoPanic.block (NoPanic.then (NoPanic.body)))))) rfl (by kernel_rfl) (by kernel_rfl) (by kernel_rfl) rfl (Yd.assign rfl) ?_
              refine WA.done (by kernel_rfl) ?_
              refine DN.block_normal ?_
              refine DN.then_normal ?_
              refine WC.region ?_
              refine WL.y rfl (Yd.move rfl) ?_
              refine WL.y rfl (Yd.add rfl rfl (by omega) (by omega)) ?_
              refine WL.y rfl (Yd.assign rfl) ?_
              refine WL.nil ?_
              exact DN.again (j + 1, v6, C6) ⟨by show j + 1 ≤ N; omega, by rw [flat_next ls j (by omega)]; exact ho6⟩ (by show N - (j + 1) < N - j; omega) ⟨rfl, rfl, by rw [flat_next ls j (by omega)]; rw [← of_more]; rfl, by rw [flat_next ls j (by omega), ← join_pieces]; rw [ofNat_toNat (by omega)]; rfl, rfl, trivial⟩ (List.Perm.refl _)
          · refine WO.h rfl Wt.none rfl (Hd.load1 (b := bv) (cs := csv.toList) (by kernel_rfl) rfl (List.mem_append_right _ (by simpa using hmv)) (by simpa using hcr) ⟨_, rfl, ?_⟩)
            refine WA.y (i := 10) (NoPanic.block (NoPanic.then (NoPanic.then (NoPanic.block (NoPanic.then (NoPanic.body)))))) rfl (by kernel_rfl) (by kernel_rfl) (by kernel_rfl) rfl (Yd.len (e := 5) (by kernel_rfl) rfl) ?_
            refine WA.y (i := 11) (NoPanic.block (NoPanic.then (NoPanic.then (NoPanic.block (NoPanic.then (NoPanic.body)))))) rfl (by kernel_rfl) (by kernel_rfl) (by kernel_rfl) rfl (Yd.to64 (BitVec.ofNat 64 ls[j].length) (by kernel_rfl) (by kernel_rfl) rfl (ofInt_nat _)) ?_
            refine WA.one (i := 4) (by kernel_rfl) ?_
            refine WO.h rfl Wt.none rfl (Hd.load1 (b := bv) (cs := csv.toList) (by kernel_rfl) rfl (List.mem_append_right _ (by simpa using hmv)) (by simpa using hcr) ⟨_, rfl, ?_⟩)
            refine WA.one (i := 5) (by kernel_rfl) ?_
            refine WO.r rfl Wt.none rfl (Ent.func Try.call19 rfl) (of_reads _ ls[j] _ (hb.mono fun x hx => List.mem_append_right _ hx) (by omega)) ?_
            refine WA.one (i := 12) (by kernel_rfl) ?_
            refine WO.r rfl Wt.none rfl (Ent.func Try.call23 rfl) (join_reads _ _ (BitVec.ofNat 64 ls[j].length) _) ?_
            refine WA.y (i := 13) (NoPanic.block (NoPanic.then (NoPanic.then (NoPanic.block (NoPanic.then (NoPanic.body)))))) rfl (by kernel_rfl) (by kernel_rfl) (by kernel_rfl) rfl (Yd.assign rfl) ?_
            refine WA.done (by kernel_rfl) ?_
            refine DN.block_normal ?_
            refine DN.then_normal ?_
            refine WC.region ?_
            refine WL.y rfl (Yd.move rfl) ?_
            refine WL.y rfl (Yd.add rfl rfl (by omega) (by omega)) ?_
            refine WL.y rfl (Yd.assign rfl) ?_
            refine WL.nil ?_
            exact DN.again (j + 1, v6, C6) ⟨by show j + 1 ≤ N; omega, by rw [flat_next ls j (by omega)]; exact ho6⟩ (by show N - (j + 1) < N - j; omega) ⟨rfl, rfl, by rw [flat_next ls j (by omega)]; rw [← of_more]; rfl, by rw [flat_next ls j (by omega), ← join_pieces]; rw [ofNat_toNat (by omega)]; rfl, rfl, trivial⟩ (List.Perm.refl _)
        · have hjN : j = ls.length := by omega
          subst hjN
          rw [List.take_length]
          rw [List.take_length] at ho
          have hx := ho.bs.mono (B := C ++ H) fun x hx => List.mem_append_left _ hx
          refine WC.exit ?_
          refine DN.then_exit ?_
          refine DN.then_exit ?_
          refine DN.block_exit ?_
          refine DN.then_normal ?_
          refine WC.seq ?_
          refine WC.region ?_
          refine WL.y rfl (Yd.move rfl) ?_
          refine WL.y rfl (Yd.move rfl) ?_
          refine WL.r rfl (Ent.func Try.call19 rfl) (of_reads _ _ _ hx (by omega)) ?_
          refine WL.y rfl (Yd.eql32 _ _ rfl rfl rfl rfl) ?_
          refine WL.renamed (t := 68) (v := .bool true) rfl (congrArg Value.bool (decide_eq_true rfl)) ?_
          refine WL.y rfl (Yd.move rfl) ?_
          refine WL.gy (dj := 69) rfl rfl rfl (Yd.move rfl) ?_
          refine WL.gy (dj := 69) rfl rfl rfl (Yd.move rfl) ?_
          refine WL.gy (dj := 69) rfl rfl rfl (Yd.eql32 _ _ rfl rfl rfl rfl) ?_
          refine WL.renamed (t := 72) (v := .bool true) rfl (congrArg Value.bool (decide_eq_true rfl)) ?_
          refine WL.y rfl (Yd.pickT rfl rfl) ?_
          refine WL.y rfl (Yd.move rfl) ?_
          refine WL.gr (dj := 74) rfl rfl rfl (Ent.func Try.call17 rfl) (known02 _) ?_
          refine WL.y rfl (Yd.pickT rfl rfl) ?_
          refine WL.y rfl (Yd.assign rfl) ?_
          refine WL.nil ?_
          refine DN.then_normal ?_
          refine WC.ret ?_
          refine DN.forget H (by (repeat (first | exact List.Sublist.refl _ | exact List.nil_sublist _ | apply List.Sublist.cons_cons | apply List.Sublist.cons | apply List.sublist_append_of_sublist_right))) ?_
          refine DN.ret1 Try.results4 rfl ?_
          exact ⟨rfl, rfl⟩
  · refine WL.gn (dj := 15) rfl rfl rfl rfl ?_
    refine WL.gn (dj := 15) rfl rfl rfl rfl ?_
    refine WL.y rfl (Yd.pickF rfl rfl) ?_
    refine WL.nil ?_
    refine DN.then_normal ?_
    refine WC.no rfl ?_
    refine WC.exit ?_
    refine DN.then_exit ?_
    refine DN.then_exit ?_
    refine DN.block_exit ?_
    refine DN.then_normal ?_
    refine WC.seq ?_
    refine WC.seq ?_
    refine WC.region ?_
    refine WL.y rfl (Yd.move rfl) ?_
    refine WL.y rfl (Yd.gtr rfl rfl) ?_
    refine WL.nil ?_
    refine DN.then_normal ?_
    refine WC.ite rfl (fun h30 => ?_) (fun h30 => ?_)
    · refine WC.seq ?_
      refine WC.region ?_
      refine WL.r rfl (Ent.func Try.call17 rfl) (known02 _) ?_
      refine WL.y rfl (Yd.assign rfl) ?_
      refine WL.nil ?_
      refine DN.then_normal ?_
      refine WC.ret ?_
      refine DN.then_ret ?_
      refine DN.forget H (by (repeat (first | exact List.Sublist.refl _ | exact List.nil_sublist _ | apply List.Sublist.cons_cons | apply List.Sublist.cons | apply List.sublist_append_of_sublist_right))) ?_
      refine DN.ret1 Try.results4 rfl ?_
      exact ⟨rfl, rfl⟩
    · have hiN : i = ls.length := by omega
      have hcap : capped ls = capped (ls.take i) := by rw [hiN, List.take_length]
      have hflat := capped_flat ls (by omega)
      have hflat3 : ls.flatten.length ≤ 3000 := by omega
      refine WC.skip ?_
      refine DN.then_normal ?_
      refine WC.seq ?_
      refine WC.region ?_
      refine WL.y rfl (Yd.assign rfl) ?_
      refine WL.nil ?_
      refine DN.then_normal ?_
      refine WC.seq ?_
      refine WC.region ?_
      refine WL.r rfl (Ent.func Try.call19 rfl) (of_reads _ [] _ (.inl ⟨_, _, rfl, rfl, rfl⟩) (by decide)) ?_
      refine WL.y rfl (Yd.assign rfl) ?_
      refine WL.nil ?_
      refine DN.then_normal ?_
      refine WC.seq ?_
      refine WC.region ?_
      refine WL.r rfl (Ent.func Try.call19 rfl) (of_reads _ [] _ (.inl ⟨_, _, rfl, rfl, rfl⟩) (by decide)) ?_
      refine WL.y rfl (Yd.assign rfl) ?_
      refine WL.nil ?_
      refine DN.then_normal ?_
      refine WC.seq ?_
      refine WC.seq ?_
      refine WC.region ?_
      refine WL.y rfl (Yd.assign rfl) ?_
      refine WL.nil ?_
      refine DN.then_normal ?_
      refine WC.block ?_
      refine WC.loop (fun z : Nat × Value × List Ck => z.1 ≤ N ∧ Ob 5 z.2.1 (ls.take z.1).flatten z.2.2) (fun z => [(0, .slice vo N vc), (5, z.2.1), (6, .int .u32 (crcOf (ls.take z.1).flatten).toNat), (7, .int .u32 (crcOf (ls.take z.1).flatten).toNat), (8, .int .i64 z.1)]) (fun z => z.2.2 ++ H) (fun z => N - z.1) (0, .slice none 0 0, []) ⟨Nat.zero_le _, Ob.nil _⟩ ⟨rfl, rfl, rfl, rfl, rfl, trivial⟩ (List.Perm.refl _) ?_
      rintro ⟨j, v5, C⟩ ⟨hj, ho⟩
      simp only at hj ho
      refine WC.seq ?_
      refine WC.seq ?_
      refine WC.region ?_
      refine WL.y rfl (Yd.move rfl) ?_
      refine WL.y rfl (Yd.move rfl) ?_
      refine WL.y rfl (Yd.len (e := 22) (by kernel_rfl) rfl) ?_
      refine WL.y rfl (Yd.lss rfl rfl) ?_
      refine WL.nil ?_
      refine DN.then_normal ?_
      refine WC.ite rfl (fun h37 => ?_) (fun h37 => ?_)
      · obtain ⟨eo, ec, hg, hb⟩ := hvs j (by omega)
        have hfm := flat_mono ls (j + 1)
        rw [flat_next ls j (by omega), List.length_append] at hfm
        obtain ⟨bv, ov, csv, Tv, frv, exv, ev_, hmv, hgv⟩ := hrs.at (by intro e; have h9 := congrArg List.length e; simp only [List.length_nil] at h9; omega)
        subst ev_
        have hcr := hgv j _ hg
        refine WC.skip ?_
        refine DN.then_normal ?_
        refine WC.seq ?_
        refine WC.block ?_
        refine WC.seq ?_
        refine WC.region ?_
        refine WL.y rfl (Yd.move rfl) ?_
        refine WL.y rfl (Yd.move rfl) ?_
        refine WL.y rfl (Yd.move rfl) ?_
        refine WL.elem (e := 22) (by kernel_rfl) (by kernel_rfl) (by kernel_rfl) rfl rfl (rfl) (hrs.mono fun x hx => List.mem_append_right _ hx) (hg) (by omega) rfl rfl ?_
        intro _
        refine WL.h rfl (Hd.appendB (e := 5) (zs := [.int .u8 0]) (C := C) (D := H) (by kernel_rfl) (by kernel_rfl) rfl rfl rfl ho (hb.mono fun x hx => List.mem_append_right _ hx) (by omega) (List.Perm.refl _) fun v6 C6 ho6 _ => ⟨_, rfl, ?_⟩)
        refine WL.y rfl (Yd.assign rfl) ?_
        refine WL.nil ?_
        refine DN.then_normal ?_
        refine WC.seq ?_
        refine WC.region ?_
        refine WL.y rfl (Yd.move rfl) ?_
        refine WL.y rfl (Yd.move rfl) ?_
        refine WL.y rfl (Yd.move rfl) ?_
        refine WL.elem (e := 22) (by kernel_rfl) (by kernel_rfl) (by kernel_rfl) rfl rfl (rfl) (hrs.mono fun x hx => List.mem_append_right _ hx) (hg) (by omega) rfl rfl ?_
        intro _
        refine WL.r rfl (Ent.func Try.call22 rfl) (more_reads _ _ ls[j] _ (hb.mono fun x hx => List.mem_append_right _ hx) (by omega)) ?_
        refine WL.y rfl (Yd.assign rfl) ?_
        refine WL.nil ?_
        refine DN.then_normal ?_
        refine WC.draw 14 (by kernel_rfl) rfl ?_
        refine WA.y (i := 0) (NoPanic.block (NoPanic.then (NoPanic.then (NoPanic.block (NoPanic.then (NoPanic.body)))))) rfl (by kernel_rfl) (by kernel_rfl) (by kernel_rfl) rfl (Yd.move rfl) ?_
        refine WA.y (i := 1) (NoPanic.block (NoPanic.then (NoPanic.then (NoPanic.block (NoPanic.then (NoPanic.body)))))) rfl (by kernel_rfl) (by kernel_rfl) (by kernel_rfl) rfl (Yd.move rfl) ?_
        refine WA.y (i := 2) (NoPanic.block (NoPanic.then (NoPanic.then (NoPanic.block (NoPanic.then (NoPanic.body)))))) rfl (by kernel_rfl) (by kernel_rfl) (by kernel_rfl) rfl (Yd.move rfl) ?_
        refine WA.y (i := 3) (NoPanic.block (NoPanic.then (NoPanic.then (NoPanic.block (NoPanic.then (NoPanic.body)))))) rfl (by kernel_rfl) (by kernel_rfl) (by kernel_rfl) rfl (Yd.indexAddr (e := 22) (s := 1) (by kernel_rfl) (by kernel_rfl) rfl rfl (by omega) (by omega)) ?_
        refine WA.y (i := 6) (NoPanic.block (NoPanic.then (NoPanic.then (NoPanic.block (NoPanic.then (NoPanic.body)))))) rfl (by kernel_rfl) (by kernel_rfl) (by kernel_rfl) rfl (Yd.move rfl) ?_
        refine WA.y (i := 7) (NoPanic.block (NoPanic.then (NoPanic.then (NoPanic.block (NoPanic.then (NoPanic.body)))))) rfl (by kernel_rfl) (by kernel_rfl) (by kernel_rfl) rfl (Yd.move rfl) ?_
        refine WA.y (i := 8) (NoPanic.block (NoPanic.then (NoPanic.then (NoPanic.block (NoPanic.then (NoPanic.body)))))) rfl (by kernel_rfl) (by kernel_rfl) (by kernel_rfl) rfl (Yd.indexAddr (e := 22) (s := 1) (by kernel_rfl) (by kernel_rfl) rfl rfl (by omega) (by omega)) ?_
        refine WA.two (i := 4) (j := 9) (by kernel_rfl) ?_ ?_
        · refine WO.h rfl Wt.none rfl (Hd.load1 (b := bv) (cs := csv.toList) (by kernel_rfl) rfl (List.mem_append_right _ (by simpa using hmv)) (by simpa using hcr) ⟨_, rfl, ?_⟩)
          refine WA.two (i := 5) (j := 9) (by kernel_rfl) ?_ ?_
          · refine WO.r rfl Wt.none rfl (Ent.func Try.call19 rfl) (of_reads _ ls[j] _ (hb.mono fun x hx => List.mem_append_right _ hx) (by omega)) ?_
            refine WA.one (i := 9) (by kernel_rfl) ?_
            refine WO.h rfl Wt.none rfl (Hd.load1 (b := bv) (cs := csv.toList) (by kernel_rfl) rfl (List.mem_append_right _ (by simpa using hmv)) (by simpa using hcr) ⟨_, rfl, ?_⟩)
            refine WA.y (i := 10) (NoPanic.block (NoPanic.then (NoPanic.then (NoPanic.block (NoPanic.then (NoPanic.body)))))) rfl (by kernel_rfl) (by kernel_rfl) (by kernel_rfl) rfl (Yd.len (e := 5) (by kernel_rfl) rfl) ?_
            refine WA.y (i := 11) (NoPanic.block (NoPanic.then (NoPanic.then (NoPanic.block (NoPanic.then (NoPanic.body)))))) rfl (by kernel_rfl) (by kernel_rfl) (by kernel_rfl) rfl (Yd.to64 (BitVec.ofNat 64 ls[j].length) (by kernel_rfl) (by kernel_rfl) rfl (ofInt_nat _)) ?_
            refine WA.one (i := 12) (by kernel_rfl) ?_
            refine WO.r rfl Wt.none rfl (Ent.func Try.call23 rfl) (join_reads _ _ (BitVec.ofNat 64 ls[j].length) _) ?_
            refine WA.y (i := 13) (NoPanic.block (NoPanic.then (NoPanic.then (NoPanic.block (NoPanic.then (NoPanic.body)))))) rfl (by kernel_rfl) (by kernel_rfl) (by kernel_rfl) rfl (Yd.assign rfl) ?_
            refine WA.done (by kernel_rfl) ?_
            refine DN.block_normal ?_
            refine DN.then_normal ?_
            refine WC.region ?_
            refine WL.y rfl (Yd.move rfl) ?_
            refine WL.y rfl (Yd.add rfl rfl (by omega) (by omega)) ?_
            refine WL.y rfl (Yd.assign rfl) ?_
            refine WL.nil ?_
            exact DN.again (j + 1, v6, C6) ⟨by show j + 1 ≤ N; omega, by rw [flat_next ls j (by omega)]; exact ho6⟩ (by show N - (j + 1) < N - j; omega) ⟨rfl, rfl, by rw [flat_next ls j (by omega)]; rw [← of_more]; rfl, by rw [flat_next ls j (by omega), ← join_pieces]; rw [ofNat_toNat (by omega)]; rfl, rfl, trivial⟩ (List.Perm.refl _)
          · refine WO.h rfl Wt.none rfl (Hd.load1 (b := bv) (cs := csv.toList) (by kernel_rfl) rfl (List.mem_append_right _ (by simpa using hmv)) (by simpa using hcr) ⟨_, rfl, ?_⟩)
            refine WA.y (i := 10) (NoPanic.block (NoPanic.then (NoPanic.then (NoPanic.block (NoPanic.then (NoPanic.body)))))) rfl (by kernel_rfl) (by kernel_rfl) (by kernel_rfl) rfl (Yd.len (e := 5) (by kernel_rfl) rfl) ?_
            refine WA.y (i := 11) (NoPanic.block (NoPanic.then (NoPanic.then (NoPanic.block (NoPanic.then (NoPanic.body)))))) rfl (by kernel_rfl) (by kernel_rfl) (by kernel_rfl) rfl (Yd.to64 (BitVec.ofNat 64 ls[j].length) (by kernel_rfl) (by kernel_rfl) rfl (ofInt_nat _)) ?_
            refine WA.one (i := 5) (by kernel_rfl) ?_
            refine WO.r rfl Wt.none rfl (Ent.func Try.call19 rfl) (of_reads _ ls[j] _ (hb.mono fun x hx => List.mem_append_right _ hx) (by omega)) ?_
            refine WA.one (i := 12) (by kernel_rfl) ?_
            refine WO.r rfl Wt.none rfl (Ent.func Try.call23 rfl) (join_reads _ _ (BitVec.ofNat 64 ls[j].length) _) ?_
            refine WA.y (i := 13) (NoPanic.block (NoPanic.then (NoPanic.then (NoPanic.block (NoPanic.then (NoPanic.body)))))) rfl (by kernel_rfl) (by kernel_rfl) (by kernel_rfl) rfl (Yd.assign rfl) ?_
            refine WA.done (by kernel_rfl) ?_
            refine DN.block_normal ?_
            refine DN.then_normal ?_
            refine WC.region ?_
            refine WL.y rfl (Yd.move rfl) ?_
            refine WL.y rfl (Yd.add rfl rfl (by omega) (by omega)) ?_
            refine WL.y rfl (Yd.assign rfl) ?_
            refine WL.nil ?_
            exact DN.again (j + 1, v6, C6) ⟨by show j + 1 ≤ N; omega, by rw [flat_next ls j (by omega)]; exact ho6⟩ (by show N - (j + 1) < N - j; omega) ⟨rfl, rfl, by rw [flat_next ls j (by omega)]; rw [← of_more]; rfl, by rw [flat_next ls j (by omega), ← join_pieces]; rw [ofNat_toNat (by omega)]; rfl, rfl, trivial⟩ (List.Perm.refl _)
        · refine WO.h rfl Wt.none rfl (Hd.load1 (b := bv) (cs := csv.toList) (by kernel_rfl) rfl (List.mem_append_right _ (by simpa using hmv)) (by simpa using hcr) ⟨_, rfl, ?_⟩)
          refine WA.y (i := 10) (NoPanic.block (NoPanic.then (NoPanic.then (NoPanic.block (NoPanic.then (NoPanic.body)))))) rfl (by kernel_rfl) (by kernel_rfl) (by kernel_rfl) rfl (Yd.len (e := 5) (by kernel_rfl) rfl) ?_
          refine WA.y (i := 11) (NoPanic.block (NoPanic.then (NoPanic.then (NoPanic.block (NoPanic.then (NoPanic.body)))))) rfl (by kernel_rfl) (by kernel_rfl) (by kernel_rfl) rfl (Yd.to64 (BitVec.ofNat 64 ls[j].length) (by kernel_rfl) (by kernel_rfl) rfl (ofInt_nat _)) ?_
          refine WA.one (i := 4) (by kernel_rfl) ?_
          refine WO.h rfl Wt.none rfl (Hd.load1 (b := bv) (cs := csv.toList) (by kernel_rfl) rfl (List.mem_append_right _ (by simpa using hmv)) (by simpa using hcr) ⟨_, rfl, ?_⟩)
          refine WA.one (i := 5) (by kernel_rfl) ?_
          refine WO.r rfl Wt.none rfl (Ent.func Try.call19 rfl) (of_reads _ ls[j] _ (hb.mono fun x hx => List.mem_append_right _ hx) (by omega)) ?_
          refine WA.one (i := 12) (by kernel_rfl) ?_
          refine WO.r rfl Wt.none rfl (Ent.func Try.call23 rfl) (join_reads _ _ (BitVec.ofNat 64 ls[j].length) _) ?_
          refine WA.y (i := 13) (NoPanic.block (NoPanic.then (NoPanic.then (NoPanic.block (NoPanic.then (NoPanic.body)))))) rfl (by kernel_rfl) (by kernel_rfl) (by kernel_rfl) rfl (Yd.assign rfl) ?_
          refine WA.done (by kernel_rfl) ?_
          refine DN.block_normal ?_
          refine DN.then_normal ?_
          refine WC.region ?_
          refine WL.y rfl (Yd.move rfl) ?_
          refine WL.y rfl (Yd.add rfl rfl (by omega) (by omega)) ?_
          refine WL.y rfl (Yd.assign rfl) ?_
          refine WL.nil ?_
          exact DN.again (j + 1, v6, C6) ⟨by show j + 1 ≤ N; omega, by rw [flat_next ls j (by omega)]; exact ho6⟩ (by show N - (j + 1) < N - j; omega) ⟨rfl, rfl, by rw [flat_next ls j (by omega)]; rw [← of_more]; rfl, by rw [flat_next ls j (by omega), ← join_pieces]; rw [ofNat_toNat (by omega)]; rfl, rfl, trivial⟩ (List.Perm.refl _)
      · have hjN : j = ls.length := by omega
        subst hjN
        rw [List.take_length]
        rw [List.take_length] at ho
        have hx := ho.bs.mono (B := C ++ H) fun x hx => List.mem_append_left _ hx
        refine WC.exit ?_
        refine DN.then_exit ?_
        refine DN.then_exit ?_
        refine DN.block_exit ?_
        refine DN.then_normal ?_
        refine WC.seq ?_
        refine WC.region ?_
        refine WL.y rfl (Yd.move rfl) ?_
        refine WL.y rfl (Yd.move rfl) ?_
        refine WL.r rfl (Ent.func Try.call19 rfl) (of_reads _ _ _ hx (by omega)) ?_
        refine WL.y rfl (Yd.eql32 _ _ rfl rfl rfl rfl) ?_
        refine WL.renamed (t := 68) (v := .bool true) rfl (congrArg Value.bool (decide_eq_true rfl)) ?_
        refine WL.y rfl (Yd.move rfl) ?_
        refine WL.gy (dj := 69) rfl rfl rfl (Yd.move rfl) ?_
        refine WL.gy (dj := 69) rfl rfl rfl (Yd.move rfl) ?_
        refine WL.gy (dj := 69) rfl rfl rfl (Yd.eql32 _ _ rfl rfl rfl rfl) ?_
        refine WL.renamed (t := 72) (v := .bool true) rfl (congrArg Value.bool (decide_eq_true rfl)) ?_
        refine WL.y rfl (Yd.pickT rfl rfl) ?_
        refine WL.y rfl (Yd.move rfl) ?_
        refine WL.gr (dj := 74) rfl rfl rfl (Ent.func Try.call17 rfl) (known02 _) ?_
        refine WL.y rfl (Yd.pickT rfl rfl) ?_
        refine WL.y rfl (Yd.assign rfl) ?_
        refine WL.nil ?_
        refine DN.then_normal ?_
        refine WC.ret ?_
        refine DN.forget H (by (repeat (first | exact List.Sublist.refl _ | exact List.nil_sublist _ | apply List.Sublist.cons_cons | apply List.Sublist.cons | apply List.sublist_append_of_sublist_right))) ?_
        refine DN.ret1 Try.results4 rfl ?_
        exact ⟨rfl, rfl⟩

end Go.Proofs.Ytfacofbobmlmiaa
