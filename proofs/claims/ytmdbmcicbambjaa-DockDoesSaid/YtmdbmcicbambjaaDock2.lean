/-
  The walks of the dock's laws: the examples, DockLater.
-/
import Derived.Test.YtmdbmcicbambjaaDock
set_option linter.unusedVariables false
set_option linter.unusedSimpArgs false
set_option maxHeartbeats 4000000
set_option maxRecDepth 100000
namespace Go.Proofs.Ytmdbmcicbambjaa
open Go.SL
theorem book2_tells (p : Nat) (rs : List Int) (L : List Bk) (C : List Ck) (h : DockAt 55 3 p rs L C) (hok : RoomsOk rs) (hl : rs.length ≤ 1000000) (o : BitVec 32) (from_ n : Int) : Tells Try.prog 14 [.pointer (some ⟨p, 0, none⟩), .int .u32 o.toNat, .int .i64 from_, .int .i64 n] C fun r H' => r = .tuple #[.int .i64 (resOf (bookOf rs L o from_ n)).1, .int .i64 (resOf (bookOf rs L o from_ n)).2] ∧ DockAt 55 3 p (roomsB rs (bookOf rs L o from_ n) n) (listB L (bookOf rs L o from_ n) o n) H' :=
  (book_tells p rs L C h hok hl o from_ n).mono fun v H' hv => by
    cases hb : bookOf rs L o from_ n with
    | none => rw [hb] at hv; obtain ⟨rfl, rfl⟩ := hv; exact ⟨rfl, h⟩
    | some d => rw [hb] at hv; obtain ⟨rfl, h2⟩ := hv; exact ⟨rfl, h2⟩
theorem cancel2_tells (p : Nat) (rs : List Int) (L : List Bk) (C : List Ck) (h : DockAt 55 3 p rs L C) (o : BitVec 32) (hb : ∀ b, findB L o = some b → b.day < rs.length ∧ -9223372036854775808 ≤ rs.getD b.day 0 + b.n ∧ rs.getD b.day 0 + b.n ≤ 9223372036854775807) : Tells Try.prog 12 [.pointer (some ⟨p, 0, none⟩), .int .u32 o.toNat] C fun r H' => r = .int .i64 (resC (findB L o)) ∧ DockAt 55 3 p (roomsC rs (findB L o)) (listC L (findB L o) o) H' :=
  (cancel_tells p rs L C h o hb).mono fun v H' hv => by
    cases hf : findB L o with
    | none => rw [hf] at hv; obtain ⟨rfl, rfl⟩ := hv; exact ⟨rfl, h⟩
    | some b => rw [hf] at hv; obtain ⟨rfl, h2⟩ := hv; exact ⟨rfl, h2⟩
theorem goodOk {rs : List Int} (h : (rs.findIdx? badRoom).isSome = false) : RoomsOk rs := by
  intro j
  by_cases hj : j < rs.length
  · have h1 : rs.findIdx? badRoom = none := by
      cases e : rs.findIdx? badRoom with
      | none => rfl
      | some i => rw [e] at h; cases h
    have := (List.findIdx?_eq_none_iff.1 h1) rs[j] (List.getElem_mem hj)
    simp only [List.getD, List.getElem?_eq_getElem hj, Option.getD_some]
    simp [badRoom] at this
    exact this
  · have e : rs[j]? = none := List.getElem?_eq_none (by omega)
    simp [List.getD, e]


/-- drayage/drayagelaw11.known -/
theorem known11 (H : List Ck) : Reads Try.prog 9 [] H (.bool true) := by
  refine Tells.enter Try.func9 rfl Try.ntmps9 rfl ?_
  intro w0 R
  refine WC.seq ?_
  refine WC.region ?_
  refine WL.y rfl (Yd.assign rfl) ?_
  refine WL.nil ?_
  refine DN.then_normal ?_
  refine WC.seq ?_
  refine WC.region ?_
  refine WL.h rfl (Hd.buildSlice (e := 3) (sz := 1) (zs := [.int .i64 0]) (parts := [(0, .const (.int .i64 2)), (1, .const (.int .i64 0)), (2, .const (.int .i64 3))]) (vs := [(0, .int .i64 2), (1, .int .i64 0), (2, .int .i64 3)]) (cells := ic [2, 0, 3]) (by kernel_rfl) (by kernel_rfl) (by kernel_rfl) rfl (by kernel_rfl) (by kernel_rfl) fun rb => ⟨_, rfl, ?_⟩)
  refine WL.ca rfl (Ent.func Try.call10 rfl) (new_tells _ [2, 0, 3] _ (.inr ⟨rb, 0, 3, ic [2, 0, 3], 3, (0, 0), true, rfl, Nat.le_refl _, List.mem_cons_self, rfl⟩) (by decide)) ?_
  rintro q H1 hq
  rw [if_pos (by decide)] at hq
  obtain ⟨p, C1, rfl, h1, rfl⟩ := hq
  refine WL.y rfl (Yd.move rfl) ?_
  refine WL.y rfl (Yd.extract rfl rfl) ?_
  refine WL.y rfl (Yd.extract rfl rfl) ?_
  refine WL.y rfl (Yd.assign rfl) ?_
  refine WL.y rfl (Yd.assign rfl) ?_
  refine WL.nil ?_
  refine DN.then_normal ?_
  refine WC.seq ?_
  refine WC.seq ?_
  refine WC.region ?_
  refine WL.y rfl (Yd.move rfl) ?_
  refine WL.y rfl (Yd.neq rfl rfl) ?_
  refine WL.renamed (t := 18) (v := .bool false) rfl (congrArg Value.bool (by decide)) ?_
  refine WL.y rfl (Yd.move rfl) ?_
  refine WL.gy (dj := 19) rfl rfl rfl (Yd.move rfl) ?_
  refine WL.gy (dj := 19) rfl rfl rfl (Yd.eqlNil Try.underlying26 rfl rfl) ?_
  refine WL.renamed (t := 21) (v := .bool false) rfl (congrArg Value.bool (rfl)) ?_
  refine WL.y rfl (Yd.pickF rfl rfl) ?_
  refine WL.nil ?_
  refine DN.then_normal ?_
  refine WC.no rfl ?_
  refine WC.skip ?_
  refine DN.then_normal ?_
  refine WC.seq ?_
  refine WC.region ?_
  refine WL.y rfl (Yd.move rfl) ?_
  refine WL.c (D := (row rb (ic [2, 0, 3]) 3 :: H)) rfl (Ent.func Try.call14 rfl) (book2_tells p [2, 0, 3] [] C1 h1 (roomsOk_of (by decide)) (by decide) 1#32 0 2) (List.Perm.refl _) ?_
  rintro q C2 ⟨rfl, h2⟩
  replace h2 : DockAt 55 3 p [0, 0, 3] [⟨1#32, 0, 2⟩] C2 := h2
  refine WL.y rfl (Yd.move rfl) ?_
  refine WL.y rfl (Yd.extract rfl rfl) ?_
  refine WL.y rfl (Yd.extract rfl rfl) ?_
  refine WL.y rfl (Yd.assign rfl) ?_
  refine WL.y rfl (Yd.assign rfl) ?_
  refine WL.nil ?_
  refine DN.then_normal ?_
  refine WC.seq ?_
  refine WC.region ?_
  refine WL.y rfl (Yd.move rfl) ?_
  refine WL.c (D := (row rb (ic [2, 0, 3]) 3 :: H)) rfl (Ent.func Try.call14 rfl) (book2_tells p [0, 0, 3] [⟨1#32, 0, 2⟩] C2 h2 (roomsOk_of (by decide)) (by decide) 2#32 0 2) (List.Perm.refl _) ?_
  rintro q C3 ⟨rfl, h3⟩
  replace h3 : DockAt 55 3 p [0, 0, 1] [⟨1#32, 0, 2⟩, ⟨2#32, 2, 2⟩] C3 := h3
  refine WL.y rfl (Yd.move rfl) ?_
  refine WL.y rfl (Yd.extract rfl rfl) ?_
  refine WL.y rfl (Yd.extract rfl rfl) ?_
  refine WL.y rfl (Yd.assign rfl) ?_
  refine WL.y rfl (Yd.assign rfl) ?_
  refine WL.nil ?_
  refine DN.then_normal ?_
  refine WC.seq ?_
  refine WC.region ?_
  refine WL.y rfl (Yd.move rfl) ?_
  refine WL.c (D := (row rb (ic [2, 0, 3]) 3 :: H)) rfl (Ent.func Try.call14 rfl) (book2_tells p [0, 0, 1] [⟨1#32, 0, 2⟩, ⟨2#32, 2, 2⟩] C3 h3 (roomsOk_of (by decide)) (by decide) 3#32 0 2) (List.Perm.refl _) ?_
  rintro q C4 ⟨rfl, h4⟩
  replace h4 : DockAt 55 3 p [0, 0, 1] [⟨1#32, 0, 2⟩, ⟨2#32, 2, 2⟩] C4 := h4
  refine WL.y rfl (Yd.move rfl) ?_
  refine WL.y rfl (Yd.extract rfl rfl) ?_
  refine WL.y rfl (Yd.extract rfl rfl) ?_
  refine WL.y rfl (Yd.assign rfl) ?_
  refine WL.y rfl (Yd.assign rfl) ?_
  refine WL.nil ?_
  refine DN.then_normal ?_
  refine WC.seq ?_
  refine WC.region ?_
  refine WL.y rfl (Yd.move rfl) ?_
  refine WL.c (D := (row rb (ic [2, 0, 3]) 3 :: H)) rfl (Ent.func Try.call12 rfl) (cancel2_tells p [0, 0, 1] [⟨1#32, 0, 2⟩, ⟨2#32, 2, 2⟩] C4 h4 1#32 (by intro b hb; have e : b = ⟨1#32, 0, 2⟩ := (by simpa [findB] using hb.symm); subst e; decide)) (List.Perm.refl _) ?_
  rintro q C5 ⟨rfl, h5⟩
  replace h5 : DockAt 55 3 p [2, 0, 1] [⟨2#32, 2, 2⟩] C5 := h5
  refine WL.y rfl (Yd.assign rfl) ?_
  refine WL.nil ?_
  refine DN.then_normal ?_
  refine WC.seq ?_
  refine WC.region ?_
  refine WL.y rfl (Yd.move rfl) ?_
  refine WL.c (D := (row rb (ic [2, 0, 3]) 3 :: H)) rfl (Ent.func Try.call14 rfl) (book2_tells p [2, 0, 1] [⟨2#32, 2, 2⟩] C5 h5 (roomsOk_of (by decide)) (by decide) 3#32 0 2) (List.Perm.refl _) ?_
  rintro q C6 ⟨rfl, h6⟩
  replace h6 : DockAt 55 3 p [0, 0, 1] [⟨2#32, 2, 2⟩, ⟨3#32, 0, 2⟩] C6 := h6
  refine WL.y rfl (Yd.move rfl) ?_
  refine WL.y rfl (Yd.extract rfl rfl) ?_
  refine WL.y rfl (Yd.extract rfl rfl) ?_
  refine WL.y rfl (Yd.assign rfl) ?_
  refine WL.y rfl (Yd.assign rfl) ?_
  refine WL.nil ?_
  refine DN.then_normal ?_
  refine WC.seq ?_
  refine WC.region ?_
  refine WL.y rfl (Yd.move rfl) ?_
  refine WL.y rfl (Yd.eql rfl rfl) ?_
  refine WL.renamed (t := 46) (v := .bool true) rfl (congrArg Value.bool (by kernel_rfl)) ?_
  refine WL.y rfl (Yd.move rfl) ?_
  refine WL.gy (dj := 47) rfl rfl rfl (Yd.move rfl) ?_
  refine WL.gy (dj := 47) rfl rfl rfl (Yd.eql rfl rfl) ?_
  refine WL.renamed (t := 49) (v := .bool true) rfl (congrArg Value.bool (by kernel_rfl)) ?_
  refine WL.y rfl (Yd.pickT rfl rfl) ?_
  refine WL.y rfl (Yd.move rfl) ?_
  refine WL.gy (dj := 51) rfl rfl rfl (Yd.move rfl) ?_
  refine WL.gy (dj := 51) rfl rfl rfl (Yd.eql rfl rfl) ?_
  refine WL.renamed (t := 53) (v := .bool true) rfl (congrArg Value.bool (by kernel_rfl)) ?_
  refine WL.y rfl (Yd.pickT rfl rfl) ?_
  refine WL.y rfl (Yd.move rfl) ?_
  refine WL.gy (dj := 55) rfl rfl rfl (Yd.move rfl) ?_
  refine WL.gy (dj := 55) rfl rfl rfl (Yd.eql rfl rfl) ?_
  refine WL.renamed (t := 57) (v := .bool true) rfl (congrArg Value.bool (by kernel_rfl)) ?_
  refine WL.y rfl (Yd.pickT rfl rfl) ?_
  refine WL.y rfl (Yd.move rfl) ?_
  refine WL.gy (dj := 59) rfl rfl rfl (Yd.move rfl) ?_
  refine WL.gy (dj := 59) rfl rfl rfl (Yd.eql rfl rfl) ?_
  refine WL.renamed (t := 61) (v := .bool true) rfl (congrArg Value.bool (by kernel_rfl)) ?_
  refine WL.y rfl (Yd.pickT rfl rfl) ?_
  refine WL.y rfl (Yd.move rfl) ?_
  refine WL.gy (dj := 63) rfl rfl rfl (Yd.move rfl) ?_
  refine WL.gy (dj := 63) rfl rfl rfl (Yd.eql rfl rfl) ?_
  refine WL.renamed (t := 65) (v := .bool true) rfl (congrArg Value.bool (by kernel_rfl)) ?_
  refine WL.y rfl (Yd.pickT rfl rfl) ?_
  refine WL.y rfl (Yd.move rfl) ?_
  refine WL.gy (dj := 67) rfl rfl rfl (Yd.move rfl) ?_
  refine WL.gy (dj := 67) rfl rfl rfl (Yd.eql rfl rfl) ?_
  refine WL.renamed (t := 69) (v := .bool true) rfl (congrArg Value.bool (by kernel_rfl)) ?_
  refine WL.y rfl (Yd.pickT rfl rfl) ?_
  refine WL.y rfl (Yd.move rfl) ?_
  refine WL.gy (dj := 71) rfl rfl rfl (Yd.move rfl) ?_
  refine WL.gy (dj := 71) rfl rfl rfl (Yd.eql rfl rfl) ?_
  refine WL.renamed (t := 73) (v := .bool true) rfl (congrArg Value.bool (by kernel_rfl)) ?_
  refine WL.y rfl (Yd.pickT rfl rfl) ?_
  refine WL.y rfl (Yd.move rfl) ?_
  refine WL.gy (dj := 75) rfl rfl rfl (Yd.move rfl) ?_
  refine WL.gy (dj := 75) rfl rfl rfl (Yd.eql rfl rfl) ?_
  refine WL.renamed (t := 77) (v := .bool true) rfl (congrArg Value.bool (by kernel_rfl)) ?_
  refine WL.y rfl (Yd.pickT rfl rfl) ?_
  refine WL.y rfl (Yd.move rfl) ?_
  refine WL.gy (dj := 79) rfl rfl rfl (Yd.move rfl) ?_
  refine WL.gc (D := (row rb (ic [2, 0, 3]) 3 :: H)) (dj := 79) rfl rfl rfl (Ent.func Try.call15 rfl) (room_reads p [0, 0, 1] _ C6 h6 2) (List.Perm.refl _) ?_
  rintro q C7 ⟨rfl, rfl⟩
  refine WL.gy (dj := 79) rfl rfl rfl (Yd.eql rfl rfl) ?_
  refine WL.renamed (t := 82) (v := .bool true) rfl (congrArg Value.bool (by kernel_rfl)) ?_
  refine WL.y rfl (Yd.pickT rfl rfl) ?_
  refine WL.y rfl (Yd.assign rfl) ?_
  refine WL.nil ?_
  refine DN.then_normal ?_
  refine WC.ret ?_
  refine DN.forget H ((List.sublist_cons_self _ _).trans (List.sublist_append_right _ _)) ?_
  refine DN.ret1 Try.results9 rfl ?_
  exact ⟨rfl, rfl⟩

/-- drayage/drayagelaw11.DockLater -/
theorem law_DockLater (v : Value) (rs : List Int) (a b n m : Int) (H : List Ck) (hv : Rs v rs.length (ic rs) H) (hl : rs.length ≤ 9223372036854775807) : Reads Try.prog 4 [v, .int .i64 a, .int .i64 b, .int .i64 n, .int .i64 m] H (.bool true) := by
  refine Tells.enter Try.func4 rfl Try.ntmps4 rfl ?_
  intro w0 R
  obtain ⟨vo, vc, rfl, hvc⟩ := hv.form
  refine WC.seq ?_
  refine WC.region ?_
  refine WL.y rfl (Yd.assign rfl) ?_
  refine WL.nil ?_
  refine DN.then_normal ?_
  refine WC.seq ?_
  refine WC.seq ?_
  refine WC.region ?_
  refine WL.y rfl (Yd.move rfl) ?_
  refine WL.y rfl (Yd.len (e := 3) (by kernel_rfl) rfl) ?_
  refine WL.y rfl (Yd.gtr rfl rfl) ?_
  refine WL.nil ?_
  refine DN.then_normal ?_
  refine WC.ite rfl (fun h21 => ?_) (fun h21 => ?_)
  · refine WC.seq ?_
    refine WC.region ?_
    refine WL.r rfl (Ent.func Try.call9 rfl) (known11 _) ?_
    refine WL.y rfl (Yd.assign rfl) ?_
    refine WL.nil ?_
    refine DN.then_normal ?_
    refine WC.ret ?_
    refine DN.then_ret ?_
    refine DN.forget H (by (repeat (first | exact List.Sublist.refl _ | exact List.nil_sublist _ | apply List.Sublist.cons_cons | apply List.Sublist.cons | apply List.sublist_append_of_sublist_right))) ?_
    refine DN.ret1 Try.results4 rfl ?_
    first | exact ⟨rfl, rfl⟩ | (exfalso; have hll := later_law rs 1#32 a b n m (by omega) (by omega) (by omega); omega)
  · refine WC.skip ?_
    refine DN.then_normal ?_
    refine WC.seq ?_
    rcases Classical.em ((rs.findIdx? badRoom).isSome = false ∧ rs.length ≤ 60) with hA | hA
    · refine WC.region ?_
      refine WL.y rfl (Yd.move rfl) ?_
      refine WL.ca rfl (Ent.func Try.call10 rfl) (new_tells _ rs H hv hl) ?_
      rintro q H1 hq
      first | (rw [if_pos hA] at hq; obtain ⟨p1, C1, rfl, h1, rfl⟩ := hq) | (rw [if_neg hA] at hq; obtain ⟨rfl, hHq⟩ := hq; rw [hHq])
      refine WL.y rfl (Yd.move rfl) ?_
      refine WL.y rfl (Yd.extract rfl rfl) ?_
      refine WL.y rfl (Yd.extract rfl rfl) ?_
      refine WL.y rfl (Yd.assign rfl) ?_
      refine WL.y rfl (Yd.assign rfl) ?_
      refine WL.nil ?_
      refine DN.then_normal ?_
      refine WC.seq ?_
      refine WC.region ?_
      refine WL.y rfl (Yd.move rfl) ?_
      refine WL.ca rfl (Ent.func Try.call10 rfl) (new_tells _ rs _ (by first | exact hv | exact hv.mono fun y hy => List.mem_append_right _ hy) hl) ?_
      rintro q H2 hq
      first | (rw [if_pos hA] at hq; obtain ⟨p2, C2, rfl, h2, rfl⟩ := hq) | (rw [if_neg hA] at hq; obtain ⟨rfl, hHq⟩ := hq; rw [hHq])
      refine WL.y rfl (Yd.move rfl) ?_
      refine WL.y rfl (Yd.extract rfl rfl) ?_
      refine WL.y rfl (Yd.extract rfl rfl) ?_
      refine WL.y rfl (Yd.assign rfl) ?_
      refine WL.y rfl (Yd.assign rfl) ?_
      refine WL.nil ?_
      refine DN.then_normal ?_
      refine WC.seq ?_
      refine WC.seq ?_
      refine WC.region ?_
      refine WL.y rfl (Yd.move rfl) ?_
      refine WL.y rfl (Yd.neq rfl rfl) ?_
      refine WL.renamed (t := 34) (v := .bool false) rfl (congrArg Value.bool (by decide)) ?_
      refine WL.y rfl (Yd.move rfl) ?_
      refine WL.gy (dj := 35) rfl rfl rfl (Yd.move rfl) ?_
      refine WL.gy (dj := 35) rfl rfl rfl (Yd.neq rfl rfl) ?_
      refine WL.renamed (t := 37) (v := .bool false) rfl (congrArg Value.bool (by decide)) ?_
      refine WL.y rfl (Yd.pickF rfl rfl) ?_
      refine WL.nil ?_
      refine DN.then_normal ?_
      refine WC.no rfl ?_
      refine WC.skip ?_
      refine DN.then_normal ?_
      refine WC.seq ?_
      refine WC.region ?_
      refine WL.y rfl (Yd.move rfl) ?_
      refine WL.y rfl (Yd.move rfl) ?_
      refine WL.y rfl (Yd.move rfl) ?_
      refine WL.y rfl (Yd.min2 rfl rfl) ?_
      refine WL.y rfl (Yd.move rfl) ?_
      refine WL.y rfl (Yd.move rfl) ?_
      refine WL.y rfl (Yd.min2 rfl rfl) ?_
      refine WL.c (D := C2 ++ H) rfl (Ent.func Try.call14 rfl) (book2_tells p1 rs [] C1 h1 (goodOk hA.1) (by omega) 1#32 (min a b) (min n m)) (by classical exact List.perm_iff_count.2 fun q => by simp only [List.count_append, List.count_cons, List.count_nil]; omega) ?_
      rintro q C3 ⟨rfl, h3⟩
      refine WL.y rfl (Yd.move rfl) ?_
      refine WL.y rfl (Yd.extract rfl rfl) ?_
      refine WL.y rfl (Yd.extract rfl rfl) ?_
      refine WL.y rfl (Yd.assign rfl) ?_
      refine WL.y rfl (Yd.assign rfl) ?_
      refine WL.nil ?_
      refine DN.then_normal ?_
      refine WC.seq ?_
      refine WC.region ?_
      refine WL.y rfl (Yd.move rfl) ?_
      refine WL.y rfl (Yd.move rfl) ?_
      refine WL.y rfl (Yd.move rfl) ?_
      refine WL.y rfl (Yd.max2 rfl rfl) ?_
      refine WL.y rfl (Yd.move rfl) ?_
      refine WL.y rfl (Yd.move rfl) ?_
      refine WL.y rfl (Yd.max2 rfl rfl) ?_
      refine WL.c (D := C3 ++ H) rfl (Ent.func Try.call14 rfl) (book2_tells p2 rs [] C2 h2 (goodOk hA.1) (by omega) 1#32 (max a b) (max n m)) (by classical exact List.perm_iff_count.2 fun q => by simp only [List.count_append, List.count_cons, List.count_nil]; omega) ?_
      rintro q C4 ⟨rfl, h4⟩
      refine WL.y rfl (Yd.move rfl) ?_
      refine WL.y rfl (Yd.extract rfl rfl) ?_
      refine WL.y rfl (Yd.extract rfl rfl) ?_
      refine WL.y rfl (Yd.assign rfl) ?_
      refine WL.y rfl (Yd.assign rfl) ?_
      refine WL.nil ?_
      refine DN.then_normal ?_
      refine WC.seq ?_
      refine WC.seq ?_
      refine WC.region ?_
      refine WL.y rfl (Yd.move rfl) ?_
      refine WL.y rfl (Yd.eql rfl rfl) ?_
      refine WL.y rfl (Yd.move rfl) ?_
      refine WL.partP (t := 69) rfl (fun hg69 => ?_) (fun hg69 => ?_)
      · refine WL.gy (dj := 69) rfl rfl rfl (Yd.move rfl) ?_
        refine WL.gy (dj := 69) rfl rfl rfl (Yd.move rfl) ?_
        refine WL.gy (dj := 69) rfl rfl rfl (Yd.min2 rfl rfl) ?_
        refine WL.gy (dj := 69) rfl rfl rfl (Yd.geq rfl rfl) ?_
        refine WL.y rfl (Yd.pickT rfl rfl) ?_
        refine WL.y rfl (Yd.move rfl) ?_
        refine WL.partP (t := 75) rfl (fun hg75 => ?_) (fun hg75 => ?_)
        · refine WL.gy (dj := 75) rfl rfl rfl (Yd.move rfl) ?_
          refine WL.gy (dj := 75) rfl rfl rfl (Yd.move rfl) ?_
          refine WL.gy (dj := 75) rfl rfl rfl (Yd.min2 rfl rfl) ?_
          refine WL.gy (dj := 75) rfl rfl rfl (Yd.geq rfl rfl) ?_
          refine WL.y rfl (Yd.pickT rfl rfl) ?_
          refine WL.y rfl (Yd.move rfl) ?_
          refine WL.partP (t := 81) rfl (fun hg81 => ?_) (fun hg81 => ?_)
          · refine WL.gy (dj := 81) rfl rfl rfl (Yd.move rfl) ?_
            refine WL.gy (dj := 81) rfl rfl rfl (Yd.neq rfl rfl) ?_
            refine WL.gy (dj := 81) rfl rfl rfl (Yd.move rfl) ?_
            refine WL.partP (t := 84) rfl (fun hg84 => ?_) (fun hg84 => ?_)
            · refine WL.gn (dj := 84) rfl rfl rfl rfl ?_
              refine WL.gn (dj := 84) rfl rfl rfl rfl ?_
              refine WL.gn (dj := 84) rfl rfl rfl rfl ?_
              refine WL.gy (dj := 81) rfl rfl rfl (Yd.pickT rfl rfl) ?_
              refine WL.gy (dj := 81) rfl rfl rfl (Yd.move rfl) ?_
              refine WL.gn (dj := 89) rfl rfl rfl rfl ?_
              refine WL.gn (dj := 89) rfl rfl rfl rfl ?_
              refine WL.gn (dj := 89) rfl rfl rfl rfl ?_
              refine WL.gn (dj := 89) rfl rfl rfl rfl ?_
              refine WL.gn (dj := 89) rfl rfl rfl rfl ?_
              refine WL.gy (dj := 81) rfl rfl rfl (Yd.pickT rfl rfl) ?_
              refine WL.y rfl (Yd.pickT rfl rfl) ?_
              refine WL.nil ?_
              refine DN.then_normal ?_
              refine WC.yes rfl ?_
              refine WC.seq ?_
              refine WC.region ?_
              refine WL.y rfl (Yd.assign rfl) ?_
              refine WL.nil ?_
              refine DN.then_normal ?_
              refine WC.ret ?_
              refine DN.then_ret ?_
              refine DN.forget H (by (repeat (first | exact List.Sublist.refl _ | exact List.nil_sublist _ | apply List.Sublist.cons_cons | apply List.Sublist.cons | apply List.sublist_append_of_sublist_right))) ?_
              refine DN.ret1 Try.results4 rfl ?_
              first | exact ⟨rfl, rfl⟩ | (exfalso; have hll := later_law rs 1#32 a b n m (by omega) (by omega) (by omega); omega)
            · refine WL.gy (dj := 84) rfl rfl rfl (Yd.move rfl) ?_
              refine WL.gy (dj := 84) rfl rfl rfl (Yd.move rfl) ?_
              refine WL.gy (dj := 84) rfl rfl rfl (Yd.gtr rfl rfl) ?_
              refine WL.gy (dj := 81) rfl rfl rfl (Yd.pickF rfl rfl) ?_
              refine WL.gy (dj := 81) rfl rfl rfl (Yd.move rfl) ?_
              refine WL.partP (t := 89) rfl (fun hg89 => ?_) (fun hg89 => ?_)
              · refine WL.gn (dj := 89) rfl rfl rfl rfl ?_
                refine WL.gn (dj := 89) rfl rfl rfl rfl ?_
                refine WL.gn (dj := 89) rfl rfl rfl rfl ?_
                refine WL.gn (dj := 89) rfl rfl rfl rfl ?_
                refine WL.gn (dj := 89) rfl rfl rfl rfl ?_
                refine WL.gy (dj := 81) rfl rfl rfl (Yd.pickT rfl rfl) ?_
                refine WL.y rfl (Yd.pickT rfl rfl) ?_
                refine WL.nil ?_
                refine DN.then_normal ?_
                refine WC.yes rfl ?_
                refine WC.seq ?_
                refine WC.region ?_
                refine WL.y rfl (Yd.assign rfl) ?_
                refine WL.nil ?_
                refine DN.then_normal ?_
                refine WC.ret ?_
                refine DN.then_ret ?_
                refine DN.forget H (by (repeat (first | exact List.Sublist.refl _ | exact List.nil_sublist _ | apply List.Sublist.cons_cons | apply List.Sublist.cons | apply List.sublist_append_of_sublist_right))) ?_
                refine DN.ret1 Try.results4 rfl ?_
                first | exact ⟨rfl, rfl⟩ | (exfalso; have hll := later_law rs 1#32 a b n m (by omega) (by omega) (by omega); omega)
              · refine WL.gy (dj := 89) rfl rfl rfl (Yd.move rfl) ?_
                refine WL.gy (dj := 89) rfl rfl rfl (Yd.move rfl) ?_
                refine WL.gy (dj := 89) rfl rfl rfl (Yd.move rfl) ?_
                refine WL.gy (dj := 89) rfl rfl rfl (Yd.max2 rfl rfl) ?_
                refine WL.gy (dj := 89) rfl rfl rfl (Yd.lss rfl rfl) ?_
                refine WL.gy (dj := 81) rfl rfl rfl (Yd.pickF rfl rfl) ?_
                refine WL.y rfl (Yd.pickT rfl rfl) ?_
                refine WL.nil ?_
                refine DN.then_normal ?_
                refine WC.ite rfl (fun h96 => ?_) (fun h96 => ?_)
                · refine WC.seq ?_
                  refine WC.region ?_
                  refine WL.y rfl (Yd.assign rfl) ?_
                  refine WL.nil ?_
                  refine DN.then_normal ?_
                  refine WC.ret ?_
                  refine DN.then_ret ?_
                  refine DN.forget H (by (repeat (first | exact List.Sublist.refl _ | exact List.nil_sublist _ | apply List.Sublist.cons_cons | apply List.Sublist.cons | apply List.sublist_append_of_sublist_right))) ?_
                  refine DN.ret1 Try.results4 rfl ?_
                  first | exact ⟨rfl, rfl⟩ | (exfalso; have hll := later_law rs 1#32 a b n m (by omega) (by omega) (by omega); omega)
                · refine WC.skip ?_
                  refine DN.then_normal ?_
                  refine WC.seq ?_
                  refine WC.region ?_
                  refine WL.r rfl (Ent.func Try.call9 rfl) (known11 _) ?_
                  refine WL.y rfl (Yd.assign rfl) ?_
                  refine WL.nil ?_
                  refine DN.then_normal ?_
                  refine WC.ret ?_
                  refine DN.forget H (by (repeat (first | exact List.Sublist.refl _ | exact List.nil_sublist _ | apply List.Sublist.cons_cons | apply List.Sublist.cons | apply List.sublist_append_of_sublist_right))) ?_
                  refine DN.ret1 Try.results4 rfl ?_
                  first | exact ⟨rfl, rfl⟩ | (exfalso; have hll := later_law rs 1#32 a b n m (by omega) (by omega) (by omega); omega)
          · refine WL.gn (dj := 81) rfl rfl rfl rfl ?_
            refine WL.gn (dj := 81) rfl rfl rfl rfl ?_
            refine WL.gn (dj := 81) rfl rfl rfl rfl ?_
            refine WL.gu (dj := 84) rfl rfl rfl ?_
            refine WL.gu (dj := 84) rfl rfl rfl ?_
            refine WL.gu (dj := 84) rfl rfl rfl ?_
            refine WL.gn (dj := 81) rfl rfl rfl rfl ?_
            refine WL.gn (dj := 81) rfl rfl rfl rfl ?_
            refine WL.gu (dj := 89) rfl rfl rfl ?_
            refine WL.gu (dj := 89) rfl rfl rfl ?_
            refine WL.gu (dj := 89) rfl rfl rfl ?_
            refine WL.gu (dj := 89) rfl rfl rfl ?_
            refine WL.gu (dj := 89) rfl rfl rfl ?_
            refine WL.gn (dj := 81) rfl rfl rfl rfl ?_
            refine WL.y rfl (Yd.pickF rfl rfl) ?_
            refine WL.nil ?_
            refine DN.then_normal ?_
            refine WC.no rfl ?_
            refine WC.skip ?_
            refine DN.then_normal ?_
            refine WC.seq ?_
            refine WC.region ?_
            refine WL.r rfl (Ent.func Try.call9 rfl) (known11 _) ?_
            refine WL.y rfl (Yd.assign rfl) ?_
            refine WL.nil ?_
            refine DN.then_normal ?_
            refine WC.ret ?_
            refine DN.forget H (by (repeat (first | exact List.Sublist.refl _ | exact List.nil_sublist _ | apply List.Sublist.cons_cons | apply List.Sublist.cons | apply List.sublist_append_of_sublist_right))) ?_
            refine DN.ret1 Try.results4 rfl ?_
            first | exact ⟨rfl, rfl⟩ | (exfalso; have hll := later_law rs 1#32 a b n m (by omega) (by omega) (by omega); omega)
        · refine WL.gn (dj := 75) rfl rfl rfl rfl ?_
          refine WL.gn (dj := 75) rfl rfl rfl rfl ?_
          refine WL.gn (dj := 75) rfl rfl rfl rfl ?_
          refine WL.gn (dj := 75) rfl rfl rfl rfl ?_
          refine WL.y rfl (Yd.pickF rfl rfl) ?_
          refine WL.y rfl (Yd.move rfl) ?_
          refine WL.gn (dj := 81) rfl rfl rfl rfl ?_
          refine WL.gn (dj := 81) rfl rfl rfl rfl ?_
          refine WL.gn (dj := 81) rfl rfl rfl rfl ?_
          refine WL.gu (dj := 84) rfl rfl rfl ?_
          refine WL.gu (dj := 84) rfl rfl rfl ?_
          refine WL.gu (dj := 84) rfl rfl rfl ?_
          refine WL.gn (dj := 81) rfl rfl rfl rfl ?_
          refine WL.gn (dj := 81) rfl rfl rfl rfl ?_
          refine WL.gu (dj := 89) rfl rfl rfl ?_
          refine WL.gu (dj := 89) rfl rfl rfl ?_
          refine WL.gu (dj := 89) rfl rfl rfl ?_
          refine WL.gu (dj := 89) rfl rfl rfl ?_
          refine WL.gu (dj := 89) rfl rfl rfl ?_
          refine WL.gn (dj := 81) rfl rfl rfl rfl ?_
          refine WL.y rfl (Yd.pickF rfl rfl) ?_
          refine WL.nil ?_
          refine DN.then_normal ?_
          refine WC.no rfl ?_
          refine WC.skip ?_
          refine DN.then_normal ?_
          refine WC.seq ?_
          refine WC.region ?_
          refine WL.r rfl (Ent.func Try.call9 rfl) (known11 _) ?_
          refine WL.y rfl (Yd.assign rfl) ?_
          refine WL.nil ?_
          refine DN.then_normal ?_
          refine WC.ret ?_
          refine DN.forget H (by (repeat (first | exact List.Sublist.refl _ | exact List.nil_sublist _ | apply List.Sublist.cons_cons | apply List.Sublist.cons | apply List.sublist_append_of_sublist_right))) ?_
          refine DN.ret1 Try.results4 rfl ?_
          first | exact ⟨rfl, rfl⟩ | (exfalso; have hll := later_law rs 1#32 a b n m (by omega) (by omega) (by omega); omega)
      · refine WL.gn (dj := 69) rfl rfl rfl rfl ?_
        refine WL.gn (dj := 69) rfl rfl rfl rfl ?_
        refine WL.gn (dj := 69) rfl rfl rfl rfl ?_
        refine WL.gn (dj := 69) rfl rfl rfl rfl ?_
        refine WL.y rfl (Yd.pickF rfl rfl) ?_
        refine WL.y rfl (Yd.move rfl) ?_
        refine WL.gn (dj := 75) rfl rfl rfl rfl ?_
        refine WL.gn (dj := 75) rfl rfl rfl rfl ?_
        refine WL.gn (dj := 75) rfl rfl rfl rfl ?_
        refine WL.gn (dj := 75) rfl rfl rfl rfl ?_
        refine WL.y rfl (Yd.pickF rfl rfl) ?_
        refine WL.y rfl (Yd.move rfl) ?_
        refine WL.gn (dj := 81) rfl rfl rfl rfl ?_
        refine WL.gn (dj := 81) rfl rfl rfl rfl ?_
        refine WL.gn (dj := 81) rfl rfl rfl rfl ?_
        refine WL.gu (dj := 84) rfl rfl rfl ?_
        refine WL.gu (dj := 84) rfl rfl rfl ?_
        refine WL.gu (dj := 84) rfl rfl rfl ?_
        refine WL.gn (dj := 81) rfl rfl rfl rfl ?_
        refine WL.gn (dj := 81) rfl rfl rfl rfl ?_
        refine WL.gu (dj := 89) rfl rfl rfl ?_
        refine WL.gu (dj := 89) rfl rfl rfl ?_
        refine WL.gu (dj := 89) rfl rfl rfl ?_
        refine WL.gu (dj := 89) rfl rfl rfl ?_
        refine WL.gu (dj := 89) rfl rfl rfl ?_
        refine WL.gn (dj := 81) rfl rfl rfl rfl ?_
        refine WL.y rfl (Yd.pickF rfl rfl) ?_
        refine WL.nil ?_
        refine DN.then_normal ?_
        refine WC.no rfl ?_
        refine WC.skip ?_
        refine DN.then_normal ?_
        refine WC.seq ?_
        refine WC.region ?_
        refine WL.r rfl (Ent.func Try.call9 rfl) (known11 _) ?_
        refine WL.y rfl (Yd.assign rfl) ?_
        refine WL.nil ?_
        refine DN.then_normal ?_
        refine WC.ret ?_
        refine DN.forget H (by (repeat (first | exact List.Sublist.refl _ | exact List.nil_sublist _ | apply List.Sublist.cons_cons | apply List.Sublist.cons | apply List.sublist_append_of_sublist_right))) ?_
        refine DN.ret1 Try.results4 rfl ?_
        first | exact ⟨rfl, rfl⟩ | (exfalso; have hll := later_law rs 1#32 a b n m (by omega) (by omega) (by omega); omega)
    · refine WC.region ?_
      refine WL.y rfl (Yd.move rfl) ?_
      refine WL.ca rfl (Ent.func Try.call10 rfl) (new_tells _ rs H hv hl) ?_
      rintro q H1 hq
      first | (rw [if_pos hA] at hq; obtain ⟨p1, C1, rfl, h1, rfl⟩ := hq) | (rw [if_neg hA] at hq; obtain ⟨rfl, hHq⟩ := hq; rw [hHq])
      refine WL.y rfl (Yd.move rfl) ?_
      refine WL.y rfl (Yd.extract rfl rfl) ?_
      refine WL.y rfl (Yd.extract rfl rfl) ?_
      refine WL.y rfl (Yd.assign rfl) ?_
      refine WL.y rfl (Yd.assign rfl) ?_
      refine WL.nil ?_
      refine DN.then_normal ?_
      refine WC.seq ?_
      refine WC.region ?_
      refine WL.y rfl (Yd.move rfl) ?_
      refine WL.ca rfl (Ent.func Try.call10 rfl) (new_tells _ rs _ (by first | exact hv | exact hv.mono fun y hy => List.mem_append_right _ hy) hl) ?_
      rintro q H2 hq
      first | (rw [if_pos hA] at hq; obtain ⟨p2, C2, rfl, h2, rfl⟩ := hq) | (rw [if_neg hA] at hq; obtain ⟨rfl, hHq⟩ := hq; rw [hHq])
      refine WL.y rfl (Yd.move rfl) ?_
      refine WL.y rfl (Yd.extract rfl rfl) ?_
      refine WL.y rfl (Yd.extract rfl rfl) ?_
      refine WL.y rfl (Yd.assign rfl) ?_
      refine WL.y rfl (Yd.assign rfl) ?_
      refine WL.nil ?_
      refine DN.then_normal ?_
      refine WC.seq ?_
      refine WC.seq ?_
      refine WC.region ?_
      refine WL.y rfl (Yd.move rfl) ?_
      refine WL.y rfl (Yd.neq rfl rfl) ?_
      refine WL.renamed (t := 34) (v := .bool true) rfl (congrArg Value.bool (by decide)) ?_
      refine WL.y rfl (Yd.move rfl) ?_
      refine WL.gn (dj := 35) rfl rfl rfl rfl ?_
      refine WL.gn (dj := 35) rfl rfl rfl rfl ?_
      refine WL.y rfl (Yd.pickT rfl rfl) ?_
      refine WL.nil ?_
      refine DN.then_normal ?_
      refine WC.yes rfl ?_
      refine WC.seq ?_
      refine WC.region ?_
      refine WL.y rfl (Yd.move rfl) ?_
      refine WL.y rfl (Yd.move rfl) ?_
      refine WL.y rfl (Yd.eql rfl rfl) ?_
      refine WL.renamed (t := 41) (v := .bool true) rfl (congrArg Value.bool (by decide)) ?_
      refine WL.y rfl (Yd.move rfl) ?_
      refine WL.gr (dj := 42) rfl rfl rfl (Ent.func Try.call9 rfl) (known11 _) ?_
      refine WL.y rfl (Yd.pickT rfl rfl) ?_
      refine WL.y rfl (Yd.assign rfl) ?_
      refine WL.nil ?_
      refine DN.then_normal ?_
      refine WC.ret ?_
      refine DN.then_ret ?_
      refine DN.forget H (by (repeat (first | exact List.Sublist.refl _ | exact List.nil_sublist _ | apply List.Sublist.cons_cons | apply List.Sublist.cons | apply List.sublist_append_of_sublist_right))) ?_
      refine DN.ret1 Try.results4 rfl ?_
      first | exact ⟨rfl, rfl⟩ | (exfalso; have hll := later_law rs 1#32 a b n m (by omega) (by omega) (by omega); omega)

end Go.Proofs.Ytmdbmcicbambjaa
