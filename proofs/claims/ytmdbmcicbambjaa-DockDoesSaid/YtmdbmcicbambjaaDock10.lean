/-
  The walks of a dock that is not there, and of DockOnce.
-/
import Derived.Test.YtmdbmcicbambjaaDock9
set_option linter.unusedVariables false
set_option linter.unusedSimpArgs false
set_option maxHeartbeats 4000000
namespace Go.Proofs.Ytmdbmcicbambjaa
open Go.SL
theorem findB_gone2 (L : List Bk) (o : BitVec 32) : findB (listC L (findB L o) o) o = none := findB_gone L o


/-- (*drayage/dock.Dock).Book -/
theorem book_nil (o : BitVec 32) (f n : Int) (H : List Ck) : Reads Try.prog 14 [.pointer none, .int .u32 o.toNat, .int .i64 f, .int .i64 n] H (.tuple #[.int .i64 0, .int .i64 2]) := by
  refine Tells.enter Try.func14 rfl Try.ntmps14 rfl ?_
  intro w0 R
  refine WC.seq ?_
  refine WC.region ?_
  refine WL.y rfl (Yd.assign rfl) ?_
  refine WL.y rfl (Yd.assign rfl) ?_
  refine WL.nil ?_
  refine DN.then_normal ?_
  refine WC.seq ?_
  refine WC.seq ?_
  refine WC.region ?_
  refine WL.y rfl (Yd.move rfl) ?_
  refine WL.y rfl (Yd.eqlNil Try.underlying26 rfl rfl) ?_
  refine WL.renamed (t := 15) (v := .bool true) rfl (congrArg Value.bool (rfl)) ?_
  refine WL.y rfl (Yd.move rfl) ?_
  refine WL.gn (dj := 16) rfl rfl rfl rfl ?_
  refine WL.gn (dj := 16) rfl rfl rfl rfl ?_
  refine WL.y rfl (Yd.pickT rfl rfl) ?_
  refine WL.y rfl (Yd.move rfl) ?_
  refine WL.gn (dj := 20) rfl rfl rfl rfl ?_
  refine WL.gn (dj := 20) rfl rfl rfl rfl ?_
  refine WL.y rfl (Yd.pickT rfl rfl) ?_
  refine WL.y rfl (Yd.move rfl) ?_
  refine WL.gn (dj := 24) rfl rfl rfl rfl ?_
  refine WL.gn (dj := 24) rfl rfl rfl rfl ?_
  refine WL.y rfl (Yd.pickT rfl rfl) ?_
  refine WL.nil ?_
  refine DN.then_normal ?_
  refine WC.yes rfl ?_
  refine WC.seq ?_
  refine WC.region ?_
  refine WL.y rfl (Yd.assign rfl) ?_
  refine WL.y rfl (Yd.assign rfl) ?_
  refine WL.nil ?_
  refine DN.then_normal ?_
  refine WC.ret ?_
  refine DN.then_ret ?_
  refine DN.ret2 Try.results14 rfl rfl ?_
  exact ⟨rfl, rfl⟩

/-- (*drayage/dock.Dock).Cancel -/
theorem cancel_nil (o : BitVec 32) (H : List Ck) : Reads Try.prog 12 [.pointer none, .int .u32 o.toNat] H (.int .i64 2) := by
  refine Tells.enter Try.func12 rfl Try.ntmps12 rfl ?_
  intro w0 R
  refine WC.seq ?_
  refine WC.region ?_
  refine WL.y rfl (Yd.assign rfl) ?_
  refine WL.nil ?_
  refine DN.then_normal ?_
  refine WC.seq ?_
  refine WC.seq ?_
  refine WC.region ?_
  refine WL.y rfl (Yd.move rfl) ?_
  refine WL.y rfl (Yd.eqlNil Try.underlying26 rfl rfl) ?_
  refine WL.renamed (t := 8) (v := .bool true) rfl (congrArg Value.bool (rfl)) ?_
  refine WL.nil ?_
  refine DN.then_normal ?_
  refine WC.yes rfl ?_
  refine WC.seq ?_
  refine WC.region ?_
  refine WL.y rfl (Yd.assign rfl) ?_
  refine WL.nil ?_
  refine DN.then_normal ?_
  refine WC.ret ?_
  refine DN.then_ret ?_
  refine DN.ret1 Try.results12 rfl ?_
  exact ⟨rfl, rfl⟩

/-- (*drayage/dock.Dock).Room -/
theorem room_nil (d : Int) (H : List Ck) : Reads Try.prog 15 [.pointer none, .int .i64 d] H (.int .i64 0) := by
  refine Tells.enter Try.func15 rfl Try.ntmps15 rfl ?_
  intro w0 R
  refine WC.seq ?_
  refine WC.region ?_
  refine WL.y rfl (Yd.assign rfl) ?_
  refine WL.nil ?_
  refine DN.then_normal ?_
  refine WC.seq ?_
  refine WC.seq ?_
  refine WC.region ?_
  refine WL.y rfl (Yd.move rfl) ?_
  refine WL.y rfl (Yd.eqlNil Try.underlying26 rfl rfl) ?_
  refine WL.renamed (t := 6) (v := .bool true) rfl (congrArg Value.bool (rfl)) ?_
  refine WL.y rfl (Yd.move rfl) ?_
  refine WL.gn (dj := 7) rfl rfl rfl rfl ?_
  refine WL.gn (dj := 7) rfl rfl rfl rfl ?_
  refine WL.y rfl (Yd.pickT rfl rfl) ?_
  refine WL.y rfl (Yd.move rfl) ?_
  refine WL.gn (dj := 11) rfl rfl rfl rfl ?_
  refine WL.gn (dj := 11) rfl rfl rfl rfl ?_
  refine WL.gn (dj := 11) rfl rfl rfl rfl ?_
  refine WL.gn (dj := 11) rfl rfl rfl rfl ?_
  refine WL.gn (dj := 11) rfl rfl rfl rfl ?_
  refine WL.gn (dj := 11) rfl rfl rfl rfl ?_
  refine WL.gn (dj := 11) rfl rfl rfl rfl ?_
  refine WL.y rfl (Yd.pickT rfl rfl) ?_
  refine WL.nil ?_
  refine DN.then_normal ?_
  refine WC.yes rfl ?_
  refine WC.seq ?_
  refine WC.region ?_
  refine WL.y rfl (Yd.assign rfl) ?_
  refine WL.nil ?_
  refine DN.then_normal ?_
  refine WC.ret ?_
  refine DN.then_ret ?_
  refine DN.ret1 Try.results15 rfl ?_
  exact ⟨rfl, rfl⟩

/-- (*drayage/dock.Dock).Bookings -/
theorem bookings_nil (H : List Ck) : Reads Try.prog 19 [.pointer none] H (.slice none 0 0) := by
  refine Tells.enter Try.func19 rfl Try.ntmps19 rfl ?_
  intro w0 R
  refine WC.seq ?_
  refine WC.region ?_
  refine WL.y rfl (Yd.assign rfl) ?_
  refine WL.nil ?_
  refine DN.then_normal ?_
  refine WC.seq ?_
  refine WC.seq ?_
  refine WC.region ?_
  refine WL.y rfl (Yd.move rfl) ?_
  refine WL.y rfl (Yd.eqlNil Try.underlying26 rfl rfl) ?_
  refine WL.renamed (t := 7) (v := .bool true) rfl (congrArg Value.bool (rfl)) ?_
  refine WL.nil ?_
  refine DN.then_normal ?_
  refine WC.yes rfl ?_
  refine WC.seq ?_
  refine WC.region ?_
  refine WL.y rfl (Yd.assign rfl) ?_
  refine WL.nil ?_
  refine DN.then_normal ?_
  refine WC.ret ?_
  refine DN.then_ret ?_
  refine DN.ret1 Try.results19 rfl ?_
  exact ⟨rfl, rfl⟩

/-- drayage/drayagelaw11.DockOnce -/
theorem law_DockOnce (v va : Value) (rs : List Int) (acts : List Ac) (o : BitVec 32) (from_ n : Int) (H : List Ck) (hv : Rs v rs.length (ic rs) H) (hl : rs.length ≤ 9223372036854775807) (hva : Rs va acts.length (acs acts) H) (hla : acts.length ≤ 9223372036854775807) : Reads Try.prog 7 [v, va, .int .u32 o.toNat, .int .i64 from_, .int .i64 n] H (.bool true) := by
  refine Tells.enter Try.func7 rfl Try.ntmps7 rfl ?_
  intro w0 R
  obtain ⟨vo, vc, rfl, hvc⟩ := hv.form
  obtain ⟨ao, ac, rfl, hac⟩ := hva.form
  refine WC.seq ?_
  refine WC.region ?_
  refine WL.y rfl (Yd.assign rfl) ?_
  refine WL.nil ?_
  refine DN.then_normal ?_
  refine WC.seq ?_
  refine WC.seq ?_
  refine WC.region ?_
  refine WL.y rfl (Yd.move rfl) ?_
  refine WL.y rfl (Yd.len (e := 3) (by kernel_rfl) rfl) ?_
  refine WL.y rfl (Yd.gtr rfl rfl) ?_
  refine WL.nil ?_
  refine DN.then_normal ?_
  refine WC.ite rfl (fun h27 => ?_) (fun h27 => ?_)
  · refine WC.seq ?_
    refine WC.region ?_
    refine WL.r rfl (Ent.func Try.call9 rfl) (known11 _) ?_
    refine WL.y rfl (Yd.assign rfl) ?_
    refine WL.nil ?_
    refine DN.then_normal ?_
    refine WC.ret ?_
    refine DN.then_ret ?_
    refine DN.forget H (by (repeat (first | exact List.Sublist.refl _ | exact List.nil_sublist _ | apply List.Sublist.cons_cons | apply List.Sublist.cons | apply List.sublist_append_of_sublist_right))) ?_
    refine DN.ret1 Try.results7 rfl ?_
    exact ⟨rfl, rfl⟩
  · refine WC.skip ?_
    refine DN.then_normal ?_
    refine WC.seq ?_
    rcases Classical.em ((rs.findIdx? badRoom).isSome = false ∧ rs.length ≤ 60) with hA | hA
    · refine WC.region ?_
      refine WL.y rfl (Yd.move rfl) ?_
      refine WL.ca rfl (Ent.func Try.call10 rfl) (new_tells _ rs H hv hl) ?_
      rintro q H1 hq
      first | (rw [if_pos hA] at hq; obtain ⟨p, C1, rfl, h1, rfl⟩ := hq) | (rw [if_neg hA] at hq; obtain ⟨rfl, hHq⟩ := hq; rw [hHq])
      refine WL.y rfl (Yd.move rfl) ?_
      refine WL.y rfl (Yd.extract rfl rfl) ?_
      refine WL.y rfl (Yd.extract rfl rfl) ?_
      refine WL.y rfl (Yd.assign rfl) ?_
      refine WL.y rfl (Yd.assign rfl) ?_
      refine WL.nil ?_
      refine DN.then_normal ?_
      refine WC.seq ?_
      refine WC.seq ?_
      refine WC.region ?_
      refine WL.y rfl (Yd.move rfl) ?_
      refine WL.y rfl (Yd.neq rfl rfl) ?_
      refine WL.renamed (t := 35) (v := .bool false) rfl (congrArg Value.bool (by decide)) ?_
      refine WL.nil ?_
      refine DN.then_normal ?_
      refine WC.no rfl ?_
      refine WC.skip ?_
      refine DN.then_normal ?_
      refine WC.seq ?_
      refine WC.seq ?_
      refine WC.region ?_
      refine WL.y rfl (Yd.assign rfl) ?_
      refine WL.nil ?_
      refine DN.then_normal ?_
      refine WC.block ?_
      refine WC.loopS (fun z : Nat × List Int × List Bk × List Ck => z.1 ≤ acts.length ∧ DockAt 55 3 p z.2.1 z.2.2.1 z.2.2.2 ∧ DInv rs z.2.1 z.2.2.1) (fun z : Nat × List Int × List Bk × List Ck => [(13, .int .i64 (z.1 : Int))]) (fun z : Nat × List Int × List Bk × List Ck => z.2.2.2 ++ H) (fun z : Nat × List Int × List Bk × List Ck => acts.length - z.1) (⟨0, rs, [], C1⟩) (show 0 ≤ acts.length ∧ DockAt 55 3 p rs [] C1 ∧ DInv rs rs [] from ⟨Nat.zero_le _, h1, DInv.start (goodOk hA.1) hA.2⟩) (Sx.put rfl ((by repeat (first | exact Sx.refl | refine Sx.skip rfl ?_)))) (by repeat (first | exact Sp.here | exact Sp.sn | exact Sp.s0 | exact Fr.here | apply Sp.s2 | apply Sp.sx | apply Fr.fc | apply Fr.al | apply Fr.fa | apply Sp.sc | apply Sp.al | apply Sp.sa)) ?_
      rintro ⟨i, rs1, L1, C2⟩ hI
      replace hI : i ≤ acts.length ∧ DockAt 55 3 p rs1 L1 C2 ∧ DInv rs rs1 L1 := hI
      obtain ⟨hi, h2, inv⟩ := hI
      change WC _ _ _ _ _ _ ([(13, .int .i64 (i : Int))] ++ _) (C2 ++ H)
      refine WC.seq ?_
      refine WC.seq ?_
      refine WC.region ?_
      refine WL.y rfl (Yd.move rfl) ?_
      refine WL.y rfl (Yd.move rfl) ?_
      refine WL.y rfl (Yd.len (e := 33) (by kernel_rfl) rfl) ?_
      refine WL.y rfl (Yd.lss rfl rfl) ?_
      refine WL.y rfl (Yd.move rfl) ?_
      refine WL.partP (t := 45) rfl (fun hg45 => ?_) (fun hg45 => ?_)
      · refine WL.gy (dj := 45) rfl rfl rfl (Yd.move rfl) ?_
        refine WL.gy (dj := 45) rfl rfl rfl (Yd.lss rfl rfl) ?_
        refine WL.y rfl (Yd.pickT rfl rfl) ?_
        refine WL.nil ?_
        refine DN.then_normal ?_
        refine WC.ite rfl (fun h48 => ?_) (fun h48 => ?_)
        · have hlt : i < acts.length := by omega
          obtain ⟨ak, ak2, ak3, ak4, hak⟩ := acs_ex acts i hlt
          refine WC.skip ?_
          refine DN.then_normal ?_
          refine WC.seq ?_
          refine WC.block ?_
          refine WC.region ?_
          refine WL.y rfl (Yd.move rfl) ?_
          refine WL.y rfl (Yd.move rfl) ?_
          refine WL.y rfl (Yd.move rfl) ?_
          refine WL.elemA (e := 33) (s := 4) (by kernel_rfl) (by kernel_rfl) (by kernel_rfl) rfl rfl (rfl) (hva.mono (by repeat (first | exact Gr.refl | exact Gr.left Gr.refl | exact Gr.nil | exact Gr.app (Gr.left Gr.refl) | refine Gr.cons ?_ | refine Gr.app ?_ | refine Gr.both ?_ ?_ | refine Gr.put (by repeat (first | exact List.mem_cons_self | apply List.mem_cons_of_mem | apply List.mem_append_right)) ?_))) (hak) (by rfl) (by omega) (hlt) rfl rfl ?_
          intro p54
          refine WL.c rfl (Ent.func Try.call11 rfl) (act_tells p rs rs1 L1 C2 h2 inv ak ak2 ak3 ak4) (Sp.p (by repeat (first | exact Sp.here | exact Sp.sn | exact Sp.s0 | exact Fr.here | apply Sp.s2 | apply Sp.sx | apply Fr.fc | apply Fr.al | apply Fr.fa | apply Sp.sc | apply Sp.al | apply Sp.sa))) ?_
          rintro q C3 ⟨rs3, L3, h3, inv3⟩
          refine WL.nil ?_
          refine DN.block_normal ?_
          refine DN.then_normal ?_
          refine WC.region ?_
          refine WL.y rfl (Yd.move rfl) ?_
          refine WL.y rfl (Yd.add rfl rfl (by omega) (by omega)) ?_
          refine WL.y rfl (Yd.assign rfl) ?_
          refine WL.nil ?_
          exact DN.againS (⟨i + 1, rs3, L3, C3⟩) (show (i + 1) ≤ acts.length ∧ DockAt 55 3 p rs3 L3 C3 ∧ DInv rs rs3 L3 from ⟨by omega, h3, inv3⟩) (show acts.length - (i + 1) < acts.length - i by omega) (Sx.put rfl ((by repeat (first | exact Sx.refl | refine Sx.skip rfl ?_)))) (by repeat (first | exact Sp.here | exact Sp.sn | exact Sp.s0 | exact Fr.here | apply Sp.s2 | apply Sp.sx | apply Fr.fc | apply Fr.al | apply Fr.fa | apply Sp.sc | apply Sp.al | apply Sp.sa))
        · refine WC.exit ?_
          refine DN.then_exit ?_
          refine DN.then_exit ?_
          refine DN.block_exit ?_
          refine DN.then_normal ?_
          refine WC.seq ?_
          refine WC.region ?_
          refine WL.y rfl (Yd.move rfl) ?_
          refine WL.y rfl (Yd.move rfl) ?_
          refine WL.c rfl (Ent.func Try.call12 rfl) (cancel2_tells p rs1 L1 C2 h2 o (inv.cancelOk o)) (Sp.p (by repeat (first | exact Sp.here | exact Sp.sn | exact Sp.s0 | exact Fr.here | apply Sp.s2 | apply Sp.sx | apply Fr.fc | apply Fr.al | apply Fr.fa | apply Sp.sc | apply Sp.al | apply Sp.sa))) ?_
          rintro q C3 ⟨rfl, h3⟩
          obtain ⟨rs2, L2, ers, eL, inv2, hgone⟩ : ∃ rs2 L2, roomsC rs1 (findB L1 o) = rs2 ∧ listC L1 (findB L1 o) o = L2 ∧ DInv rs rs2 L2 ∧ findB L2 o = none := ⟨_, _, rfl, rfl, inv.cancel o, findB_gone2 L1 o⟩
          rw [ers, eL] at h3
          have hlen := inv2.len
          have hmany := inv2.many
          refine WL.nil ?_
          refine DN.then_normal ?_
          refine WC.seq ?_
          refine WC.region ?_
          refine WL.y rfl (Yd.move rfl) ?_
          refine WL.c rfl (Ent.func Try.call19 rfl) (bookings_tells p rs2 L2 C3 h3 inv2.many) (Sp.p (by repeat (first | exact Sp.here | exact Sp.sn | exact Sp.s0 | exact Fr.here | apply Sp.s2 | apply Sp.sx | apply Fr.fc | apply Fr.al | apply Fr.fa | apply Sp.sc | apply Sp.al | apply Sp.sa))) ?_
          rintro q C4 ⟨S, Cs, hT, ho, rfl⟩
          have hSl := hT.perm.length_eq
          obtain ⟨so, sc, rfl, hsc⟩ := ho.form
          refine WL.y rfl (Yd.assign rfl) ?_
          refine WL.nil ?_
          refine DN.then_normal ?_
          refine WC.seq ?_
          refine WC.region ?_
          refine WL.y rfl (Yd.move rfl) ?_
          refine WL.y rfl (Yd.move rfl) ?_
          refine WL.y rfl (Yd.len (e := 3) (by kernel_rfl) rfl) ?_
          refine WL.c rfl (Ent.func Try.call13 rfl) (rooms_tells p rs2 L2 C3 h3 rs.length (by omega)) (Sp.p (by repeat (first | exact Sp.here | exact Sp.sn | exact Sp.s0 | exact Fr.here | apply Sp.s2 | apply Sp.sx | apply Fr.fc | apply Fr.al | apply Fr.fa | apply Sp.sc | apply Sp.al | apply Sp.sa))) ?_
          rintro q C5 ⟨D5, hD5, rfl⟩
          obtain ⟨qo, qc, rfl, hqc⟩ := hD5.form
          refine WL.y rfl (Yd.assign rfl) ?_
          refine WL.nil ?_
          refine DN.then_normal ?_
          refine WC.seq ?_
          refine WC.seq ?_
          refine WC.region ?_
          refine WL.y rfl (Yd.move rfl) ?_
          refine WL.y rfl (Yd.move rfl) ?_
          refine WL.c rfl (Ent.func Try.call12 rfl) (cancel2_tells p rs2 L2 C3 h3 o (inv2.cancelOk o)) (Sp.p (by repeat (first | exact Sp.here | exact Sp.sn | exact Sp.s0 | exact Fr.here | apply Sp.s2 | apply Sp.sx | apply Fr.fc | apply Fr.al | apply Fr.fa | apply Sp.sc | apply Sp.al | apply Sp.sa))) ?_
          rintro q C4 ⟨rfl, h4⟩
          rw [hgone] at h4 ⊢
          simp only [resC, roomsC, listC] at h4 ⊢
          refine WL.y rfl (Yd.neq rfl rfl) ?_
          refine WL.renamed (t := 69) (v := .bool false) rfl (congrArg Value.bool (by decide)) ?_
          refine WL.nil ?_
          refine DN.then_normal ?_
          refine WC.no rfl ?_
          refine WC.skip ?_
          refine DN.then_normal ?_
          refine WC.seq ?_
          refine WC.region ?_
          refine WL.y rfl (Yd.move rfl) ?_
          refine WL.y rfl (Yd.move rfl) ?_
          refine WL.y rfl (Yd.move rfl) ?_
          refine WL.y rfl (Yd.move rfl) ?_
          refine WL.c rfl (Ent.func Try.call14 rfl) (book2_tells p rs2 L2 C4 h4 inv2.rooms (by have := inv2.few; omega) o from_ n) (Sp.p (by repeat (first | exact Sp.here | exact Sp.sn | exact Sp.s0 | exact Fr.here | apply Sp.s2 | apply Sp.sx | apply Fr.fc | apply Fr.al | apply Fr.fa | apply Sp.sc | apply Sp.al | apply Sp.sa))) ?_
          rintro q C5 ⟨rfl, h5⟩
          have inv5 := inv2.book o from_ n
          obtain ⟨r, hbk⟩ : ∃ r, bookOf rs2 L2 o from_ n = r := ⟨_, rfl⟩
          rw [hbk] at h5 inv5 ⊢
          refine WL.y rfl (Yd.move rfl) ?_
          refine WL.y rfl (Yd.extract rfl rfl) ?_
          refine WL.y rfl (Yd.extract rfl rfl) ?_
          refine WL.y rfl (Yd.assign rfl) ?_
          refine WL.y rfl (Yd.assign rfl) ?_
          refine WL.nil ?_
          refine DN.then_normal ?_
          refine WC.seq ?_
          refine WC.seq ?_
          refine WC.region ?_
          refine WL.y rfl (Yd.move rfl) ?_
          refine WL.y rfl (Yd.eql rfl rfl) ?_
          refine WL.nil ?_
          refine DN.then_normal ?_
          refine WC.ite rfl (fun h79 => ?_) (fun h79 => ?_)
          · cases r with
            | none => exact absurd h79 (by simp [resOf])
            | some d =>
            simp only [roomsB, listB] at h5 inv5
            obtain ⟨hdl, hfn⟩ := bookOf_some hbk
            refine WC.seq ?_
            refine WC.region ?_
            refine WL.y rfl (Yd.move rfl) ?_
            refine WL.y rfl (Yd.move rfl) ?_
            refine WL.c rfl (Ent.func Try.call14 rfl) (book2_tells p _ _ C5 h5 inv5.rooms (by have := inv5.len; have := inv5.few; omega) o 0 1) (Sp.p (by repeat (first | exact Sp.here | exact Sp.sn | exact Sp.s0 | exact Fr.here | apply Sp.s2 | apply Sp.sx | apply Fr.fc | apply Fr.al | apply Fr.fa | apply Sp.sc | apply Sp.al | apply Sp.sa))) ?_
            rintro q C6 ⟨rfl, h6⟩
            rw [bookOf_again _ L2 ⟨o, d, n⟩ hfn] at h6 ⊢
            simp only [roomsB, listB, resOf] at h6 ⊢
            refine WL.y rfl (Yd.move rfl) ?_
            refine WL.y rfl (Yd.extract rfl rfl) ?_
            refine WL.y rfl (Yd.extract rfl rfl) ?_
            refine WL.y rfl (Yd.assign rfl) ?_
            refine WL.y rfl (Yd.assign rfl) ?_
            refine WL.nil ?_
            refine DN.then_normal ?_
            refine WC.seq ?_
            refine WC.seq ?_
            refine WC.region ?_
            refine WL.y rfl (Yd.move rfl) ?_
            refine WL.y rfl (Yd.neq rfl rfl) ?_
            refine WL.renamed (t := 87) (v := .bool false) rfl (congrArg Value.bool (by decide)) ?_
            refine WL.y rfl (Yd.move rfl) ?_
            refine WL.gy (dj := 88) rfl rfl rfl (Yd.move rfl) ?_
            refine WL.gc (dj := 88) rfl rfl rfl (Ent.func Try.call19 rfl) (bookings_tells p _ _ C6 h6 inv5.many) (Sp.p (by repeat (first | exact Sp.here | exact Sp.sn | exact Sp.s0 | exact Fr.here | apply Sp.s2 | apply Sp.sx | apply Fr.fc | apply Fr.al | apply Fr.fa | apply Sp.sc | apply Sp.al | apply Sp.sa))) ?_
            rintro q C7 ⟨S7, Cs7, hT7, ho7, rfl⟩
            have hSl7 := hT7.perm.length_eq
            have hSl8 : (L2 ++ [(⟨o, d, n⟩ : Bk)]).length = L2.length + 1 := by simp
            obtain ⟨so7, sc7, rfl, hsc7⟩ := ho7.form
            refine WL.gy (dj := 88) rfl rfl rfl (Yd.len (e := 47) (by kernel_rfl) rfl) ?_
            refine WL.gy (dj := 88) rfl rfl rfl (Yd.move rfl) ?_
            refine WL.gy (dj := 88) rfl rfl rfl (Yd.len (e := 47) (by kernel_rfl) rfl) ?_
            refine WL.gy (dj := 88) rfl rfl rfl (Yd.add rfl rfl (by omega) (by omega)) ?_
            refine WL.gy (dj := 88) rfl rfl rfl (Yd.neq rfl rfl) ?_
            refine WL.renamed (t := 95) (v := .bool false) rfl (congrArg Value.bool (decide_eq_false (by omega))) ?_
            refine WL.y rfl (Yd.pickF rfl rfl) ?_
            refine WL.y rfl (Yd.move rfl) ?_
            refine WL.gy (dj := 97) rfl rfl rfl (Yd.move rfl) ?_
            refine WL.gy (dj := 97) rfl rfl rfl (Yd.move rfl) ?_
            refine WL.gc (dj := 97) rfl rfl rfl (Ent.func Try.call12 rfl) (cancel2_tells p _ _ C6 h6 o (inv5.cancelOk o)) (Sp.p (by repeat (first | exact Sp.here | exact Sp.sn | exact Sp.s0 | exact Fr.here | apply Sp.s2 | apply Sp.sx | apply Fr.fc | apply Fr.al | apply Fr.fa | apply Sp.sc | apply Sp.al | apply Sp.sa))) ?_
            rintro q C8 ⟨rfl, h8⟩
            rw [find_snoc L2 ⟨o, d, n⟩ hfn] at h8 ⊢
            simp only [resC, listC, del_snoc L2 ⟨o, d, n⟩ hfn, set_back rs2 o d n hdl] at h8 ⊢
            refine WL.gy (dj := 97) rfl rfl rfl (Yd.neq rfl rfl) ?_
            refine WL.renamed (t := 101) (v := .bool false) rfl (congrArg Value.bool (by decide)) ?_
            refine WL.y rfl (Yd.pickF rfl rfl) ?_
            refine WL.y rfl (Yd.move rfl) ?_
            refine WL.gy (dj := 103) rfl rfl rfl (Yd.move rfl) ?_
            refine WL.gc (dj := 103) rfl rfl rfl (Ent.func Try.call19 rfl) (bookings_tells p rs2 L2 C8 h8 inv2.many) (Sp.p (by repeat (first | exact Sp.here | exact Sp.sn | exact Sp.s0 | exact Fr.here | apply Sp.s2 | apply Sp.sx | apply Fr.fc | apply Fr.al | apply Fr.fa | apply Sp.sc | apply Sp.al | apply Sp.sa))) ?_
            rintro q C9 ⟨S9, Cs9, hT9, ho9, rfl⟩
            have hSl9 := hT9.perm.length_eq
            obtain ⟨so9, sc9, rfl, hsc9⟩ := ho9.form
            refine WL.gy (dj := 103) rfl rfl rfl (Yd.move rfl) ?_
            refine WL.grf (dj := 103) rfl rfl rfl (Ent.func Try.call20 rfl) (same_reads _ _ S9 S (Cs9 ++ Cs) (ho9.rs.mono (by repeat (first | exact Gr.refl | exact Gr.left Gr.refl | exact Gr.nil | exact Gr.app (Gr.left Gr.refl) | refine Gr.cons ?_ | refine Gr.app ?_ | refine Gr.both ?_ ?_ | refine Gr.put (by repeat (first | exact List.mem_cons_self | apply List.mem_cons_of_mem | apply List.mem_append_right)) ?_))) (ho.rs.mono (by repeat (first | exact Gr.refl | exact Gr.left Gr.refl | exact Gr.nil | exact Gr.app (Gr.left Gr.refl) | refine Gr.cons ?_ | refine Gr.app ?_ | refine Gr.both ?_ ?_ | refine Gr.put (by repeat (first | exact List.mem_cons_self | apply List.mem_cons_of_mem | apply List.mem_append_right)) ?_))) (by omega) (by omega)) (by repeat (first | exact Sp.here | exact Sp.sn | exact Sp.s0 | exact Fr.here | apply Sp.s2 | apply Sp.sx | apply Fr.fc | apply Fr.al | apply Fr.fa | apply Sp.sc | apply Sp.al | apply Sp.sa)) ?_
            refine WL.renamed (t := 107) (v := .bool true) rfl (congrArg Value.bool (decide_eq_true (hT9.unique inv2.keys hT))) ?_
            refine WL.gy (dj := 103) rfl rfl rfl (Yd.notB rfl) ?_
            refine WL.y rfl (Yd.pickF rfl rfl) ?_
            refine WL.y rfl (Yd.move rfl) ?_
            refine WL.gy (dj := 110) rfl rfl rfl (Yd.move rfl) ?_
            refine WL.gy (dj := 110) rfl rfl rfl (Yd.move rfl) ?_
            refine WL.gy (dj := 110) rfl rfl rfl (Yd.len (e := 3) (by kernel_rfl) rfl) ?_
            refine WL.gc (dj := 110) rfl rfl rfl (Ent.func Try.call13 rfl) (rooms_tells p rs2 L2 C8 h8 rs.length (by omega)) (Sp.p (by repeat (first | exact Sp.here | exact Sp.sn | exact Sp.s0 | exact Fr.here | apply Sp.s2 | apply Sp.sx | apply Fr.fc | apply Fr.al | apply Fr.fa | apply Sp.sc | apply Sp.al | apply Sp.sa))) ?_
            rintro q C10 ⟨D10, hD10, rfl⟩
            obtain ⟨yo, yc, rfl, hyc⟩ := hD10.form
            refine WL.gy (dj := 110) rfl rfl rfl (Yd.move rfl) ?_
            refine WL.grf (dj := 110) rfl rfl rfl (Ent.func Try.call23 rfl) (sameInts_reads _ _ (told rs2 (rs.length + 2)) (told rs2 (rs.length + 2)) (D10 ++ D5) (by rw [told_length]; exact hD10.rs.mono (by repeat (first | exact Gr.refl | exact Gr.left Gr.refl | exact Gr.nil | exact Gr.app (Gr.left Gr.refl) | refine Gr.cons ?_ | refine Gr.app ?_ | refine Gr.both ?_ ?_ | refine Gr.put (by repeat (first | exact List.mem_cons_self | apply List.mem_cons_of_mem | apply List.mem_append_right)) ?_))) (by rw [told_length]; exact hD5.rs.mono (by repeat (first | exact Gr.refl | exact Gr.left Gr.refl | exact Gr.nil | exact Gr.app (Gr.left Gr.refl) | refine Gr.cons ?_ | refine Gr.app ?_ | refine Gr.both ?_ ?_ | refine Gr.put (by repeat (first | exact List.mem_cons_self | apply List.mem_cons_of_mem | apply List.mem_append_right)) ?_))) (by rw [told_length]; omega) (by rw [told_length]; omega)) (by repeat (first | exact Sp.here | exact Sp.sn | exact Sp.s0 | exact Fr.here | apply Sp.s2 | apply Sp.sx | apply Fr.fc | apply Fr.al | apply Fr.fa | apply Sp.sc | apply Sp.al | apply Sp.sa)) ?_
            refine WL.renamed (t := 116) (v := .bool true) rfl (congrArg Value.bool (decide_eq_true rfl)) ?_
            refine WL.gy (dj := 110) rfl rfl rfl (Yd.notB rfl) ?_
            refine WL.y rfl (Yd.pickF rfl rfl) ?_
            refine WL.nil ?_
            refine DN.then_normal ?_
            refine WC.no rfl ?_
            refine WC.skip ?_
            refine DN.then_normal ?_
            refine WC.seq ?_
            refine WC.region ?_
            refine WL.y rfl (Yd.move rfl) ?_
            refine WL.y rfl (Yd.move rfl) ?_
            refine WL.y rfl (Yd.move rfl) ?_
            refine WL.y rfl (Yd.move rfl) ?_
            refine WL.c rfl (Ent.func Try.call14 rfl) (book2_tells p rs2 L2 C8 h8 inv2.rooms (by have := inv2.few; omega) o from_ n) (Sp.p (by repeat (first | exact Sp.here | exact Sp.sn | exact Sp.s0 | exact Fr.here | apply Sp.s2 | apply Sp.sx | apply Fr.fc | apply Fr.al | apply Fr.fa | apply Sp.sc | apply Sp.al | apply Sp.sa))) ?_
            rintro q C11 ⟨rfl, h11⟩
            rw [hbk] at h11 ⊢
            refine WL.y rfl (Yd.move rfl) ?_
            refine WL.y rfl (Yd.extract rfl rfl) ?_
            refine WL.y rfl (Yd.extract rfl rfl) ?_
            refine WL.y rfl (Yd.assign rfl) ?_
            refine WL.y rfl (Yd.assign rfl) ?_
            refine WL.nil ?_
            refine DN.then_normal ?_
            refine WC.seq ?_
            refine WC.region ?_
            refine WL.y rfl (Yd.move rfl) ?_
            refine WL.y rfl (Yd.move rfl) ?_
            refine WL.y rfl (Yd.neq rfl rfl) ?_
            refine WL.renamed (t := 129) (v := .bool false) rfl (congrArg Value.bool (decide_eq_false (by simp [resOf]))) ?_
            refine WL.y rfl (Yd.move rfl) ?_
            refine WL.gy (dj := 130) rfl rfl rfl (Yd.move rfl) ?_
            refine WL.gy (dj := 130) rfl rfl rfl (Yd.neq rfl rfl) ?_
            refine WL.renamed (t := 132) (v := .bool false) rfl (congrArg Value.bool (decide_eq_false (by simp [resOf]))) ?_
            refine WL.y rfl (Yd.pickF rfl rfl) ?_
            refine WL.nil ?_
            refine DN.then_normal ?_
            refine WC.no rfl ?_
            refine WC.skip ?_
            refine DN.then_normal ?_
            refine WC.seq ?_
            refine WC.region ?_
            refine WL.y rfl (Yd.assign rfl) ?_
            refine WL.nil ?_
            refine DN.then_normal ?_
            refine WC.seq ?_
            refine WC.region ?_
            refine WL.y rfl (Yd.move rfl) ?_
            refine WL.rf rfl (Ent.func Try.call14 rfl) (book_nil 1#32 0 1 []) (by repeat (first | exact Sp.here | exact Sp.sn | exact Sp.s0 | exact Fr.here | apply Sp.s2 | apply Sp.sx | apply Fr.fc | apply Fr.al | apply Fr.fa | apply Sp.sc | apply Sp.al | apply Sp.sa)) ?_
            refine WL.y rfl (Yd.move rfl) ?_
            refine WL.y rfl (Yd.extract rfl rfl) ?_
            refine WL.y rfl (Yd.extract rfl rfl) ?_
            refine WL.y rfl (Yd.assign rfl) ?_
            refine WL.y rfl (Yd.assign rfl) ?_
            refine WL.nil ?_
            refine DN.then_normal ?_
            refine WC.seq ?_
            refine WC.region ?_
            refine WL.y rfl (Yd.move rfl) ?_
            refine WL.y rfl (Yd.eql rfl rfl) ?_
            refine WL.renamed (t := 140) (v := .bool true) rfl (congrArg Value.bool (rfl)) ?_
            refine WL.y rfl (Yd.move rfl) ?_
            refine WL.gy (dj := 141) rfl rfl rfl (Yd.move rfl) ?_
            refine WL.gy (dj := 141) rfl rfl rfl (Yd.eql rfl rfl) ?_
            refine WL.renamed (t := 143) (v := .bool true) rfl (congrArg Value.bool (rfl)) ?_
            refine WL.y rfl (Yd.pickT rfl rfl) ?_
            refine WL.y rfl (Yd.move rfl) ?_
            refine WL.gy (dj := 145) rfl rfl rfl (Yd.move rfl) ?_
            refine WL.grf (dj := 145) rfl rfl rfl (Ent.func Try.call12 rfl) (cancel_nil 1#32 []) (by repeat (first | exact Sp.here | exact Sp.sn | exact Sp.s0 | exact Fr.here | apply Sp.s2 | apply Sp.sx | apply Fr.fc | apply Fr.al | apply Fr.fa | apply Sp.sc | apply Sp.al | apply Sp.sa)) ?_
            refine WL.gy (dj := 145) rfl rfl rfl (Yd.eql rfl rfl) ?_
            refine WL.renamed (t := 148) (v := .bool true) rfl (congrArg Value.bool (rfl)) ?_
            refine WL.y rfl (Yd.pickT rfl rfl) ?_
            refine WL.y rfl (Yd.move rfl) ?_
            refine WL.gy (dj := 150) rfl rfl rfl (Yd.move rfl) ?_
            refine WL.grf (dj := 150) rfl rfl rfl (Ent.func Try.call15 rfl) (room_nil 0 []) (by repeat (first | exact Sp.here | exact Sp.sn | exact Sp.s0 | exact Fr.here | apply Sp.s2 | apply Sp.sx | apply Fr.fc | apply Fr.al | apply Fr.fa | apply Sp.sc | apply Sp.al | apply Sp.sa)) ?_
            refine WL.gy (dj := 150) rfl rfl rfl (Yd.eql rfl rfl) ?_
            refine WL.renamed (t := 153) (v := .bool true) rfl (congrArg Value.bool (rfl)) ?_
            refine WL.y rfl (Yd.pickT rfl rfl) ?_
            refine WL.y rfl (Yd.move rfl) ?_
            refine WL.gy (dj := 155) rfl rfl rfl (Yd.move rfl) ?_
            refine WL.grf (dj := 155) rfl rfl rfl (Ent.func Try.call19 rfl) (bookings_nil []) (by repeat (first | exact Sp.here | exact Sp.sn | exact Sp.s0 | exact Fr.here | apply Sp.s2 | apply Sp.sx | apply Fr.fc | apply Fr.al | apply Fr.fa | apply Sp.sc | apply Sp.al | apply Sp.sa)) ?_
            refine WL.gy (dj := 155) rfl rfl rfl (Yd.len (e := 47) (by kernel_rfl) rfl) ?_
            refine WL.gy (dj := 155) rfl rfl rfl (Yd.eql rfl rfl) ?_
            refine WL.renamed (t := 159) (v := .bool true) rfl (congrArg Value.bool (rfl)) ?_
            refine WL.y rfl (Yd.pickT rfl rfl) ?_
            refine WL.y rfl (Yd.move rfl) ?_
            refine WL.gr (dj := 161) rfl rfl rfl (Ent.func Try.call9 rfl) (known11 _) ?_
            refine WL.y rfl (Yd.pickT rfl rfl) ?_
            refine WL.y rfl (Yd.assign rfl) ?_
            refine WL.nil ?_
            refine DN.then_normal ?_
            refine WC.ret ?_
            refine DN.forget H (by (repeat (first | exact List.Sublist.refl _ | exact List.nil_sublist _ | apply List.Sublist.cons_cons | apply List.Sublist.cons | apply List.sublist_append_of_sublist_right))) ?_
            refine DN.ret1 Try.results7 rfl ?_
            exact ⟨rfl, rfl⟩
          · refine WC.skip ?_
            refine DN.then_normal ?_
            refine WC.seq ?_
            refine WC.region ?_
            refine WL.y rfl (Yd.assign rfl) ?_
            refine WL.nil ?_
            refine DN.then_normal ?_
            refine WC.seq ?_
            refine WC.region ?_
            refine WL.y rfl (Yd.move rfl) ?_
            refine WL.rf rfl (Ent.func Try.call14 rfl) (book_nil 1#32 0 1 []) (by repeat (first | exact Sp.here | exact Sp.sn | exact Sp.s0 | exact Fr.here | apply Sp.s2 | apply Sp.sx | apply Fr.fc | apply Fr.al | apply Fr.fa | apply Sp.sc | apply Sp.al | apply Sp.sa)) ?_
            refine WL.y rfl (Yd.move rfl) ?_
            refine WL.y rfl (Yd.extract rfl rfl) ?_
            refine WL.y rfl (Yd.extract rfl rfl) ?_
            refine WL.y rfl (Yd.assign rfl) ?_
            refine WL.y rfl (Yd.assign rfl) ?_
            refine WL.nil ?_
            refine DN.then_normal ?_
            refine WC.seq ?_
            refine WC.region ?_
            refine WL.y rfl (Yd.move rfl) ?_
            refine WL.y rfl (Yd.eql rfl rfl) ?_
            refine WL.renamed (t := 140) (v := .bool true) rfl (congrArg Value.bool (rfl)) ?_
            refine WL.y rfl (Yd.move rfl) ?_
            refine WL.gy (dj := 141) rfl rfl rfl (Yd.move rfl) ?_
            refine WL.gy (dj := 141) rfl rfl rfl (Yd.eql rfl rfl) ?_
            refine WL.renamed (t := 143) (v := .bool true) rfl (congrArg Value.bool (rfl)) ?_
            refine WL.y rfl (Yd.pickT rfl rfl) ?_
            refine WL.y rfl (Yd.move rfl) ?_
            refine WL.gy (dj := 145) rfl rfl rfl (Yd.move rfl) ?_
            refine WL.grf (dj := 145) rfl rfl rfl (Ent.func Try.call12 rfl) (cancel_nil 1#32 []) (by repeat (first | exact Sp.here | exact Sp.sn | exact Sp.s0 | exact Fr.here | apply Sp.s2 | apply Sp.sx | apply Fr.fc | apply Fr.al | apply Fr.fa | apply Sp.sc | apply Sp.al | apply Sp.sa)) ?_
            refine WL.gy (dj := 145) rfl rfl rfl (Yd.eql rfl rfl) ?_
            refine WL.renamed (t := 148) (v := .bool true) rfl (congrArg Value.bool (rfl)) ?_
            refine WL.y rfl (Yd.pickT rfl rfl) ?_
            refine WL.y rfl (Yd.move rfl) ?_
            refine WL.gy (dj := 150) rfl rfl rfl (Yd.move rfl) ?_
            refine WL.grf (dj := 150) rfl rfl rfl (Ent.func Try.call15 rfl) (room_nil 0 []) (by repeat (first | exact Sp.here | exact Sp.sn | exact Sp.s0 | exact Fr.here | apply Sp.s2 | apply Sp.sx | apply Fr.fc | apply Fr.al | apply Fr.fa | apply Sp.sc | apply Sp.al | apply Sp.sa)) ?_
            refine WL.gy (dj := 150) rfl rfl rfl (Yd.eql rfl rfl) ?_
            refine WL.renamed (t := 153) (v := .bool true) rfl (congrArg Value.bool (rfl)) ?_
            refine WL.y rfl (Yd.pickT rfl rfl) ?_
            refine WL.y rfl (Yd.move rfl) ?_
            refine WL.gy (dj := 155) rfl rfl rfl (Yd.move rfl) ?_
            refine WL.grf (dj := 155) rfl rfl rfl (Ent.func Try.call19 rfl) (bookings_nil []) (by repeat (first | exact Sp.here | exact Sp.sn | exact Sp.s0 | exact Fr.here | apply Sp.s2 | apply Sp.sx | apply Fr.fc | apply Fr.al | apply Fr.fa | apply Sp.sc | apply Sp.al | apply Sp.sa)) ?_
            refine WL.gy (dj := 155) rfl rfl rfl (Yd.len (e := 47) (by kernel_rfl) rfl) ?_
            refine WL.gy (dj := 155) rfl rfl rfl (Yd.eql rfl rfl) ?_
            refine WL.renamed (t := 159) (v := .bool true) rfl (congrArg Value.bool (rfl)) ?_
            refine WL.y rfl (Yd.pickT rfl rfl) ?_
            refine WL.y rfl (Yd.move rfl) ?_
            refine WL.gr (dj := 161) rfl rfl rfl (Ent.func Try.call9 rfl) (known11 _) ?_
            refine WL.y rfl (Yd.pickT rfl rfl) ?_
            refine WL.y rfl (Yd.assign rfl) ?_
            refine WL.nil ?_
            refine DN.then_normal ?_
            refine WC.ret ?_
            refine DN.forget H (by (repeat (first | exact List.Sublist.refl _ | exact List.nil_sublist _ | apply List.Sublist.cons_cons | apply List.Sublist.cons | apply List.sublist_append_of_sublist_right))) ?_
            refine DN.ret1 Try.results7 rfl ?_
            exact ⟨rfl, rfl⟩
      · refine WL.gn (dj := 45) rfl rfl rfl rfl ?_
        refine WL.gn (dj := 45) rfl rfl rfl rfl ?_
        refine WL.y rfl (Yd.pickF rfl rfl) ?_
        refine WL.nil ?_
        refine DN.then_normal ?_
        refine WC.no rfl ?_
        refine WC.exit ?_
        refine DN.then_exit ?_
        refine DN.then_exit ?_
        refine DN.block_exit ?_
        refine DN.then_normal ?_
        refine WC.seq ?_
        refine WC.region ?_
        refine WL.y rfl (Yd.move rfl) ?_
        refine WL.y rfl (Yd.move rfl) ?_
        refine WL.c rfl (Ent.func Try.call12 rfl) (cancel2_tells p rs1 L1 C2 h2 o (inv.cancelOk o)) (Sp.p (by repeat (first | exact Sp.here | exact Sp.sn | exact Sp.s0 | exact Fr.here | apply Sp.s2 | apply Sp.sx | apply Fr.fc | apply Fr.al | apply Fr.fa | apply Sp.sc | apply Sp.al | apply Sp.sa))) ?_
        rintro q C3 ⟨rfl, h3⟩
        obtain ⟨rs2, L2, ers, eL, inv2, hgone⟩ : ∃ rs2 L2, roomsC rs1 (findB L1 o) = rs2 ∧ listC L1 (findB L1 o) o = L2 ∧ DInv rs rs2 L2 ∧ findB L2 o = none := ⟨_, _, rfl, rfl, inv.cancel o, findB_gone2 L1 o⟩
        rw [ers, eL] at h3
        have hlen := inv2.len
        have hmany := inv2.many
        refine WL.nil ?_
        refine DN.then_normal ?_
        refine WC.seq ?_
        refine WC.region ?_
        refine WL.y rfl (Yd.move rfl) ?_
        refine WL.c rfl (Ent.func Try.call19 rfl) (bookings_tells p rs2 L2 C3 h3 inv2.many) (Sp.p (by repeat (first | exact Sp.here | exact Sp.sn | exact Sp.s0 | exact Fr.here | apply Sp.s2 | apply Sp.sx | apply Fr.fc | apply Fr.al | apply Fr.fa | apply Sp.sc | apply Sp.al | apply Sp.sa))) ?_
        rintro q C4 ⟨S, Cs, hT, ho, rfl⟩
        have hSl := hT.perm.length_eq
        obtain ⟨so, sc, rfl, hsc⟩ := ho.form
        refine WL.y rfl (Yd.assign rfl) ?_
        refine WL.nil ?_
        refine DN.then_normal ?_
        refine WC.seq ?_
        refine WC.region ?_
        refine WL.y rfl (Yd.move rfl) ?_
        refine WL.y rfl (Yd.move rfl) ?_
        refine WL.y rfl (Yd.len (e := 3) (by kernel_rfl) rfl) ?_
        refine WL.c rfl (Ent.func Try.call13 rfl) (rooms_tells p rs2 L2 C3 h3 rs.length (by omega)) (Sp.p (by repeat (first | exact Sp.here | exact Sp.sn | exact Sp.s0 | exact Fr.here | apply Sp.s2 | apply Sp.sx | apply Fr.fc | apply Fr.al | apply Fr.fa | apply Sp.sc | apply Sp.al | apply Sp.sa))) ?_
        rintro q C5 ⟨D5, hD5, rfl⟩
        obtain ⟨qo, qc, rfl, hqc⟩ := hD5.form
        refine WL.y rfl (Yd.assign rfl) ?_
        refine WL.nil ?_
        refine DN.then_normal ?_
        refine WC.seq ?_
        refine WC.seq ?_
        refine WC.region ?_
        refine WL.y rfl (Yd.move rfl) ?_
        refine WL.y rfl (Yd.move rfl) ?_
        refine WL.c rfl (Ent.func Try.call12 rfl) (cancel2_tells p rs2 L2 C3 h3 o (inv2.cancelOk o)) (Sp.p (by repeat (first | exact Sp.here | exact Sp.sn | exact Sp.s0 | exact Fr.here | apply Sp.s2 | apply Sp.sx | apply Fr.fc | apply Fr.al | apply Fr.fa | apply Sp.sc | apply Sp.al | apply Sp.sa))) ?_
        rintro q C4 ⟨rfl, h4⟩
        rw [hgone] at h4 ⊢
        simp only [resC, roomsC, listC] at h4 ⊢
        refine WL.y rfl (Yd.neq rfl rfl) ?_
        refine WL.renamed (t := 69) (v := .bool false) rfl (congrArg Value.bool (by decide)) ?_
        refine WL.nil ?_
        refine DN.then_normal ?_
        refine WC.no rfl ?_
        refine WC.skip ?_
        refine DN.then_normal ?_
        refine WC.seq ?_
        refine WC.region ?_
        refine WL.y rfl (Yd.move rfl) ?_
        refine WL.y rfl (Yd.move rfl) ?_
        refine WL.y rfl (Yd.move rfl) ?_
        refine WL.y rfl (Yd.move rfl) ?_
        refine WL.c rfl (Ent.func Try.call14 rfl) (book2_tells p rs2 L2 C4 h4 inv2.rooms (by have := inv2.few; omega) o from_ n) (Sp.p (by repeat (first | exact Sp.here | exact Sp.sn | exact Sp.s0 | exact Fr.here | apply Sp.s2 | apply Sp.sx | apply Fr.fc | apply Fr.al | apply Fr.fa | apply Sp.sc | apply Sp.al | apply Sp.sa))) ?_
        rintro q C5 ⟨rfl, h5⟩
        have inv5 := inv2.book o from_ n
        obtain ⟨r, hbk⟩ : ∃ r, bookOf rs2 L2 o from_ n = r := ⟨_, rfl⟩
        rw [hbk] at h5 inv5 ⊢
        refine WL.y rfl (Yd.move rfl) ?_
        refine WL.y rfl (Yd.extract rfl rfl) ?_
        refine WL.y rfl (Yd.extract rfl rfl) ?_
        refine WL.y rfl (Yd.assign rfl) ?_
        refine WL.y rfl (Yd.assign rfl) ?_
        refine WL.nil ?_
        refine DN.then_normal ?_
        refine WC.seq ?_
        refine WC.seq ?_
        refine WC.region ?_
        refine WL.y rfl (Yd.move rfl) ?_
        refine WL.y rfl (Yd.eql rfl rfl) ?_
        refine WL.nil ?_
        refine DN.then_normal ?_
        refine WC.ite rfl (fun h79 => ?_) (fun h79 => ?_)
        · cases r with
          | none => exact absurd h79 (by simp [resOf])
          | some d =>
          simp only [roomsB, listB] at h5 inv5
          obtain ⟨hdl, hfn⟩ := bookOf_some hbk
          refine WC.seq ?_
          refine WC.region ?_
          refine WL.y rfl (Yd.move rfl) ?_
          refine WL.y rfl (Yd.move rfl) ?_
          refine WL.c rfl (Ent.func Try.call14 rfl) (book2_tells p _ _ C5 h5 inv5.rooms (by have := inv5.len; have := inv5.few; omega) o 0 1) (Sp.p (by repeat (first | exact Sp.here | exact Sp.sn | exact Sp.s0 | exact Fr.here | apply Sp.s2 | apply Sp.sx | apply Fr.fc | apply Fr.al | apply Fr.fa | apply Sp.sc | apply Sp.al | apply Sp.sa))) ?_
          rintro q C6 ⟨rfl, h6⟩
          rw [bookOf_again _ L2 ⟨o, d, n⟩ hfn] at h6 ⊢
          simp only [roomsB, listB, resOf] at h6 ⊢
          refine WL.y rfl (Yd.move rfl) ?_
          refine WL.y rfl (Yd.extract rfl rfl) ?_
          refine WL.y rfl (Yd.extract rfl rfl) ?_
          refine WL.y rfl (Yd.assign rfl) ?_
          refine WL.y rfl (Yd.assign rfl) ?_
          refine WL.nil ?_
          refine DN.then_normal ?_
          refine WC.seq ?_
          refine WC.seq ?_
          refine WC.region ?_
          refine WL.y rfl (Yd.move rfl) ?_
          refine WL.y rfl (Yd.neq rfl rfl) ?_
          refine WL.renamed (t := 87) (v := .bool false) rfl (congrArg Value.bool (by decide)) ?_
          refine WL.y rfl (Yd.move rfl) ?_
          refine WL.gy (dj := 88) rfl rfl rfl (Yd.move rfl) ?_
          refine WL.gc (dj := 88) rfl rfl rfl (Ent.func Try.call19 rfl) (bookings_tells p _ _ C6 h6 inv5.many) (Sp.p (by repeat (first | exact Sp.here | exact Sp.sn | exact Sp.s0 | exact Fr.here | apply Sp.s2 | apply Sp.sx | apply Fr.fc | apply Fr.al | apply Fr.fa | apply Sp.sc | apply Sp.al | apply Sp.sa))) ?_
          rintro q C7 ⟨S7, Cs7, hT7, ho7, rfl⟩
          have hSl7 := hT7.perm.length_eq
          have hSl8 : (L2 ++ [(⟨o, d, n⟩ : Bk)]).length = L2.length + 1 := by simp
          obtain ⟨so7, sc7, rfl, hsc7⟩ := ho7.form
          refine WL.gy (dj := 88) rfl rfl rfl (Yd.len (e := 47) (by kernel_rfl) rfl) ?_
          refine WL.gy (dj := 88) rfl rfl rfl (Yd.move rfl) ?_
          refine WL.gy (dj := 88) rfl rfl rfl (Yd.len (e := 47) (by kernel_rfl) rfl) ?_
          refine WL.gy (dj := 88) rfl rfl rfl (Yd.add rfl rfl (by omega) (by omega)) ?_
          refine WL.gy (dj := 88) rfl rfl rfl (Yd.neq rfl rfl) ?_
          refine WL.renamed (t := 95) (v := .bool false) rfl (congrArg Value.bool (decide_eq_false (by omega))) ?_
          refine WL.y rfl (Yd.pickF rfl rfl) ?_
          refine WL.y rfl (Yd.move rfl) ?_
          refine WL.gy (dj := 97) rfl rfl rfl (Yd.move rfl) ?_
          refine WL.gy (dj := 97) rfl rfl rfl (Yd.move rfl) ?_
          refine WL.gc (dj := 97) rfl rfl rfl (Ent.func Try.call12 rfl) (cancel2_tells p _ _ C6 h6 o (inv5.cancelOk o)) (Sp.p (by repeat (first | exact Sp.here | exact Sp.sn | exact Sp.s0 | exact Fr.here | apply Sp.s2 | apply Sp.sx | apply Fr.fc | apply Fr.al | apply Fr.fa | apply Sp.sc | apply Sp.al | apply Sp.sa))) ?_
          rintro q C8 ⟨rfl, h8⟩
          rw [find_snoc L2 ⟨o, d, n⟩ hfn] at h8 ⊢
          simp only [resC, listC, del_snoc L2 ⟨o, d, n⟩ hfn, set_back rs2 o d n hdl] at h8 ⊢
          refine WL.gy (dj := 97) rfl rfl rfl (Yd.neq rfl rfl) ?_
          refine WL.renamed (t := 101) (v := .bool false) rfl (congrArg Value.bool (by decide)) ?_
          refine WL.y rfl (Yd.pickF rfl rfl) ?_
          refine WL.y rfl (Yd.move rfl) ?_
          refine WL.gy (dj := 103) rfl rfl rfl (Yd.move rfl) ?_
          refine WL.gc (dj := 103) rfl rfl rfl (Ent.func Try.call19 rfl) (bookings_tells p rs2 L2 C8 h8 inv2.many) (Sp.p (by repeat (first | exact Sp.here | exact Sp.sn | exact Sp.s0 | exact Fr.here | apply Sp.s2 | apply Sp.sx | apply Fr.fc | apply Fr.al | apply Fr.fa | apply Sp.sc | apply Sp.al | apply Sp.sa))) ?_
          rintro q C9 ⟨S9, Cs9, hT9, ho9, rfl⟩
          have hSl9 := hT9.perm.length_eq
          obtain ⟨so9, sc9, rfl, hsc9⟩ := ho9.form
          refine WL.gy (dj := 103) rfl rfl rfl (Yd.move rfl) ?_
          refine WL.grf (dj := 103) rfl rfl rfl (Ent.func Try.call20 rfl) (same_reads _ _ S9 S (Cs9 ++ Cs) (ho9.rs.mono (by repeat (first | exact Gr.refl | exact Gr.left Gr.refl | exact Gr.nil | exact Gr.app (Gr.left Gr.refl) | refine Gr.cons ?_ | refine Gr.app ?_ | refine Gr.both ?_ ?_ | refine Gr.put (by repeat (first | exact List.mem_cons_self | apply List.mem_cons_of_mem | apply List.mem_append_right)) ?_))) (ho.rs.mono (by repeat (first | exact Gr.refl | exact Gr.left Gr.refl | exact Gr.nil | exact Gr.app (Gr.left Gr.refl) | refine Gr.cons ?_ | refine Gr.app ?_ | refine Gr.both ?_ ?_ | refine Gr.put (by repeat (first | exact List.mem_cons_self | apply List.mem_cons_of_mem | apply List.mem_append_right)) ?_))) (by omega) (by omega)) (by repeat (first | exact Sp.here | exact Sp.sn | exact Sp.s0 | exact Fr.here | apply Sp.s2 | apply Sp.sx | apply Fr.fc | apply Fr.al | apply Fr.fa | apply Sp.sc | apply Sp.al | apply Sp.sa)) ?_
          refine WL.renamed (t := 107) (v := .bool true) rfl (congrArg Value.bool (decide_eq_true (hT9.unique inv2.keys hT))) ?_
          refine WL.gy (dj := 103) rfl rfl rfl (Yd.notB rfl) ?_
          refine WL.y rfl (Yd.pickF rfl rfl) ?_
          refine WL.y rfl (Yd.move rfl) ?_
          refine WL.gy (dj := 110) rfl rfl rfl (Yd.move rfl) ?_
          refine WL.gy (dj := 110) rfl rfl rfl (Yd.move rfl) ?_
          refine WL.gy (dj := 110) rfl rfl rfl (Yd.len (e := 3) (by kernel_rfl) rfl) ?_
          refine WL.gc (dj := 110) rfl rfl rfl (Ent.func Try.call13 rfl) (rooms_tells p rs2 L2 C8 h8 rs.length (by omega)) (Sp.p (by repeat (first | exact Sp.here | exact Sp.sn | exact Sp.s0 | exact Fr.here | apply Sp.s2 | apply Sp.sx | apply Fr.fc | apply Fr.al | apply Fr.fa | apply Sp.sc | apply Sp.al | apply Sp.sa))) ?_
          rintro q C10 ⟨D10, hD10, rfl⟩
          obtain ⟨yo, yc, rfl, hyc⟩ := hD10.form
          refine WL.gy (dj := 110) rfl rfl rfl (Yd.move rfl) ?_
          refine WL.grf (dj := 110) rfl rfl rfl (Ent.func Try.call23 rfl) (sameInts_reads _ _ (told rs2 (rs.length + 2)) (told rs2 (rs.length + 2)) (D10 ++ D5) (by rw [told_length]; exact hD10.rs.mono (by repeat (first | exact Gr.refl | exact Gr.left Gr.refl | exact Gr.nil | exact Gr.app (Gr.left Gr.refl) | refine Gr.cons ?_ | refine Gr.app ?_ | refine Gr.both ?_ ?_ | refine Gr.put (by repeat (first | exact List.mem_cons_self | apply List.mem_cons_of_mem | apply List.mem_append_right)) ?_))) (by rw [told_length]; exact hD5.rs.mono (by repeat (first | exact Gr.refl | exact Gr.left Gr.refl | exact Gr.nil | exact Gr.app (Gr.left Gr.refl) | refine Gr.cons ?_ | refine Gr.app ?_ | refine Gr.both ?_ ?_ | refine Gr.put (by repeat (first | exact List.mem_cons_self | apply List.mem_cons_of_mem | apply List.mem_append_right)) ?_))) (by rw [told_length]; omega) (by rw [told_length]; omega)) (by repeat (first | exact Sp.here | exact Sp.sn | exact Sp.s0 | exact Fr.here | apply Sp.s2 | apply Sp.sx | apply Fr.fc | apply Fr.al | apply Fr.fa | apply Sp.sc | apply Sp.al | apply Sp.sa)) ?_
          refine WL.renamed (t := 116) (v := .bool true) rfl (congrArg Value.bool (decide_eq_true rfl)) ?_
          refine WL.gy (dj := 110) rfl rfl rfl (Yd.notB rfl) ?_
          refine WL.y rfl (Yd.pickF rfl rfl) ?_
          refine WL.nil ?_
          refine DN.then_normal ?_
          refine WC.no rfl ?_
          refine WC.skip ?_
          refine DN.then_normal ?_
          refine WC.seq ?_
          refine WC.region ?_
          refine WL.y rfl (Yd.move rfl) ?_
          refine WL.y rfl (Yd.move rfl) ?_
          refine WL.y rfl (Yd.move rfl) ?_
          refine WL.y rfl (Yd.move rfl) ?_
          refine WL.c rfl (Ent.func Try.call14 rfl) (book2_tells p rs2 L2 C8 h8 inv2.rooms (by have := inv2.few; omega) o from_ n) (Sp.p (by repeat (first | exact Sp.here | exact Sp.sn | exact Sp.s0 | exact Fr.here | apply Sp.s2 | apply Sp.sx | apply Fr.fc | apply Fr.al | apply Fr.fa | apply Sp.sc | apply Sp.al | apply Sp.sa))) ?_
          rintro q C11 ⟨rfl, h11⟩
          rw [hbk] at h11 ⊢
          refine WL.y rfl (Yd.move rfl) ?_
          refine WL.y rfl (Yd.extract rfl rfl) ?_
          refine WL.y rfl (Yd.extract rfl rfl) ?_
          refine WL.y rfl (Yd.assign rfl) ?_
          refine WL.y rfl (Yd.assign rfl) ?_
          refine WL.nil ?_
          refine DN.then_normal ?_
          refine WC.seq ?_
          refine WC.region ?_
          refine WL.y rfl (Yd.move rfl) ?_
          refine WL.y rfl (Yd.move rfl) ?_
          refine WL.y rfl (Yd.neq rfl rfl) ?_
          refine WL.renamed (t := 129) (v := .bool false) rfl (congrArg Value.bool (decide_eq_false (by simp [resOf]))) ?_
          refine WL.y rfl (Yd.move rfl) ?_
          refine WL.gy (dj := 130) rfl rfl rfl (Yd.move rfl) ?_
          refine WL.gy (dj := 130) rfl rfl rfl (Yd.neq rfl rfl) ?_
          refine WL.renamed (t := 132) (v := .bool false) rfl (congrArg Value.bool (decide_eq_false (by simp [resOf]))) ?_
          refine WL.y rfl (Yd.pickF rfl rfl) ?_
          refine WL.nil ?_
          refine DN.then_normal ?_
          refine WC.no rfl ?_
          refine WC.skip ?_
          refine DN.then_normal ?_
          refine WC.seq ?_
          refine WC.region ?_
          refine WL.y rfl (Yd.assign rfl) ?_
          refine WL.nil ?_
          refine DN.then_normal ?_
          refine WC.seq ?_
          refine WC.region ?_
          refine WL.y rfl (Yd.move rfl) ?_
          refine WL.rf rfl (Ent.func Try.call14 rfl) (book_nil 1#32 0 1 []) (by repeat (first | exact Sp.here | exact Sp.sn | exact Sp.s0 | exact Fr.here | apply Sp.s2 | apply Sp.sx | apply Fr.fc | apply Fr.al | apply Fr.fa | apply Sp.sc | apply Sp.al | apply Sp.sa)) ?_
          refine WL.y rfl (Yd.move rfl) ?_
          refine WL.y rfl (Yd.extract rfl rfl) ?_
          refine WL.y rfl (Yd.extract rfl rfl) ?_
          refine WL.y rfl (Yd.assign rfl) ?_
          refine WL.y rfl (Yd.assign rfl) ?_
          refine WL.nil ?_
          refine DN.then_normal ?_
          refine WC.seq ?_
          refine WC.region ?_
          refine WL.y rfl (Yd.move rfl) ?_
          refine WL.y rfl (Yd.eql rfl rfl) ?_
          refine WL.renamed (t := 140) (v := .bool true) rfl (congrArg Value.bool (rfl)) ?_
          refine WL.y rfl (Yd.move rfl) ?_
          refine WL.gy (dj := 141) rfl rfl rfl (Yd.move rfl) ?_
          refine WL.gy (dj := 141) rfl rfl rfl (Yd.eql rfl rfl) ?_
          refine WL.renamed (t := 143) (v := .bool true) rfl (congrArg Value.bool (rfl)) ?_
          refine WL.y rfl (Yd.pickT rfl rfl) ?_
          refine WL.y rfl (Yd.move rfl) ?_
          refine WL.gy (dj := 145) rfl rfl rfl (Yd.move rfl) ?_
          refine WL.grf (dj := 145) rfl rfl rfl (Ent.func Try.call12 rfl) (cancel_nil 1#32 []) (by repeat (first | exact Sp.here | exact Sp.sn | exact Sp.s0 | exact Fr.here | apply Sp.s2 | apply Sp.sx | apply Fr.fc | apply Fr.al | apply Fr.fa | apply Sp.sc | apply Sp.al | apply Sp.sa)) ?_
          refine WL.gy (dj := 145) rfl rfl rfl (Yd.eql rfl rfl) ?_
          refine WL.renamed (t := 148) (v := .bool true) rfl (congrArg Value.bool (rfl)) ?_
          refine WL.y rfl (Yd.pickT rfl rfl) ?_
          refine WL.y rfl (Yd.move rfl) ?_
          refine WL.gy (dj := 150) rfl rfl rfl (Yd.move rfl) ?_
          refine WL.grf (dj := 150) rfl rfl rfl (Ent.func Try.call15 rfl) (room_nil 0 []) (by repeat (first | exact Sp.here | exact Sp.sn | exact Sp.s0 | exact Fr.here | apply Sp.s2 | apply Sp.sx | apply Fr.fc | apply Fr.al | apply Fr.fa | apply Sp.sc | apply Sp.al | apply Sp.sa)) ?_
          refine WL.gy (dj := 150) rfl rfl rfl (Yd.eql rfl rfl) ?_
          refine WL.renamed (t := 153) (v := .bool true) rfl (congrArg Value.bool (rfl)) ?_
          refine WL.y rfl (Yd.pickT rfl rfl) ?_
          refine WL.y rfl (Yd.move rfl) ?_
          refine WL.gy (dj := 155) rfl rfl rfl (Yd.move rfl) ?_
          refine WL.grf (dj := 155) rfl rfl rfl (Ent.func Try.call19 rfl) (bookings_nil []) (by repeat (first | exact Sp.here | exact Sp.sn | exact Sp.s0 | exact Fr.here | apply Sp.s2 | apply Sp.sx | apply Fr.fc | apply Fr.al | apply Fr.fa | apply Sp.sc | apply Sp.al | apply Sp.sa)) ?_
          refine WL.gy (dj := 155) rfl rfl rfl (Yd.len (e := 47) (by kernel_rfl) rfl) ?_
          refine WL.gy (dj := 155) rfl rfl rfl (Yd.eql rfl rfl) ?_
          refine WL.renamed (t := 159) (v := .bool true) rfl (congrArg Value.bool (rfl)) ?_
          refine WL.y rfl (Yd.pickT rfl rfl) ?_
          refine WL.y rfl (Yd.move rfl) ?_
          refine WL.gr (dj := 161) rfl rfl rfl (Ent.func Try.call9 rfl) (known11 _) ?_
          refine WL.y rfl (Yd.pickT rfl rfl) ?_
          refine WL.y rfl (Yd.assign rfl) ?_
          refine WL.nil ?_
          refine DN.then_normal ?_
          refine WC.ret ?_
          refine DN.forget H (by (repeat (first | exact List.Sublist.refl _ | exact List.nil_sublist _ | apply List.Sublist.cons_cons | apply List.Sublist.cons | apply List.sublist_append_of_sublist_right))) ?_
          refine DN.ret1 Try.results7 rfl ?_
          exact ⟨rfl, rfl⟩
        · refine WC.skip ?_
          refine DN.then_normal ?_
          refine WC.seq ?_
          refine WC.region ?_
          refine WL.y rfl (Yd.assign rfl) ?_
          refine WL.nil ?_
          refine DN.then_normal ?_
          refine WC.seq ?_
          refine WC.region ?_
          refine WL.y rfl (Yd.move rfl) ?_
          refine WL.rf rfl (Ent.func Try.call14 rfl) (book_nil 1#32 0 1 []) (by repeat (first | exact Sp.here | exact Sp.sn | exact Sp.s0 | exact Fr.here | apply Sp.s2 | apply Sp.sx | apply Fr.fc | apply Fr.al | apply Fr.fa | apply Sp.sc | apply Sp.al | apply Sp.sa)) ?_
          refine WL.y rfl (Yd.move rfl) ?_
          refine WL.y rfl (Yd.extract rfl rfl) ?_
          refine WL.y rfl (Yd.extract rfl rfl) ?_
          refine WL.y rfl (Yd.assign rfl) ?_
          refine WL.y rfl (Yd.assign rfl) ?_
          refine WL.nil ?_
          refine DN.then_normal ?_
          refine WC.seq ?_
          refine WC.region ?_
          refine WL.y rfl (Yd.move rfl) ?_
          refine WL.y rfl (Yd.eql rfl rfl) ?_
          refine WL.renamed (t := 140) (v := .bool true) rfl (congrArg Value.bool (rfl)) ?_
          refine WL.y rfl (Yd.move rfl) ?_
          refine WL.gy (dj := 141) rfl rfl rfl (Yd.move rfl) ?_
          refine WL.gy (dj := 141) rfl rfl rfl (Yd.eql rfl rfl) ?_
          refine WL.renamed (t := 143) (v := .bool true) rfl (congrArg Value.bool (rfl)) ?_
          refine WL.y rfl (Yd.pickT rfl rfl) ?_
          refine WL.y rfl (Yd.move rfl) ?_
          refine WL.gy (dj := 145) rfl rfl rfl (Yd.move rfl) ?_
          refine WL.grf (dj := 145) rfl rfl rfl (Ent.func Try.call12 rfl) (cancel_nil 1#32 []) (by repeat (first | exact Sp.here | exact Sp.sn | exact Sp.s0 | exact Fr.here | apply Sp.s2 | apply Sp.sx | apply Fr.fc | apply Fr.al | apply Fr.fa | apply Sp.sc | apply Sp.al | apply Sp.sa)) ?_
          refine WL.gy (dj := 145) rfl rfl rfl (Yd.eql rfl rfl) ?_
          refine WL.renamed (t := 148) (v := .bool true) rfl (congrArg Value.bool (rfl)) ?_
          refine WL.y rfl (Yd.pickT rfl rfl) ?_
          refine WL.y rfl (Yd.move rfl) ?_
          refine WL.gy (dj := 150) rfl rfl rfl (Yd.move rfl) ?_
          refine WL.grf (dj := 150) rfl rfl rfl (Ent.func Try.call15 rfl) (room_nil 0 []) (by repeat (first | exact Sp.here | exact Sp.sn | exact Sp.s0 | exact Fr.here | apply Sp.s2 | apply Sp.sx | apply Fr.fc | apply Fr.al | apply Fr.fa | apply Sp.sc | apply Sp.al | apply Sp.sa)) ?_
          refine WL.gy (dj := 150) rfl rfl rfl (Yd.eql rfl rfl) ?_
          refine WL.renamed (t := 153) (v := .bool true) rfl (congrArg Value.bool (rfl)) ?_
          refine WL.y rfl (Yd.pickT rfl rfl) ?_
          refine WL.y rfl (Yd.move rfl) ?_
          refine WL.gy (dj := 155) rfl rfl rfl (Yd.move rfl) ?_
          refine WL.grf (dj := 155) rfl rfl rfl (Ent.func Try.call19 rfl) (bookings_nil []) (by repeat (first | exact Sp.here | exact Sp.sn | exact Sp.s0 | exact Fr.here | apply Sp.s2 | apply Sp.sx | apply Fr.fc | apply Fr.al | apply Fr.fa | apply Sp.sc | apply Sp.al | apply Sp.sa)) ?_
          refine WL.gy (dj := 155) rfl rfl rfl (Yd.len (e := 47) (by kernel_rfl) rfl) ?_
          refine WL.gy (dj := 155) rfl rfl rfl (Yd.eql rfl rfl) ?_
          refine WL.renamed (t := 159) (v := .bool true) rfl (congrArg Value.bool (rfl)) ?_
          refine WL.y rfl (Yd.pickT rfl rfl) ?_
          refine WL.y rfl (Yd.move rfl) ?_
          refine WL.gr (dj := 161) rfl rfl rfl (Ent.func Try.call9 rfl) (known11 _) ?_
          refine WL.y rfl (Yd.pickT rfl rfl) ?_
          refine WL.y rfl (Yd.assign rfl) ?_
          refine WL.nil ?_
          refine DN.then_normal ?_
          refine WC.ret ?_
          refine DN.forget H (by (repeat (first | exact List.Sublist.refl _ | exact List.nil_sublist _ | apply List.Sublist.cons_cons | apply List.Sublist.cons | apply List.sublist_append_of_sublist_right))) ?_
          refine DN.ret1 Try.results7 rfl ?_
          exact ⟨rfl, rfl⟩
    · refine WC.region ?_
      refine WL.y rfl (Yd.move rfl) ?_
      refine WL.ca rfl (Ent.func Try.call10 rfl) (new_tells _ rs H hv hl) ?_
      rintro q H1 hq
      first | (rw [if_pos hA] at hq; obtain ⟨p, C1, rfl, h1, rfl⟩ := hq) | (rw [if_neg hA] at hq; obtain ⟨rfl, hHq⟩ := hq; rw [hHq])
      refine WL.y rfl (Yd.move rfl) ?_
      refine WL.y rfl (Yd.extract rfl rfl) ?_
      refine WL.y rfl (Yd.extract rfl rfl) ?_
      refine WL.y rfl (Yd.assign rfl) ?_
      refine WL.y rfl (Yd.assign rfl) ?_
      refine WL.nil ?_
      refine DN.then_normal ?_
      refine WC.seq ?_
      refine WC.seq ?_
      refine WC.region ?_
      refine WL.y rfl (Yd.move rfl) ?_
      refine WL.y rfl (Yd.neq rfl rfl) ?_
      refine WL.renamed (t := 35) (v := .bool true) rfl (congrArg Value.bool (by decide)) ?_
      refine WL.nil ?_
      refine DN.then_normal ?_
      refine WC.yes rfl ?_
      refine WC.seq ?_
      refine WC.region ?_
      refine WL.y rfl (Yd.move rfl) ?_
      refine WL.y rfl (Yd.eqlNil Try.underlying26 rfl rfl) ?_
      refine WL.renamed (t := 37) (v := .bool true) rfl (congrArg Value.bool (rfl)) ?_
      refine WL.y rfl (Yd.move rfl) ?_
      refine WL.gr (dj := 38) rfl rfl rfl (Ent.func Try.call9 rfl) (known11 _) ?_
      refine WL.y rfl (Yd.pickT rfl rfl) ?_
      refine WL.y rfl (Yd.assign rfl) ?_
      refine WL.nil ?_
      refine DN.then_normal ?_
      refine WC.ret ?_
      refine DN.then_ret ?_
      refine DN.forget H (by (repeat (first | exact List.Sublist.refl _ | exact List.nil_sublist _ | apply List.Sublist.cons_cons | apply List.Sublist.cons | apply List.sublist_append_of_sublist_right))) ?_
      refine DN.ret1 Try.results7 rfl ?_
      exact ⟨rfl, rfl⟩

end Go.Proofs.Ytmdbmcicbambjaa
