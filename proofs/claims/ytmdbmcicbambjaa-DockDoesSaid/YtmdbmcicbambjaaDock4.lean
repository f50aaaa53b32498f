/-
  The walk of DockFirst.
-/
import Derived.Test.YtmdbmcicbambjaaDock3
import Derived.Test.YtmdbmcicbambjaaSLAuto
import Derived.Test.YtmdbmcicbambjaaSLRow4
set_option linter.unusedVariables false
set_option linter.unusedSimpArgs false
set_option maxHeartbeats 4000000
namespace Go.Proofs.Ytmdbmcicbambjaa
open Go.SL
theorem acs_ex (l : List Ac) (i : Nat) (h : i < l.length) : ∃ k o from_ n, ((acs l).drop (i * 4)).take 4 = [Value.int .i64 k, .int .u32 (BitVec.toNat (w := 32) o), .int .i64 from_, .int .i64 n] := ⟨_, _, _, _, acs_at l i h⟩
theorem told_at (rs : List Int) (K k : Nat) (h : k + 1 < K) (hk : k < rs.length) : (ic (told rs K))[k + 1]? = some (.int .i64 (rs.getD k 0)) := by
  have e : ¬ ((k : Int) + 1 < 1) := by omega
  simp [ic, told, h, roomOf, hk]
  omega
theorem findB_gone (L : List Bk) (o : BitVec 32) : findB (listC L (findB L o) o) o = none := by
  cases h : findB L o with
  | none => exact h
  | some b =>
    simp only [listC, delB, findB]
    rw [List.find?_eq_none]
    intro c hc
    have := (List.mem_filter.1 hc).2
    simpa using this
theorem roomOf_set {rs : List Int} {d : Nat} {x : Int} (h : d < rs.length) : roomOf (rs.set d x) d = x := by
  simp [roomOf, h]


/-- drayage/drayagelaw11.DockFirst -/
theorem law_DockFirst (v va : Value) (rs : List Int) (acts : List Ac) (o : BitVec 32) (from_ n : Int) (bf : -9223372036854775808 ≤ from_ ∧ from_ ≤ 9223372036854775807) (bn : -9223372036854775808 ≤ n ∧ n ≤ 9223372036854775807) (H : List Ck) (hv : Rs v rs.length (ic rs) H) (hl : rs.length ≤ 9223372036854775807) (hva : Rs va acts.length (acs acts) H) (hla : acts.length ≤ 9223372036854775807) : Reads Try.prog 3 [v, va, .int .u32 o.toNat, .int .i64 from_, .int .i64 n] H (.bool true) := by
  refine Tells.enter Try.func3 rfl Try.ntmps3 rfl ?_
  intro w0 R
  obtain ⟨vo, vc, rfl, hvc⟩ := hv.form
  obtain ⟨ao, ac, rfl, hac⟩ := hva.form
  refine WC.seq ?_
  refine WC.region ?_
  refine WL.y rfl (Yd.assign rfl) ?_
  refine WL.nil ?_
  refine DN.then_normal ?_
  refine WC.seq ?_
  refine WC.seq ?_
  refine WC.region ?_
  refine WL.y rfl (Yd.move rfl) ?_
  refine WL.y rfl (Yd.len (e := 3) (by kernel_rfl) rfl) ?_
  refine WL.y rfl (Yd.gtr rfl rfl) ?_
  refine WL.nil ?_
  refine DN.then_normal ?_
  refine WC.ite rfl (fun h21 => ?_) (fun h21 => ?_)
  · refine WC.seq ?_
    refine WC.region ?_
    refine WL.r rfl (Ent.func Try.call9 rfl) (known11 _) ?_
    refine WL.y rfl (Yd.assign rfl) ?_
    refine WL.nil ?_
    refine DN.then_normal ?_
    refine WC.ret ?_
    refine DN.then_ret ?_
    refine DN.forget H (by (repeat (first | exact List.Sublist.refl _ | exact List.nil_sublist _ | apply List.Sublist.cons_cons | apply List.Sublist.cons | apply List.sublist_append_of_sublist_right))) ?_
    refine DN.ret1 Try.results3 rfl ?_
    exact ⟨rfl, rfl⟩
  · refine WC.skip ?_
    refine DN.then_normal ?_
    refine WC.seq ?_
    rcases Classical.em ((rs.findIdx? badRoom).isSome = false ∧ rs.length ≤ 60) with hA | hA
    · refine WC.region ?_
      refine WL.y rfl (Yd.move rfl) ?_
      refine WL.ca rfl (Ent.func Try.call10 rfl) (new_tells _ rs H hv hl) ?_
      rintro q H1 hq
      first | (rw [if_pos hA] at hq; obtain ⟨p, C1, rfl, h1, rfl⟩ := hq) | (rw [if_neg hA] at hq; obtain ⟨rfl, hHq⟩ := hq; rw [hHq])
      refine WL.y rfl (Yd.move rfl) ?_
      refine WL.y rfl (Yd.extract rfl rfl) ?_
      refine WL.y rfl (Yd.extract rfl rfl) ?_
      refine WL.y rfl (Yd.assign rfl) ?_
      refine WL.y rfl (Yd.assign rfl) ?_
      refine WL.nil ?_
      refine DN.then_normal ?_
      refine WC.seq ?_
      refine WC.seq ?_
      refine WC.region ?_
      refine WL.y rfl (Yd.move rfl) ?_
      refine WL.y rfl (Yd.neq rfl rfl) ?_
      refine WL.renamed (t := 29) (v := .bool false) rfl (congrArg Value.bool (by decide)) ?_
      refine WL.nil ?_
      refine DN.then_normal ?_
      refine WC.no rfl ?_
      refine WC.skip ?_
      refine DN.then_normal ?_
      refine WC.seq ?_
      refine WC.seq ?_
      refine WC.region ?_
      refine WL.y rfl (Yd.assign rfl) ?_
      refine WL.nil ?_
      refine DN.then_normal ?_
      refine WC.block ?_
      refine WC.loopK (fun z : Nat × List Int × List Bk × List Ck => z.1 ≤ acts.length ∧ DockAt 55 3 p z.2.1 z.2.2.1 z.2.2.2 ∧ DInv rs z.2.1 z.2.2.1) (fun z : Nat × List Int × List Bk × List Ck => [(13, .int .i64 (z.1 : Int))]) (fun z : Nat × List Int × List Bk × List Ck => z.2.2.2 ++ H) (fun z : Nat × List Int × List Bk × List Ck => acts.length - z.1) ((0, rs, [], C1)) (⟨Nat.zero_le _, h1, DInv.start (goodOk hA.1) hA.2⟩) (Sx.put rfl ((by repeat (first | exact Sx.refl | refine Sx.skip rfl ?_)))) (Sp.all (by repeat (first | exact Sp.here | exact Sp.sn | exact Sp.s0 | exact Fr.here | apply Sp.s2 | apply Sp.sx | apply Fr.fc | apply Fr.al | apply Fr.fa | apply Sp.sc | apply Sp.al | apply Sp.sa))) ?_
      rintro ⟨i, rs1, L1, C2⟩ ⟨hi, h2, inv⟩
      simp only at hi h2 inv
      refine WC.seq ?_
      refine WC.seq ?_
      refine WC.region ?_
      refine WL.y rfl (Yd.move rfl) ?_
      refine WL.y rfl (Yd.move rfl) ?_
      refine WL.y rfl (Yd.len (e := 33) (by kernel_rfl) rfl) ?_
      refine WL.y rfl (Yd.lss rfl rfl) ?_
      refine WL.y rfl (Yd.move rfl) ?_
      refine WL.partP (t := 39) rfl (fun hg39 => ?_) (fun hg39 => ?_)
      · refine WL.gy (dj := 39) rfl rfl rfl (Yd.move rfl) ?_
        refine WL.gy (dj := 39) rfl rfl rfl (Yd.lss rfl rfl) ?_
        refine WL.y rfl (Yd.pickT rfl rfl) ?_
        refine WL.nil ?_
        refine DN.then_normal ?_
        refine WC.ite rfl (fun h42 => ?_) (fun h42 => ?_)
        · have hlt : i < acts.length := by omega
          obtain ⟨ak, ak2, ak3, ak4, hak⟩ := acs_ex acts i hlt
          refine WC.skip ?_
          refine DN.then_normal ?_
          refine WC.seq ?_
          refine WC.block ?_
          refine WC.region ?_
          refine WL.y rfl (Yd.move rfl) ?_
          refine WL.y rfl (Yd.move rfl) ?_
          refine WL.y rfl (Yd.move rfl) ?_
          refine WL.elemA (e := 33) (s := 4) (by kernel_rfl) (by kernel_rfl) (by kernel_rfl) rfl rfl (rfl) (hva.mono (by repeat (first | exact Gr.refl | exact Gr.left Gr.refl | exact Gr.nil | exact Gr.app (Gr.left Gr.refl) | refine Gr.cons ?_ | refine Gr.app ?_ | refine Gr.both ?_ ?_ | refine Gr.put (by repeat (first | exact List.mem_cons_self | apply List.mem_cons_of_mem | apply List.mem_append_right)) ?_))) (hak) (by rfl) (by omega) (hlt) rfl rfl ?_
          intro p48
          refine WL.c rfl (Ent.func Try.call11 rfl) (act_tells p rs rs1 L1 C2 h2 inv ak ak2 ak3 ak4) (Sp.p (by repeat (first | exact Sp.here | exact Sp.sn | exact Sp.s0 | exact Fr.here | apply Sp.s2 | apply Sp.sx | apply Fr.fc | apply Fr.al | apply Fr.fa | apply Sp.sc | apply Sp.al | apply Sp.sa))) ?_
          rintro q C3 ⟨rs3, L3, h3, inv3⟩
          refine WL.nil ?_
          refine DN.block_normal ?_
          refine DN.then_normal ?_
          refine WC.region ?_
          refine WL.y rfl (Yd.move rfl) ?_
          refine WL.y rfl (Yd.add rfl rfl (by omega) (by omega)) ?_
          refine WL.y rfl (Yd.assign rfl) ?_
          refine WL.nil ?_
          exact DN.againK ((i + 1, rs3, L3, C3)) (⟨by show i + 1 ≤ acts.length; omega, h3, inv3⟩) (show acts.length - (i + 1) < acts.length - i by omega) (Sx.put rfl ((by repeat (first | exact Sx.refl | refine Sx.skip rfl ?_)))) (Sp.all (by repeat (first | exact Sp.here | exact Sp.sn | exact Sp.s0 | exact Fr.here | apply Sp.s2 | apply Sp.sx | apply Fr.fc | apply Fr.al | apply Fr.fa | apply Sp.sc | apply Sp.al | apply Sp.sa)))
        · refine WC.exit ?_
          refine DN.then_exit ?_
          refine DN.then_exit ?_
          refine DN.block_exit ?_
          refine DN.then_normal ?_
          refine WC.seq ?_
          refine WC.region ?_
          refine WL.y rfl (Yd.move rfl) ?_
          refine WL.y rfl (Yd.move rfl) ?_
          refine WL.c rfl (Ent.func Try.call12 rfl) (cancel2_tells p rs1 L1 C2 h2 o (inv.cancelOk o)) (Sp.p (by repeat (first | exact Sp.here | exact Sp.sn | exact Sp.s0 | exact Fr.here | apply Sp.s2 | apply Sp.sx | apply Fr.fc | apply Fr.al | apply Fr.fa | apply Sp.sc | apply Sp.al | apply Sp.sa))) ?_
          rintro q C3 ⟨rfl, h3⟩
          obtain ⟨rs2, L2, ers, eL, inv2, hgone⟩ : ∃ rs2 L2, roomsC rs1 (findB L1 o) = rs2 ∧ listC L1 (findB L1 o) o = L2 ∧ DInv rs rs2 L2 ∧ findB L2 o = none := ⟨_, _, rfl, rfl, inv.cancel o, findB_gone L1 o⟩
          rw [ers, eL] at h3
          have hlen := inv2.len
          refine WL.nil ?_
          refine DN.then_normal ?_
          refine WC.seq ?_
          refine WC.region ?_
          refine WL.y rfl (Yd.move rfl) ?_
          refine WL.y rfl (Yd.move rfl) ?_
          refine WL.y rfl (Yd.len (e := 3) (by kernel_rfl) rfl) ?_
          refine WL.c rfl (Ent.func Try.call13 rfl) (rooms_tells p rs2 L2 C3 h3 rs.length (by omega)) (Sp.p (by repeat (first | exact Sp.here | exact Sp.sn | exact Sp.s0 | exact Fr.here | apply Sp.s2 | apply Sp.sx | apply Fr.fc | apply Fr.al | apply Fr.fa | apply Sp.sc | apply Sp.al | apply Sp.sa))) ?_
          rintro q C4 ⟨D4, h4, rfl⟩
          obtain ⟨qo, qc, rfl, hqc⟩ := h4.form
          refine WL.y rfl (Yd.assign rfl) ?_
          refine WL.nil ?_
          refine DN.then_normal ?_
          refine WC.seq ?_
          refine WC.region ?_
          refine WL.y rfl (Yd.move rfl) ?_
          refine WL.y rfl (Yd.move rfl) ?_
          refine WL.y rfl (Yd.move rfl) ?_
          refine WL.y rfl (Yd.move rfl) ?_
          refine WL.c rfl (Ent.func Try.call14 rfl) (book2_tells p rs2 L2 C3 h3 inv2.rooms (by omega) o from_ n) (Sp.p (by repeat (first | exact Sp.here | exact Sp.sn | exact Sp.s0 | exact Fr.here | apply Sp.s2 | apply Sp.sx | apply Fr.fc | apply Fr.al | apply Fr.fa | apply Sp.sc | apply Sp.al | apply Sp.sa))) ?_
          rintro q C5 ⟨rfl, h5⟩
          refine WL.blocks (C5 ++ (D4 ++ H)) (Sp.all (by repeat (first | exact Sp.here | exact Sp.sn | exact Sp.s0 | exact Fr.here | apply Sp.s2 | apply Sp.sx | apply Fr.fc | apply Fr.al | apply Fr.fa | apply Sp.sc | apply Sp.al | apply Sp.sa))) ?_
          refine WL.y rfl (Yd.move rfl) ?_
          refine WL.y rfl (Yd.extract rfl rfl) ?_
          refine WL.y rfl (Yd.extract rfl rfl) ?_
          refine WL.y rfl (Yd.assign rfl) ?_
          refine WL.y rfl (Yd.assign rfl) ?_
          refine WL.nil ?_
          refine DN.then_normal ?_
          refine WC.seq ?_
          refine WC.seq ?_
          refine WC.region ?_
          refine WL.y rfl (Yd.move rfl) ?_
          refine WL.y rfl (Yd.eql32 _ (0#32) rfl rfl rfl rfl) ?_
          refine WL.y rfl (Yd.move rfl) ?_
          refine WL.partP (t := 68) rfl (fun hg68 => ?_) (fun hg68 => ?_)
          · refine WL.gn (dj := 68) rfl rfl rfl rfl ?_
            refine WL.gn (dj := 68) rfl rfl rfl rfl ?_
            refine WL.y rfl (Yd.pickT rfl rfl) ?_
            refine WL.y rfl (Yd.move rfl) ?_
            refine WL.gn (dj := 72) rfl rfl rfl rfl ?_
            refine WL.gn (dj := 72) rfl rfl rfl rfl ?_
            refine WL.y rfl (Yd.pickT rfl rfl) ?_
            refine WL.nil ?_
            refine DN.then_normal ?_
            refine WC.yes rfl ?_
            refine WC.seq ?_
            have hb : bookOf rs2 L2 o from_ n = none := by
              rw [bookOf, if_pos]
              first | exact .inl hg68 | exact .inr (.inl hg72) | exact .inr (.inr (.inl h75))
            refine WC.region ?_
            refine WL.y rfl (Yd.move rfl) ?_
            refine WL.y rfl (Yd.eql rfl rfl) ?_
            refine WL.renamed (t := 77) (v := .bool true) rfl (congrArg Value.bool (by rw [hb]; rfl)) ?_
            refine WL.y rfl (Yd.move rfl) ?_
            refine WL.gy (dj := 78) rfl rfl rfl (Yd.move rfl) ?_
            refine WL.gy (dj := 78) rfl rfl rfl (Yd.eql rfl rfl) ?_
            refine WL.renamed (t := 80) (v := .bool true) rfl (congrArg Value.bool (by rw [hb]; rfl)) ?_
            refine WL.y rfl (Yd.pickT rfl rfl) ?_
            refine WL.y rfl (Yd.move rfl) ?_
            refine WL.gr (dj := 82) rfl rfl rfl (Ent.func Try.call9 rfl) (known11 _) ?_
            refine WL.y rfl (Yd.pickT rfl rfl) ?_
            refine WL.y rfl (Yd.assign rfl) ?_
            refine WL.nil ?_
            refine DN.then_normal ?_
            refine WC.ret ?_
            refine DN.then_ret ?_
            refine DN.forget H (by (repeat (first | exact List.Sublist.refl _ | exact List.nil_sublist _ | apply List.Sublist.cons_cons | apply List.Sublist.cons | apply List.sublist_append_of_sublist_right))) ?_
            refine DN.ret1 Try.results3 rfl ?_
            exact ⟨rfl, rfl⟩
          · refine WL.gy (dj := 68) rfl rfl rfl (Yd.move rfl) ?_
            refine WL.gy (dj := 68) rfl rfl rfl (Yd.lss rfl rfl) ?_
            refine WL.y rfl (Yd.pickF rfl rfl) ?_
            refine WL.y rfl (Yd.move rfl) ?_
            refine WL.partP (t := 72) rfl (fun hg72 => ?_) (fun hg72 => ?_)
            · refine WL.gn (dj := 72) rfl rfl rfl rfl ?_
              refine WL.gn (dj := 72) rfl rfl rfl rfl ?_
              refine WL.y rfl (Yd.pickT rfl rfl) ?_
              refine WL.nil ?_
              refine DN.then_normal ?_
              refine WC.yes rfl ?_
              refine WC.seq ?_
              have hb : bookOf rs2 L2 o from_ n = none := by
                rw [bookOf, if_pos]
                first | exact .inl hg68 | exact .inr (.inl hg72) | exact .inr (.inr (.inl h75))
              refine WC.region ?_
              refine WL.y rfl (Yd.move rfl) ?_
              refine WL.y rfl (Yd.eql rfl rfl) ?_
              refine WL.renamed (t := 77) (v := .bool true) rfl (congrArg Value.bool (by rw [hb]; rfl)) ?_
              refine WL.y rfl (Yd.move rfl) ?_
              refine WL.gy (dj := 78) rfl rfl rfl (Yd.move rfl) ?_
              refine WL.gy (dj := 78) rfl rfl rfl (Yd.eql rfl rfl) ?_
              refine WL.renamed (t := 80) (v := .bool true) rfl (congrArg Value.bool (by rw [hb]; rfl)) ?_
              refine WL.y rfl (Yd.pickT rfl rfl) ?_
              refine WL.y rfl (Yd.move rfl) ?_
              refine WL.gr (dj := 82) rfl rfl rfl (Ent.func Try.call9 rfl) (known11 _) ?_
              refine WL.y rfl (Yd.pickT rfl rfl) ?_
              refine WL.y rfl (Yd.assign rfl) ?_
              refine WL.nil ?_
              refine DN.then_normal ?_
              refine WC.ret ?_
              refine DN.then_ret ?_
              refine DN.forget H (by (repeat (first | exact List.Sublist.refl _ | exact List.nil_sublist _ | apply List.Sublist.cons_cons | apply List.Sublist.cons | apply List.sublist_append_of_sublist_right))) ?_
              refine DN.ret1 Try.results3 rfl ?_
              exact ⟨rfl, rfl⟩
            · refine WL.gy (dj := 72) rfl rfl rfl (Yd.move rfl) ?_
              refine WL.gy (dj := 72) rfl rfl rfl (Yd.lss rfl rfl) ?_
              refine WL.y rfl (Yd.pickF rfl rfl) ?_
              refine WL.nil ?_
              refine DN.then_normal ?_
              refine WC.ite rfl (fun h75 => ?_) (fun h75 => ?_)
              · refine WC.seq ?_
                have hb : bookOf rs2 L2 o from_ n = none := by
                  rw [bookOf, if_pos]
                  first | exact .inl hg68 | exact .inr (.inl hg72) | exact .inr (.inr (.inl h75))
                refine WC.region ?_
                refine WL.y rfl (Yd.move rfl) ?_
                refine WL.y rfl (Yd.eql rfl rfl) ?_
                refine WL.renamed (t := 77) (v := .bool true) rfl (congrArg Value.bool (by rw [hb]; rfl)) ?_
                refine WL.y rfl (Yd.move rfl) ?_
                refine WL.gy (dj := 78) rfl rfl rfl (Yd.move rfl) ?_
                refine WL.gy (dj := 78) rfl rfl rfl (Yd.eql rfl rfl) ?_
                refine WL.renamed (t := 80) (v := .bool true) rfl (congrArg Value.bool (by rw [hb]; rfl)) ?_
                refine WL.y rfl (Yd.pickT rfl rfl) ?_
                refine WL.y rfl (Yd.move rfl) ?_
                refine WL.gr (dj := 82) rfl rfl rfl (Ent.func Try.call9 rfl) (known11 _) ?_
                refine WL.y rfl (Yd.pickT rfl rfl) ?_
                refine WL.y rfl (Yd.assign rfl) ?_
                refine WL.nil ?_
                refine DN.then_normal ?_
                refine WC.ret ?_
                refine DN.then_ret ?_
                refine DN.forget H (by (repeat (first | exact List.Sublist.refl _ | exact List.nil_sublist _ | apply List.Sublist.cons_cons | apply List.Sublist.cons | apply List.sublist_append_of_sublist_right))) ?_
                refine DN.ret1 Try.results3 rfl ?_
                exact ⟨rfl, rfl⟩
              · refine WC.skip ?_
                refine DN.then_normal ?_
                refine WC.seq ?_
                have hbd : bookOf rs2 L2 o from_ n = dayOf rs2 from_ n := by
                  rw [bookOf, if_neg]
                  rintro (h | h | h | h)
                  · exact hg68 h
                  · omega
                  · omega
                  · rw [hgone] at h; cases h
                refine WC.region ?_
                refine WL.y rfl (Yd.assign rfl) ?_
                refine WL.nil ?_
                refine DN.then_normal ?_
                refine WC.seq ?_
                refine WC.seq ?_
                refine WC.region ?_
                refine WL.y rfl (Yd.assign rfl) ?_
                refine WL.nil ?_
                refine DN.then_normal ?_
                refine WC.block ?_
                refine WC.loopK (fun z : Nat × Int => z.1 ≤ rs.length ∧ ((z.2 = -1 ∧ ∀ j, j < z.1 → ¬ (from_ ≤ (j : Int) ∧ n ≤ rs2.getD j 0)) ∨ (0 ≤ z.2 ∧ dayOf rs2 from_ n = some z.2.toNat))) (fun z : Nat × Int => [(18, .int .i64 (z.1 : Int)), (17, .int .i64 z.2)]) (fun z : Nat × Int => C5 ++ (D4 ++ H)) (fun z : Nat × Int => rs.length - z.1) ((0, -1)) (⟨Nat.zero_le _, .inl ⟨rfl, fun j hj => by omega⟩⟩) (Sx.put rfl (Sx.put rfl ((by repeat (first | exact Sx.refl | refine Sx.skip rfl ?_))))) (Sp.all (by repeat (first | exact Sp.here | exact Sp.sn | exact Sp.s0 | exact Fr.here | apply Sp.s2 | apply Sp.sx | apply Fr.fc | apply Fr.al | apply Fr.fa | apply Sp.sc | apply Sp.al | apply Sp.sa))) ?_
                rintro ⟨k, first⟩ ⟨hk, hfirst⟩
                simp only at hk hfirst
                refine WC.seq ?_
                refine WC.seq ?_
                refine WC.region ?_
                refine WL.y rfl (Yd.move rfl) ?_
                refine WL.y rfl (Yd.move rfl) ?_
                refine WL.y rfl (Yd.len (e := 3) (by kernel_rfl) rfl) ?_
                refine WL.y rfl (Yd.lss rfl rfl) ?_
                refine WL.y rfl (Yd.move rfl) ?_
                refine WL.partP (t := 89) rfl (fun hg89 => ?_) (fun hg89 => ?_)
                · refine WL.gy (dj := 89) rfl rfl rfl (Yd.move rfl) ?_
                  refine WL.gy (dj := 89) rfl rfl rfl (Yd.lss rfl rfl) ?_
                  refine WL.y rfl (Yd.pickT rfl rfl) ?_
                  refine WL.nil ?_
                  refine DN.then_normal ?_
                  refine WC.ite rfl (fun h92 => ?_) (fun h92 => ?_)
                  · have hklt : k < rs.length := by omega
                    have hno : ∀ j, j < k → ¬ (from_ ≤ (j : Int) ∧ n ≤ rs2.getD j 0) := by
                      rcases hfirst with h | h
                      · exact h.2
                      · omega
                    refine WC.skip ?_
                    refine DN.then_normal ?_
                    refine WC.seq ?_
                    refine WC.block ?_
                    refine WC.seq ?_
                    refine WC.region ?_
                    refine WL.y rfl (Yd.move rfl) ?_
                    refine WL.y rfl (Yd.move rfl) ?_
                    refine WL.y rfl (Yd.geq rfl rfl) ?_
                    refine WL.y rfl (Yd.move rfl) ?_
                    refine WL.partP (t := 98) rfl (fun hg98 => ?_) (fun hg98 => ?_)
                    · refine WL.gy (dj := 98) rfl rfl rfl (Yd.move rfl) ?_
                      refine WL.gy (dj := 98) rfl rfl rfl (Yd.move rfl) ?_
                      refine WL.gy (dj := 98) rfl rfl rfl (Yd.add rfl rfl (by omega) (by omega)) ?_
                      refine WL.elemN (e := 3) (dj := 98) (by kernel_rfl) (by kernel_rfl) (by kernel_rfl) rfl rfl (by omega) (h4.rs.mono (by repeat (first | exact Gr.refl | exact Gr.left Gr.refl | exact Gr.nil | exact Gr.app (Gr.left Gr.refl) | refine Gr.cons ?_ | refine Gr.app ?_ | refine Gr.both ?_ ?_ | refine Gr.put (by repeat (first | exact List.mem_cons_self | apply List.mem_cons_of_mem | apply List.mem_append_right)) ?_))) (told_at rs2 (rs.length + 2) k (by omega) (by omega)) (by omega) rfl rfl rfl rfl rfl ?_
                      intro _
                      refine WL.gy (dj := 98) rfl rfl rfl (Yd.move rfl) ?_
                      refine WL.gy (dj := 98) rfl rfl rfl (Yd.geq rfl rfl) ?_
                      refine WL.y rfl (Yd.pickT rfl rfl) ?_
                      refine WL.nil ?_
                      refine DN.then_normal ?_
                      refine WC.ite rfl (fun h106 => ?_) (fun h106 => ?_)
                      · refine WC.region ?_
                        refine WL.y rfl (Yd.move rfl) ?_
                        refine WL.y rfl (Yd.assign rfl) ?_
                        refine WL.nil ?_
                        refine DN.block_normal ?_
                        refine DN.then_normal ?_
                        refine WC.region ?_
                        refine WL.y rfl (Yd.move rfl) ?_
                        refine WL.y rfl (Yd.add rfl rfl (by omega) (by omega)) ?_
                        refine WL.y rfl (Yd.assign rfl) ?_
                        refine WL.nil ?_
                        exact DN.againK ((k + 1, (k : Int))) (⟨by show k + 1 ≤ rs.length; omega, .inr ⟨by show (0 : Int) ≤ (k : Int); omega, by show dayOf rs2 from_ n = some ((k : Int)).toNat; rw [Int.toNat_natCast]; exact dayOf_yes rs2 from_ n k (by omega) (by omega) (by omega) hno⟩⟩) (show rs.length - (k + 1) < rs.length - k by omega) (Sx.put rfl (Sx.put rfl ((by repeat (first | exact Sx.refl | refine Sx.skip rfl ?_))))) (Sp.all (by repeat (first | exact Sp.here | exact Sp.sn | exact Sp.s0 | exact Fr.here | apply Sp.s2 | apply Sp.sx | apply Fr.fc | apply Fr.al | apply Fr.fa | apply Sp.sc | apply Sp.al | apply Sp.sa)))
                      · refine WC.skip ?_
                        refine DN.block_normal ?_
                        refine DN.then_normal ?_
                        refine WC.region ?_
                        refine WL.y rfl (Yd.move rfl) ?_
                        refine WL.y rfl (Yd.add rfl rfl (by omega) (by omega)) ?_
                        refine WL.y rfl (Yd.assign rfl) ?_
                        refine WL.nil ?_
                        exact DN.againK ((k + 1, first)) (⟨by show k + 1 ≤ rs.length; omega, .inl ⟨by show first = -1; omega, fun j hj => by by_cases e : j = k; (subst e; omega); exact hno j (by omega)⟩⟩) (show rs.length - (k + 1) < rs.length - k by omega) (Sx.put rfl (Sx.put rfl ((by repeat (first | exact Sx.refl | refine Sx.skip rfl ?_))))) (Sp.all (by repeat (first | exact Sp.here | exact Sp.sn | exact Sp.s0 | exact Fr.here | apply Sp.s2 | apply Sp.sx | apply Fr.fc | apply Fr.al | apply Fr.fa | apply Sp.sc | apply Sp.al | apply Sp.sa)))
                    · refine WL.gn (dj := 98) rfl rfl rfl rfl ?_
                      refine WL.gn (dj := 98) rfl rfl rfl rfl ?_
                      refine WL.gn (dj := 98) rfl rfl rfl rfl ?_
                      refine WL.gn (dj := 98) rfl rfl rfl rfl ?_
                      refine WL.gn (dj := 98) rfl rfl rfl rfl ?_
                      refine WL.gn (dj := 98) rfl rfl rfl rfl ?_
                      refine WL.gn (dj := 98) rfl rfl rfl rfl ?_
                      refine WL.y rfl (Yd.pickF rfl rfl) ?_
                      refine WL.nil ?_
                      refine DN.then_normal ?_
                      refine WC.no rfl ?_
                      refine WC.skip ?_
                      refine DN.block_normal ?_
                      refine DN.then_normal ?_
                      refine WC.region ?_
                      refine WL.y rfl (Yd.move rfl) ?_
                      refine WL.y rfl (Yd.add rfl rfl (by omega) (by omega)) ?_
                      refine WL.y rfl (Yd.assign rfl) ?_
                      refine WL.nil ?_
                      exact DN.againK ((k + 1, first)) (⟨by show k + 1 ≤ rs.length; omega, .inl ⟨by show first = -1; omega, fun j hj => by by_cases e : j = k; (subst e; omega); exact hno j (by omega)⟩⟩) (show rs.length - (k + 1) < rs.length - k by omega) (Sx.put rfl (Sx.put rfl ((by repeat (first | exact Sx.refl | refine Sx.skip rfl ?_))))) (Sp.all (by repeat (first | exact Sp.here | exact Sp.sn | exact Sp.s0 | exact Fr.here | apply Sp.s2 | apply Sp.sx | apply Fr.fc | apply Fr.al | apply Fr.fa | apply Sp.sc | apply Sp.al | apply Sp.sa)))
                  · refine WC.exit ?_
                    refine DN.then_exit ?_
                    refine DN.then_exit ?_
                    refine DN.block_exit ?_
                    refine DN.then_normal ?_
                    refine WC.seq ?_
                    refine WC.seq ?_
                    refine WC.region ?_
                    refine WL.y rfl (Yd.move rfl) ?_
                    refine WL.y rfl (Yd.lss rfl rfl) ?_
                    refine WL.nil ?_
                    refine DN.then_normal ?_
                    refine WC.ite rfl (fun h109 => ?_) (fun h109 => ?_)
                    · refine WC.seq ?_
                      have hb : bookOf rs2 L2 o from_ n = none := by
                        rw [hbd]
                        apply dayOf_no
                        rcases hfirst with h | h
                        · intro j hj; exact h.2 j (by omega)
                        · omega
                      refine WC.region ?_
                      refine WL.y rfl (Yd.move rfl) ?_
                      refine WL.y rfl (Yd.eql rfl rfl) ?_
                      refine WL.renamed (t := 111) (v := .bool true) rfl (congrArg Value.bool (by rw [hb]; rfl)) ?_
                      refine WL.y rfl (Yd.move rfl) ?_
                      refine WL.gy (dj := 112) rfl rfl rfl (Yd.move rfl) ?_
                      refine WL.gy (dj := 112) rfl rfl rfl (Yd.eql rfl rfl) ?_
                      refine WL.renamed (t := 114) (v := .bool true) rfl (congrArg Value.bool (by rw [hb]; rfl)) ?_
                      refine WL.y rfl (Yd.pickT rfl rfl) ?_
                      refine WL.y rfl (Yd.move rfl) ?_
                      refine WL.gr (dj := 116) rfl rfl rfl (Ent.func Try.call9 rfl) (known11 _) ?_
                      refine WL.y rfl (Yd.pickT rfl rfl) ?_
                      refine WL.y rfl (Yd.assign rfl) ?_
                      refine WL.nil ?_
                      refine DN.then_normal ?_
                      refine WC.ret ?_
                      refine DN.then_ret ?_
                      refine DN.forget H (by (repeat (first | exact List.Sublist.refl _ | exact List.nil_sublist _ | apply List.Sublist.cons_cons | apply List.Sublist.cons | apply List.sublist_append_of_sublist_right))) ?_
                      refine DN.ret1 Try.results3 rfl ?_
                      exact ⟨rfl, rfl⟩
                    · refine WC.skip ?_
                      refine DN.then_normal ?_
                      refine WC.seq ?_
                      obtain ⟨dd, hdd, hfd, hdd2⟩ : ∃ dd : Nat, bookOf rs2 L2 o from_ n = some dd ∧ first = (dd : Int) ∧ dayOf rs2 from_ n = some dd := by
                        rcases hfirst with h | h
                        · omega
                        · exact ⟨first.toNat, hbd.trans h.2, by omega, h.2⟩
                      obtain ⟨hd1, hd2, hd3, _⟩ := dayOf_spec hdd2
                      have hrd := inv2.rooms dd
                      rw [hdd] at h5 ⊢
                      subst hfd
                      simp only [resOf] at h5 ⊢
                      have htl := told_at rs2 (rs.length + 2) dd (by omega) (by omega)
                      rcases h4 with ⟨_, h0, _⟩ | ⟨br, cap, extra, he, hc1, hc2, hx1, hx2, hD4⟩
                      · omega
                      simp only [Value.slice.injEq] at he
                      obtain ⟨rfl, _, rfl⟩ := he
                      subst hD4
                      refine WC.draw 24 (by kernel_rfl) rfl ?_
                      refine WA.y (i := 0) (NoPanic.then (NoPanic.body)) rfl (by kernel_rfl) (by kernel_rfl) (by kernel_rfl) rfl (Yd.move rfl) ?_
                      refine WA.y (i := 1) (NoPanic.then (NoPanic.body)) rfl (by kernel_rfl) (by kernel_rfl) (by kernel_rfl) rfl (Yd.move rfl) ?_
                      refine WA.y (i := 2) (NoPanic.then (NoPanic.body)) rfl (by kernel_rfl) (by kernel_rfl) (by kernel_rfl) rfl (Yd.eql rfl rfl) ?_
                      refine WA.renamed (t := 121) (v := .bool true) rfl (congrArg Value.bool (by simp [resOf])) ?_
                      refine WA.y (i := 3) (NoPanic.then (NoPanic.body)) rfl (by kernel_rfl) (by kernel_rfl) (by kernel_rfl) rfl (Yd.move rfl) ?_
                      refine WA.gy (i := 4) (dj := 122) (NoPanic.then (NoPanic.body)) rfl (by kernel_rfl) (by kernel_rfl) (by kernel_rfl) rfl rfl rfl (Yd.move rfl) ?_
                      refine WA.gy (i := 5) (dj := 122) (NoPanic.then (NoPanic.body)) rfl (by kernel_rfl) (by kernel_rfl) (by kernel_rfl) rfl rfl rfl (Yd.eql rfl rfl) ?_
                      refine WA.renamed (t := 124) (v := .bool true) rfl (congrArg Value.bool (by simp [resOf])) ?_
                      refine WA.y (i := 6) (NoPanic.then (NoPanic.body)) rfl (by kernel_rfl) (by kernel_rfl) (by kernel_rfl) rfl (Yd.pickT rfl rfl) ?_
                      refine WA.y (i := 7) (NoPanic.then (NoPanic.body)) rfl (by kernel_rfl) (by kernel_rfl) (by kernel_rfl) rfl (Yd.move rfl) ?_
                      refine WA.gy (i := 8) (dj := 126) (NoPanic.then (NoPanic.body)) rfl (by kernel_rfl) (by kernel_rfl) (by kernel_rfl) rfl rfl rfl (Yd.move rfl) ?_
                      refine WA.gy (i := 9) (dj := 126) (NoPanic.then (NoPanic.body)) rfl (by kernel_rfl) (by kernel_rfl) (by kernel_rfl) rfl rfl rfl (Yd.move rfl) ?_
                      refine WA.gy (i := 11) (dj := 126) (NoPanic.then (NoPanic.body)) rfl (by kernel_rfl) (by kernel_rfl) (by kernel_rfl) rfl rfl rfl (Yd.move rfl) ?_
                      refine WA.gy (i := 12) (dj := 126) (NoPanic.then (NoPanic.body)) rfl (by kernel_rfl) (by kernel_rfl) (by kernel_rfl) rfl rfl rfl (Yd.move rfl) ?_
                      refine WA.gy (i := 13) (dj := 126) (NoPanic.then (NoPanic.body)) rfl (by kernel_rfl) (by kernel_rfl) (by kernel_rfl) rfl rfl rfl (Yd.add rfl rfl (by omega) (by omega)) ?_
                      refine WA.gy (i := 14) (dj := 126) (NoPanic.then (NoPanic.body)) rfl (by kernel_rfl) (by kernel_rfl) (by kernel_rfl) rfl rfl rfl (Yd.indexAddr (e := 3) (s := 1) (by kernel_rfl) (by kernel_rfl) rfl rfl (by omega) (by omega)) ?_
                      refine WA.gy (i := 16) (dj := 126) (NoPanic.then (NoPanic.body)) rfl (by kernel_rfl) (by kernel_rfl) (by kernel_rfl) rfl rfl rfl (Yd.move rfl) ?_
                      refine WA.two (i := 10) (j := 15) (by kernel_rfl) ?_ ?_
                      · refine WO.rf rfl (Wt.yes (dj := 126) rfl rfl) rfl (Ent.func Try.call15 rfl) (room_reads p (rs2.set dd (rs2.getD dd 0 - n)) _ C5 h5 (dd : Int)) (by repeat (first | exact Sp.here | exact Sp.sn | exact Sp.s0 | exact Fr.here | apply Sp.s2 | apply Sp.sx | apply Fr.fc | apply Fr.al | apply Fr.fa | apply Sp.sc | apply Sp.al | apply Sp.sa)) ?_
                        refine WA.one (i := 15) (by kernel_rfl) ?_
                        refine WO.h rfl (Wt.yes (dj := 126) rfl rfl) rfl (Hd.load1 (v := .int .i64 (rs2.getD dd 0)) (by kernel_rfl) rfl (by repeat (first | exact List.mem_cons_self | apply List.mem_cons_of_mem | apply List.mem_append_right)) (by rw [List.getElem?_append_left (by rw [ic_length, told_length]; omega), ← htl]; congr 1; omega) ⟨_, rfl, ?_⟩)
                        refine WA.gy (i := 17) (dj := 126) (NoPanic.then (NoPanic.body)) rfl (by kernel_rfl) (by kernel_rfl) (by kernel_rfl) rfl rfl rfl (Yd.sub rfl rfl (by omega) (by omega)) ?_
                        refine WA.gy (i := 18) (dj := 126) (NoPanic.then (NoPanic.body)) rfl (by kernel_rfl) (by kernel_rfl) (by kernel_rfl) rfl rfl rfl (Yd.eql rfl rfl) ?_
                        refine WA.renamed (t := 137) (v := .bool true) rfl (congrArg Value.bool (by rw [roomOf_set hd1]; simp)) ?_
                        refine WA.y (i := 19) (NoPanic.then (NoPanic.body)) rfl (by kernel_rfl) (by kernel_rfl) (by kernel_rfl) rfl (Yd.pickT rfl rfl) ?_
                        refine WA.y (i := 20) (NoPanic.then (NoPanic.body)) rfl (by kernel_rfl) (by kernel_rfl) (by kernel_rfl) rfl (Yd.move rfl) ?_
                        refine WA.one (i := 21) (by kernel_rfl) ?_
                        refine WO.r rfl (Wt.yes (dj := 139) rfl rfl) rfl (Ent.func Try.call9 rfl) (known11 _) ?_
                        refine WA.y (i := 22) (NoPanic.then (NoPanic.body)) rfl (by kernel_rfl) (by kernel_rfl) (by kernel_rfl) rfl (Yd.pickT rfl rfl) ?_
                        refine WA.y (i := 23) (NoPanic.then (NoPanic.body)) rfl (by kernel_rfl) (by kernel_rfl) (by kernel_rfl) rfl (Yd.assign rfl) ?_
                        refine WA.done (by kernel_rfl) ?_
                        refine DN.then_normal ?_
                        refine WC.ret ?_
                        refine DN.forget H (by (repeat (first | exact List.Sublist.refl _ | exact List.nil_sublist _ | apply List.Sublist.cons_cons | apply List.Sublist.cons | apply List.sublist_append_of_sublist_right))) ?_
                        refine DN.ret1 Try.results3 rfl ?_
                        exact ⟨rfl, rfl⟩
                      · refine WO.h rfl (Wt.yes (dj := 126) rfl rfl) rfl (Hd.load1 (v := .int .i64 (rs2.getD dd 0)) (by kernel_rfl) rfl (by repeat (first | exact List.mem_cons_self | apply List.mem_cons_of_mem | apply List.mem_append_right)) (by rw [List.getElem?_append_left (by rw [ic_length, told_length]; omega), ← htl]; congr 1; omega) ⟨_, rfl, ?_⟩)
                        refine WA.gy (i := 17) (dj := 126) (NoPanic.then (NoPanic.body)) rfl (by kernel_rfl) (by kernel_rfl) (by kernel_rfl) rfl rfl rfl (Yd.sub rfl rfl (by omega) (by omega)) ?_
                        refine WA.one (i := 10) (by kernel_rfl) ?_
                        refine WO.rf rfl (Wt.yes (dj := 126) rfl rfl) rfl (Ent.func Try.call15 rfl) (room_reads p (rs2.set dd (rs2.getD dd 0 - n)) _ C5 h5 (dd : Int)) (by repeat (first | exact Sp.here | exact Sp.sn | exact Sp.s0 | exact Fr.here | apply Sp.s2 | apply Sp.sx | apply Fr.fc | apply Fr.al | apply Fr.fa | apply Sp.sc | apply Sp.al | apply Sp.sa)) ?_
                        refine WA.gy (i := 18) (dj := 126) (NoPanic.then (NoPanic.body)) rfl (by kernel_rfl) (by kernel_rfl) (by kernel_rfl) rfl rfl rfl (Yd.eql rfl rfl) ?_
                        refine WA.renamed (t := 137) (v := .bool true) rfl (congrArg Value.bool (by rw [roomOf_set hd1]; simp)) ?_
                        refine WA.y (i := 19) (NoPanic.then (NoPanic.body)) rfl (by kernel_rfl) (by kernel_rfl) (by kernel_rfl) rfl (Yd.pickT rfl rfl) ?_
                        refine WA.y (i := 20) (NoPanic.then (NoPanic.body)) rfl (by kernel_rfl) (by kernel_rfl) (by kernel_rfl) rfl (Yd.move rfl) ?_
                        refine WA.one (i := 21) (by kernel_rfl) ?_
                        refine WO.r rfl (Wt.yes (dj := 139) rfl rfl) rfl (Ent.func Try.call9 rfl) (known11 _) ?_
                        refine WA.y (i := 22) (NoPanic.then (NoPanic.body)) rfl (by kernel_rfl) (by kernel_rfl) (by kernel_rfl) rfl (Yd.pickT rfl rfl) ?_
                        refine WA.y (i := 23) (NoPanic.then (NoPanic.body)) rfl (by kernel_rfl) (by kernel_rfl) (by kernel_rfl) rfl (Yd.assign rfl) ?_
                        refine WA.done (by kernel_rfl) ?_
                        refine DN.then_normal ?_
                        refine WC.ret ?_
                        refine DN.forget H (by (repeat (first | exact List.Sublist.refl _ | exact List.nil_sublist _ | apply List.Sublist.cons_cons | apply List.Sublist.cons | apply List.sublist_append_of_sublist_right))) ?_
                        refine DN.ret1 Try.results3 rfl ?_
                        exact ⟨rfl, rfl⟩
                · refine WL.gn (dj := 89) rfl rfl rfl rfl ?_
                  refine WL.gn (dj := 89) rfl rfl rfl rfl ?_
                  refine WL.y rfl (Yd.pickF rfl rfl) ?_
                  refine WL.nil ?_
                  refine DN.then_normal ?_
                  refine WC.no rfl ?_
                  refine WC.exit ?_
                  refine DN.then_exit ?_
                  refine DN.then_exit ?_
                  refine DN.block_exit ?_
                  refine DN.then_normal ?_
                  refine WC.seq ?_
                  refine WC.seq ?_
                  refine WC.region ?_
                  refine WL.y rfl (Yd.move rfl) ?_
                  refine WL.y rfl (Yd.lss rfl rfl) ?_
                  refine WL.nil ?_
                  refine DN.then_normal ?_
                  refine WC.ite rfl (fun h109 => ?_) (fun h109 => ?_)
                  · refine WC.seq ?_
                    have hb : bookOf rs2 L2 o from_ n = none := by
                      rw [hbd]
                      apply dayOf_no
                      rcases hfirst with h | h
                      · intro j hj; exact h.2 j (by omega)
                      · omega
                    refine WC.region ?_
                    refine WL.y rfl (Yd.move rfl) ?_
                    refine WL.y rfl (Yd.eql rfl rfl) ?_
                    refine WL.renamed (t := 111) (v := .bool true) rfl (congrArg Value.bool (by rw [hb]; rfl)) ?_
                    refine WL.y rfl (Yd.move rfl) ?_
                    refine WL.gy (dj := 112) rfl rfl rfl (Yd.move rfl) ?_
                    refine WL.gy (dj := 112) rfl rfl rfl (Yd.eql rfl rfl) ?_
                    refine WL.renamed (t := 114) (v := .bool true) rfl (congrArg Value.bool (by rw [hb]; rfl)) ?_
                    refine WL.y rfl (Yd.pickT rfl rfl) ?_
                    refine WL.y rfl (Yd.move rfl) ?_
                    refine WL.gr (dj := 116) rfl rfl rfl (Ent.func Try.call9 rfl) (known11 _) ?_
                    refine WL.y rfl (Yd.pickT rfl rfl) ?_
                    refine WL.y rfl (Yd.assign rfl) ?_
                    refine WL.nil ?_
                    refine DN.then_normal ?_
                    refine WC.ret ?_
                    refine DN.then_ret ?_
                    refine DN.forget H (by (repeat (first | exact List.Sublist.refl _ | exact List.nil_sublist _ | apply List.Sublist.cons_cons | apply List.Sublist.cons | apply List.sublist_append_of_sublist_right))) ?_
                    refine DN.ret1 Try.results3 rfl ?_
                    exact ⟨rfl, rfl⟩
                  · refine WC.skip ?_
                    refine DN.then_normal ?_
                    refine WC.seq ?_
                    obtain ⟨dd, hdd, hfd, hdd2⟩ : ∃ dd : Nat, bookOf rs2 L2 o from_ n = some dd ∧ first = (dd : Int) ∧ dayOf rs2 from_ n = some dd := by
                      rcases hfirst with h | h
                      · omega
                      · exact ⟨first.toNat, hbd.trans h.2, by omega, h.2⟩
                    obtain ⟨hd1, hd2, hd3, _⟩ := dayOf_spec hdd2
                    have hrd := inv2.rooms dd
                    rw [hdd] at h5 ⊢
                    subst hfd
                    simp only [resOf] at h5 ⊢
                    have htl := told_at rs2 (rs.length + 2) dd (by omega) (by omega)
                    rcases h4 with ⟨_, h0, _⟩ | ⟨br, cap, extra, he, hc1, hc2, hx1, hx2, hD4⟩
                    · omega
                    simp only [Value.slice.injEq] at he
                    obtain ⟨rfl, _, rfl⟩ := he
                    subst hD4
                    refine WC.draw 24 (by kernel_rfl) rfl ?_
                    refine WA.y (i := 0) (NoPanic.then (NoPanic.body)) rfl (by kernel_rfl) (by kernel_rfl) (by kernel_rfl) rfl (Yd.move rfl) ?_
                    refine WA.y (i := 1) (NoPanic.then (NoPanic.body)) rfl (by kernel_rfl) (by kernel_rfl) (by kernel_rfl) rfl (Yd.move rfl) ?_
                    refine WA.y (i := 2) (NoPanic.then (NoPanic.body)) rfl (by kernel_rfl) (by kernel_rfl) (by kernel_rfl) rfl (Yd.eql rfl rfl) ?_
                    refine WA.renamed (t := 121) (v := .bool true) rfl (congrArg Value.bool (by simp [resOf])) ?_
                    refine WA.y (i := 3) (NoPanic.then (NoPanic.body)) rfl (by kernel_rfl) (by kernel_rfl) (by kernel_rfl) rfl (Yd.move rfl) ?_
                    refine WA.gy (i := 4) (dj := 122) (NoPanic.then (NoPanic.body)) rfl (by kernel_rfl) (by kernel_rfl) (by kernel_rfl) rfl rfl rfl (Yd.move rfl) ?_
                    refine WA.gy (i := 5) (dj := 122) (NoPanic.then (NoPanic.body)) rfl (by kernel_rfl) (by kernel_rfl) (by kernel_rfl) rfl rfl rfl (Yd.eql rfl rfl) ?_
                    refine WA.renamed (t := 124) (v := .bool true) rfl (congrArg Value.bool (by simp [resOf])) ?_
                    refine WA.y (i := 6) (NoPanic.then (NoPanic.body)) rfl (by kernel_rfl) (by kernel_rfl) (by kernel_rfl) rfl (Yd.pickT rfl rfl) ?_
                    refine WA.y (i := 7) (NoPanic.then (NoPanic.body)) rfl (by kernel_rfl) (by kernel_rfl) (by kernel_rfl) rfl (Yd.move rfl) ?_
                    refine WA.gy (i := 8) (dj := 126) (NoPanic.then (NoPanic.body)) rfl (by kernel_rfl) (by kernel_rfl) (by kernel_rfl) rfl rfl rfl (Yd.move rfl) ?_
                    refine WA.gy (i := 9) (dj := 126) (NoPanic.then (NoPanic.body)) rfl (by kernel_rfl) (by kernel_rfl) (by kernel_rfl) rfl rfl rfl (Yd.move rfl) ?_
                    refine WA.gy (i := 11) (dj := 126) (NoPanic.then (NoPanic.body)) rfl (by kernel_rfl) (by kernel_rfl) (by kernel_rfl) rfl rfl rfl (Yd.move rfl) ?_
                    refine WA.gy (i := 12) (dj := 126) (NoPanic.then (NoPanic.body)) rfl (by kernel_rfl) (by kernel_rfl) (by kernel_rfl) rfl rfl rfl (Yd.move rfl) ?_
                    refine WA.gy (i := 13) (dj := 126) (NoPanic.then (NoPanic.body)) rfl (by kernel_rfl) (by kernel_rfl) (by kernel_rfl) rfl rfl rfl (Yd.add rfl rfl (by omega) (by omega)) ?_
                    refine WA.gy (i := 14) (dj := 126) (NoPanic.then (NoPanic.body)) rfl (by kernel_rfl) (by kernel_rfl) (by kernel_rfl) rfl rfl rfl (Yd.indexAddr (e := 3) (s := 1) (by kernel_rfl) (by kernel_rfl) rfl rfl (by omega) (by omega)) ?_
                    refine WA.gy (i := 16) (dj := 126) (NoPanic.then (NoPanic.body)) rfl (by kernel_rfl) (by kernel_rfl) (by kernel_rfl) rfl rfl rfl (Yd.move rfl) ?_
                    refine WA.two (i := 10) (j := 15) (by kernel_rfl) ?_ ?_
                    · refine WO.rf rfl (Wt.yes (dj := 126) rfl rfl) rfl (Ent.func Try.call15 rfl) (room_reads p (rs2.set dd (rs2.getD dd 0 - n)) _ C5 h5 (dd : Int)) (by repeat (first | exact Sp.here | exact Sp.sn | exact Sp.s0 | exact Fr.here | apply Sp.s2 | apply Sp.sx | apply Fr.fc | apply Fr.al | apply Fr.fa | apply Sp.sc | apply Sp.al | apply Sp.sa)) ?_
                      refine WA.one (i := 15) (by kernel_rfl) ?_
                      refine WO.h rfl (Wt.yes (dj := 126) rfl rfl) rfl (Hd.load1 (v := .int .i64 (rs2.getD dd 0)) (by kernel_rfl) rfl (by repeat (first | exact List.mem_cons_self | apply List.mem_cons_of_mem | apply List.mem_append_right)) (by rw [List.getElem?_append_left (by rw [ic_length, told_length]; omega), ← htl]; congr 1; omega) ⟨_, rfl, ?_⟩)
                      refine WA.gy (i := 17) (dj := 126) (NoPanic.then (NoPanic.body)) rfl (by kernel_rfl) (by kernel_rfl) (by kernel_rfl) rfl rfl rfl (Yd.sub rfl rfl (by omega) (by omega)) ?_
                      refine WA.gy (i := 18) (dj := 126) (NoPanic.then (NoPanic.body)) rfl (by kernel_rfl) (by kernel_rfl) (by kernel_rfl) rfl rfl rfl (Yd.eql rfl rfl) ?_
                      refine WA.renamed (t := 137) (v := .bool true) rfl (congrArg Value.bool (by rw [roomOf_set hd1]; simp)) ?_
                      refine WA.y (i := 19) (NoPanic.then (NoPanic.body)) rfl (by kernel_rfl) (by kernel_rfl) (by kernel_rfl) rfl (Yd.pickT rfl rfl) ?_
                      refine WA.y (i := 20) (NoPanic.then (NoPanic.body)) rfl (by kernel_rfl) (by kernel_rfl) (by kernel_rfl) rfl (Yd.move rfl) ?_
                      refine WA.one (i := 21) (by kernel_rfl) ?_
                      refine WO.r rfl (Wt.yes (dj := 139) rfl rfl) rfl (Ent.func Try.call9 rfl) (known11 _) ?_
                      refine WA.y (i := 22) (NoPanic.then (NoPanic.body)) rfl (by kernel_rfl) (by kernel_rfl) (by kernel_rfl) rfl (Yd.pickT rfl rfl) ?_
                      refine WA.y (i := 23) (NoPanic.then (NoPanic.body)) rfl (by kernel_rfl) (by kernel_rfl) (by kernel_rfl) rfl (Yd.assign rfl) ?_
                      refine WA.done (by kernel_rfl) ?_
                      refine DN.then_normal ?_
                      refine WC.ret ?_
                      refine DN.forget H (by (repeat (first | exact List.Sublist.refl _ | exact List.nil_sublist _ | apply List.Sublist.cons_cons | apply List.Sublist.cons | apply List.sublist_append_of_sublist_right))) ?_
                      refine DN.ret1 Try.results3 rfl ?_
                      exact ⟨rfl, rfl⟩
                    · refine WO.h rfl (Wt.yes (dj := 126) rfl rfl) rfl (Hd.load1 (v := .int .i64 (rs2.getD dd 0)) (by kernel_rfl) rfl (by repeat (first | exact List.mem_cons_self | apply List.mem_cons_of_mem | apply List.mem_append_right)) (by rw [List.getElem?_append_left (by rw [ic_length, told_length]; omega), ← htl]; congr 1; omega) ⟨_, rfl, ?_⟩)
                      refine WA.gy (i := 17) (dj := 126) (NoPanic.then (NoPanic.body)) rfl (by kernel_rfl) (by kernel_rfl) (by kernel_rfl) rfl rfl rfl (Yd.sub rfl rfl (by omega) (by omega)) ?_
                      refine WA.one (i := 10) (by kernel_rfl) ?_
                      refine WO.rf rfl (Wt.yes (dj := 126) rfl rfl) rfl (Ent.func Try.call15 rfl) (room_reads p (rs2.set dd (rs2.getD dd 0 - n)) _ C5 h5 (dd : Int)) (by repeat (first | exact Sp.here | exact Sp.sn | exact Sp.s0 | exact Fr.here | apply Sp.s2 | apply Sp.sx | apply Fr.fc | apply Fr.al | apply Fr.fa | apply Sp.sc | apply Sp.al | apply Sp.sa)) ?_
                      refine WA.gy (i := 18) (dj := 126) (NoPanic.then (NoPanic.body)) rfl (by kernel_rfl) (by kernel_rfl) (by kernel_rfl) rfl rfl rfl (Yd.eql rfl rfl) ?_
                      refine WA.renamed (t := 137) (v := .bool true) rfl (congrArg Value.bool (by rw [roomOf_set hd1]; simp)) ?_
                      refine WA.y (i := 19) (NoPanic.then (NoPanic.body)) rfl (by kernel_rfl) (by kernel_rfl) (by kernel_rfl) rfl (Yd.pickT rfl rfl) ?_
                      refine WA.y (i := 20) (NoPanic.then (NoPanic.body)) rfl (by kernel_rfl) (by kernel_rfl) (by kernel_rfl) rfl (Yd.move rfl) ?_
                      refine WA.one (i := 21) (by kernel_rfl) ?_
                      refine WO.r rfl (Wt.yes (dj := 139) rfl rfl) rfl (Ent.func Try.call9 rfl) (known11 _) ?_
                      refine WA.y (i := 22) (NoPanic.then (NoPanic.body)) rfl (by kernel_rfl) (by kernel_rfl) (by kernel_rfl) rfl (Yd.pickT rfl rfl) ?_
                      refine WA.y (i := 23) (NoPanic.then (NoPanic.body)) rfl (by kernel_rfl) (by kernel_rfl) (by kernel_rfl) rfl (Yd.assign rfl) ?_
                      refine WA.done (by kernel_rfl) ?_
                      refine DN.then_normal ?_
                      refine WC.ret ?_
                      refine DN.forget H (by (repeat (first | exact List.Sublist.refl _ | exact List.nil_sublist _ | apply List.Sublist.cons_cons | apply List.Sublist.cons | apply List.sublist_append_of_sublist_right))) ?_
                      refine DN.ret1 Try.results3 rfl ?_
                      exact ⟨rfl, rfl⟩
      · refine WL.gn (dj := 39) rfl rfl rfl rfl ?_
        refine WL.gn (dj := 39) rfl rfl rfl rfl ?_
        refine WL.y rfl (Yd.pickF rfl rfl) ?_
        refine WL.nil ?_
        refine DN.then_normal ?_
        refine WC.no rfl ?_
        refine WC.exit ?_
        refine DN.then_exit ?_
        refine DN.then_exit ?_
        refine DN.block_exit ?_
        refine DN.then_normal ?_
        refine WC.seq ?_
        refine WC.region ?_
        refine WL.y rfl (Yd.move rfl) ?_
        refine WL.y rfl (Yd.move rfl) ?_
        refine WL.c rfl (Ent.func Try.call12 rfl) (cancel2_tells p rs1 L1 C2 h2 o (inv.cancelOk o)) (Sp.p (by repeat (first | exact Sp.here | exact Sp.sn | exact Sp.s0 | exact Fr.here | apply Sp.s2 | apply Sp.sx | apply Fr.fc | apply Fr.al | apply Fr.fa | apply Sp.sc | apply Sp.al | apply Sp.sa))) ?_
        rintro q C3 ⟨rfl, h3⟩
        obtain ⟨rs2, L2, ers, eL, inv2, hgone⟩ : ∃ rs2 L2, roomsC rs1 (findB L1 o) = rs2 ∧ listC L1 (findB L1 o) o = L2 ∧ DInv rs rs2 L2 ∧ findB L2 o = none := ⟨_, _, rfl, rfl, inv.cancel o, findB_gone L1 o⟩
        rw [ers, eL] at h3
        have hlen := inv2.len
        refine WL.nil ?_
        refine DN.then_normal ?_
        refine WC.seq ?_
        refine WC.region ?_
        refine WL.y rfl (Yd.move rfl) ?_
        refine WL.y rfl (Yd.move rfl) ?_
        refine WL.y rfl (Yd.len (e := 3) (by kernel_rfl) rfl) ?_
        refine WL.c rfl (Ent.func Try.call13 rfl) (rooms_tells p rs2 L2 C3 h3 rs.length (by omega)) (Sp.p (by repeat (first | exact Sp.here | exact Sp.sn | exact Sp.s0 | exact Fr.here | apply Sp.s2 | apply Sp.sx | apply Fr.fc | apply Fr.al | apply Fr.fa | apply Sp.sc | apply Sp.al | apply Sp.sa))) ?_
        rintro q C4 ⟨D4, h4, rfl⟩
        obtain ⟨qo, qc, rfl, hqc⟩ := h4.form
        refine WL.y rfl (Yd.assign rfl) ?_
        refine WL.nil ?_
        refine DN.then_normal ?_
        refine WC.seq ?_
        refine WC.region ?_
        refine WL.y rfl (Yd.move rfl) ?_
        refine WL.y rfl (Yd.move rfl) ?_
        refine WL.y rfl (Yd.move rfl) ?_
        refine WL.y rfl (Yd.move rfl) ?_
        refine WL.c rfl (Ent.func Try.call14 rfl) (book2_tells p rs2 L2 C3 h3 inv2.rooms (by omega) o from_ n) (Sp.p (by repeat (first | exact Sp.here | exact Sp.sn | exact Sp.s0 | exact Fr.here | apply Sp.s2 | apply Sp.sx | apply Fr.fc | apply Fr.al | apply Fr.fa | apply Sp.sc | apply Sp.al | apply Sp.sa))) ?_
        rintro q C5 ⟨rfl, h5⟩
        refine WL.blocks (C5 ++ (D4 ++ H)) (Sp.all (by repeat (first | exact Sp.here | exact Sp.sn | exact Sp.s0 | exact Fr.here | apply Sp.s2 | apply Sp.sx | apply Fr.fc | apply Fr.al | apply Fr.fa | apply Sp.sc | apply Sp.al | apply Sp.sa))) ?_
        refine WL.y rfl (Yd.move rfl) ?_
        refine WL.y rfl (Yd.extract rfl rfl) ?_
        refine WL.y rfl (Yd.extract rfl rfl) ?_
        refine WL.y rfl (Yd.assign rfl) ?_
        refine WL.y rfl (Yd.assign rfl) ?_
        refine WL.nil ?_
        refine DN.then_normal ?_
        refine WC.seq ?_
        refine WC.seq ?_
        refine WC.region ?_
        refine WL.y rfl (Yd.move rfl) ?_
        refine WL.y rfl (Yd.eql32 _ (0#32) rfl rfl rfl rfl) ?_
        refine WL.y rfl (Yd.move rfl) ?_
        refine WL.partP (t := 68) rfl (fun hg68 => ?_) (fun hg68 => ?_)
        · refine WL.gn (dj := 68) rfl rfl rfl rfl ?_
          refine WL.gn (dj := 68) rfl rfl rfl rfl ?_
          refine WL.y rfl (Yd.pickT rfl rfl) ?_
          refine WL.y rfl (Yd.move rfl) ?_
          refine WL.gn (dj := 72) rfl rfl rfl rfl ?_
          refine WL.gn (dj := 72) rfl rfl rfl rfl ?_
          refine WL.y rfl (Yd.pickT rfl rfl) ?_
          refine WL.nil ?_
          refine DN.then_normal ?_
          refine WC.yes rfl ?_
          refine WC.seq ?_
          have hb : bookOf rs2 L2 o from_ n = none := by
            rw [bookOf, if_pos]
            first | exact .inl hg68 | exact .inr (.inl hg72) | exact .inr (.inr (.inl h75))
          refine WC.region ?_
          refine WL.y rfl (Yd.move rfl) ?_
          refine WL.y rfl (Yd.eql rfl rfl) ?_
          refine WL.renamed (t := 77) (v := .bool true) rfl (congrArg Value.bool (by rw [hb]; rfl)) ?_
          refine WL.y rfl (Yd.move rfl) ?_
          refine WL.gy (dj := 78) rfl rfl rfl (Yd.move rfl) ?_
          refine WL.gy (dj := 78) rfl rfl rfl (Yd.eql rfl rfl) ?_
          refine WL.renamed (t := 80) (v := .bool true) rfl (congrArg Value.bool (by rw [hb]; rfl)) ?_
          refine WL.y rfl (Yd.pickT rfl rfl) ?_
          refine WL.y rfl (Yd.move rfl) ?_
          refine WL.gr (dj := 82) rfl rfl rfl (Ent.func Try.call9 rfl) (known11 _) ?_
          refine WL.y rfl (Yd.pickT rfl rfl) ?_
          refine WL.y rfl (Yd.assign rfl) ?_
          refine WL.nil ?_
          refine DN.then_normal ?_
          refine WC.ret ?_
          refine DN.then_ret ?_
          refine DN.forget H (by (repeat (first | exact List.Sublist.refl _ | exact List.nil_sublist _ | apply List.Sublist.cons_cons | apply List.Sublist.cons | apply List.sublist_append_of_sublist_right))) ?_
          refine DN.ret1 Try.results3 rfl ?_
          exact ⟨rfl, rfl⟩
        · refine WL.gy (dj := 68) rfl rfl rfl (Yd.move rfl) ?_
          refine WL.gy (dj := 68) rfl rfl rfl (Yd.lss rfl rfl) ?_
          refine WL.y rfl (Yd.pickF rfl rfl) ?_
          refine WL.y rfl (Yd.move rfl) ?_
          refine WL.partP (t := 72) rfl (fun hg72 => ?_) (fun hg72 => ?_)
          · refine WL.gn (dj := 72) rfl rfl rfl rfl ?_
            refine WL.gn (dj := 72) rfl rfl rfl rfl ?_
            refine WL.y rfl (Yd.pickT rfl rfl) ?_
            refine WL.nil ?_
            refine DN.then_normal ?_
            refine WC.yes rfl ?_
            refine WC.seq ?_
            have hb : bookOf rs2 L2 o from_ n = none := by
              rw [bookOf, if_pos]
              first | exact .inl hg68 | exact .inr (.inl hg72) | exact .inr (.inr (.inl h75))
            refine WC.region ?_
            refine WL.y rfl (Yd.move rfl) ?_
            refine WL.y rfl (Yd.eql rfl rfl) ?_
            refine WL.renamed (t := 77) (v := .bool true) rfl (congrArg Value.bool (by rw [hb]; rfl)) ?_
            refine WL.y rfl (Yd.move rfl) ?_
            refine WL.gy (dj := 78) rfl rfl rfl (Yd.move rfl) ?_
            refine WL.gy (dj := 78) rfl rfl rfl (Yd.eql rfl rfl) ?_
            refine WL.renamed (t := 80) (v := .bool true) rfl (congrArg Value.bool (by rw [hb]; rfl)) ?_
            refine WL.y rfl (Yd.pickT rfl rfl) ?_
            refine WL.y rfl (Yd.move rfl) ?_
            refine WL.gr (dj := 82) rfl rfl rfl (Ent.func Try.call9 rfl) (known11 _) ?_
            refine WL.y rfl (Yd.pickT rfl rfl) ?_
            refine WL.y rfl (Yd.assign rfl) ?_
            refine WL.nil ?_
            refine DN.then_normal ?_
            refine WC.ret ?_
            refine DN.then_ret ?_
            refine DN.forget H (by (repeat (first | exact List.Sublist.refl _ | exact List.nil_sublist _ | apply List.Sublist.cons_cons | apply List.Sublist.cons | apply List.sublist_append_of_sublist_right))) ?_
            refine DN.ret1 Try.results3 rfl ?_
            exact ⟨rfl, rfl⟩
          · refine WL.gy (dj := 72) rfl rfl rfl (Yd.move rfl) ?_
            refine WL.gy (dj := 72) rfl rfl rfl (Yd.lss rfl rfl) ?_
            refine WL.y rfl (Yd.pickF rfl rfl) ?_
            refine WL.nil ?_
            refine DN.then_normal ?_
            refine WC.ite rfl (fun h75 => ?_) (fun h75 => ?_)
            · refine WC.seq ?_
              have hb : bookOf rs2 L2 o from_ n = none := by
                rw [bookOf, if_pos]
                first | exact .inl hg68 | exact .inr (.inl hg72) | exact .inr (.inr (.inl h75))
              refine WC.region ?_
              refine WL.y rfl (Yd.move rfl) ?_
              refine WL.y rfl (Yd.eql rfl rfl) ?_
              refine WL.renamed (t := 77) (v := .bool true) rfl (congrArg Value.bool (by rw [hb]; rfl)) ?_
              refine WL.y rfl (Yd.move rfl) ?_
              refine WL.gy (dj := 78) rfl rfl rfl (Yd.move rfl) ?_
              refine WL.gy (dj := 78) rfl rfl rfl (Yd.eql rfl rfl) ?_
              refine WL.renamed (t := 80) (v := .bool true) rfl (congrArg Value.bool (by rw [hb]; rfl)) ?_
              refine WL.y rfl (Yd.pickT rfl rfl) ?_
              refine WL.y rfl (Yd.move rfl) ?_
              refine WL.gr (dj := 82) rfl rfl rfl (Ent.func Try.call9 rfl) (known11 _) ?_
              refine WL.y rfl (Yd.pickT rfl rfl) ?_
              refine WL.y rfl (Yd.assign rfl) ?_
              refine WL.nil ?_
              refine DN.then_normal ?_
              refine WC.ret ?_
              refine DN.then_ret ?_
              refine DN.forget H (by (repeat (first | exact List.Sublist.refl _ | exact List.nil_sublist _ | apply List.Sublist.cons_cons | apply List.Sublist.cons | apply List.sublist_append_of_sublist_right))) ?_
              refine DN.ret1 Try.results3 rfl ?_
              exact ⟨rfl, rfl⟩
            · refine WC.skip ?_
              refine DN.then_normal ?_
              refine WC.seq ?_
              have hbd : bookOf rs2 L2 o from_ n = dayOf rs2 from_ n := by
                rw [bookOf, if_neg]
                rintro (h | h | h | h)
                · exact hg68 h
                · omega
                · omega
                · rw [hgone] at h; cases h
              refine WC.region ?_
              refine WL.y rfl (Yd.assign rfl) ?_
              refine WL.nil ?_
              refine DN.then_normal ?_
              refine WC.seq ?_
              refine WC.seq ?_
              refine WC.region ?_
              refine WL.y rfl (Yd.assign rfl) ?_
              refine WL.nil ?_
              refine DN.then_normal ?_
              refine WC.block ?_
              refine WC.loopK (fun z : Nat × Int => z.1 ≤ rs.length ∧ ((z.2 = -1 ∧ ∀ j, j < z.1 → ¬ (from_ ≤ (j : Int) ∧ n ≤ rs2.getD j 0)) ∨ (0 ≤ z.2 ∧ dayOf rs2 from_ n = some z.2.toNat))) (fun z : Nat × Int => [(18, .int .i64 (z.1 : Int)), (17, .int .i64 z.2)]) (fun z : Nat × Int => C5 ++ (D4 ++ H)) (fun z : Nat × Int => rs.length - z.1) ((0, -1)) (⟨Nat.zero_le _, .inl ⟨rfl, fun j hj => by omega⟩⟩) (Sx.put rfl (Sx.put rfl ((by repeat (first | exact Sx.refl | refine Sx.skip rfl ?_))))) (Sp.all (by repeat (first | exact Sp.here | exact Sp.sn | exact Sp.s0 | exact Fr.here | apply Sp.s2 | apply Sp.sx | apply Fr.fc | apply Fr.al | apply Fr.fa | apply Sp.sc | apply Sp.al | apply Sp.sa))) ?_
              rintro ⟨k, first⟩ ⟨hk, hfirst⟩
              simp only at hk hfirst
              refine WC.seq ?_
              refine WC.seq ?_
              refine WC.region ?_
              refine WL.y rfl (Yd.move rfl) ?_
              refine WL.y rfl (Yd.move rfl) ?_
              refine WL.y rfl (Yd.len (e := 3) (by kernel_rfl) rfl) ?_
              refine WL.y rfl (Yd.lss rfl rfl) ?_
              refine WL.y rfl (Yd.move rfl) ?_
              refine WL.partP (t := 89) rfl (fun hg89 => ?_) (fun hg89 => ?_)
              · refine WL.gy (dj := 89) rfl rfl rfl (Yd.move rfl) ?_
                refine WL.gy (dj := 89) rfl rfl rfl (Yd.lss rfl rfl) ?_
                refine WL.y rfl (Yd.pickT rfl rfl) ?_
                refine WL.nil ?_
                refine DN.then_normal ?_
                refine WC.ite rfl (fun h92 => ?_) (fun h92 => ?_)
                · have hklt : k < rs.length := by omega
                  have hno : ∀ j, j < k → ¬ (from_ ≤ (j : Int) ∧ n ≤ rs2.getD j 0) := by
                    rcases hfirst with h | h
                    · exact h.2
                    · omega
                  refine WC.skip ?_
                  refine DN.then_normal ?_
                  refine WC.seq ?_
                  refine WC.block ?_
                  refine WC.seq ?_
                  refine WC.region ?_
                  refine WL.y rfl (Yd.move rfl) ?_
                  refine WL.y rfl (Yd.move rfl) ?_
                  refine WL.y rfl (Yd.geq rfl rfl) ?_
                  refine WL.y rfl (Yd.move rfl) ?_
                  refine WL.partP (t := 98) rfl (fun hg98 => ?_) (fun hg98 => ?_)
                  · refine WL.gy (dj := 98) rfl rfl rfl (Yd.move rfl) ?_
                    refine WL.gy (dj := 98) rfl rfl rfl (Yd.move rfl) ?_
                    refine WL.gy (dj := 98) rfl rfl rfl (Yd.add rfl rfl (by omega) (by omega)) ?_
                    refine WL.elemN (e := 3) (dj := 98) (by kernel_rfl) (by kernel_rfl) (by kernel_rfl) rfl rfl (by omega) (h4.rs.mono (by repeat (first | exact Gr.refl | exact Gr.left Gr.refl | exact Gr.nil | exact Gr.app (Gr.left Gr.refl) | refine Gr.cons ?_ | refine Gr.app ?_ | refine Gr.both ?_ ?_ | refine Gr.put (by repeat (first | exact List.mem_cons_self | apply List.mem_cons_of_mem | apply List.mem_append_right)) ?_))) (told_at rs2 (rs.length + 2) k (by omega) (by omega)) (by omega) rfl rfl rfl rfl rfl ?_
                    intro _
                    refine WL.gy (dj := 98) rfl rfl rfl (Yd.move rfl) ?_
                    refine WL.gy (dj := 98) rfl rfl rfl (Yd.geq rfl rfl) ?_
                    refine WL.y rfl (Yd.pickT rfl rfl) ?_
                    refine WL.nil ?_
                    refine DN.then_normal ?_
                    refine WC.ite rfl (fun h106 => ?_) (fun h106 => ?_)
                    · refine WC.region ?_
                      refine WL.y rfl (Yd.move rfl) ?_
                      refine WL.y rfl (Yd.assign rfl) ?_
                      refine WL.nil ?_
                      refine DN.block_normal ?_
                      refine DN.then_normal ?_
                      refine WC.region ?_
                      refine WL.y rfl (Yd.move rfl) ?_
                      refine WL.y rfl (Yd.add rfl rfl (by omega) (by omega)) ?_
                      refine WL.y rfl (Yd.assign rfl) ?_
                      refine WL.nil ?_
                      exact DN.againK ((k + 1, (k : Int))) (⟨by show k + 1 ≤ rs.length; omega, .inr ⟨by show (0 : Int) ≤ (k : Int); omega, by show dayOf rs2 from_ n = some ((k : Int)).toNat; rw [Int.toNat_natCast]; exact dayOf_yes rs2 from_ n k (by omega) (by omega) (by omega) hno⟩⟩) (show rs.length - (k + 1) < rs.length - k by omega) (Sx.put rfl (Sx.put rfl ((by repeat (first | exact Sx.refl | refine Sx.skip rfl ?_))))) (Sp.all (by repeat (first | exact Sp.here | exact Sp.sn | exact Sp.s0 | exact Fr.here | apply Sp.s2 | apply Sp.sx | apply Fr.fc | apply Fr.al | apply Fr.fa | apply Sp.sc | apply Sp.al | apply Sp.sa)))
                    · refine WC.skip ?_
                      refine DN.block_normal ?_
                      refine DN.then_normal ?_
                      refine WC.region ?_
                      refine WL.y rfl (Yd.move rfl) ?_
                      refine WL.y rfl (Yd.add rfl rfl (by omega) (by omega)) ?_
                      refine WL.y rfl (Yd.assign rfl) ?_
                      refine WL.nil ?_
                      exact DN.againK ((k + 1, first)) (⟨by show k + 1 ≤ rs.length; omega, .inl ⟨by show first = -1; omega, fun j hj => by by_cases e : j = k; (subst e; omega); exact hno j (by omega)⟩⟩) (show rs.length - (k + 1) < rs.length - k by omega) (Sx.put rfl (Sx.put rfl ((by repeat (first | exact Sx.refl | refine Sx.skip rfl ?_))))) (Sp.all (by repeat (first | exact Sp.here | exact Sp.sn | exact Sp.s0 | exact Fr.here | apply Sp.s2 | apply Sp.sx | apply Fr.fc | apply Fr.al | apply Fr.fa | apply Sp.sc | apply Sp.al | apply Sp.sa)))
                  · refine WL.gn (dj := 98) rfl rfl rfl rfl ?_
                    refine WL.gn (dj := 98) rfl rfl rfl rfl ?_
                    refine WL.gn (dj := 98) rfl rfl rfl rfl ?_
                    refine WL.gn (dj := 98) rfl rfl rfl rfl ?_
                    refine WL.gn (dj := 98) rfl rfl rfl rfl ?_
                    refine WL.gn (dj := 98) rfl rfl rfl rfl ?_
                    refine WL.gn (dj := 98) rfl rfl rfl rfl ?_
                    refine WL.y rfl (Yd.pickF rfl rfl) ?_
                    refine WL.nil ?_
                    refine DN.then_normal ?_
                    refine WC.no rfl ?_
                    refine WC.skip ?_
                    refine DN.block_normal ?_
                    refine DN.then_normal ?_
                    refine WC.region ?_
                    refine WL.y rfl (Yd.move rfl) ?_
                    refine WL.y rfl (Yd.add rfl rfl (by omega) (by omega)) ?_
                    refine WL.y rfl (Yd.assign rfl) ?_
                    refine WL.nil ?_
                    exact DN.againK ((k + 1, first)) (⟨by show k + 1 ≤ rs.length; omega, .inl ⟨by show first = -1; omega, fun j hj => by by_cases e : j = k; (subst e; omega); exact hno j (by omega)⟩⟩) (show rs.length - (k + 1) < rs.length - k by omega) (Sx.put rfl (Sx.put rfl ((by repeat (first | exact Sx.refl | refine Sx.skip rfl ?_))))) (Sp.all (by repeat (first | exact Sp.here | exact Sp.sn | exact Sp.s0 | exact Fr.here | apply Sp.s2 | apply Sp.sx | apply Fr.fc | apply Fr.al | apply Fr.fa | apply Sp.sc | apply Sp.al | apply Sp.sa)))
                · refine WC.exit ?_
                  refine DN.then_exit ?_
                  refine DN.then_exit ?_
                  refine DN.block_exit ?_
                  refine DN.then_normal ?_
                  refine WC.seq ?_
                  refine WC.seq ?_
                  refine WC.region ?_
                  refine WL.y rfl (Yd.move rfl) ?_
                  refine WL.y rfl (Yd.lss rfl rfl) ?_
                  refine WL.nil ?_
                  refine DN.then_normal ?_
                  refine WC.ite rfl (fun h109 => ?_) (fun h109 => ?_)
                  · refine WC.seq ?_
                    have hb : bookOf rs2 L2 o from_ n = none := by
                      rw [hbd]
                      apply dayOf_no
                      rcases hfirst with h | h
                      · intro j hj; exact h.2 j (by omega)
                      · omega
                    refine WC.region ?_
                    refine WL.y rfl (Yd.move rfl) ?_
                    refine WL.y rfl (Yd.eql rfl rfl) ?_
                    refine WL.renamed (t := 111) (v := .bool true) rfl (congrArg Value.bool (by rw [hb]; rfl)) ?_
                    refine WL.y rfl (Yd.move rfl) ?_
                    refine WL.gy (dj := 112) rfl rfl rfl (Yd.move rfl) ?_
                    refine WL.gy (dj := 112) rfl rfl rfl (Yd.eql rfl rfl) ?_
                    refine WL.renamed (t := 114) (v := .bool true) rfl (congrArg Value.bool (by rw [hb]; rfl)) ?_
                    refine WL.y rfl (Yd.pickT rfl rfl) ?_
                    refine WL.y rfl (Yd.move rfl) ?_
                    refine WL.gr (dj := 116) rfl rfl rfl (Ent.func Try.call9 rfl) (known11 _) ?_
                    refine WL.y rfl (Yd.pickT rfl rfl) ?_
                    refine WL.y rfl (Yd.assign rfl) ?_
                    refine WL.nil ?_
                    refine DN.then_normal ?_
                    refine WC.ret ?_
                    refine DN.then_ret ?_
                    refine DN.forget H (by (repeat (first | exact List.Sublist.refl _ | exact List.nil_sublist _ | apply List.Sublist.cons_cons | apply List.Sublist.cons | apply List.sublist_append_of_sublist_right))) ?_
                    refine DN.ret1 Try.results3 rfl ?_
                    exact ⟨rfl, rfl⟩
                  · refine WC.skip ?_
                    refine DN.then_normal ?_
                    refine WC.seq ?_
                    obtain ⟨dd, hdd, hfd, hdd2⟩ : ∃ dd : Nat, bookOf rs2 L2 o from_ n = some dd ∧ first = (dd : Int) ∧ dayOf rs2 from_ n = some dd := by
                      rcases hfirst with h | h
                      · omega
                      · exact ⟨first.toNat, hbd.trans h.2, by omega, h.2⟩
                    obtain ⟨hd1, hd2, hd3, _⟩ := dayOf_spec hdd2
                    have hrd := inv2.rooms dd
                    rw [hdd] at h5 ⊢
                    subst hfd
                    simp only [resOf] at h5 ⊢
                    have htl := told_at rs2 (rs.length + 2) dd (by omega) (by omega)
                    rcases h4 with ⟨_, h0, _⟩ | ⟨br, cap, extra, he, hc1, hc2, hx1, hx2, hD4⟩
                    · omega
                    simp only [Value.slice.injEq] at he
                    obtain ⟨rfl, _, rfl⟩ := he
                    subst hD4
                    refine WC.draw 24 (by kernel_rfl) rfl ?_
                    refine WA.y (i := 0) (NoPanic.then (NoPanic.body)) rfl (by kernel_rfl) (by kernel_rfl) (by kernel_rfl) rfl (Yd.move rfl) ?_
                    refine WA.y (i := 1) (NoPanic.then (NoPanic.body)) rfl (by kernel_rfl) (by kernel_rfl) (by kernel_rfl) rfl (Yd.move rfl) ?_
                    refine WA.y (i := 2) (NoPanic.then (NoPanic.body)) rfl (by kernel_rfl) (by kernel_rfl) (by kernel_rfl) rfl (Yd.eql rfl rfl) ?_
                    refine WA.renamed (t := 121) (v := .bool true) rfl (congrArg Value.bool (by simp [resOf])) ?_
                    refine WA.y (i := 3) (NoPanic.then (NoPanic.body)) rfl (by kernel_rfl) (by kernel_rfl) (by kernel_rfl) rfl (Yd.move rfl) ?_
                    refine WA.gy (i := 4) (dj := 122) (NoPanic.then (NoPanic.body)) rfl (by kernel_rfl) (by kernel_rfl) (by kernel_rfl) rfl rfl rfl (Yd.move rfl) ?_
                    refine WA.gy (i := 5) (dj := 122) (NoPanic.then (NoPanic.body)) rfl (by kernel_rfl) (by kernel_rfl) (by kernel_rfl) rfl rfl rfl (Yd.eql rfl rfl) ?_
                    refine WA.renamed (t := 124) (v := .bool true) rfl (congrArg Value.bool (by simp [resOf])) ?_
                    refine WA.y (i := 6) (NoPanic.then (NoPanic.body)) rfl (by kernel_rfl) (by kernel_rfl) (by kernel_rfl) rfl (Yd.pickT rfl rfl) ?_
                    refine WA.y (i := 7) (NoPanic.then (NoPanic.body)) rfl (by kernel_rfl) (by kernel_rfl) (by kernel_rfl) rfl (Yd.move rfl) ?_
                    refine WA.gy (i := 8) (dj := 126) (NoPanic.then (NoPanic.body)) rfl (by kernel_rfl) (by kernel_rfl) (by kernel_rfl) rfl rfl rfl (Yd.move rfl) ?_
                    refine WA.gy (i := 9) (dj := 126) (NoPanic.then (NoPanic.body)) rfl (by kernel_rfl) (by kernel_rfl) (by kernel_rfl) rfl rfl rfl (Yd.move rfl) ?_
                    refine WA.gy (i := 11) (dj := 126) (NoPanic.then (NoPanic.body)) rfl (by kernel_rfl) (by kernel_rfl) (by kernel_rfl) rfl rfl rfl (Yd.move rfl) ?_
                    refine WA.gy (i := 12) (dj := 126) (NoPanic.then (NoPanic.body)) rfl (by kernel_rfl) (by kernel_rfl) (by kernel_rfl) rfl rfl rfl (Yd.move rfl) ?_
                    refine WA.gy (i := 13) (dj := 126) (NoPanic.then (NoPanic.body)) rfl (by kernel_rfl) (by kernel_rfl) (by kernel_rfl) rfl rfl rfl (Yd.add rfl rfl (by omega) (by omega)) ?_
                    refine WA.gy (i := 14) (dj := 126) (NoPanic.then (NoPanic.body)) rfl (by kernel_rfl) (by kernel_rfl) (by kernel_rfl) rfl rfl rfl (Yd.indexAddr (e := 3) (s := 1) (by kernel_rfl) (by kernel_rfl) rfl rfl (by omega) (by omega)) ?_
                    refine WA.gy (i := 16) (dj := 126) (NoPanic.then (NoPanic.body)) rfl (by kernel_rfl) (by kernel_rfl) (by kernel_rfl) rfl rfl rfl (Yd.move rfl) ?_
                    refine WA.two (i := 10) (j := 15) (by kernel_rfl) ?_ ?_
                    · refine WO.rf rfl (Wt.yes (dj := 126) rfl rfl) rfl (Ent.func Try.call15 rfl) (room_reads p (rs2.set dd (rs2.getD dd 0 - n)) _ C5 h5 (dd : Int)) (by repeat (first | exact Sp.here | exact Sp.sn | exact Sp.s0 | exact Fr.here | apply Sp.s2 | apply Sp.sx | apply Fr.fc | apply Fr.al | apply Fr.fa | apply Sp.sc | apply Sp.al | apply Sp.sa)) ?_
                      refine WA.one (i := 15) (by kernel_rfl) ?_
                      refine WO.h rfl (Wt.yes (dj := 126) rfl rfl) rfl (Hd.load1 (v := .int .i64 (rs2.getD dd 0)) (by kernel_rfl) rfl (by repeat (first | exact List.mem_cons_self | apply List.mem_cons_of_mem | apply List.mem_append_right)) (by rw [List.getElem?_append_left (by rw [ic_length, told_length]; omega), ← htl]; congr 1; omega) ⟨_, rfl, ?_⟩)
                      refine WA.gy (i := 17) (dj := 126) (NoPanic.then (NoPanic.body)) rfl (by kernel_rfl) (by kernel_rfl) (by kernel_rfl) rfl rfl rfl (Yd.sub rfl rfl (by omega) (by omega)) ?_
                      refine WA.gy (i := 18) (dj := 126) (NoPanic.then (NoPanic.body)) rfl (by kernel_rfl) (by kernel_rfl) (by kernel_rfl) rfl rfl rfl (Yd.eql rfl rfl) ?_
                      refine WA.renamed (t := 137) (v := .bool true) rfl (congrArg Value.bool (by rw [roomOf_set hd1]; simp)) ?_
                      refine WA.y (i := 19) (NoPanic.then (NoPanic.body)) rfl (by kernel_rfl) (by kernel_rfl) (by kernel_rfl) rfl (Yd.pickT rfl rfl) ?_
                      refine WA.y (i := 20) (NoPanic.then (NoPanic.body)) rfl (by kernel_rfl) (by kernel_rfl) (by kernel_rfl) rfl (Yd.move rfl) ?_
                      refine WA.one (i := 21) (by kernel_rfl) ?_
                      refine WO.r rfl (Wt.yes (dj := 139) rfl rfl) rfl (Ent.func Try.call9 rfl) (known11 _) ?_
                      refine WA.y (i := 22) (NoPanic.then (NoPanic.body)) rfl (by kernel_rfl) (by kernel_rfl) (by kernel_rfl) rfl (Yd.pickT rfl rfl) ?_
                      refine WA.y (i := 23) (NoPanic.then (NoPanic.body)) rfl (by kernel_rfl) (by kernel_rfl) (by kernel_rfl) rfl (Yd.assign rfl) ?_
                      refine WA.done (by kernel_rfl) ?_
                      refine DN.then_normal ?_
                      refine WC.ret ?_
                      refine DN.forget H (by (repeat (first | exact List.Sublist.refl _ | exact List.nil_sublist _ | apply List.Sublist.cons_cons | apply List.Sublist.cons | apply List.sublist_append_of_sublist_right))) ?_
                      refine DN.ret1 Try.results3 rfl ?_
                      exact ⟨rfl, rfl⟩
                    · refine WO.h rfl (Wt.yes (dj := 126) rfl rfl) rfl (Hd.load1 (v := .int .i64 (rs2.getD dd 0)) (by kernel_rfl) rfl (by repeat (first | exact List.mem_cons_self | apply List.mem_cons_of_mem | apply List.mem_append_right)) (by rw [List.getElem?_append_left (by rw [ic_length, told_length]; omega), ← htl]; congr 1; omega) ⟨_, rfl, ?_⟩)
                      refine WA.gy (i := 17) (dj := 126) (NoPanic.then (NoPanic.body)) rfl (by kernel_rfl) (by kernel_rfl) (by kernel_rfl) rfl rfl rfl (Yd.sub rfl rfl (by omega) (by omega)) ?_
                      refine WA.one (i := 10) (by kernel_rfl) ?_
                      refine WO.rf rfl (Wt.yes (dj := 126) rfl rfl) rfl (Ent.func Try.call15 rfl) (room_reads p (rs2.set dd (rs2.getD dd 0 - n)) _ C5 h5 (dd : Int)) (by repeat (first | exact Sp.here | exact Sp.sn | exact Sp.s0 | exact Fr.here | apply Sp.s2 | apply Sp.sx | apply Fr.fc | apply Fr.al | apply Fr.fa | apply Sp.sc | apply Sp.al | apply Sp.sa)) ?_
                      refine WA.gy (i := 18) (dj := 126) (NoPanic.then (NoPanic.body)) rfl (by kernel_rfl) (by kernel_rfl) (by kernel_rfl) rfl rfl rfl (Yd.eql rfl rfl) ?_
                      refine WA.renamed (t := 137) (v := .bool true) rfl (congrArg Value.bool (by rw [roomOf_set hd1]; simp)) ?_
                      refine WA.y (i := 19) (NoPanic.then (NoPanic.body)) rfl (by kernel_rfl) (by kernel_rfl) (by kernel_rfl) rfl (Yd.pickT rfl rfl) ?_
                      refine WA.y (i := 20) (NoPanic.then (NoPanic.body)) rfl (by kernel_rfl) (by kernel_rfl) (by kernel_rfl) rfl (Yd.move rfl) ?_
                      refine WA.one (i := 21) (by kernel_rfl) ?_
                      refine WO.r rfl (Wt.yes (dj := 139) rfl rfl) rfl (Ent.func Try.call9 rfl) (known11 _) ?_
                      refine WA.y (i := 22) (NoPanic.then (NoPanic.body)) rfl (by kernel_rfl) (by kernel_rfl) (by kernel_rfl) rfl (Yd.pickT rfl rfl) ?_
                      refine WA.y (i := 23) (NoPanic.then (NoPanic.body)) rfl (by kernel_rfl) (by kernel_rfl) (by kernel_rfl) rfl (Yd.assign rfl) ?_
                      refine WA.done (by kernel_rfl) ?_
                      refine DN.then_normal ?_
                      refine WC.ret ?_
                      refine DN.forget H (by (repeat (first | exact List.Sublist.refl _ | exact List.nil_sublist _ | apply List.Sublist.cons_cons | apply List.Sublist.cons | apply List.sublist_append_of_sublist_right))) ?_
                      refine DN.ret1 Try.results3 rfl ?_
                      exact ⟨rfl, rfl⟩
              · refine WL.gn (dj := 89) rfl rfl rfl rfl ?_
                refine WL.gn (dj := 89) rfl rfl rfl rfl ?_
                refine WL.y rfl (Yd.pickF rfl rfl) ?_
                refine WL.nil ?_
                refine DN.then_normal ?_
                refine WC.no rfl ?_
                refine WC.exit ?_
                refine DN.then_exit ?_
                refine DN.then_exit ?_
                refine DN.block_exit ?_
                refine DN.then_normal ?_
                refine WC.seq ?_
                refine WC.seq ?_
                refine WC.region ?_
                refine WL.y rfl (Yd.move rfl) ?_
                refine WL.y rfl (Yd.lss rfl rfl) ?_
                refine WL.nil ?_
                refine DN.then_normal ?_
                refine WC.ite rfl (fun h109 => ?_) (fun h109 => ?_)
                · refine WC.seq ?_
                  have hb : bookOf rs2 L2 o from_ n = none := by
                    rw [hbd]
                    apply dayOf_no
                    rcases hfirst with h | h
                    · intro j hj; exact h.2 j (by omega)
                    · omega
                  refine WC.region ?_
                  refine WL.y rfl (Yd.move rfl) ?_
                  refine WL.y rfl (Yd.eql rfl rfl) ?_
                  refine WL.renamed (t := 111) (v := .bool true) rfl (congrArg Value.bool (by rw [hb]; rfl)) ?_
                  refine WL.y rfl (Yd.move rfl) ?_
                  refine WL.gy (dj := 112) rfl rfl rfl (Yd.move rfl) ?_
                  refine WL.gy (dj := 112) rfl rfl rfl (Yd.eql rfl rfl) ?_
                  refine WL.renamed (t := 114) (v := .bool true) rfl (congrArg Value.bool (by rw [hb]; rfl)) ?_
                  refine WL.y rfl (Yd.pickT rfl rfl) ?_
                  refine WL.y rfl (Yd.move rfl) ?_
                  refine WL.gr (dj := 116) rfl rfl rfl (Ent.func Try.call9 rfl) (known11 _) ?_
                  refine WL.y rfl (Yd.pickT rfl rfl) ?_
                  refine WL.y rfl (Yd.assign rfl) ?_
                  refine WL.nil ?_
                  refine DN.then_normal ?_
                  refine WC.ret ?_
                  refine DN.then_ret ?_
                  refine DN.forget H (by (repeat (first | exact List.Sublist.refl _ | exact List.nil_sublist _ | apply List.Sublist.cons_cons | apply List.Sublist.cons | apply List.sublist_append_of_sublist_right))) ?_
                  refine DN.ret1 Try.results3 rfl ?_
                  exact ⟨rfl, rfl⟩
                · refine WC.skip ?_
                  refine DN.then_normal ?_
                  refine WC.seq ?_
                  obtain ⟨dd, hdd, hfd, hdd2⟩ : ∃ dd : Nat, bookOf rs2 L2 o from_ n = some dd ∧ first = (dd : Int) ∧ dayOf rs2 from_ n = some dd := by
                    rcases hfirst with h | h
                    · omega
                    · exact ⟨first.toNat, hbd.trans h.2, by omega, h.2⟩
                  obtain ⟨hd1, hd2, hd3, _⟩ := dayOf_spec hdd2
                  have hrd := inv2.rooms dd
                  rw [hdd] at h5 ⊢
                  subst hfd
                  simp only [resOf] at h5 ⊢
                  have htl := told_at rs2 (rs.length + 2) dd (by omega) (by omega)
                  rcases h4 with ⟨_, h0, _⟩ | ⟨br, cap, extra, he, hc1, hc2, hx1, hx2, hD4⟩
                  · omega
                  simp only [Value.slice.injEq] at he
                  obtain ⟨rfl, _, rfl⟩ := he
                  subst hD4
                  refine WC.draw 24 (by kernel_rfl) rfl ?_
                  refine WA.y (i := 0) (NoPanic.then (NoPanic.body)) rfl (by kernel_rfl) (by kernel_rfl) (by kernel_rfl) rfl (Yd.move rfl) ?_
                  refine WA.y (i := 1) (NoPanic.then (NoPanic.body)) rfl (by kernel_rfl) (by kernel_rfl) (by kernel_rfl) rfl (Yd.move rfl) ?_
                  refine WA.y (i := 2) (NoPanic.then (NoPanic.body)) rfl (by kernel_rfl) (by kernel_rfl) (by kernel_rfl) rfl (Yd.eql rfl rfl) ?_
                  refine WA.renamed (t := 121) (v := .bool true) rfl (congrArg Value.bool (by simp [resOf])) ?_
                  refine WA.y (i := 3) (NoPanic.then (NoPanic.body)) rfl (by kernel_rfl) (by kernel_rfl) (by kernel_rfl) rfl (Yd.move rfl) ?_
                  refine WA.gy (i := 4) (dj := 122) (NoPanic.then (NoPanic.body)) rfl (by kernel_rfl) (by kernel_rfl) (by kernel_rfl) rfl rfl rfl (Yd.move rfl) ?_
                  refine WA.gy (i := 5) (dj := 122) (NoPanic.then (NoPanic.body)) rfl (by kernel_rfl) (by kernel_rfl) (by kernel_rfl) rfl rfl rfl (Yd.eql rfl rfl) ?_
                  refine WA.renamed (t := 124) (v := .bool true) rfl (congrArg Value.bool (by simp [resOf])) ?_
                  refine WA.y (i := 6) (NoPanic.then (NoPanic.body)) rfl (by kernel_rfl) (by kernel_rfl) (by kernel_rfl) rfl (Yd.pickT rfl rfl) ?_
                  refine WA.y (i := 7) (NoPanic.then (NoPanic.body)) rfl (by kernel_rfl) (by kernel_rfl) (by kernel_rfl) rfl (Yd.move rfl) ?_
                  refine WA.gy (i := 8) (dj := 126) (NoPanic.then (NoPanic.body)) rfl (by kernel_rfl) (by kernel_rfl) (by kernel_rfl) rfl rfl rfl (Yd.move rfl) ?_
                  refine WA.gy (i := 9) (dj := 126) (NoPanic.then (NoPanic.body)) rfl (by kernel_rfl) (by kernel_rfl) (by kernel_rfl) rfl rfl rfl (Yd.move rfl) ?_
                  refine WA.gy (i := 11) (dj := 126) (NoPanic.then (NoPanic.body)) rfl (by kernel_rfl) (by kernel_rfl) (by kernel_rfl) rfl rfl rfl (Yd.move rfl) ?_
                  refine WA.gy (i := 12) (dj := 126) (NoPanic.then (NoPanic.body)) rfl (by kernel_rfl) (by kernel_rfl) (by kernel_rfl) rfl rfl rfl (Yd.move rfl) ?_
                  refine WA.gy (i := 13) (dj := 126) (NoPanic.then (NoPanic.body)) rfl (by kernel_rfl) (by kernel_rfl) (by kernel_rfl) rfl rfl rfl (Yd.add rfl rfl (by omega) (by omega)) ?_
                  refine WA.gy (i := 14) (dj := 126) (NoPanic.then (NoPanic.body)) rfl (by kernel_rfl) (by kernel_rfl) (by kernel_rfl) rfl rfl rfl (Yd.indexAddr (e := 3) (s := 1) (by kernel_rfl) (by kernel_rfl) rfl rfl (by omega) (by omega)) ?_
                  refine WA.gy (i := 16) (dj := 126) (NoPanic.then (NoPanic.body)) rfl (by kernel_rfl) (by kernel_rfl) (by kernel_rfl) rfl rfl rfl (Yd.move rfl) ?_
                  refine WA.two (i := 10) (j := 15) (by kernel_rfl) ?_ ?_
                  · refine WO.rf rfl (Wt.yes (dj := 126) rfl rfl) rfl (Ent.func Try.call15 rfl) (room_reads p (rs2.set dd (rs2.getD dd 0 - n)) _ C5 h5 (dd : Int)) (by repeat (first | exact Sp.here | exact Sp.sn | exact Sp.s0 | exact Fr.here | apply Sp.s2 | apply Sp.sx | apply Fr.fc | apply Fr.al | apply Fr.fa | apply Sp.sc | apply Sp.al | apply Sp.sa)) ?_
                    refine WA.one (i := 15) (by kernel_rfl) ?_
                    refine WO.h rfl (Wt.yes (dj := 126) rfl rfl) rfl (Hd.load1 (v := .int .i64 (rs2.getD dd 0)) (by kernel_rfl) rfl (by repeat (first | exact List.mem_cons_self | apply List.mem_cons_of_mem | apply List.mem_append_right)) (by rw [List.getElem?_append_left (by rw [ic_length, told_length]; omega), ← htl]; congr 1; omega) ⟨_, rfl, ?_⟩)
                    refine WA.gy (i := 17) (dj := 126) (NoPanic.then (NoPanic.body)) rfl (by kernel_rfl) (by kernel_rfl) (by kernel_rfl) rfl rfl rfl (Yd.sub rfl rfl (by omega) (by omega)) ?_
                    refine WA.gy (i := 18) (dj := 126) (NoPanic.then (NoPanic.body)) rfl (by kernel_rfl) (by kernel_rfl) (by kernel_rfl) rfl rfl rfl (Yd.eql rfl rfl) ?_
                    refine WA.renamed (t := 137) (v := .bool true) rfl (congrArg Value.bool (by rw [roomOf_set hd1]; simp)) ?_
                    refine WA.y (i := 19) (NoPanic.then (NoPanic.body)) rfl (by kernel_rfl) (by kernel_rfl) (by kernel_rfl) rfl (Yd.pickT rfl rfl) ?_
                    refine WA.y (i := 20) (NoPanic.then (NoPanic.body)) rfl (by kernel_rfl) (by kernel_rfl) (by kernel_rfl) rfl (Yd.move rfl) ?_
                    refine WA.one (i := 21) (by kernel_rfl) ?_
                    refine WO.r rfl (Wt.yes (dj := 139) rfl rfl) rfl (Ent.func Try.call9 rfl) (known11 _) ?_
                    refine WA.y (i := 22) (NoPanic.then (NoPanic.body)) rfl (by kernel_rfl) (by kernel_rfl) (by kernel_rfl) rfl (Yd.pickT rfl rfl) ?_
                    refine WA.y (i := 23) (NoPanic.then (NoPanic.body)) rfl (by kernel_rfl) (by kernel_rfl) (by kernel_rfl) rfl (Yd.assign rfl) ?_
                    refine WA.done (by kernel_rfl) ?_
                    refine DN.then_normal ?_
                    refine WC.ret ?_
                    refine DN.forget H (by (repeat (first | exact List.Sublist.refl _ | exact List.nil_sublist _ | apply List.Sublist.cons_cons | apply List.Sublist.cons | apply List.sublist_append_of_sublist_right))) ?_
                    refine DN.ret1 Try.results3 rfl ?_
                    exact ⟨rfl, rfl⟩
                  · refine WO.h rfl (Wt.yes (dj := 126) rfl rfl) rfl (Hd.load1 (v := .int .i64 (rs2.getD dd 0)) (by kernel_rfl) rfl (by repeat (first | exact List.mem_cons_self | apply List.mem_cons_of_mem | apply List.mem_append_right)) (by rw [List.getElem?_append_left (by rw [ic_length, told_length]; omega), ← htl]; congr 1; omega) ⟨_, rfl, ?_⟩)
                    refine WA.gy (i := 17) (dj := 126) (NoPanic.then (NoPanic.body)) rfl (by kernel_rfl) (by kernel_rfl) (by kernel_rfl) rfl rfl rfl (Yd.sub rfl rfl (by omega) (by omega)) ?_
                    refine WA.one (i := 10) (by kernel_rfl) ?_
                    refine WO.rf rfl (Wt.yes (dj := 126) rfl rfl) rfl (Ent.func Try.call15 rfl) (room_reads p (rs2.set dd (rs2.getD dd 0 - n)) _ C5 h5 (dd : Int)) (by repeat (first | exact Sp.here | exact Sp.sn | exact Sp.s0 | exact Fr.here | apply Sp.s2 | apply Sp.sx | apply Fr.fc | apply Fr.al | apply Fr.fa | apply Sp.sc | apply Sp.al | apply Sp.sa)) ?_
                    refine WA.gy (i := 18) (dj := 126) (NoPanic.then (NoPanic.body)) rfl (by kernel_rfl) (by kernel_rfl) (by kernel_rfl) rfl rfl rfl (Yd.eql rfl rfl) ?_
                    refine WA.renamed (t := 137) (v := .bool true) rfl (congrArg Value.bool (by rw [roomOf_set hd1]; simp)) ?_
                    refine WA.y (i := 19) (NoPanic.then (NoPanic.body)) rfl (by kernel_rfl) (by kernel_rfl) (by kernel_rfl) rfl (Yd.pickT rfl rfl) ?_
                    refine WA.y (i := 20) (NoPanic.then (NoPanic.body)) rfl (by kernel_rfl) (by kernel_rfl) (by kernel_rfl) rfl (Yd.move rfl) ?_
                    refine WA.one (i := 21) (by kernel_rfl) ?_
                    refine WO.r rfl (Wt.yes (dj := 139) rfl rfl) rfl (Ent.func Try.call9 rfl) (known11 _) ?_
                    refine WA.y (i := 22) (NoPanic.then (NoPanic.body)) rfl (by kernel_rfl) (by kernel_rfl) (by kernel_rfl) rfl (Yd.pickT rfl rfl) ?_
                    refine WA.y (i := 23) (NoPanic.then (NoPanic.body)) rfl (by kernel_rfl) (by kernel_rfl) (by kernel_rfl) rfl (Yd.assign rfl) ?_
                    refine WA.done (by kernel_rfl) ?_
                    refine DN.then_normal ?_
                    refine WC.ret ?_
                    refine DN.forget H (by (repeat (first | exact List.Sublist.refl _ | exact List.nil_sublist _ | apply List.Sublist.cons_cons | apply List.Sublist.cons | apply List.sublist_append_of_sublist_right))) ?_
                    refine DN.ret1 Try.results3 rfl ?_
                    exact ⟨rfl, rfl⟩
    · refine WC.region ?_
      refine WL.y rfl (Yd.move rfl) ?_
      refine WL.ca rfl (Ent.func Try.call10 rfl) (new_tells _ rs H hv hl) ?_
      rintro q H1 hq
      first | (rw [if_pos hA] at hq; obtain ⟨p, C1, rfl, h1, rfl⟩ := hq) | (rw [if_neg hA] at hq; obtain ⟨rfl, hHq⟩ := hq; rw [hHq])
      refine WL.y rfl (Yd.move rfl) ?_
      refine WL.y rfl (Yd.extract rfl rfl) ?_
      refine WL.y rfl (Yd.extract rfl rfl) ?_
      refine WL.y rfl (Yd.assign rfl) ?_
      refine WL.y rfl (Yd.assign rfl) ?_
      refine WL.nil ?_
      refine DN.then_normal ?_
      refine WC.seq ?_
      refine WC.seq ?_
      refine WC.region ?_
      refine WL.y rfl (Yd.move rfl) ?_
      refine WL.y rfl (Yd.neq rfl rfl) ?_
      refine WL.renamed (t := 29) (v := .bool true) rfl (congrArg Value.bool (by decide)) ?_
      refine WL.nil ?_
      refine DN.then_normal ?_
      refine WC.yes rfl ?_
      refine WC.seq ?_
      refine WC.region ?_
      refine WL.y rfl (Yd.move rfl) ?_
      refine WL.y rfl (Yd.eqlNil Try.underlying26 rfl rfl) ?_
      refine WL.renamed (t := 31) (v := .bool true) rfl (congrArg Value.bool (rfl)) ?_
      refine WL.y rfl (Yd.move rfl) ?_
      refine WL.gr (dj := 32) rfl rfl rfl (Ent.func Try.call9 rfl) (known11 _) ?_
      refine WL.y rfl (Yd.pickT rfl rfl) ?_
      refine WL.y rfl (Yd.assign rfl) ?_
      refine WL.nil ?_
      refine DN.then_normal ?_
      refine WC.ret ?_
      refine DN.then_ret ?_
      refine DN.forget H (by (repeat (first | exact List.Sublist.refl _ | exact List.nil_sublist _ | apply List.Sublist.cons_cons | apply List.Sublist.cons | apply List.sublist_append_of_sublist_right))) ?_
      refine DN.ret1 Try.results3 rfl ?_
      exact ⟨rfl, rfl⟩

end Go.Proofs.Ytmdbmcicbambjaa
