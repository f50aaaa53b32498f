/-
  The walk of PurseSum.
-/
import Derived.Test.YtllfnigodikbaaaPurse4
set_option linter.unusedVariables false
set_option linter.unusedSimpArgs false
set_option maxHeartbeats 4000000
namespace Go.Proofs.Ytllfnigodikbaaa
open Go.SL


/-- drayage/drayagelaw10.PurseSum -/
theorem law_PurseSum (H : List Ck) (v : Value) (gs : List Au) (hv : Rs v gs.length (gs.flatMap cellsU) H) (hl : gs.length ≤ 9223372036854775807) (va : Value) (acts : List Aq) (hva : Rs va acts.length (acts.flatMap cellsQ) H) (hla : acts.length ≤ 9223372036854775807) : Reads Try.prog 4 [v, va] H (.bool true) := by
  refine Tells.enter Try.func4 rfl Try.ntmps4 rfl ?_
  intro w0 R
  obtain ⟨vo, vc, rfl, hvc⟩ := hv.form
  obtain ⟨ao, ac, rfl, hac⟩ := hva.form
  refine WC.seq ?_
  refine WC.region ?_
  refine WL.y rfl (Yd.assign rfl) ?_
  refine WL.nil ?_
  refine DN.then_normal ?_
  refine WC.seq ?_
  refine WC.seq ?_
  refine WC.region ?_
  refine WL.y rfl (Yd.move rfl) ?_
  refine WL.y rfl (Yd.move rfl) ?_
  refine WL.rf rfl (Ent.func Try.call9 rfl) (long_reads _ _ gs acts H hv hva hl hla) (by repeat (first | exact Sp.here | exact Sp.sn | exact Sp.s0 | exact Fr.here | apply Sp.s2 | apply Sp.sx | apply Fr.fc | apply Fr.al | apply Fr.fa | apply Sp.sc | apply Sp.al | apply Sp.sa)) ?_
  refine WL.nil ?_
  refine DN.then_normal ?_
  refine WC.cond rfl (fun h21 => ?_) (fun h21 => ?_)
  · refine WC.seq ?_
    refine WC.region ?_
    refine WL.r rfl (Ent.func Try.call10 rfl) (known10 _) ?_
    refine WL.y rfl (Yd.assign rfl) ?_
    refine WL.nil ?_
    refine DN.then_normal ?_
    refine WC.ret ?_
    refine DN.then_ret ?_
    refine DN.fit (C := H) (by repeat (first | exact Sp.here | exact Sp.sn | exact Sp.s0 | exact Fr.here | apply Sp.s2 | apply Sp.sx | apply Fr.fc | apply Fr.al | apply Fr.fa | apply Sp.sc | apply Sp.al | apply Sp.sa)) ?_
    refine DN.ret1 Try.results4 rfl ?_
    exact ⟨rfl, rfl⟩
  · refine WC.skip ?_
    refine DN.then_normal ?_
    refine WC.seq ?_
    rcases Classical.em (AccL gs) with hA | hA
    · refine WC.region ?_
      refine WL.y rfl (Yd.move rfl) ?_
      refine WL.ca rfl (Ent.func Try.call11 rfl) (new_tells _ gs H hv hl) ?_
      rintro q H1 hq
      first | (have inv1 := PInv.start hA; obtain ⟨p, C1, rfl, h1, rfl⟩ := new_inP hq hA) | (obtain ⟨rfl, hHq⟩ := new_outP hq hA; rw [hHq])
      refine WL.y rfl (Yd.move rfl) ?_
      refine WL.y rfl (Yd.extract rfl rfl) ?_
      refine WL.y rfl (Yd.extract rfl rfl) ?_
      refine WL.y rfl (Yd.assign rfl) ?_
      refine WL.y rfl (Yd.assign rfl) ?_
      refine WL.nil ?_
      refine DN.then_normal ?_
      refine WC.seq ?_
      refine WC.seq ?_
      refine WC.region ?_
      refine WL.y rfl (Yd.move rfl) ?_
      refine WL.y rfl (Yd.neq rfl rfl) ?_
      refine WL.renamed (t := 29) (v := .bool false) rfl (congrArg Value.bool (by decide)) ?_
      refine WL.nil ?_
      refine DN.then_normal ?_
      refine WC.no rfl ?_
      refine WC.skip ?_
      refine DN.then_normal ?_
      refine WC.seq ?_
      refine WC.region ?_
      refine WL.y rfl (Yd.assign rfl) ?_
      refine WL.nil ?_
      refine DN.then_normal ?_
      refine WC.seq ?_
      refine WC.seq ?_
      refine WC.region ?_
      refine WL.y rfl (Yd.assign rfl) ?_
      refine WL.nil ?_
      refine DN.then_normal ?_
      refine WC.block ?_
      refine WC.loopS (fun z : Nat × Int => z.1 ≤ gs.length ∧ z.2 = sumM (gs.take z.1)) (fun z : Nat × Int => [(8, .int .i64 (z.1 : Int)), (7, .int .i64 z.2)]) (fun z : Nat × Int => C1 ++ H) (fun z : Nat × Int => gs.length - z.1) (⟨0, 0⟩) (show 0 ≤ gs.length ∧ 0 = sumM (gs.take 0) from ⟨Nat.zero_le _, by simp [sumM]⟩) (Sx.put rfl (Sx.put rfl ((by repeat (first | exact Sx.refl | refine Sx.skip rfl ?_))))) (by repeat (first | exact Sp.here | exact Sp.sn | exact Sp.s0 | exact Fr.here | apply Sp.s2 | apply Sp.sx | apply Fr.fc | apply Fr.al | apply Fr.fa | apply Sp.sc | apply Sp.al | apply Sp.sa)) ?_
      rintro ⟨k, z⟩ hI
      replace hI : k ≤ gs.length ∧ z = sumM (gs.take k) := hI
      obtain ⟨hk, hz⟩ := hI
      change WC _ _ _ _ _ _ ([(8, .int .i64 (k : Int)), (7, .int .i64 z)] ++ _) (C1 ++ H)
      refine WC.seq ?_
      refine WC.seq ?_
      refine WC.region ?_
      refine WL.y rfl (Yd.move rfl) ?_
      refine WL.y rfl (Yd.move rfl) ?_
      refine WL.y rfl (Yd.len (e := 46) (by kernel_rfl) rfl) ?_
      refine WL.y rfl (Yd.lss rfl rfl) ?_
      refine WL.nil ?_
      refine DN.then_normal ?_
      refine WC.ite rfl (fun h38 => ?_) (fun h38 => ?_)
      · have hklt : k < gs.length := by omega
        obtain ⟨ub, uf, us, uT, ufr, uex, rfl, _, hum, hus⟩ := hv.lies (by omega)
        have hst := sumM_take hklt
        have hfew := hA.1
        have hp0 := sumM_part hA.money k (by omega)
        have hgk := hA.money gs[k] (List.getElem_mem hklt)
        refine WC.skip ?_
        refine DN.then_normal ?_
        refine WC.seq ?_
        refine WC.block ?_
        refine WC.region ?_
        refine WL.y rfl (Yd.move rfl) ?_
        refine WL.y rfl (Yd.move rfl) ?_
        refine WL.y rfl (Yd.move rfl) ?_
        refine WL.y rfl (Yd.indexAddr (e := 46) (s := 3) (by kernel_rfl) (by kernel_rfl) rfl rfl (by omega) (by omega)) ?_
        refine WL.y rfl (Yd.fieldAddr (k := 1) (by kernel_rfl) rfl) ?_
        refine WL.h rfl (Hd.load1 (v := .int .i64 gs[k].money) (b := ub) (o := uf + (k : Int).toNat * 3 + 1) (cs := us) (by kernel_rfl) rfl (Gr.get (by repeat (first | exact Gr.refl | exact Gr.left Gr.refl | exact Gr.left (Gr.left Gr.refl) | exact Gr.left (Gr.app Gr.refl) | exact Gr.left (Gr.left (Gr.left Gr.refl)) | exact Gr.nil | exact Gr.app (Gr.left Gr.refl) | refine Gr.cons ?_ | refine Gr.app ?_ | refine Gr.both ?_ ?_ | refine Gr.put (by repeat (first | exact List.mem_cons_self | apply List.mem_cons_of_mem | apply List.mem_append_right)) ?_)) hum) (cell_atP (L := gs) cellsU_len hus (by omega) (by omega)) ⟨_, rfl, ?_⟩)
        refine WL.y rfl (Yd.add rfl rfl (by omega) (by omega)) ?_
        refine WL.y rfl (Yd.assign rfl) ?_
        refine WL.nil ?_
        refine DN.block_normal ?_
        refine DN.then_normal ?_
        refine WC.region ?_
        refine WL.y rfl (Yd.move rfl) ?_
        refine WL.y rfl (Yd.add rfl rfl (by omega) (by omega)) ?_
        refine WL.y rfl (Yd.assign rfl) ?_
        refine WL.nil ?_
        exact DN.againS (⟨k + 1, z + gs[k].money⟩) (show (k + 1) ≤ gs.length ∧ (z + gs[k].money) = sumM (gs.take (k + 1)) from ⟨by omega, by omega⟩) (show gs.length - (k + 1) < gs.length - k by omega) (Sx.put rfl (Sx.put rfl ((by repeat (first | exact Sx.refl | refine Sx.skip rfl ?_))))) (by repeat (first | exact Sp.here | exact Sp.sn | exact Sp.s0 | exact Fr.here | apply Sp.s2 | apply Sp.sx | apply Fr.fc | apply Fr.al | apply Fr.fa | apply Sp.sc | apply Sp.al | apply Sp.sa))
      · obtain rfl : k = gs.length := by omega
        rw [List.take_length] at hz
        refine WC.exit ?_
        refine DN.then_exit ?_
        refine DN.then_exit ?_
        refine DN.block_exit ?_
        refine DN.then_normal ?_
        refine WC.seq ?_
        refine WC.seq ?_
        refine WC.region ?_
        refine WL.y rfl (Yd.assign rfl) ?_
        refine WL.nil ?_
        refine DN.then_normal ?_
        refine WC.block ?_
        refine WC.loopS (fun z : Nat × List Au × List Py × List Ck => z.1 ≤ acts.length ∧ z.1 ≤ 120 ∧ z.2.2.1.length ≤ z.1 ∧ PsAt 57 p z.2.1 z.2.2.1 z.2.2.2 ∧ PInv gs z.2.1 z.2.2.1) (fun z : Nat × List Au × List Py × List Ck => [(9, .int .i64 (z.1 : Int))]) (fun z : Nat × List Au × List Py × List Ck => z.2.2.2 ++ H) (fun z : Nat × List Au × List Py × List Ck => acts.length - z.1) (⟨0, gs, [], C1⟩) (show 0 ≤ acts.length ∧ 0 ≤ 120 ∧ [].length ≤ 0 ∧ PsAt 57 p gs [] C1 ∧ PInv gs gs [] from ⟨Nat.zero_le _, Nat.zero_le _, Nat.zero_le _, h1, inv1⟩) (Sx.put rfl ((by repeat (first | exact Sx.refl | refine Sx.skip rfl ?_)))) (by repeat (first | exact Sp.here | exact Sp.sn | exact Sp.s0 | exact Fr.here | apply Sp.s2 | apply Sp.sx | apply Fr.fc | apply Fr.al | apply Fr.fa | apply Sp.sc | apply Sp.al | apply Sp.sa)) ?_
        rintro ⟨i, K1, L1, C2⟩ hI
        replace hI : i ≤ acts.length ∧ i ≤ 120 ∧ L1.length ≤ i ∧ PsAt 57 p K1 L1 C2 ∧ PInv gs K1 L1 := hI
        obtain ⟨hi, hi60, hcnt, h2, inv⟩ := hI
        change WC _ _ _ _ _ _ ([(9, .int .i64 (i : Int))] ++ _) (C2 ++ H)
        have hmany := inv.few2
        refine WC.seq ?_
        refine WC.seq ?_
        refine WC.region ?_
        refine WL.y rfl (Yd.move rfl) ?_
        refine WL.y rfl (Yd.move rfl) ?_
        refine WL.y rfl (Yd.len (e := 35) (by kernel_rfl) rfl) ?_
        refine WL.y rfl (Yd.lss rfl rfl) ?_
        refine WL.y rfl (Yd.move rfl) ?_
        refine WL.partP (t := 52) rfl (fun hg52 => ?_) (fun hg52 => ?_)
        · refine WL.gy (dj := 52) rfl rfl rfl (Yd.move rfl) ?_
          refine WL.gy (dj := 52) rfl rfl rfl (Yd.lss rfl rfl) ?_
          refine WL.y rfl (Yd.pickT rfl rfl) ?_
          refine WL.nil ?_
          refine DN.then_normal ?_
          refine WC.ite rfl (fun h55 => ?_) (fun h55 => ?_)
          · have hlt : i < acts.length := by omega
            refine WC.skip ?_
            refine DN.then_normal ?_
            refine WC.seq ?_
            refine WC.block ?_
            refine WC.seq ?_
            refine WC.region ?_
            refine WL.y rfl (Yd.move rfl) ?_
            refine WL.c rfl (Ent.func Try.call16 rfl) (accs_tells p K1 L1 C2 h2 (by omega)) (Sp.p (by repeat (first | exact Sp.here | exact Sp.sn | exact Sp.s0 | exact Fr.here | apply Sp.s2 | apply Sp.sx | apply Fr.fc | apply Fr.al | apply Fr.fa | apply Sp.sc | apply Sp.al | apply Sp.sa))) ?_
            rintro q C5 ⟨S4, Cs4, hT4, ho4, rfl⟩
            have hl4 := hT4.perm.length_eq
            obtain ⟨so4, sc4, rfl, _⟩ := ho4.form
            refine WL.y rfl (Yd.assign rfl) ?_
            refine WL.nil ?_
            refine DN.then_normal ?_
            refine WC.seq ?_
            refine WC.region ?_
            refine WL.y rfl (Yd.move rfl) ?_
            refine WL.c rfl (Ent.func Try.call17 rfl) (pays_tells p K1 L1 C2 h2 (by omega)) (Sp.p (by repeat (first | exact Sp.here | exact Sp.sn | exact Sp.s0 | exact Fr.here | apply Sp.s2 | apply Sp.sx | apply Fr.fc | apply Fr.al | apply Fr.fa | apply Sp.sc | apply Sp.al | apply Sp.sa))) ?_
            rintro q C5 ⟨T4, Ds4, hU4, hq4, rfl⟩
            have hm4 := hU4.perm.length_eq
            obtain ⟨to4, tc4, rfl, _⟩ := hq4.form
            refine WL.y rfl (Yd.assign rfl) ?_
            refine WL.nil ?_
            refine DN.then_normal ?_
            refine WC.seq ?_
            refine WC.region ?_
            refine WL.y rfl (Yd.move rfl) ?_
            refine WL.y rfl (Yd.move rfl) ?_
            refine WL.y rfl (Yd.move rfl) ?_
            refine WL.elemA (e := 35) (s := 4) (by kernel_rfl) (by kernel_rfl) (by kernel_rfl) rfl rfl (rfl) (hva.mono (by repeat (first | exact Gr.refl | exact Gr.left Gr.refl | exact Gr.left (Gr.left Gr.refl) | exact Gr.left (Gr.app Gr.refl) | exact Gr.left (Gr.left (Gr.left Gr.refl)) | exact Gr.nil | exact Gr.app (Gr.left Gr.refl) | refine Gr.cons ?_ | refine Gr.app ?_ | refine Gr.both ?_ ?_ | refine Gr.put (by repeat (first | exact List.mem_cons_self | apply List.mem_cons_of_mem | apply List.mem_append_right)) ?_))) (flat_row cellsQ 4 cellsQ_len acts i hlt) (by rfl) (by omega) (hlt) rfl rfl ?_
            intro p65
            refine WL.c rfl (Ent.func Try.call13 rfl) (act_tells p gs K1 L1 C2 h2 inv acts[i]) (Sp.p (by repeat (first | exact Sp.here | exact Sp.sn | exact Sp.s0 | exact Fr.here | apply Sp.s2 | apply Sp.sx | apply Fr.fc | apply Fr.al | apply Fr.fa | apply Sp.sc | apply Sp.al | apply Sp.sa))) ?_
            rintro q C3 ⟨rfl, h3⟩
            obtain ⟨inv3, hcnt3⟩ := inv.act acts[i]
            have hor := actVP_or K1 L1 acts[i]
            obtain ⟨K3, hK3⟩ : ∃ x, x = actKP K1 L1 acts[i] := ⟨_, rfl⟩
            obtain ⟨L3, hL3⟩ : ∃ x, x = actLP K1 L1 acts[i] := ⟨_, rfl⟩
            rw [← hK3, ← hL3] at h3 inv3 hor
            rw [← hL3] at hcnt3
            have hmany3 := inv3.few2
            refine WL.y rfl (Yd.assign rfl) ?_
            refine WL.nil ?_
            refine DN.then_normal ?_
            refine WC.seq ?_
            refine WC.region ?_
            refine WL.y rfl (Yd.move rfl) ?_
            refine WL.c rfl (Ent.func Try.call16 rfl) (accs_tells p K3 L3 C3 h3 (by omega)) (Sp.p (by repeat (first | exact Sp.here | exact Sp.sn | exact Sp.s0 | exact Fr.here | apply Sp.s2 | apply Sp.sx | apply Fr.fc | apply Fr.al | apply Fr.fa | apply Sp.sc | apply Sp.al | apply Sp.sa))) ?_
            rintro q C6 ⟨S5, Cs5, hT5, ho5, rfl⟩
            have hl5 := hT5.perm.length_eq
            obtain ⟨so5, sc5, rfl, _⟩ := ho5.form
            have hmon : ∀ x ∈ S5, 0 ≤ x.money ∧ x.money ≤ 1000000000 := fun x hx => by have := inv3.moneys (hT5.perm.mem_iff.1 hx); omega
            refine WL.y rfl (Yd.assign rfl) ?_
            refine WL.nil ?_
            refine DN.then_normal ?_
            refine WC.seq ?_
            refine WC.region ?_
            refine WL.y rfl (Yd.move rfl) ?_
            refine WL.c rfl (Ent.func Try.call17 rfl) (pays_tells p K3 L3 C3 h3 (by omega)) (Sp.p (by repeat (first | exact Sp.here | exact Sp.sn | exact Sp.s0 | exact Fr.here | apply Sp.s2 | apply Sp.sx | apply Fr.fc | apply Fr.al | apply Fr.fa | apply Sp.sc | apply Sp.al | apply Sp.sa))) ?_
            rintro q C6 ⟨T5, Ds5, hU5, hq5, rfl⟩
            have hm5 := hU5.perm.length_eq
            obtain ⟨to5, tc5, rfl, _⟩ := hq5.form
            have hpos : ∀ x ∈ T5, 1 ≤ x.n := fun x hx => (inv3.pays x (hU5.perm.mem_iff.1 hx)).1
            have htak := inv3.taken
            have hall := inv3.all
            refine WL.y rfl (Yd.assign rfl) ?_
            refine WL.nil ?_
            refine DN.then_normal ?_
            refine WC.seq ?_
            refine WC.cutK (fun _z : Unit => True) (fun _z : Unit => [(89, .bool false)]) (fun _z : Unit => Ds5 ++ (Cs5 ++ (C3 ++ H))) ?_ ?_
            · refine WC.region ?_
              refine WL.y rfl (Yd.move rfl) ?_
              refine WL.y rfl (Yd.neq rfl rfl) ?_
              refine WL.y rfl (Yd.move rfl) ?_
              refine WL.partP (t := 74) rfl (fun hg74 => ?_) (fun hg74 => ?_)
              · refine WL.gy (dj := 74) rfl rfl rfl (Yd.move rfl) ?_
                refine WL.gy (dj := 74) rfl rfl rfl (Yd.neq rfl rfl) ?_
                refine WL.renamed (t := 76) (v := .bool false) rfl (congrArg Value.bool (decide_eq_false (by rcases hor with h | h; exact absurd h hg74; exact fun e => e h.1))) ?_
                refine WL.gy (dj := 74) rfl rfl rfl (Yd.move rfl) ?_
                refine WL.gy (dj := 77) rfl rfl rfl (Yd.move rfl) ?_
                refine WL.gy (dj := 77) rfl rfl rfl (Yd.move rfl) ?_
                refine WL.grf (dj := 77) rfl rfl rfl (Ent.func Try.call18 rfl) (sameAccs_reads _ _ S4 S5 (Cs4 ++ Cs5) (ho4.rs.mono (by repeat (first | exact Gr.refl | exact Gr.left Gr.refl | exact Gr.left (Gr.left Gr.refl) | exact Gr.left (Gr.app Gr.refl) | exact Gr.left (Gr.left (Gr.left Gr.refl)) | exact Gr.nil | exact Gr.app (Gr.left Gr.refl) | refine Gr.cons ?_ | refine Gr.app ?_ | refine Gr.both ?_ ?_ | refine Gr.put (by repeat (first | exact List.mem_cons_self | apply List.mem_cons_of_mem | apply List.mem_append_right)) ?_))) (ho5.rs.mono (by repeat (first | exact Gr.refl | exact Gr.left Gr.refl | exact Gr.left (Gr.left Gr.refl) | exact Gr.left (Gr.app Gr.refl) | exact Gr.left (Gr.left (Gr.left Gr.refl)) | exact Gr.nil | exact Gr.app (Gr.left Gr.refl) | refine Gr.cons ?_ | refine Gr.app ?_ | refine Gr.both ?_ ?_ | refine Gr.put (by repeat (first | exact List.mem_cons_self | apply List.mem_cons_of_mem | apply List.mem_append_right)) ?_))) (by omega) (by omega)) (by repeat (first | exact Sp.here | exact Sp.sn | exact Sp.s0 | exact Fr.here | apply Sp.s2 | apply Sp.sx | apply Fr.fc | apply Fr.al | apply Fr.fa | apply Sp.sc | apply Sp.al | apply Sp.sa)) ?_
                refine WL.renamed (t := 80) (v := .bool true) rfl (congrArg Value.bool (decide_eq_true (by obtain ⟨_, e1, e2⟩ := (by rcases hor with h | h; exact absurd h hg74; exact h : actVP K1 L1 acts[i] = 2 ∧ K3 = K1 ∧ L3 = L1); rw [e1] at hT5; exact told_sameU inv.knd hT4 hT5))) ?_
                refine WL.gy (dj := 77) rfl rfl rfl (Yd.notB rfl) ?_
                refine WL.gy (dj := 74) rfl rfl rfl (Yd.pickF rfl rfl) ?_
                refine WL.gy (dj := 74) rfl rfl rfl (Yd.move rfl) ?_
                refine WL.gy (dj := 83) rfl rfl rfl (Yd.move rfl) ?_
                refine WL.gy (dj := 83) rfl rfl rfl (Yd.move rfl) ?_
                refine WL.grf (dj := 83) rfl rfl rfl (Ent.func Try.call20 rfl) (samePays_reads _ _ T4 T5 (Ds4 ++ Ds5) (hq4.rs.mono (by repeat (first | exact Gr.refl | exact Gr.left Gr.refl | exact Gr.left (Gr.left Gr.refl) | exact Gr.left (Gr.app Gr.refl) | exact Gr.left (Gr.left (Gr.left Gr.refl)) | exact Gr.nil | exact Gr.app (Gr.left Gr.refl) | refine Gr.cons ?_ | refine Gr.app ?_ | refine Gr.both ?_ ?_ | refine Gr.put (by repeat (first | exact List.mem_cons_self | apply List.mem_cons_of_mem | apply List.mem_append_right)) ?_))) (hq5.rs.mono (by repeat (first | exact Gr.refl | exact Gr.left Gr.refl | exact Gr.left (Gr.left Gr.refl) | exact Gr.left (Gr.app Gr.refl) | exact Gr.left (Gr.left (Gr.left Gr.refl)) | exact Gr.nil | exact Gr.app (Gr.left Gr.refl) | refine Gr.cons ?_ | refine Gr.app ?_ | refine Gr.both ?_ ?_ | refine Gr.put (by repeat (first | exact List.mem_cons_self | apply List.mem_cons_of_mem | apply List.mem_append_right)) ?_))) (by omega) (by omega)) (by repeat (first | exact Sp.here | exact Sp.sn | exact Sp.s0 | exact Fr.here | apply Sp.s2 | apply Sp.sx | apply Fr.fc | apply Fr.al | apply Fr.fa | apply Sp.sc | apply Sp.al | apply Sp.sa)) ?_
                refine WL.renamed (t := 86) (v := .bool true) rfl (congrArg Value.bool (decide_eq_true (by obtain ⟨_, e1, e2⟩ := (by rcases hor with h | h; exact absurd h hg74; exact h : actVP K1 L1 acts[i] = 2 ∧ K3 = K1 ∧ L3 = L1); rw [e2] at hU5; exact told_sameP inv.keys hU4 hU5))) ?_
                refine WL.gy (dj := 83) rfl rfl rfl (Yd.notB rfl) ?_
                refine WL.gy (dj := 74) rfl rfl rfl (Yd.pickF rfl rfl) ?_
                refine WL.y rfl (Yd.pickT rfl rfl) ?_
                refine WL.nil ?_
                refine DN.fit (C := Ds5 ++ (Cs5 ++ (C3 ++ H))) (by repeat (first | exact Sp.here | exact Sp.sn | exact Sp.s0 | exact Fr.here | apply Sp.s2 | apply Sp.sx | apply Fr.fc | apply Fr.al | apply Fr.fa | apply Sp.sc | apply Sp.al | apply Sp.sa)) ?_
                exact DN.reachK (()) (trivial) (Sx.put rfl ((by repeat (first | exact Sx.refl | refine Sx.skip rfl ?_)))) (Sp.all (by repeat (first | exact Sp.here | exact Sp.sn | exact Sp.s0 | exact Fr.here | apply Sp.s2 | apply Sp.sx | apply Fr.fc | apply Fr.al | apply Fr.fa | apply Sp.sc | apply Sp.al | apply Sp.sa)))
              · refine WL.gn (dj := 74) rfl rfl rfl rfl ?_
                refine WL.gn (dj := 74) rfl rfl rfl rfl ?_
                refine WL.gn (dj := 74) rfl rfl rfl rfl ?_
                refine WL.gu (dj := 77) rfl rfl rfl ?_
                refine WL.gu (dj := 77) rfl rfl rfl ?_
                refine WL.gu (dj := 77) rfl rfl rfl ?_
                refine WL.gu (dj := 77) rfl rfl rfl ?_
                refine WL.gn (dj := 74) rfl rfl rfl rfl ?_
                refine WL.gn (dj := 74) rfl rfl rfl rfl ?_
                refine WL.gu (dj := 83) rfl rfl rfl ?_
                refine WL.gu (dj := 83) rfl rfl rfl ?_
                refine WL.gu (dj := 83) rfl rfl rfl ?_
                refine WL.gu (dj := 83) rfl rfl rfl ?_
                refine WL.gn (dj := 74) rfl rfl rfl rfl ?_
                refine WL.y rfl (Yd.pickF rfl rfl) ?_
                refine WL.nil ?_
                refine DN.fit (C := Ds5 ++ (Cs5 ++ (C3 ++ H))) (by repeat (first | exact Sp.here | exact Sp.sn | exact Sp.s0 | exact Fr.here | apply Sp.s2 | apply Sp.sx | apply Fr.fc | apply Fr.al | apply Fr.fa | apply Sp.sc | apply Sp.al | apply Sp.sa)) ?_
                exact DN.reachK (()) (trivial) (Sx.put rfl ((by repeat (first | exact Sx.refl | refine Sx.skip rfl ?_)))) (Sp.all (by repeat (first | exact Sp.here | exact Sp.sn | exact Sp.s0 | exact Fr.here | apply Sp.s2 | apply Sp.sx | apply Fr.fc | apply Fr.al | apply Fr.fa | apply Sp.sc | apply Sp.al | apply Sp.sa)))
            · intro _ _
              refine WC.no rfl ?_
              refine WC.skip ?_
              refine DN.then_normal ?_
              refine WC.seq ?_
              refine WC.region ?_
              refine WL.y rfl (Yd.move rfl) ?_
              refine WL.rf rfl (Ent.func Try.call22 rfl) (taken_reads p gs K3 L3 C3 h3 inv3 (by omega)) (by repeat (first | exact Sp.here | exact Sp.sn | exact Sp.s0 | exact Fr.here | apply Sp.s2 | apply Sp.sx | apply Fr.fc | apply Fr.al | apply Fr.fa | apply Sp.sc | apply Sp.al | apply Sp.sa)) ?_
              refine WL.y rfl (Yd.assign rfl) ?_
              refine WL.nil ?_
              refine DN.then_normal ?_
              refine WC.seq ?_
              refine WC.seq ?_
              refine WC.region ?_
              refine WL.y rfl (Yd.assign rfl) ?_
              refine WL.nil ?_
              refine DN.then_normal ?_
              refine WC.block ?_
              refine WC.loopS (fun z : Nat × Int => z.1 ≤ S5.length ∧ z.2 = takenL L3 + sumM (S5.take z.1)) (fun z : Nat × Int => [(16, .int .i64 (z.1 : Int)), (15, .int .i64 z.2)]) (fun z : Nat × Int => Ds5 ++ (Cs5 ++ (C3 ++ H))) (fun z : Nat × Int => S5.length - z.1) (⟨0, takenL L3⟩) (show 0 ≤ S5.length ∧ (takenL L3) = takenL L3 + sumM (S5.take 0) from ⟨Nat.zero_le _, by simp [sumM]⟩) (Sx.put rfl (Sx.put rfl ((by repeat (first | exact Sx.refl | refine Sx.skip rfl ?_))))) (by repeat (first | exact Sp.here | exact Sp.sn | exact Sp.s0 | exact Fr.here | apply Sp.s2 | apply Sp.sx | apply Fr.fc | apply Fr.al | apply Fr.fa | apply Sp.sc | apply Sp.al | apply Sp.sa)) ?_
              rintro ⟨k, z2⟩ hI
              replace hI : k ≤ S5.length ∧ z2 = takenL L3 + sumM (S5.take k) := hI
              obtain ⟨hk, hz2⟩ := hI
              change WC _ _ _ _ _ _ ([(16, .int .i64 (k : Int)), (15, .int .i64 z2)] ++ _) (Ds5 ++ (Cs5 ++ (C3 ++ H)))
              refine WC.seq ?_
              refine WC.seq ?_
              refine WC.region ?_
              refine WL.y rfl (Yd.move rfl) ?_
              refine WL.y rfl (Yd.move rfl) ?_
              refine WL.y rfl (Yd.len (e := 46) (by kernel_rfl) rfl) ?_
              refine WL.y rfl (Yd.lss rfl rfl) ?_
              refine WL.nil ?_
              refine DN.then_normal ?_
              refine WC.ite rfl (fun h95 => ?_) (fun h95 => ?_)
              · have hklt : k < S5.length := by omega
                obtain ⟨ub, uf, us, uT, ufr, uex, rfl, _, hum, hus⟩ := ho5.rs.lies (by omega)
                have hst := sumM_take hklt
                have hp0 := sumM_part hmon k (by omega)
                have hgk := inv3.moneys (hT5.perm.mem_iff.1 (List.getElem_mem hklt))
                have hsp := sumP_perm hU5.perm S5[k].name 1
                have hmid := inv3.mid S5[k].name
                refine WC.skip ?_
                refine DN.then_normal ?_
                refine WC.seq ?_
                refine WC.block ?_
                refine WC.seq ?_
                refine WC.region ?_
                refine WL.y rfl (Yd.assign rfl) ?_
                refine WL.nil ?_
                refine DN.then_normal ?_
                refine WC.seq ?_
                refine WC.seq ?_
                refine WC.region ?_
                refine WL.y rfl (Yd.assign rfl) ?_
                refine WL.nil ?_
                refine DN.then_normal ?_
                refine WC.block ?_
                refine WC.loopS (fun z : Nat × Int => z.1 ≤ T5.length ∧ z.2 = sumP (T5.take z.1) S5[k].name 1) (fun z : Nat × Int => [(18, .int .i64 (z.1 : Int)), (17, .int .i64 z.2)]) (fun z : Nat × Int => Ds5 ++ (Cs5 ++ (C3 ++ H))) (fun z : Nat × Int => T5.length - z.1) (⟨0, 0⟩) (show 0 ≤ T5.length ∧ 0 = sumP (T5.take 0) S5[k].name 1 from ⟨Nat.zero_le _, by simp [sumP]⟩) (Sx.put rfl (Sx.put rfl ((by repeat (first | exact Sx.refl | refine Sx.skip rfl ?_))))) (by repeat (first | exact Sp.here | exact Sp.sn | exact Sp.s0 | exact Fr.here | apply Sp.s2 | apply Sp.sx | apply Fr.fc | apply Fr.al | apply Fr.fa | apply Sp.sc | apply Sp.al | apply Sp.sa)) ?_
                rintro ⟨j, x⟩ hI
                replace hI : j ≤ T5.length ∧ x = sumP (T5.take j) S5[k].name 1 := hI
                obtain ⟨hj, hx⟩ := hI
                change WC _ _ _ _ _ _ ([(18, .int .i64 (j : Int)), (17, .int .i64 x)] ++ _) (Ds5 ++ (Cs5 ++ (C3 ++ H)))
                refine WC.seq ?_
                refine WC.seq ?_
                refine WC.region ?_
                refine WL.y rfl (Yd.move rfl) ?_
                refine WL.y rfl (Yd.move rfl) ?_
                refine WL.y rfl (Yd.len (e := 48) (by kernel_rfl) rfl) ?_
                refine WL.y rfl (Yd.lss rfl rfl) ?_
                refine WL.nil ?_
                refine DN.then_normal ?_
                refine WC.ite rfl (fun h101 => ?_) (fun h101 => ?_)
                · have hjlt : j < T5.length := by omega
                  obtain ⟨wb, wf, ws, wT, wfr, wex, rfl, _, hwm, hws⟩ := hq5.rs.lies (by omega)
                  have hsj := sumP_take hjlt S5[k].name 1
                  have hj1 := sumP_part hpos (j + 1) S5[k].name 1
                  have hj0 := sumP_part hpos j S5[k].name 1
                  have hpn := hpos T5[j] (List.getElem_mem hjlt)
                  refine WC.skip ?_
                  refine DN.then_normal ?_
                  refine WC.seq ?_
                  refine WC.block ?_
                  refine WC.seq ?_
                  refine WC.draw 19 (by kernel_rfl) rfl ?_
                  refine WA.quiet 19 0 rfl rfl (by kernel_rfl) (by kernel_rfl) (by kernel_rfl) rfl ?_
                  refine WQ.y rfl (Yd.move rfl) ?_
                  refine WQ.y rfl (Yd.move rfl) ?_
                  refine WQ.y rfl (Yd.indexAddr (e := 48) (s := 4) (by kernel_rfl) (by kernel_rfl) rfl rfl (by omega) (by omega)) ?_
                  refine WQ.y rfl (Yd.fieldAddr (k := 1) (by kernel_rfl) rfl) ?_
                  refine WQ.rd rfl Wt.none (Rd.load1 (v := .string T5[j].name) (b := wb) (o := wf + (j : Int).toNat * 4 + 1) (cs := ws) (by kernel_rfl) rfl (Gr.get (by repeat (first | exact Gr.refl | exact Gr.left Gr.refl | exact Gr.left (Gr.left Gr.refl) | exact Gr.left (Gr.app Gr.refl) | exact Gr.left (Gr.left (Gr.left Gr.refl)) | exact Gr.nil | exact Gr.app (Gr.left Gr.refl) | refine Gr.cons ?_ | refine Gr.app ?_ | refine Gr.both ?_ ?_ | refine Gr.put (by repeat (first | exact List.mem_cons_self | apply List.mem_cons_of_mem | apply List.mem_append_right)) ?_)) hwm) (cell_atP (L := T5) cellsP_len hws (by omega) (by omega))) ?_
                  refine WQ.y rfl (Yd.move rfl) ?_
                  refine WQ.y rfl (Yd.move rfl) ?_
                  refine WQ.y rfl (Yd.indexAddr (e := 46) (s := 3) (by kernel_rfl) (by kernel_rfl) rfl rfl (by omega) (by omega)) ?_
                  refine WQ.y rfl (Yd.fieldAddr (k := 0) (by kernel_rfl) rfl) ?_
                  refine WQ.rd rfl Wt.none (Rd.load1 (v := .string S5[k].name) (b := ub) (o := uf + (k : Int).toNat * 3 + 0) (cs := us) (by kernel_rfl) rfl (Gr.get (by repeat (first | exact Gr.refl | exact Gr.left Gr.refl | exact Gr.left (Gr.left Gr.refl) | exact Gr.left (Gr.app Gr.refl) | exact Gr.left (Gr.left (Gr.left Gr.refl)) | exact Gr.nil | exact Gr.app (Gr.left Gr.refl) | refine Gr.cons ?_ | refine Gr.app ?_ | refine Gr.both ?_ ?_ | refine Gr.put (by repeat (first | exact List.mem_cons_self | apply List.mem_cons_of_mem | apply List.mem_append_right)) ?_)) hum) (cell_atP (L := S5) cellsU_len hus (by omega) (by omega))) ?_
                  refine WQ.y rfl (Yd.eqlS rfl rfl) ?_
                  refine WQ.y rfl (Yd.move rfl) ?_
                  refine WQ.partP (t := 115) rfl (fun hg115 => ?_) (fun hg115 => ?_)
                  · refine WQ.gy (dj := 115) rfl rfl rfl (Yd.move rfl) ?_
                    refine WQ.gy (dj := 115) rfl rfl rfl (Yd.move rfl) ?_
                    refine WQ.gy (dj := 115) rfl rfl rfl (Yd.indexAddr (e := 48) (s := 4) (by kernel_rfl) (by kernel_rfl) rfl rfl (by omega) (by omega)) ?_
                    refine WQ.gy (dj := 115) rfl rfl rfl (Yd.fieldAddr (k := 3) (by kernel_rfl) rfl) ?_
                    refine WQ.rd rfl (Wt.yes (dj := 115) rfl rfl) (Rd.load1 (v := .int .i64 T5[j].st) (b := wb) (o := wf + (j : Int).toNat * 4 + 3) (cs := ws) (by kernel_rfl) rfl (Gr.get (by repeat (first | exact Gr.refl | exact Gr.left Gr.refl | exact Gr.left (Gr.left Gr.refl) | exact Gr.left (Gr.app Gr.refl) | exact Gr.left (Gr.left (Gr.left Gr.refl)) | exact Gr.nil | exact Gr.app (Gr.left Gr.refl) | refine Gr.cons ?_ | refine Gr.app ?_ | refine Gr.both ?_ ?_ | refine Gr.put (by repeat (first | exact List.mem_cons_self | apply List.mem_cons_of_mem | apply List.mem_append_right)) ?_)) hwm) (cell_atP (L := T5) cellsP_len hws (by omega) (by omega))) ?_
                    refine WQ.gy (dj := 115) rfl rfl rfl (Yd.eql rfl rfl) ?_
                    refine WQ.y rfl (Yd.pickT rfl rfl) ?_
                    refine WQ.nil ?_
                    refine WA.done (by kernel_rfl) ?_
                    refine DN.then_normal ?_
                    refine WC.ite rfl (fun h122 => ?_) (fun h122 => ?_)
                    · rw [if_pos ⟨hg115, h122⟩] at hsj
                      refine WC.region ?_
                      refine WL.y rfl (Yd.move rfl) ?_
                      refine WL.y rfl (Yd.move rfl) ?_
                      refine WL.y rfl (Yd.move rfl) ?_
                      refine WL.y rfl (Yd.indexAddr (e := 48) (s := 4) (by kernel_rfl) (by kernel_rfl) rfl rfl (by omega) (by omega)) ?_
                      refine WL.y rfl (Yd.fieldAddr (k := 2) (by kernel_rfl) rfl) ?_
                      refine WL.h rfl (Hd.load1 (v := .int .i64 T5[j].n) (b := wb) (o := wf + (j : Int).toNat * 4 + 2) (cs := ws) (by kernel_rfl) rfl (Gr.get (by repeat (first | exact Gr.refl | exact Gr.left Gr.refl | exact Gr.left (Gr.left Gr.refl) | exact Gr.left (Gr.app Gr.refl) | exact Gr.left (Gr.left (Gr.left Gr.refl)) | exact Gr.nil | exact Gr.app (Gr.left Gr.refl) | refine Gr.cons ?_ | refine Gr.app ?_ | refine Gr.both ?_ ?_ | refine Gr.put (by repeat (first | exact List.mem_cons_self | apply List.mem_cons_of_mem | apply List.mem_append_right)) ?_)) hwm) (cell_atP (L := T5) cellsP_len hws (by omega) (by omega)) ⟨_, rfl, ?_⟩)
                      refine WL.y rfl (Yd.add rfl rfl (by omega) (by omega)) ?_
                      refine WL.y rfl (Yd.assign rfl) ?_
                      refine WL.nil ?_
                      refine DN.block_normal ?_
                      refine DN.then_normal ?_
                      refine WC.region ?_
                      refine WL.y rfl (Yd.move rfl) ?_
                      refine WL.y rfl (Yd.add rfl rfl (by omega) (by omega)) ?_
                      refine WL.y rfl (Yd.assign rfl) ?_
                      refine WL.nil ?_
                      exact DN.againS (⟨j + 1, x + T5[j].n⟩) (show (j + 1) ≤ T5.length ∧ (x + T5[j].n) = sumP (T5.take (j + 1)) S5[k].name 1 from ⟨by omega, by omega⟩) (show T5.length - (j + 1) < T5.length - j by omega) (Sx.put rfl (Sx.put rfl ((by repeat (first | exact Sx.refl | refine Sx.skip rfl ?_))))) (by repeat (first | exact Sp.here | exact Sp.sn | exact Sp.s0 | exact Fr.here | apply Sp.s2 | apply Sp.sx | apply Fr.fc | apply Fr.al | apply Fr.fa | apply Sp.sc | apply Sp.al | apply Sp.sa))
                    · rw [if_neg (fun e => h122 e.2)] at hsj
                      refine WC.skip ?_
                      refine DN.block_normal ?_
                      refine DN.then_normal ?_
                      refine WC.region ?_
                      refine WL.y rfl (Yd.move rfl) ?_
                      refine WL.y rfl (Yd.add rfl rfl (by omega) (by omega)) ?_
                      refine WL.y rfl (Yd.assign rfl) ?_
                      refine WL.nil ?_
                      exact DN.againS (⟨j + 1, x⟩) (show (j + 1) ≤ T5.length ∧ x = sumP (T5.take (j + 1)) S5[k].name 1 from ⟨by omega, by omega⟩) (show T5.length - (j + 1) < T5.length - j by omega) (Sx.put rfl (Sx.put rfl ((by repeat (first | exact Sx.refl | refine Sx.skip rfl ?_))))) (by repeat (first | exact Sp.here | exact Sp.sn | exact Sp.s0 | exact Fr.here | apply Sp.s2 | apply Sp.sx | apply Fr.fc | apply Fr.al | apply Fr.fa | apply Sp.sc | apply Sp.al | apply Sp.sa))
                  · refine WQ.gn (dj := 115) rfl rfl rfl rfl ?_
                    refine WQ.gn (dj := 115) rfl rfl rfl rfl ?_
                    refine WQ.gn (dj := 115) rfl rfl rfl rfl ?_
                    refine WQ.gn (dj := 115) rfl rfl rfl rfl ?_
                    refine WQ.gn (dj := 115) rfl rfl rfl rfl ?_
                    refine WQ.gn (dj := 115) rfl rfl rfl rfl ?_
                    refine WQ.y rfl (Yd.pickF rfl rfl) ?_
                    refine WQ.nil ?_
                    refine WA.done (by kernel_rfl) ?_
                    refine DN.then_normal ?_
                    refine WC.no rfl ?_
                    refine WC.skip ?_
                    refine DN.block_normal ?_
                    refine DN.then_normal ?_
                    refine WC.region ?_
                    refine WL.y rfl (Yd.move rfl) ?_
                    refine WL.y rfl (Yd.add rfl rfl (by omega) (by omega)) ?_
                    refine WL.y rfl (Yd.assign rfl) ?_
                    refine WL.nil ?_
                    exact DN.againS (⟨j + 1, x⟩) (show (j + 1) ≤ T5.length ∧ x = sumP (T5.take (j + 1)) S5[k].name 1 from ⟨by omega, by rw [hsj, if_neg (fun e => hg115 e.1)]; omega⟩) (show T5.length - (j + 1) < T5.length - j by omega) (Sx.put rfl (Sx.put rfl ((by repeat (first | exact Sx.refl | refine Sx.skip rfl ?_))))) (by repeat (first | exact Sp.here | exact Sp.sn | exact Sp.s0 | exact Fr.here | apply Sp.s2 | apply Sp.sx | apply Fr.fc | apply Fr.al | apply Fr.fa | apply Sp.sc | apply Sp.al | apply Sp.sa))
                · obtain rfl : j = T5.length := by omega
                  rw [List.take_length] at hx
                  refine WC.exit ?_
                  refine DN.then_exit ?_
                  refine DN.then_exit ?_
                  refine DN.block_exit ?_
                  refine DN.then_normal ?_
                  refine WC.seq ?_
                  refine WC.seq ?_
                  refine WC.draw 28 (by kernel_rfl) rfl ?_
                  refine WA.quiet 28 0 rfl rfl (by kernel_rfl) (by kernel_rfl) (by kernel_rfl) rfl ?_
                  refine WQ.y rfl (Yd.move rfl) ?_
                  refine WQ.y rfl (Yd.move rfl) ?_
                  refine WQ.y rfl (Yd.indexAddr (e := 46) (s := 3) (by kernel_rfl) (by kernel_rfl) rfl rfl (by omega) (by omega)) ?_
                  refine WQ.y rfl (Yd.fieldAddr (k := 2) (by kernel_rfl) rfl) ?_
                  refine WQ.rd rfl Wt.none (Rd.load1 (v := .int .i64 S5[k].held) (b := ub) (o := uf + (k : Int).toNat * 3 + 2) (cs := us) (by kernel_rfl) rfl (Gr.get (by repeat (first | exact Gr.refl | exact Gr.left Gr.refl | exact Gr.left (Gr.left Gr.refl) | exact Gr.left (Gr.app Gr.refl) | exact Gr.left (Gr.left (Gr.left Gr.refl)) | exact Gr.nil | exact Gr.app (Gr.left Gr.refl) | refine Gr.cons ?_ | refine Gr.app ?_ | refine Gr.both ?_ ?_ | refine Gr.put (by repeat (first | exact List.mem_cons_self | apply List.mem_cons_of_mem | apply List.mem_append_right)) ?_)) hum) (cell_atP (L := S5) cellsU_len hus (by omega) (by omega))) ?_
                  refine WQ.y rfl (Yd.move rfl) ?_
                  refine WQ.y rfl (Yd.neq rfl rfl) ?_
                  refine WQ.renamed (t := 136) (v := .bool false) rfl (congrArg Value.bool (decide_eq_false (by omega))) ?_
                  refine WQ.y rfl (Yd.move rfl) ?_
                  refine WQ.gy (dj := 137) rfl rfl rfl (Yd.move rfl) ?_
                  refine WQ.gy (dj := 137) rfl rfl rfl (Yd.move rfl) ?_
                  refine WQ.gy (dj := 137) rfl rfl rfl (Yd.indexAddr (e := 46) (s := 3) (by kernel_rfl) (by kernel_rfl) rfl rfl (by omega) (by omega)) ?_
                  refine WQ.gy (dj := 137) rfl rfl rfl (Yd.fieldAddr (k := 2) (by kernel_rfl) rfl) ?_
                  refine WQ.rd rfl (Wt.yes (dj := 137) rfl rfl) (Rd.load1 (v := .int .i64 S5[k].held) (b := ub) (o := uf + (k : Int).toNat * 3 + 2) (cs := us) (by kernel_rfl) rfl (Gr.get (by repeat (first | exact Gr.refl | exact Gr.left Gr.refl | exact Gr.left (Gr.left Gr.refl) | exact Gr.left (Gr.app Gr.refl) | exact Gr.left (Gr.left (Gr.left Gr.refl)) | exact Gr.nil | exact Gr.app (Gr.left Gr.refl) | refine Gr.cons ?_ | refine Gr.app ?_ | refine Gr.both ?_ ?_ | refine Gr.put (by repeat (first | exact List.mem_cons_self | apply List.mem_cons_of_mem | apply List.mem_append_right)) ?_)) hum) (cell_atP (L := S5) cellsU_len hus (by omega) (by omega))) ?_
                  refine WQ.gy (dj := 137) rfl rfl rfl (Yd.lss rfl rfl) ?_
                  refine WQ.renamed (t := 143) (v := .bool false) rfl (congrArg Value.bool (decide_eq_false (by omega))) ?_
                  refine WQ.y rfl (Yd.pickF rfl rfl) ?_
                  refine WQ.y rfl (Yd.move rfl) ?_
                  refine WQ.gy (dj := 145) rfl rfl rfl (Yd.move rfl) ?_
                  refine WQ.gy (dj := 145) rfl rfl rfl (Yd.move rfl) ?_
                  refine WQ.gy (dj := 145) rfl rfl rfl (Yd.indexAddr (e := 46) (s := 3) (by kernel_rfl) (by kernel_rfl) rfl rfl (by omega) (by omega)) ?_
                  refine WQ.gy (dj := 145) rfl rfl rfl (Yd.fieldAddr (k := 2) (by kernel_rfl) rfl) ?_
                  refine WQ.rd rfl (Wt.yes (dj := 145) rfl rfl) (Rd.load1 (v := .int .i64 S5[k].held) (b := ub) (o := uf + (k : Int).toNat * 3 + 2) (cs := us) (by kernel_rfl) rfl (Gr.get (by repeat (first | exact Gr.refl | exact Gr.left Gr.refl | exact Gr.left (Gr.left Gr.refl) | exact Gr.left (Gr.app Gr.refl) | exact Gr.left (Gr.left (Gr.left Gr.refl)) | exact Gr.nil | exact Gr.app (Gr.left Gr.refl) | refine Gr.cons ?_ | refine Gr.app ?_ | refine Gr.both ?_ ?_ | refine Gr.put (by repeat (first | exact List.mem_cons_self | apply List.mem_cons_of_mem | apply List.mem_append_right)) ?_)) hum) (cell_atP (L := S5) cellsU_len hus (by omega) (by omega))) ?_
                  refine WQ.gy (dj := 145) rfl rfl rfl (Yd.move rfl) ?_
                  refine WQ.gy (dj := 145) rfl rfl rfl (Yd.move rfl) ?_
                  refine WQ.gy (dj := 145) rfl rfl rfl (Yd.indexAddr (e := 46) (s := 3) (by kernel_rfl) (by kernel_rfl) rfl rfl (by omega) (by omega)) ?_
                  refine WQ.gy (dj := 145) rfl rfl rfl (Yd.fieldAddr (k := 1) (by kernel_rfl) rfl) ?_
                  refine WQ.rd rfl (Wt.yes (dj := 145) rfl rfl) (Rd.load1 (v := .int .i64 S5[k].money) (b := ub) (o := uf + (k : Int).toNat * 3 + 1) (cs := us) (by kernel_rfl) rfl (Gr.get (by repeat (first | exact Gr.refl | exact Gr.left Gr.refl | exact Gr.left (Gr.left Gr.refl) | exact Gr.left (Gr.app Gr.refl) | exact Gr.left (Gr.left (Gr.left Gr.refl)) | exact Gr.nil | exact Gr.app (Gr.left Gr.refl) | refine Gr.cons ?_ | refine Gr.app ?_ | refine Gr.both ?_ ?_ | refine Gr.put (by repeat (first | exact List.mem_cons_self | apply List.mem_cons_of_mem | apply List.mem_append_right)) ?_)) hum) (cell_atP (L := S5) cellsU_len hus (by omega) (by omega))) ?_
                  refine WQ.gy (dj := 145) rfl rfl rfl (Yd.gtr rfl rfl) ?_
                  refine WQ.renamed (t := 156) (v := .bool false) rfl (congrArg Value.bool (decide_eq_false (by omega))) ?_
                  refine WQ.y rfl (Yd.pickF rfl rfl) ?_
                  refine WQ.nil ?_
                  refine WA.done (by kernel_rfl) ?_
                  refine DN.then_normal ?_
                  refine WC.no rfl ?_
                  refine WC.skip ?_
                  refine DN.then_normal ?_
                  refine WC.region ?_
                  refine WL.y rfl (Yd.move rfl) ?_
                  refine WL.y rfl (Yd.move rfl) ?_
                  refine WL.y rfl (Yd.move rfl) ?_
                  refine WL.y rfl (Yd.indexAddr (e := 46) (s := 3) (by kernel_rfl) (by kernel_rfl) rfl rfl (by omega) (by omega)) ?_
                  refine WL.y rfl (Yd.fieldAddr (k := 1) (by kernel_rfl) rfl) ?_
                  refine WL.h rfl (Hd.load1 (v := .int .i64 S5[k].money) (b := ub) (o := uf + (k : Int).toNat * 3 + 1) (cs := us) (by kernel_rfl) rfl (Gr.get (by repeat (first | exact Gr.refl | exact Gr.left Gr.refl | exact Gr.left (Gr.left Gr.refl) | exact Gr.left (Gr.app Gr.refl) | exact Gr.left (Gr.left (Gr.left Gr.refl)) | exact Gr.nil | exact Gr.app (Gr.left Gr.refl) | refine Gr.cons ?_ | refine Gr.app ?_ | refine Gr.both ?_ ?_ | refine Gr.put (by repeat (first | exact List.mem_cons_self | apply List.mem_cons_of_mem | apply List.mem_append_right)) ?_)) hum) (cell_atP (L := S5) cellsU_len hus (by omega) (by omega)) ⟨_, rfl, ?_⟩)
                  refine WL.y rfl (Yd.add rfl rfl (by omega) (by omega)) ?_
                  refine WL.y rfl (Yd.assign rfl) ?_
                  refine WL.nil ?_
                  refine DN.block_normal ?_
                  refine DN.then_normal ?_
                  refine WC.region ?_
                  refine WL.y rfl (Yd.move rfl) ?_
                  refine WL.y rfl (Yd.add rfl rfl (by omega) (by omega)) ?_
                  refine WL.y rfl (Yd.assign rfl) ?_
                  refine WL.nil ?_
                  exact DN.againS (⟨k + 1, z2 + S5[k].money⟩) (show (k + 1) ≤ S5.length ∧ (z2 + S5[k].money) = takenL L3 + sumM (S5.take (k + 1)) from ⟨by omega, by omega⟩) (show S5.length - (k + 1) < S5.length - k by omega) (Sx.put rfl (Sx.put rfl ((by repeat (first | exact Sx.refl | refine Sx.skip rfl ?_))))) (by repeat (first | exact Sp.here | exact Sp.sn | exact Sp.s0 | exact Fr.here | apply Sp.s2 | apply Sp.sx | apply Fr.fc | apply Fr.al | apply Fr.fa | apply Sp.sc | apply Sp.al | apply Sp.sa))
              · obtain rfl : k = S5.length := by omega
                rw [List.take_length, sumM_perm hT5.perm] at hz2
                refine WC.exit ?_
                refine DN.then_exit ?_
                refine DN.then_exit ?_
                refine DN.block_exit ?_
                refine DN.then_normal ?_
                refine WC.seq ?_
                refine WC.region ?_
                refine WL.y rfl (Yd.move rfl) ?_
                refine WL.y rfl (Yd.move rfl) ?_
                refine WL.y rfl (Yd.neq rfl rfl) ?_
                refine WL.renamed (t := 167) (v := .bool false) rfl (congrArg Value.bool (decide_eq_false (by omega))) ?_
                refine WL.nil ?_
                refine DN.then_normal ?_
                refine WC.no rfl ?_
                refine WC.skip ?_
                refine DN.block_normal ?_
                refine DN.then_normal ?_
                refine WC.region ?_
                refine WL.y rfl (Yd.move rfl) ?_
                refine WL.y rfl (Yd.add rfl rfl (by omega) (by omega)) ?_
                refine WL.y rfl (Yd.assign rfl) ?_
                refine WL.nil ?_
                exact DN.againS (⟨i + 1, K3, L3, C3⟩) (show (i + 1) ≤ acts.length ∧ (i + 1) ≤ 120 ∧ L3.length ≤ (i + 1) ∧ PsAt 57 p K3 L3 C3 ∧ PInv gs K3 L3 from ⟨by omega, by omega, by omega, h3, inv3⟩) (show acts.length - (i + 1) < acts.length - i by omega) (Sx.put rfl ((by repeat (first | exact Sx.refl | refine Sx.skip rfl ?_)))) (by repeat (first | exact Sp.here | exact Sp.sn | exact Sp.s0 | exact Fr.here | apply Sp.s2 | apply Sp.sx | apply Fr.fc | apply Fr.al | apply Fr.fa | apply Sp.sc | apply Sp.al | apply Sp.sa))
          · refine WC.exit ?_
            refine DN.then_exit ?_
            refine DN.then_exit ?_
            refine DN.block_exit ?_
            refine DN.then_normal ?_
            refine WC.seq ?_
            refine WC.region ?_
            refine WL.r rfl (Ent.func Try.call10 rfl) (known10 _) ?_
            refine WL.y rfl (Yd.assign rfl) ?_
            refine WL.nil ?_
            refine DN.then_normal ?_
            refine WC.ret ?_
            refine DN.fit (C := H) (by repeat (first | exact Sp.here | exact Sp.sn | exact Sp.s0 | exact Fr.here | apply Sp.s2 | apply Sp.sx | apply Fr.fc | apply Fr.al | apply Fr.fa | apply Sp.sc | apply Sp.al | apply Sp.sa)) ?_
            refine DN.ret1 Try.results4 rfl ?_
            exact ⟨rfl, rfl⟩
        · refine WL.gn (dj := 52) rfl rfl rfl rfl ?_
          refine WL.gn (dj := 52) rfl rfl rfl rfl ?_
          refine WL.y rfl (Yd.pickF rfl rfl) ?_
          refine WL.nil ?_
          refine DN.then_normal ?_
          refine WC.no rfl ?_
          refine WC.exit ?_
          refine DN.then_exit ?_
          refine DN.then_exit ?_
          refine DN.block_exit ?_
          refine DN.then_normal ?_
          refine WC.seq ?_
          refine WC.region ?_
          refine WL.r rfl (Ent.func Try.call10 rfl) (known10 _) ?_
          refine WL.y rfl (Yd.assign rfl) ?_
          refine WL.nil ?_
          refine DN.then_normal ?_
          refine WC.ret ?_
          refine DN.fit (C := H) (by repeat (first | exact Sp.here | exact Sp.sn | exact Sp.s0 | exact Fr.here | apply Sp.s2 | apply Sp.sx | apply Fr.fc | apply Fr.al | apply Fr.fa | apply Sp.sc | apply Sp.al | apply Sp.sa)) ?_
          refine DN.ret1 Try.results4 rfl ?_
          exact ⟨rfl, rfl⟩
    · refine WC.region ?_
      refine WL.y rfl (Yd.move rfl) ?_
      refine WL.ca rfl (Ent.func Try.call11 rfl) (new_tells _ gs H hv hl) ?_
      rintro q H1 hq
      first | (have inv1 := PInv.start hA; obtain ⟨p, C1, rfl, h1, rfl⟩ := new_inP hq hA) | (obtain ⟨rfl, hHq⟩ := new_outP hq hA; rw [hHq])
      refine WL.y rfl (Yd.move rfl) ?_
      refine WL.y rfl (Yd.extract rfl rfl) ?_
      refine WL.y rfl (Yd.extract rfl rfl) ?_
      refine WL.y rfl (Yd.assign rfl) ?_
      refine WL.y rfl (Yd.assign rfl) ?_
      refine WL.nil ?_
      refine DN.then_normal ?_
      refine WC.seq ?_
      refine WC.seq ?_
      refine WC.region ?_
      refine WL.y rfl (Yd.move rfl) ?_
      refine WL.y rfl (Yd.neq rfl rfl) ?_
      refine WL.renamed (t := 29) (v := .bool true) rfl (congrArg Value.bool (by decide)) ?_
      refine WL.nil ?_
      refine DN.then_normal ?_
      refine WC.yes rfl ?_
      refine WC.seq ?_
      refine WC.region ?_
      refine WL.y rfl (Yd.move rfl) ?_
      refine WL.y rfl (Yd.eqlNil Try.underlying26 rfl rfl) ?_
      refine WL.renamed (t := 31) (v := .bool true) rfl (congrArg Value.bool (rfl)) ?_
      refine WL.y rfl (Yd.move rfl) ?_
      refine WL.gr (dj := 32) rfl rfl rfl (Ent.func Try.call10 rfl) (known10 _) ?_
      refine WL.y rfl (Yd.pickT rfl rfl) ?_
      refine WL.y rfl (Yd.assign rfl) ?_
      refine WL.nil ?_
      refine DN.then_normal ?_
      refine WC.ret ?_
      refine DN.then_ret ?_
      refine DN.fit (C := H) (by repeat (first | exact Sp.here | exact Sp.sn | exact Sp.s0 | exact Fr.here | apply Sp.s2 | apply Sp.sx | apply Fr.fc | apply Fr.al | apply Fr.fa | apply Sp.sc | apply Sp.al | apply Sp.sa)) ?_
      refine DN.ret1 Try.results4 rfl ?_
      exact ⟨rfl, rfl⟩

end Go.Proofs.Ytllfnigodikbaaa
