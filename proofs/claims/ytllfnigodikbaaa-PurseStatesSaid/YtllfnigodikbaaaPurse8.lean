/-
  The walk of PurseStates.
-/
import Derived.Test.YtllfnigodikbaaaPurse4
import Derived.Test.YtllfnigodikbaaaPurseLaw3
set_option linter.unusedVariables false
set_option linter.unusedSimpArgs false
set_option maxHeartbeats 4000000
namespace Go.Proofs.Ytllfnigodikbaaa
open Go.SL


/-- drayage/drayagelaw10.PurseStates -/
theorem law_PurseStates (H : List Ck) (v : Value) (gs : List Au) (hv : Rs v gs.length (gs.flatMap cellsU) H) (hl : gs.length ≤ 9223372036854775807) (va : Value) (acts : List Aq) (hva : Rs va acts.length (acts.flatMap cellsQ) H) (hla : acts.length ≤ 9223372036854775807) : Reads Try.prog 5 [v, va] H (.bool true) := by
  refine Tells.enter Try.func5 rfl Try.ntmps5 rfl ?_
  intro w0 R
  obtain ⟨vo, vc, rfl, hvc⟩ := hv.form
  obtain ⟨ao, ac, rfl, hac⟩ := hva.form
  refine WC.seq ?_
  refine WC.region ?_
  refine WL.y rfl (Yd.assign rfl) ?_
  refine WL.nil ?_
  refine DN.then_normal ?_
  refine WC.seq ?_
  refine WC.seq ?_
  refine WC.region ?_
  refine WL.y rfl (Yd.move rfl) ?_
  refine WL.y rfl (Yd.move rfl) ?_
  refine WL.rf rfl (Ent.func Try.call9 rfl) (long_reads _ _ gs acts H hv hva hl hla) (by repeat (first | exact Sp.here | exact Sp.sn | exact Sp.s0 | exact Fr.here | apply Sp.s2 | apply Sp.sx | apply Fr.fc | apply Fr.al | apply Fr.fa | apply Sp.sc | apply Sp.al | apply Sp.sa)) ?_
  refine WL.nil ?_
  refine DN.then_normal ?_
  refine WC.cond rfl (fun h17 => ?_) (fun h17 => ?_)
  · refine WC.seq ?_
    refine WC.region ?_
    refine WL.r rfl (Ent.func Try.call10 rfl) (known10 _) ?_
    refine WL.y rfl (Yd.assign rfl) ?_
    refine WL.nil ?_
    refine DN.then_normal ?_
    refine WC.ret ?_
    refine DN.then_ret ?_
    refine DN.fit (C := H) (by repeat (first | exact Sp.here | exact Sp.sn | exact Sp.s0 | exact Fr.here | apply Sp.s2 | apply Sp.sx | apply Fr.fc | apply Fr.al | apply Fr.fa | apply Sp.sc | apply Sp.al | apply Sp.sa)) ?_
    refine DN.ret1 Try.results5 rfl ?_
    exact ⟨rfl, rfl⟩
  · refine WC.skip ?_
    refine DN.then_normal ?_
    refine WC.seq ?_
    rcases Classical.em (AccL gs) with hA | hA
    · refine WC.region ?_
      refine WL.y rfl (Yd.move rfl) ?_
      refine WL.ca rfl (Ent.func Try.call11 rfl) (new_tells _ gs H hv hl) ?_
      rintro q H1 hq
      first | (have inv1 := PInv.start hA; obtain ⟨p, C1, rfl, h1, rfl⟩ := new_inP hq hA) | (obtain ⟨rfl, hHq⟩ := new_outP hq hA; rw [hHq])
      refine WL.y rfl (Yd.move rfl) ?_
      refine WL.y rfl (Yd.extract rfl rfl) ?_
      refine WL.y rfl (Yd.extract rfl rfl) ?_
      refine WL.y rfl (Yd.assign rfl) ?_
      refine WL.y rfl (Yd.assign rfl) ?_
      refine WL.nil ?_
      refine DN.then_normal ?_
      refine WC.seq ?_
      refine WC.seq ?_
      refine WC.region ?_
      refine WL.y rfl (Yd.move rfl) ?_
      refine WL.y rfl (Yd.neq rfl rfl) ?_
      refine WL.renamed (t := 25) (v := .bool false) rfl (congrArg Value.bool (by decide)) ?_
      refine WL.nil ?_
      refine DN.then_normal ?_
      refine WC.no rfl ?_
      refine WC.skip ?_
      refine DN.then_normal ?_
      refine WC.seq ?_
      refine WC.seq ?_
      refine WC.region ?_
      refine WL.y rfl (Yd.assign rfl) ?_
      refine WL.nil ?_
      refine DN.then_normal ?_
      refine WC.block ?_
      refine WC.loopS (fun z : Nat × List Au × List Py × List Ck => z.1 ≤ acts.length ∧ z.1 ≤ 120 ∧ z.2.2.1.length ≤ z.1 ∧ PsAt 57 p z.2.1 z.2.2.1 z.2.2.2 ∧ PInv gs z.2.1 z.2.2.1) (fun z : Nat × List Au × List Py × List Ck => [(7, .int .i64 (z.1 : Int))]) (fun z : Nat × List Au × List Py × List Ck => z.2.2.2 ++ H) (fun z : Nat × List Au × List Py × List Ck => acts.length - z.1) (⟨0, gs, [], C1⟩) (show 0 ≤ acts.length ∧ 0 ≤ 120 ∧ [].length ≤ 0 ∧ PsAt 57 p gs [] C1 ∧ PInv gs gs [] from ⟨Nat.zero_le _, Nat.zero_le _, Nat.zero_le _, h1, inv1⟩) (Sx.put rfl ((by repeat (first | exact Sx.refl | refine Sx.skip rfl ?_)))) (by repeat (first | exact Sp.here | exact Sp.sn | exact Sp.s0 | exact Fr.here | apply Sp.s2 | apply Sp.sx | apply Fr.fc | apply Fr.al | apply Fr.fa | apply Sp.sc | apply Sp.al | apply Sp.sa)) ?_
      rintro ⟨i, K1, L1, C2⟩ hI
      replace hI : i ≤ acts.length ∧ i ≤ 120 ∧ L1.length ≤ i ∧ PsAt 57 p K1 L1 C2 ∧ PInv gs K1 L1 := hI
      obtain ⟨hi, hi60, hcnt, h2, inv⟩ := hI
      change WC _ _ _ _ _ _ ([(7, .int .i64 (i : Int))] ++ _) (C2 ++ H)
      have hmany := inv.few2
      refine WC.seq ?_
      refine WC.seq ?_
      refine WC.region ?_
      refine WL.y rfl (Yd.move rfl) ?_
      refine WL.y rfl (Yd.move rfl) ?_
      refine WL.y rfl (Yd.len (e := 35) (by kernel_rfl) rfl) ?_
      refine WL.y rfl (Yd.lss rfl rfl) ?_
      refine WL.y rfl (Yd.move rfl) ?_
      refine WL.partP (t := 35) rfl (fun hg35 => ?_) (fun hg35 => ?_)
      · refine WL.gy (dj := 35) rfl rfl rfl (Yd.move rfl) ?_
        refine WL.gy (dj := 35) rfl rfl rfl (Yd.lss rfl rfl) ?_
        refine WL.y rfl (Yd.pickT rfl rfl) ?_
        refine WL.nil ?_
        refine DN.then_normal ?_
        refine WC.ite rfl (fun h38 => ?_) (fun h38 => ?_)
        · have hlt : i < acts.length := by omega
          obtain ⟨yb, yf, ys, yT, yfr, yex, rfl, _, hym, hys⟩ := hva.lies (by omega)
          refine WC.skip ?_
          refine DN.then_normal ?_
          refine WC.seq ?_
          refine WC.block ?_
          refine WC.seq ?_
          refine WC.region ?_
          refine WL.y rfl (Yd.move rfl) ?_
          refine WL.c rfl (Ent.func Try.call17 rfl) (pays_tells p K1 L1 C2 h2 (by omega)) (Sp.p (by repeat (first | exact Sp.here | exact Sp.sn | exact Sp.s0 | exact Fr.here | apply Sp.s2 | apply Sp.sx | apply Fr.fc | apply Fr.al | apply Fr.fa | apply Sp.sc | apply Sp.al | apply Sp.sa))) ?_
          rintro q C5 ⟨T4, Ds4, hU4, hq4, rfl⟩
          have hm4 := hU4.perm.length_eq
          obtain ⟨to4, tc4, rfl, _⟩ := hq4.form
          refine WL.y rfl (Yd.assign rfl) ?_
          refine WL.nil ?_
          refine DN.then_normal ?_
          refine WC.seq ?_
          refine WC.region ?_
          refine WL.y rfl (Yd.move rfl) ?_
          refine WL.y rfl (Yd.move rfl) ?_
          refine WL.y rfl (Yd.move rfl) ?_
          refine WL.elemA (e := 35) (s := 4) (by kernel_rfl) (by kernel_rfl) (by kernel_rfl) rfl rfl (rfl) (hva.mono (by repeat (first | exact Gr.refl | exact Gr.left Gr.refl | exact Gr.left (Gr.left Gr.refl) | exact Gr.left (Gr.app Gr.refl) | exact Gr.left (Gr.left (Gr.left Gr.refl)) | exact Gr.nil | exact Gr.app (Gr.left Gr.refl) | refine Gr.cons ?_ | refine Gr.app ?_ | refine Gr.both ?_ ?_ | refine Gr.put (by repeat (first | exact List.mem_cons_self | apply List.mem_cons_of_mem | apply List.mem_append_right)) ?_))) (flat_row cellsQ 4 cellsQ_len acts i hlt) (by rfl) (by omega) (hlt) rfl rfl ?_
          intro p46
          refine WL.c rfl (Ent.func Try.call13 rfl) (act_tells p gs K1 L1 C2 h2 inv acts[i]) (Sp.p (by repeat (first | exact Sp.here | exact Sp.sn | exact Sp.s0 | exact Fr.here | apply Sp.s2 | apply Sp.sx | apply Fr.fc | apply Fr.al | apply Fr.fa | apply Sp.sc | apply Sp.al | apply Sp.sa))) ?_
          rintro q C3 ⟨rfl, h3⟩
          obtain ⟨inv3, hcnt3⟩ := inv.act acts[i]
          have hs := act_states inv acts[i]
          obtain ⟨K3, hK3⟩ : ∃ x, x = actKP K1 L1 acts[i] := ⟨_, rfl⟩
          obtain ⟨L3, hL3⟩ : ∃ x, x = actLP K1 L1 acts[i] := ⟨_, rfl⟩
          rw [← hK3, ← hL3] at h3 inv3
          rw [← hL3] at hcnt3 hs
          have hmany3 := inv3.few2
          refine WL.y rfl (Yd.assign rfl) ?_
          refine WL.nil ?_
          refine DN.then_normal ?_
          refine WC.seq ?_
          refine WC.region ?_
          refine WL.y rfl (Yd.move rfl) ?_
          refine WL.c rfl (Ent.func Try.call17 rfl) (pays_tells p K3 L3 C3 h3 (by omega)) (Sp.p (by repeat (first | exact Sp.here | exact Sp.sn | exact Sp.s0 | exact Fr.here | apply Sp.s2 | apply Sp.sx | apply Fr.fc | apply Fr.al | apply Fr.fa | apply Sp.sc | apply Sp.al | apply Sp.sa))) ?_
          rintro q C6 ⟨T5, Ds5, hU5, hq5, rfl⟩
          have hm5 := hU5.perm.length_eq
          obtain ⟨to5, tc5, rfl, _⟩ := hq5.form
          have hkeys := merge_keys inv.keys hs hU4 hU5
          refine WL.y rfl (Yd.assign rfl) ?_
          refine WL.nil ?_
          refine DN.then_normal ?_
          refine WC.seq ?_
          refine WC.region ?_
          refine WL.y rfl (Yd.move rfl) ?_
          refine WL.y rfl (Yd.len (e := 48) (by kernel_rfl) rfl) ?_
          refine WL.y rfl (Yd.move rfl) ?_
          refine WL.y rfl (Yd.len (e := 48) (by kernel_rfl) rfl) ?_
          refine WL.y rfl (Yd.sub rfl rfl (by omega) (by omega)) ?_
          refine WL.y rfl (Yd.assign rfl) ?_
          refine WL.nil ?_
          refine DN.then_normal ?_
          refine WC.seq ?_
          refine WC.region ?_
          refine WL.y rfl (Yd.assign rfl) ?_
          refine WL.nil ?_
          refine DN.then_normal ?_
          refine WC.seq ?_
          refine WC.seq ?_
          refine WC.region ?_
          refine WL.y rfl (Yd.assign rfl) ?_
          refine WL.nil ?_
          refine DN.then_normal ?_
          refine WC.block ?_
          refine WC.loopS (fun z : Nat × Nat × Int => z.1 ≤ T5.length ∧ z.2.1 = ((T5.take z.1).filter (oldP L1)).length ∧ z.2.2 = (T5.length : Int) - T4.length + cntP L1 (T5.take z.1)) (fun z : Nat × Nat × Int => [(13, .int .i64 (z.1 : Int)), (12, .int .i64 (z.2.1 : Int)), (11, .int .i64 z.2.2)]) (fun z : Nat × Nat × Int => Ds5 ++ (Ds4 ++ (C3 ++ H))) (fun z : Nat × Nat × Int => T5.length - z.1) (⟨0, 0, (T5.length : Int) - T4.length⟩) (show 0 ≤ T5.length ∧ 0 = ((T5.take 0).filter (oldP L1)).length ∧ ((T5.length : Int) - T4.length) = (T5.length : Int) - T4.length + cntP L1 (T5.take 0) from ⟨Nat.zero_le _, by simp, by simp [cntP]⟩) (Sx.put rfl (Sx.put rfl (Sx.put rfl ((by repeat (first | exact Sx.refl | refine Sx.skip rfl ?_)))))) (by repeat (first | exact Sp.here | exact Sp.sn | exact Sp.s0 | exact Fr.here | apply Sp.s2 | apply Sp.sx | apply Fr.fc | apply Fr.al | apply Fr.fa | apply Sp.sc | apply Sp.al | apply Sp.sa)) ?_
          rintro ⟨j, k, ch⟩ hI
          replace hI : j ≤ T5.length ∧ k = ((T5.take j).filter (oldP L1)).length ∧ ch = (T5.length : Int) - T4.length + cntP L1 (T5.take j) := hI
          obtain ⟨hj, hkk, hch⟩ := hI
          change WC _ _ _ _ _ _ ([(13, .int .i64 (j : Int)), (12, .int .i64 (k : Int)), (11, .int .i64 ch)] ++ _) (Ds5 ++ (Ds4 ++ (C3 ++ H)))
          have hcb := cnt_bound L1 (T5.take j)
          have hcl : (T5.take j).length ≤ T5.length := by rw [List.length_take]; omega
          have hkb : k ≤ T5.length := by rw [hkk]; exact Nat.le_trans (List.length_filter_le _ _) hcl
          refine WC.seq ?_
          refine WC.seq ?_
          refine WC.region ?_
          refine WL.y rfl (Yd.move rfl) ?_
          refine WL.y rfl (Yd.move rfl) ?_
          refine WL.y rfl (Yd.len (e := 48) (by kernel_rfl) rfl) ?_
          refine WL.y rfl (Yd.lss rfl rfl) ?_
          refine WL.nil ?_
          refine DN.then_normal ?_
          refine WC.ite rfl (fun h59 => ?_) (fun h59 => ?_)
          · have hjl : j < T5.length := by omega
            obtain ⟨ub, uf, us, uT, ufr, uex, rfl, _, hum, hus⟩ := hq5.rs.lies (by omega)
            have hyL : T5[j] ∈ L3 := hU5.perm.mem_iff.1 (List.getElem_mem hjl)
            obtain ⟨hst1, hst2⟩ := merge_step L1 hjl
            have hmo := merge_old hkeys hjl
            rw [← hkk] at hst1 hmo
            refine WC.skip ?_
            refine DN.then_normal ?_
            refine WC.seq ?_
            refine WC.block ?_
            refine WC.cutK (fun z : Bool => z = oldP L1 T5[j]) (fun z : Bool => [(78, .bool z)]) (fun z : Bool => Ds5 ++ (Ds4 ++ (C3 ++ H))) ?_ ?_
            · refine WC.draw 17 (by kernel_rfl) rfl ?_
              refine WA.quiet 17 0 rfl rfl (by kernel_rfl) (by kernel_rfl) (by kernel_rfl) rfl ?_
              refine WQ.y rfl (Yd.move rfl) ?_
              refine WQ.y rfl (Yd.move rfl) ?_
              refine WQ.y rfl (Yd.len (e := 48) (by kernel_rfl) rfl) ?_
              refine WQ.y rfl (Yd.lss rfl rfl) ?_
              refine WQ.y rfl (Yd.move rfl) ?_
              refine WQ.partP (t := 66) rfl (fun hg66 => ?_) (fun hg66 => ?_)
              · obtain ⟨wb, wf, ws, wT, wfr, wex, rfl, _, hwm, hws⟩ := hq4.rs.lies (by omega)
                refine WQ.gy (dj := 66) rfl rfl rfl (Yd.move rfl) ?_
                refine WQ.gy (dj := 66) rfl rfl rfl (Yd.move rfl) ?_
                refine WQ.gy (dj := 66) rfl rfl rfl (Yd.indexAddr (e := 48) (s := 4) (by kernel_rfl) (by kernel_rfl) rfl rfl (by omega) (by omega)) ?_
                refine WQ.gy (dj := 66) rfl rfl rfl (Yd.fieldAddr (k := 0) (by kernel_rfl) rfl) ?_
                refine WQ.rd rfl (Wt.yes (dj := 66) rfl rfl) (Rd.load1 (v := .int .u32 T4[k].o.toNat) (b := wb) (o := wf + (k : Int).toNat * 4 + 0) (cs := ws) (by kernel_rfl) rfl (Gr.get (by repeat (first | exact Gr.refl | exact Gr.left Gr.refl | exact Gr.left (Gr.left Gr.refl) | exact Gr.left (Gr.app Gr.refl) | exact Gr.left (Gr.left (Gr.left Gr.refl)) | exact Gr.nil | exact Gr.app (Gr.left Gr.refl) | refine Gr.cons ?_ | refine Gr.app ?_ | refine Gr.both ?_ ?_ | refine Gr.put (by repeat (first | exact List.mem_cons_self | apply List.mem_cons_of_mem | apply List.mem_append_right)) ?_)) hwm) (cell_atP (L := T4) cellsP_len hws (by omega) (by omega))) ?_
                refine WQ.gy (dj := 66) rfl rfl rfl (Yd.move rfl) ?_
                refine WQ.gy (dj := 66) rfl rfl rfl (Yd.move rfl) ?_
                refine WQ.gy (dj := 66) rfl rfl rfl (Yd.indexAddr (e := 48) (s := 4) (by kernel_rfl) (by kernel_rfl) rfl rfl (by omega) (by omega)) ?_
                refine WQ.gy (dj := 66) rfl rfl rfl (Yd.fieldAddr (k := 0) (by kernel_rfl) rfl) ?_
                refine WQ.rd rfl (Wt.yes (dj := 66) rfl rfl) (Rd.load1 (v := .int .u32 T5[j].o.toNat) (b := ub) (o := uf + (j : Int).toNat * 4 + 0) (cs := us) (by kernel_rfl) rfl (Gr.get (by repeat (first | exact Gr.refl | exact Gr.left Gr.refl | exact Gr.left (Gr.left Gr.refl) | exact Gr.left (Gr.app Gr.refl) | exact Gr.left (Gr.left (Gr.left Gr.refl)) | exact Gr.nil | exact Gr.app (Gr.left Gr.refl) | refine Gr.cons ?_ | refine Gr.app ?_ | refine Gr.both ?_ ?_ | refine Gr.put (by repeat (first | exact List.mem_cons_self | apply List.mem_cons_of_mem | apply List.mem_append_right)) ?_)) hum) (cell_atP (L := T5) cellsP_len hus (by omega) (by omega))) ?_
                refine WQ.gy (dj := 66) rfl rfl rfl (Yd.eql32 _ _ rfl rfl rfl rfl) ?_
                refine WQ.y rfl (Yd.pickT rfl rfl) ?_
                refine WQ.nil ?_
                refine WA.done (by kernel_rfl) ?_
                exact DN.reachK (_) (by
                  rw [Bool.eq_iff_iff, decide_eq_true_eq]
                  constructor
                  · intro e
                    unfold oldP
                    rw [← e, findK_of inv.keys (hU4.perm.mem_iff.1 (List.getElem_mem (by omega)))]
                    rfl
                  · intro e
                    obtain ⟨_, h⟩ := hmo e
                    exact h) (Sx.put rfl ((by repeat (first | exact Sx.refl | refine Sx.skip rfl ?_)))) (Sp.all (by repeat (first | exact Sp.here | exact Sp.sn | exact Sp.s0 | exact Fr.here | apply Sp.s2 | apply Sp.sx | apply Fr.fc | apply Fr.al | apply Fr.fa | apply Sp.sc | apply Sp.al | apply Sp.sa)))
              · refine WQ.gn (dj := 66) rfl rfl rfl rfl ?_
                refine WQ.gn (dj := 66) rfl rfl rfl rfl ?_
                refine WQ.gn (dj := 66) rfl rfl rfl rfl ?_
                refine WQ.gn (dj := 66) rfl rfl rfl rfl ?_
                refine WQ.gn (dj := 66) rfl rfl rfl rfl ?_
                refine WQ.gn (dj := 66) rfl rfl rfl rfl ?_
                refine WQ.gn (dj := 66) rfl rfl rfl rfl ?_
                refine WQ.gn (dj := 66) rfl rfl rfl rfl ?_
                refine WQ.gn (dj := 66) rfl rfl rfl rfl ?_
                refine WQ.gn (dj := 66) rfl rfl rfl rfl ?_
                refine WQ.gn (dj := 66) rfl rfl rfl rfl ?_
                refine WQ.y rfl (Yd.pickF rfl rfl) ?_
                refine WQ.nil ?_
                refine WA.done (by kernel_rfl) ?_
                exact DN.reachK (_) (by
                  cases h : oldP L1 T5[j] with
                  | false => rfl
                  | true =>
                    obtain ⟨h2, _⟩ := hmo h
                    exact absurd h2 (by omega)) (Sx.put rfl ((by repeat (first | exact Sx.refl | refine Sx.skip rfl ?_)))) (Sp.all (by repeat (first | exact Sp.here | exact Sp.sn | exact Sp.s0 | exact Fr.here | apply Sp.s2 | apply Sp.sx | apply Fr.fc | apply Fr.al | apply Fr.fa | apply Sp.sc | apply Sp.al | apply Sp.sa)))
            · intro z78 hz78
              refine WC.cond rfl (fun h78 => ?_) (fun h78 => ?_)
              · rw [hz78] at h78
                obtain ⟨hkl, hko⟩ := hmo h78
                obtain ⟨wb, wf, ws, wT, wfr, wex, rfl, _, hwm, hws⟩ := hq4.rs.lies (by omega)
                have hrec := rec_at inv.keys hs hU4 hyL hkl hko
                have hchg := chg_at inv.keys hU4 hkl hko
                rw [if_pos h78] at hst1
                refine WC.seq ?_
                refine WC.region ?_
                refine WL.y rfl (Yd.move rfl) ?_
                refine WL.y rfl (Yd.move rfl) ?_
                refine WL.y rfl (Yd.indexAddr (e := 48) (s := 4) (by kernel_rfl) (by kernel_rfl) rfl rfl (by omega) (by omega)) ?_
                refine WL.h rfl (Hd.loadA (n := 4) (b := ub) (o := uf + (j : Int).toNat * 4) (cs := us) (vs := cellsP T5[j]) (by kernel_rfl) rfl (Gr.get (by repeat (first | exact Gr.refl | exact Gr.left Gr.refl | exact Gr.left (Gr.left Gr.refl) | exact Gr.left (Gr.app Gr.refl) | exact Gr.left (Gr.left (Gr.left Gr.refl)) | exact Gr.nil | exact Gr.app (Gr.left Gr.refl) | refine Gr.cons ?_ | refine Gr.app ?_ | refine Gr.both ?_ ?_ | refine Gr.put (by repeat (first | exact List.mem_cons_self | apply List.mem_cons_of_mem | apply List.mem_append_right)) ?_)) hum) (cellsP_len _) (rs_cell hus (by rw [flat_len cellsP 4 cellsP_len]; omega) (flat_row cellsP 4 cellsP_len T5 j (by omega))) ⟨_, rfl, ?_⟩)
                refine WL.h rfl (Hd.alloc (zs := [.int .u32 0, .string ⟨#[]⟩, .int .i64 0, .int .i64 0]) (by kernel_rfl) fun b14 => ⟨_, rfl, ?_⟩)
                refine WL.s (Hd.storeAll (n := 4) (by kernel_rfl) rfl rfl (by rfl) (by repeat (first | exact fun _ h => absurd h List.not_mem_nil | refine List.forall_mem_cons.2 ⟨by first | rfl | assumption, ?_⟩)) (by repeat (first | exact Fr.here | apply Fr.fc | apply Fr.al | apply Fr.fa)) (by rfl) ⟨rfl, ?_⟩)
                refine WL.nil ?_
                refine DN.then_normal ?_
                refine WC.seq ?_
                refine WC.region ?_
                refine WL.y rfl (Yd.move rfl) ?_
                refine WL.y rfl (Yd.move rfl) ?_
                refine WL.y rfl (Yd.indexAddr (e := 48) (s := 4) (by kernel_rfl) (by kernel_rfl) rfl rfl (by omega) (by omega)) ?_
                refine WL.y rfl (Yd.fieldAddr (k := 3) (by kernel_rfl) rfl) ?_
                refine WL.h rfl (Hd.load1 (v := .int .i64 T4[k].st) (b := wb) (o := wf + (k : Int).toNat * 4 + 3) (cs := ws) (by kernel_rfl) rfl (Gr.get (by repeat (first | exact Gr.refl | exact Gr.left Gr.refl | exact Gr.left (Gr.left Gr.refl) | exact Gr.left (Gr.app Gr.refl) | exact Gr.left (Gr.left (Gr.left Gr.refl)) | exact Gr.nil | exact Gr.app (Gr.left Gr.refl) | refine Gr.cons ?_ | refine Gr.app ?_ | refine Gr.both ?_ ?_ | refine Gr.put (by repeat (first | exact List.mem_cons_self | apply List.mem_cons_of_mem | apply List.mem_append_right)) ?_)) hwm) (cell_atP (L := T4) cellsP_len hws (by omega) (by omega)) ⟨_, rfl, ?_⟩)
                refine WL.y rfl (Yd.fieldAddr (k := 3) (by kernel_rfl) rfl) ?_
                refine WL.s (Hd.store1s (by kernel_rfl) rfl rfl (by rfl) (by repeat (first | exact Fr.here | apply Fr.fc | apply Fr.al | apply Fr.fa)) (by rfl) (by first | (simp only [List.set_cons_zero, List.set_cons_succ, Nat.zero_add, Nat.add_zero, Nat.reduceAdd]; rfl) | rfl) ⟨rfl, ?_⟩)
                refine WL.nil ?_
                refine DN.then_normal ?_
                refine WC.seq ?_
                refine WC.seq ?_
                refine WC.draw 27 (by kernel_rfl) rfl ?_
                refine WA.quiet 27 0 rfl rfl (by kernel_rfl) (by kernel_rfl) (by kernel_rfl) rfl ?_
                refine WQ.rd rfl Wt.none (Rd.loadAll (n := 4) (by kernel_rfl) rfl (by repeat (first | exact List.mem_cons_self | apply List.mem_cons_of_mem | apply List.mem_append_right)) (by rfl)) ?_
                refine WQ.y rfl (Yd.move rfl) ?_
                refine WQ.y rfl (Yd.move rfl) ?_
                refine WQ.y rfl (Yd.indexAddr (e := 48) (s := 4) (by kernel_rfl) (by kernel_rfl) rfl rfl (by omega) (by omega)) ?_
                refine WQ.rd rfl Wt.none (Rd.loadA (n := 4) (b := wb) (o := wf + (k : Int).toNat * 4) (cs := ws) (vs := cellsP T4[k]) (by kernel_rfl) rfl (Gr.get (by repeat (first | exact Gr.refl | exact Gr.left Gr.refl | exact Gr.left (Gr.left Gr.refl) | exact Gr.left (Gr.app Gr.refl) | exact Gr.left (Gr.left (Gr.left Gr.refl)) | exact Gr.nil | exact Gr.app (Gr.left Gr.refl) | refine Gr.cons ?_ | refine Gr.app ?_ | refine Gr.both ?_ ?_ | refine Gr.put (by repeat (first | exact List.mem_cons_self | apply List.mem_cons_of_mem | apply List.mem_append_right)) ?_)) hwm) (cellsP_len _) (rs_cell hws (by rw [flat_len cellsP 4 cellsP_len]; omega) (flat_row cellsP 4 cellsP_len T4 k (by omega)))) ?_
                refine WQ.y rfl (Yd.neqSt [0, 1, 0, 0] (by kernel_rfl) rfl rfl (same_py ⟨T5[j].o, T5[j].name, T5[j].n, T4[k].st⟩ T4[k])) ?_
                refine WQ.renamed (t := 94) (v := .bool false) rfl (congrArg Value.bool (by rw [decide_eq_true hrec.1]; rfl)) ?_
                refine WQ.y rfl (Yd.move rfl) ?_
                refine WQ.gy (dj := 95) rfl rfl rfl (Yd.move rfl) ?_
                refine WQ.gy (dj := 95) rfl rfl rfl (Yd.move rfl) ?_
                refine WQ.gy (dj := 95) rfl rfl rfl (Yd.indexAddr (e := 48) (s := 4) (by kernel_rfl) (by kernel_rfl) rfl rfl (by omega) (by omega)) ?_
                refine WQ.gy (dj := 95) rfl rfl rfl (Yd.fieldAddr (k := 3) (by kernel_rfl) rfl) ?_
                refine WQ.rd rfl (Wt.yes (dj := 95) rfl rfl) (Rd.load1 (v := .int .i64 T5[j].st) (b := ub) (o := uf + (j : Int).toNat * 4 + 3) (cs := us) (by kernel_rfl) rfl (Gr.get (by repeat (first | exact Gr.refl | exact Gr.left Gr.refl | exact Gr.left (Gr.left Gr.refl) | exact Gr.left (Gr.app Gr.refl) | exact Gr.left (Gr.left (Gr.left Gr.refl)) | exact Gr.nil | exact Gr.app (Gr.left Gr.refl) | refine Gr.cons ?_ | refine Gr.app ?_ | refine Gr.both ?_ ?_ | refine Gr.put (by repeat (first | exact List.mem_cons_self | apply List.mem_cons_of_mem | apply List.mem_append_right)) ?_)) hum) (cell_atP (L := T5) cellsP_len hus (by omega) (by omega))) ?_
                refine WQ.gy (dj := 95) rfl rfl rfl (Yd.move rfl) ?_
                refine WQ.gy (dj := 95) rfl rfl rfl (Yd.move rfl) ?_
                refine WQ.gy (dj := 95) rfl rfl rfl (Yd.indexAddr (e := 48) (s := 4) (by kernel_rfl) (by kernel_rfl) rfl rfl (by omega) (by omega)) ?_
                refine WQ.gy (dj := 95) rfl rfl rfl (Yd.fieldAddr (k := 3) (by kernel_rfl) rfl) ?_
                refine WQ.rd rfl (Wt.yes (dj := 95) rfl rfl) (Rd.load1 (v := .int .i64 T4[k].st) (b := wb) (o := wf + (k : Int).toNat * 4 + 3) (cs := ws) (by kernel_rfl) rfl (Gr.get (by repeat (first | exact Gr.refl | exact Gr.left Gr.refl | exact Gr.left (Gr.left Gr.refl) | exact Gr.left (Gr.app Gr.refl) | exact Gr.left (Gr.left (Gr.left Gr.refl)) | exact Gr.nil | exact Gr.app (Gr.left Gr.refl) | refine Gr.cons ?_ | refine Gr.app ?_ | refine Gr.both ?_ ?_ | refine Gr.put (by repeat (first | exact List.mem_cons_self | apply List.mem_cons_of_mem | apply List.mem_append_right)) ?_)) hwm) (cell_atP (L := T4) cellsP_len hws (by omega) (by omega))) ?_
                refine WQ.gy (dj := 95) rfl rfl rfl (Yd.lss rfl rfl) ?_
                refine WQ.renamed (t := 106) (v := .bool false) rfl (congrArg Value.bool (decide_eq_false (by omega))) ?_
                refine WQ.y rfl (Yd.pickF rfl rfl) ?_
                refine WQ.y rfl (Yd.move rfl) ?_
                refine WQ.gy (dj := 108) rfl rfl rfl (Yd.move rfl) ?_
                refine WQ.gy (dj := 108) rfl rfl rfl (Yd.move rfl) ?_
                refine WQ.gy (dj := 108) rfl rfl rfl (Yd.indexAddr (e := 48) (s := 4) (by kernel_rfl) (by kernel_rfl) rfl rfl (by omega) (by omega)) ?_
                refine WQ.gy (dj := 108) rfl rfl rfl (Yd.fieldAddr (k := 3) (by kernel_rfl) rfl) ?_
                refine WQ.rd rfl (Wt.yes (dj := 108) rfl rfl) (Rd.load1 (v := .int .i64 T5[j].st) (b := ub) (o := uf + (j : Int).toNat * 4 + 3) (cs := us) (by kernel_rfl) rfl (Gr.get (by repeat (first | exact Gr.refl | exact Gr.left Gr.refl | exact Gr.left (Gr.left Gr.refl) | exact Gr.left (Gr.app Gr.refl) | exact Gr.left (Gr.left (Gr.left Gr.refl)) | exact Gr.nil | exact Gr.app (Gr.left Gr.refl) | refine Gr.cons ?_ | refine Gr.app ?_ | refine Gr.both ?_ ?_ | refine Gr.put (by repeat (first | exact List.mem_cons_self | apply List.mem_cons_of_mem | apply List.mem_append_right)) ?_)) hum) (cell_atP (L := T5) cellsP_len hus (by omega) (by omega))) ?_
                refine WQ.gy (dj := 108) rfl rfl rfl (Yd.gtr rfl rfl) ?_
                refine WQ.renamed (t := 114) (v := .bool false) rfl (congrArg Value.bool (decide_eq_false (by omega))) ?_
                refine WQ.y rfl (Yd.pickF rfl rfl) ?_
                refine WQ.nil ?_
                refine WA.done (by kernel_rfl) ?_
                refine DN.then_normal ?_
                refine WC.no rfl ?_
                refine WC.skip ?_
                refine DN.then_normal ?_
                refine WC.seq ?_
                refine WC.seq ?_
                refine WC.draw 9 (by kernel_rfl) rfl ?_
                refine WA.quiet 9 0 rfl rfl (by kernel_rfl) (by kernel_rfl) (by kernel_rfl) rfl ?_
                refine WQ.y rfl (Yd.move rfl) ?_
                refine WQ.y rfl (Yd.move rfl) ?_
                refine WQ.y rfl (Yd.indexAddr (e := 48) (s := 4) (by kernel_rfl) (by kernel_rfl) rfl rfl (by omega) (by omega)) ?_
                refine WQ.rd rfl Wt.none (Rd.loadA (n := 4) (b := ub) (o := uf + (j : Int).toNat * 4) (cs := us) (vs := cellsP T5[j]) (by kernel_rfl) rfl (Gr.get (by repeat (first | exact Gr.refl | exact Gr.left Gr.refl | exact Gr.left (Gr.left Gr.refl) | exact Gr.left (Gr.app Gr.refl) | exact Gr.left (Gr.left (Gr.left Gr.refl)) | exact Gr.nil | exact Gr.app (Gr.left Gr.refl) | refine Gr.cons ?_ | refine Gr.app ?_ | refine Gr.both ?_ ?_ | refine Gr.put (by repeat (first | exact List.mem_cons_self | apply List.mem_cons_of_mem | apply List.mem_append_right)) ?_)) hum) (cellsP_len _) (rs_cell hus (by rw [flat_len cellsP 4 cellsP_len]; omega) (flat_row cellsP 4 cellsP_len T5 j (by omega)))) ?_
                refine WQ.y rfl (Yd.move rfl) ?_
                refine WQ.y rfl (Yd.move rfl) ?_
                refine WQ.y rfl (Yd.indexAddr (e := 48) (s := 4) (by kernel_rfl) (by kernel_rfl) rfl rfl (by omega) (by omega)) ?_
                refine WQ.rd rfl Wt.none (Rd.loadA (n := 4) (b := wb) (o := wf + (k : Int).toNat * 4) (cs := ws) (vs := cellsP T4[k]) (by kernel_rfl) rfl (Gr.get (by repeat (first | exact Gr.refl | exact Gr.left Gr.refl | exact Gr.left (Gr.left Gr.refl) | exact Gr.left (Gr.app Gr.refl) | exact Gr.left (Gr.left (Gr.left Gr.refl)) | exact Gr.nil | exact Gr.app (Gr.left Gr.refl) | refine Gr.cons ?_ | refine Gr.app ?_ | refine Gr.both ?_ ?_ | refine Gr.put (by repeat (first | exact List.mem_cons_self | apply List.mem_cons_of_mem | apply List.mem_append_right)) ?_)) hwm) (cellsP_len _) (rs_cell hws (by rw [flat_len cellsP 4 cellsP_len]; omega) (flat_row cellsP 4 cellsP_len T4 k (by omega)))) ?_
                refine WQ.y rfl (Yd.neqSt [0, 1, 0, 0] (by kernel_rfl) rfl rfl (same_py T5[j] T4[k])) ?_
                refine WQ.nil ?_
                refine WA.done (by kernel_rfl) ?_
                refine DN.then_normal ?_
                refine WC.cond rfl (fun h124 => ?_) (fun h124 => ?_)
                · rw [hchg, h124, if_pos rfl] at hst2
                  refine WC.region ?_
                  refine WL.y rfl (Yd.move rfl) ?_
                  refine WL.y rfl (Yd.add rfl rfl (by omega) (by omega)) ?_
                  refine WL.y rfl (Yd.assign rfl) ?_
                  refine WL.nil ?_
                  refine DN.then_normal ?_
                  refine WC.region ?_
                  refine WL.y rfl (Yd.move rfl) ?_
                  refine WL.y rfl (Yd.add rfl rfl (by omega) (by omega)) ?_
                  refine WL.y rfl (Yd.assign rfl) ?_
                  refine WL.nil ?_
                  refine DN.block_normal ?_
                  refine DN.then_normal ?_
                  refine WC.region ?_
                  refine WL.y rfl (Yd.move rfl) ?_
                  refine WL.y rfl (Yd.add rfl rfl (by omega) (by omega)) ?_
                  refine WL.y rfl (Yd.assign rfl) ?_
                  refine WL.nil ?_
                  exact DN.againS (⟨j + 1, k + 1, ch + 1⟩) (show (j + 1) ≤ T5.length ∧ (k + 1) = ((T5.take (j + 1)).filter (oldP L1)).length ∧ (ch + 1) = (T5.length : Int) - T4.length + cntP L1 (T5.take (j + 1)) from ⟨by omega, by omega, by omega⟩) (show T5.length - (j + 1) < T5.length - j by omega) (Sx.put rfl (Sx.put rfl (Sx.put rfl ((by repeat (first | exact Sx.refl | refine Sx.skip rfl ?_)))))) (by repeat (first | exact Sp.here | exact Sp.sn | exact Sp.s0 | exact Fr.here | apply Sp.s2 | apply Sp.sx | apply Fr.fc | apply Fr.al | apply Fr.fa | apply Sp.sc | apply Sp.al | apply Sp.sa))
                · rw [hchg, h124, if_neg (by simp)] at hst2
                  refine WC.skip ?_
                  refine DN.then_normal ?_
                  refine WC.region ?_
                  refine WL.y rfl (Yd.move rfl) ?_
                  refine WL.y rfl (Yd.add rfl rfl (by omega) (by omega)) ?_
                  refine WL.y rfl (Yd.assign rfl) ?_
                  refine WL.nil ?_
                  refine DN.block_normal ?_
                  refine DN.then_normal ?_
                  refine WC.region ?_
                  refine WL.y rfl (Yd.move rfl) ?_
                  refine WL.y rfl (Yd.add rfl rfl (by omega) (by omega)) ?_
                  refine WL.y rfl (Yd.assign rfl) ?_
                  refine WL.nil ?_
                  exact DN.againS (⟨j + 1, k + 1, ch⟩) (show (j + 1) ≤ T5.length ∧ (k + 1) = ((T5.take (j + 1)).filter (oldP L1)).length ∧ ch = (T5.length : Int) - T4.length + cntP L1 (T5.take (j + 1)) from ⟨by omega, by omega, by omega⟩) (show T5.length - (j + 1) < T5.length - j by omega) (Sx.put rfl (Sx.put rfl (Sx.put rfl ((by repeat (first | exact Sx.refl | refine Sx.skip rfl ?_)))))) (by repeat (first | exact Sp.here | exact Sp.sn | exact Sp.s0 | exact Fr.here | apply Sp.s2 | apply Sp.sx | apply Fr.fc | apply Fr.al | apply Fr.fa | apply Sp.sc | apply Sp.al | apply Sp.sa))
              · rw [hz78] at h78
                have hnew := new_at hs inv.keys hyL h78
                have hchg : chgP L1 T5[j] = false := by unfold chgP; rw [h78]; rfl
                rw [if_neg (by rw [h78]; simp)] at hst1
                rw [hchg, if_neg (by simp)] at hst2
                refine WC.seq ?_
                refine WC.draw 45 (by kernel_rfl) rfl ?_
                refine WA.quiet 45 0 rfl rfl (by kernel_rfl) (by kernel_rfl) (by kernel_rfl) rfl ?_
                refine WQ.y rfl (Yd.move rfl) ?_
                refine WQ.y rfl (Yd.move rfl) ?_
                refine WQ.y rfl (Yd.indexAddr (e := 48) (s := 4) (by kernel_rfl) (by kernel_rfl) rfl rfl (by omega) (by omega)) ?_
                refine WQ.y rfl (Yd.fieldAddr (k := 3) (by kernel_rfl) rfl) ?_
                refine WQ.rd rfl Wt.none (Rd.load1 (v := .int .i64 T5[j].st) (b := ub) (o := uf + (j : Int).toNat * 4 + 3) (cs := us) (by kernel_rfl) rfl (Gr.get (by repeat (first | exact Gr.refl | exact Gr.left Gr.refl | exact Gr.left (Gr.left Gr.refl) | exact Gr.left (Gr.app Gr.refl) | exact Gr.left (Gr.left (Gr.left Gr.refl)) | exact Gr.nil | exact Gr.app (Gr.left Gr.refl) | refine Gr.cons ?_ | refine Gr.app ?_ | refine Gr.both ?_ ?_ | refine Gr.put (by repeat (first | exact List.mem_cons_self | apply List.mem_cons_of_mem | apply List.mem_append_right)) ?_)) hum) (cell_atP (L := T5) cellsP_len hus (by omega) (by omega))) ?_
                refine WQ.y rfl (Yd.neq rfl rfl) ?_
                refine WQ.renamed (t := 134) (v := .bool false) rfl (congrArg Value.bool (decide_eq_false (by rw [hnew]; exact fun h => h rfl))) ?_
                refine WQ.y rfl (Yd.move rfl) ?_
                refine WQ.gy (dj := 135) rfl rfl rfl (Yd.move rfl) ?_
                refine WQ.gy (dj := 135) rfl rfl rfl (Yd.move rfl) ?_
                refine WQ.gy (dj := 135) rfl rfl rfl (Yd.indexAddr (e := 48) (s := 4) (by kernel_rfl) (by kernel_rfl) rfl rfl (by omega) (by omega)) ?_
                refine WQ.gy (dj := 135) rfl rfl rfl (Yd.fieldAddr (k := 0) (by kernel_rfl) rfl) ?_
                refine WQ.rd rfl (Wt.yes (dj := 135) rfl rfl) (Rd.load1 (v := .int .u32 T5[j].o.toNat) (b := ub) (o := uf + (j : Int).toNat * 4 + 0) (cs := us) (by kernel_rfl) rfl (Gr.get (by repeat (first | exact Gr.refl | exact Gr.left Gr.refl | exact Gr.left (Gr.left Gr.refl) | exact Gr.left (Gr.app Gr.refl) | exact Gr.left (Gr.left (Gr.left Gr.refl)) | exact Gr.nil | exact Gr.app (Gr.left Gr.refl) | refine Gr.cons ?_ | refine Gr.app ?_ | refine Gr.both ?_ ?_ | refine Gr.put (by repeat (first | exact List.mem_cons_self | apply List.mem_cons_of_mem | apply List.mem_append_right)) ?_)) hum) (cell_atP (L := T5) cellsP_len hus (by omega) (by omega))) ?_
                refine WQ.gy (dj := 135) rfl rfl rfl (Yd.move rfl) ?_
                refine WQ.gy (dj := 135) rfl rfl rfl (Yd.move rfl) ?_
                refine WQ.gy (dj := 135) rfl rfl rfl (Yd.indexAddr (e := 35) (s := 4) (by kernel_rfl) (by kernel_rfl) rfl rfl (by omega) (by omega)) ?_
                refine WQ.gy (dj := 135) rfl rfl rfl (Yd.fieldAddr (k := 1) (by kernel_rfl) rfl) ?_
                refine WQ.rd rfl (Wt.yes (dj := 135) rfl rfl) (Rd.load1 (v := .int .u32 acts[i].o.toNat) (b := yb) (o := yf + (i : Int).toNat * 4 + 1) (cs := ys) (by kernel_rfl) rfl (Gr.get (by repeat (first | exact Gr.refl | exact Gr.left Gr.refl | exact Gr.left (Gr.left Gr.refl) | exact Gr.left (Gr.app Gr.refl) | exact Gr.left (Gr.left (Gr.left Gr.refl)) | exact Gr.nil | exact Gr.app (Gr.left Gr.refl) | refine Gr.cons ?_ | refine Gr.app ?_ | refine Gr.both ?_ ?_ | refine Gr.put (by repeat (first | exact List.mem_cons_self | apply List.mem_cons_of_mem | apply List.mem_append_right)) ?_)) hym) (cell_atP (L := acts) cellsQ_len hys (by omega) (by omega))) ?_
                refine WQ.gy (dj := 135) rfl rfl rfl (Yd.neq32 _ _ rfl rfl rfl rfl) ?_
                refine WQ.renamed (t := 146) (v := .bool false) rfl (congrArg Value.bool (decide_eq_false (by rw [hnew]; exact fun h => h rfl))) ?_
                refine WQ.y rfl (Yd.pickF rfl rfl) ?_
                refine WQ.y rfl (Yd.move rfl) ?_
                refine WQ.gy (dj := 148) rfl rfl rfl (Yd.move rfl) ?_
                refine WQ.gy (dj := 148) rfl rfl rfl (Yd.move rfl) ?_
                refine WQ.gy (dj := 148) rfl rfl rfl (Yd.indexAddr (e := 48) (s := 4) (by kernel_rfl) (by kernel_rfl) rfl rfl (by omega) (by omega)) ?_
                refine WQ.gy (dj := 148) rfl rfl rfl (Yd.fieldAddr (k := 2) (by kernel_rfl) rfl) ?_
                refine WQ.rd rfl (Wt.yes (dj := 148) rfl rfl) (Rd.load1 (v := .int .i64 T5[j].n) (b := ub) (o := uf + (j : Int).toNat * 4 + 2) (cs := us) (by kernel_rfl) rfl (Gr.get (by repeat (first | exact Gr.refl | exact Gr.left Gr.refl | exact Gr.left (Gr.left Gr.refl) | exact Gr.left (Gr.app Gr.refl) | exact Gr.left (Gr.left (Gr.left Gr.refl)) | exact Gr.nil | exact Gr.app (Gr.left Gr.refl) | refine Gr.cons ?_ | refine Gr.app ?_ | refine Gr.both ?_ ?_ | refine Gr.put (by repeat (first | exact List.mem_cons_self | apply List.mem_cons_of_mem | apply List.mem_append_right)) ?_)) hum) (cell_atP (L := T5) cellsP_len hus (by omega) (by omega))) ?_
                refine WQ.gy (dj := 148) rfl rfl rfl (Yd.move rfl) ?_
                refine WQ.gy (dj := 148) rfl rfl rfl (Yd.move rfl) ?_
                refine WQ.gy (dj := 148) rfl rfl rfl (Yd.indexAddr (e := 35) (s := 4) (by kernel_rfl) (by kernel_rfl) rfl rfl (by omega) (by omega)) ?_
                refine WQ.gy (dj := 148) rfl rfl rfl (Yd.fieldAddr (k := 3) (by kernel_rfl) rfl) ?_
                refine WQ.rd rfl (Wt.yes (dj := 148) rfl rfl) (Rd.load1 (v := .int .i64 acts[i].n) (b := yb) (o := yf + (i : Int).toNat * 4 + 3) (cs := ys) (by kernel_rfl) rfl (Gr.get (by repeat (first | exact Gr.refl | exact Gr.left Gr.refl | exact Gr.left (Gr.left Gr.refl) | exact Gr.left (Gr.app Gr.refl) | exact Gr.left (Gr.left (Gr.left Gr.refl)) | exact Gr.nil | exact Gr.app (Gr.left Gr.refl) | refine Gr.cons ?_ | refine Gr.app ?_ | refine Gr.both ?_ ?_ | refine Gr.put (by repeat (first | exact List.mem_cons_self | apply List.mem_cons_of_mem | apply List.mem_append_right)) ?_)) hym) (cell_atP (L := acts) cellsQ_len hys (by omega) (by omega))) ?_
                refine WQ.gy (dj := 148) rfl rfl rfl (Yd.neq rfl rfl) ?_
                refine WQ.renamed (t := 159) (v := .bool false) rfl (congrArg Value.bool (decide_eq_false (by rw [hnew]; exact fun h => h rfl))) ?_
                refine WQ.y rfl (Yd.pickF rfl rfl) ?_
                refine WQ.y rfl (Yd.move rfl) ?_
                refine WQ.gy (dj := 161) rfl rfl rfl (Yd.move rfl) ?_
                refine WQ.gy (dj := 161) rfl rfl rfl (Yd.move rfl) ?_
                refine WQ.gy (dj := 161) rfl rfl rfl (Yd.indexAddr (e := 48) (s := 4) (by kernel_rfl) (by kernel_rfl) rfl rfl (by omega) (by omega)) ?_
                refine WQ.gy (dj := 161) rfl rfl rfl (Yd.fieldAddr (k := 1) (by kernel_rfl) rfl) ?_
                refine WQ.rd rfl (Wt.yes (dj := 161) rfl rfl) (Rd.load1 (v := .string T5[j].name) (b := ub) (o := uf + (j : Int).toNat * 4 + 1) (cs := us) (by kernel_rfl) rfl (Gr.get (by repeat (first | exact Gr.refl | exact Gr.left Gr.refl | exact Gr.left (Gr.left Gr.refl) | exact Gr.left (Gr.app Gr.refl) | exact Gr.left (Gr.left (Gr.left Gr.refl)) | exact Gr.nil | exact Gr.app (Gr.left Gr.refl) | refine Gr.cons ?_ | refine Gr.app ?_ | refine Gr.both ?_ ?_ | refine Gr.put (by repeat (first | exact List.mem_cons_self | apply List.mem_cons_of_mem | apply List.mem_append_right)) ?_)) hum) (cell_atP (L := T5) cellsP_len hus (by omega) (by omega))) ?_
                refine WQ.gy (dj := 161) rfl rfl rfl (Yd.move rfl) ?_
                refine WQ.gy (dj := 161) rfl rfl rfl (Yd.move rfl) ?_
                refine WQ.gy (dj := 161) rfl rfl rfl (Yd.indexAddr (e := 35) (s := 4) (by kernel_rfl) (by kernel_rfl) rfl rfl (by omega) (by omega)) ?_
                refine WQ.gy (dj := 161) rfl rfl rfl (Yd.fieldAddr (k := 2) (by kernel_rfl) rfl) ?_
                refine WQ.rd rfl (Wt.yes (dj := 161) rfl rfl) (Rd.load1 (v := .string acts[i].name) (b := yb) (o := yf + (i : Int).toNat * 4 + 2) (cs := ys) (by kernel_rfl) rfl (Gr.get (by repeat (first | exact Gr.refl | exact Gr.left Gr.refl | exact Gr.left (Gr.left Gr.refl) | exact Gr.left (Gr.app Gr.refl) | exact Gr.left (Gr.left (Gr.left Gr.refl)) | exact Gr.nil | exact Gr.app (Gr.left Gr.refl) | refine Gr.cons ?_ | refine Gr.app ?_ | refine Gr.both ?_ ?_ | refine Gr.put (by repeat (first | exact List.mem_cons_self | apply List.mem_cons_of_mem | apply List.mem_append_right)) ?_)) hym) (cell_atP (L := acts) cellsQ_len hys (by omega) (by omega))) ?_
                refine WQ.gy (dj := 161) rfl rfl rfl (Yd.neqS rfl rfl) ?_
                refine WQ.renamed (t := 172) (v := .bool false) rfl (congrArg Value.bool (decide_eq_false (by rw [hnew]; exact fun h => h rfl))) ?_
                refine WQ.y rfl (Yd.pickF rfl rfl) ?_
                refine WQ.nil ?_
                refine WA.done (by kernel_rfl) ?_
                refine DN.then_normal ?_
                refine WC.no rfl ?_
                refine WC.skip ?_
                refine DN.block_normal ?_
                refine DN.then_normal ?_
                refine WC.region ?_
                refine WL.y rfl (Yd.move rfl) ?_
                refine WL.y rfl (Yd.add rfl rfl (by omega) (by omega)) ?_
                refine WL.y rfl (Yd.assign rfl) ?_
                refine WL.nil ?_
                exact DN.againS (⟨j + 1, k, ch⟩) (show (j + 1) ≤ T5.length ∧ k = ((T5.take (j + 1)).filter (oldP L1)).length ∧ ch = (T5.length : Int) - T4.length + cntP L1 (T5.take (j + 1)) from ⟨by omega, by omega, by omega⟩) (show T5.length - (j + 1) < T5.length - j by omega) (Sx.put rfl (Sx.put rfl (Sx.put rfl ((by repeat (first | exact Sx.refl | refine Sx.skip rfl ?_)))))) (by repeat (first | exact Sp.here | exact Sp.sn | exact Sp.s0 | exact Fr.here | apply Sp.s2 | apply Sp.sx | apply Fr.fc | apply Fr.al | apply Fr.fa | apply Sp.sc | apply Sp.al | apply Sp.sa))
          · obtain rfl : j = T5.length := by omega
            rw [List.take_length] at hkk hch
            have hend := merge_end hkeys
            have hc5 := cnt_permP L1 hU5.perm
            have hc1 : actVP K1 L1 acts[i] = 1 → ch = 1 := fun e => by have := hs.cnt; rw [if_pos e] at this; omega
            have hc0 : ¬ actVP K1 L1 acts[i] = 1 → ch = 0 := fun e => by have := hs.cnt; rw [if_neg e] at this; omega
            refine WC.exit ?_
            refine DN.then_exit ?_
            refine DN.then_exit ?_
            refine DN.block_exit ?_
            refine DN.then_normal ?_
            refine WC.seq ?_
            refine WC.region ?_
            refine WL.y rfl (Yd.move rfl) ?_
            refine WL.y rfl (Yd.move rfl) ?_
            refine WL.y rfl (Yd.len (e := 48) (by kernel_rfl) rfl) ?_
            refine WL.y rfl (Yd.neq rfl rfl) ?_
            refine WL.renamed (t := 177) (v := .bool false) rfl (congrArg Value.bool (decide_eq_false (by omega))) ?_
            refine WL.y rfl (Yd.move rfl) ?_
            refine WL.gy (dj := 178) rfl rfl rfl (Yd.move rfl) ?_
            refine WL.gy (dj := 178) rfl rfl rfl (Yd.eql rfl rfl) ?_
            refine WL.gy (dj := 178) rfl rfl rfl (Yd.move rfl) ?_
            refine WL.partP (t := 181) rfl (fun hg181 => ?_) (fun hg181 => ?_)
            · refine WL.gy (dj := 181) rfl rfl rfl (Yd.move rfl) ?_
              refine WL.gy (dj := 181) rfl rfl rfl (Yd.neq rfl rfl) ?_
              refine WL.renamed (t := 183) (v := .bool false) rfl (congrArg Value.bool (decide_eq_false (by omega))) ?_
              refine WL.gy (dj := 178) rfl rfl rfl (Yd.pickT rfl rfl) ?_
              refine WL.y rfl (Yd.pickF rfl rfl) ?_
              refine WL.y rfl (Yd.move rfl) ?_
              refine WL.gy (dj := 186) rfl rfl rfl (Yd.move rfl) ?_
              refine WL.gy (dj := 186) rfl rfl rfl (Yd.neq rfl rfl) ?_
              refine WL.gy (dj := 186) rfl rfl rfl (Yd.move rfl) ?_
              refine WL.partP (t := 189) rfl (fun hg189 => ?_) (fun hg189 => ?_)
              · refine WL.gy (dj := 189) rfl rfl rfl (Yd.move rfl) ?_
                refine WL.gy (dj := 189) rfl rfl rfl (Yd.neq rfl rfl) ?_
                refine WL.renamed (t := 191) (v := .bool false) rfl (congrArg Value.bool (decide_eq_false (by omega))) ?_
                refine WL.gy (dj := 186) rfl rfl rfl (Yd.pickT rfl rfl) ?_
                refine WL.y rfl (Yd.pickF rfl rfl) ?_
                refine WL.nil ?_
                refine DN.then_normal ?_
                refine WC.no rfl ?_
                refine WC.skip ?_
                refine DN.block_normal ?_
                refine DN.then_normal ?_
                refine WC.region ?_
                refine WL.y rfl (Yd.move rfl) ?_
                refine WL.y rfl (Yd.add rfl rfl (by omega) (by omega)) ?_
                refine WL.y rfl (Yd.assign rfl) ?_
                refine WL.nil ?_
                exact DN.againS (⟨i + 1, K3, L3, C3⟩) (show (i + 1) ≤ acts.length ∧ (i + 1) ≤ 120 ∧ L3.length ≤ (i + 1) ∧ PsAt 57 p K3 L3 C3 ∧ PInv gs K3 L3 from ⟨by omega, by omega, by omega, h3, inv3⟩) (show acts.length - (i + 1) < acts.length - i by omega) (Sx.put rfl ((by repeat (first | exact Sx.refl | refine Sx.skip rfl ?_)))) (by repeat (first | exact Sp.here | exact Sp.sn | exact Sp.s0 | exact Fr.here | apply Sp.s2 | apply Sp.sx | apply Fr.fc | apply Fr.al | apply Fr.fa | apply Sp.sc | apply Sp.al | apply Sp.sa))
              · refine WL.gn (dj := 189) rfl rfl rfl rfl ?_
                refine WL.gn (dj := 189) rfl rfl rfl rfl ?_
                refine WL.gy (dj := 186) rfl rfl rfl (Yd.pickF rfl rfl) ?_
                refine WL.y rfl (Yd.pickF rfl rfl) ?_
                refine WL.nil ?_
                refine DN.then_normal ?_
                refine WC.no rfl ?_
                refine WC.skip ?_
                refine DN.block_normal ?_
                refine DN.then_normal ?_
                refine WC.region ?_
                refine WL.y rfl (Yd.move rfl) ?_
                refine WL.y rfl (Yd.add rfl rfl (by omega) (by omega)) ?_
                refine WL.y rfl (Yd.assign rfl) ?_
                refine WL.nil ?_
                exact DN.againS (⟨i + 1, K3, L3, C3⟩) (show (i + 1) ≤ acts.length ∧ (i + 1) ≤ 120 ∧ L3.length ≤ (i + 1) ∧ PsAt 57 p K3 L3 C3 ∧ PInv gs K3 L3 from ⟨by omega, by omega, by omega, h3, inv3⟩) (show acts.length - (i + 1) < acts.length - i by omega) (Sx.put rfl ((by repeat (first | exact Sx.refl | refine Sx.skip rfl ?_)))) (by repeat (first | exact Sp.here | exact Sp.sn | exact Sp.s0 | exact Fr.here | apply Sp.s2 | apply Sp.sx | apply Fr.fc | apply Fr.al | apply Fr.fa | apply Sp.sc | apply Sp.al | apply Sp.sa))
            · refine WL.gn (dj := 181) rfl rfl rfl rfl ?_
              refine WL.gn (dj := 181) rfl rfl rfl rfl ?_
              refine WL.gy (dj := 178) rfl rfl rfl (Yd.pickF rfl rfl) ?_
              refine WL.y rfl (Yd.pickF rfl rfl) ?_
              refine WL.y rfl (Yd.move rfl) ?_
              refine WL.gy (dj := 186) rfl rfl rfl (Yd.move rfl) ?_
              refine WL.gy (dj := 186) rfl rfl rfl (Yd.neq rfl rfl) ?_
              refine WL.gy (dj := 186) rfl rfl rfl (Yd.move rfl) ?_
              refine WL.partP (t := 189) rfl (fun hg189 => ?_) (fun hg189 => ?_)
              · refine WL.gy (dj := 189) rfl rfl rfl (Yd.move rfl) ?_
                refine WL.gy (dj := 189) rfl rfl rfl (Yd.neq rfl rfl) ?_
                refine WL.renamed (t := 191) (v := .bool false) rfl (congrArg Value.bool (decide_eq_false (by omega))) ?_
                refine WL.gy (dj := 186) rfl rfl rfl (Yd.pickT rfl rfl) ?_
                refine WL.y rfl (Yd.pickF rfl rfl) ?_
                refine WL.nil ?_
                refine DN.then_normal ?_
                refine WC.no rfl ?_
                refine WC.skip ?_
                refine DN.block_normal ?_
                refine DN.then_normal ?_
                refine WC.region ?_
                refine WL.y rfl (Yd.move rfl) ?_
                refine WL.y rfl (Yd.add rfl rfl (by omega) (by omega)) ?_
                refine WL.y rfl (Yd.assign rfl) ?_
                refine WL.nil ?_
                exact DN.againS (⟨i + 1, K3, L3, C3⟩) (show (i + 1) ≤ acts.length ∧ (i + 1) ≤ 120 ∧ L3.length ≤ (i + 1) ∧ PsAt 57 p K3 L3 C3 ∧ PInv gs K3 L3 from ⟨by omega, by omega, by omega, h3, inv3⟩) (show acts.length - (i + 1) < acts.length - i by omega) (Sx.put rfl ((by repeat (first | exact Sx.refl | refine Sx.skip rfl ?_)))) (by repeat (first | exact Sp.here | exact Sp.sn | exact Sp.s0 | exact Fr.here | apply Sp.s2 | apply Sp.sx | apply Fr.fc | apply Fr.al | apply Fr.fa | apply Sp.sc | apply Sp.al | apply Sp.sa))
              · refine WL.gn (dj := 189) rfl rfl rfl rfl ?_
                refine WL.gn (dj := 189) rfl rfl rfl rfl ?_
                refine WL.gy (dj := 186) rfl rfl rfl (Yd.pickF rfl rfl) ?_
                refine WL.y rfl (Yd.pickF rfl rfl) ?_
                refine WL.nil ?_
                refine DN.then_normal ?_
                refine WC.no rfl ?_
                refine WC.skip ?_
                refine DN.block_normal ?_
                refine DN.then_normal ?_
                refine WC.region ?_
                refine WL.y rfl (Yd.move rfl) ?_
                refine WL.y rfl (Yd.add rfl rfl (by omega) (by omega)) ?_
                refine WL.y rfl (Yd.assign rfl) ?_
                refine WL.nil ?_
                exact DN.againS (⟨i + 1, K3, L3, C3⟩) (show (i + 1) ≤ acts.length ∧ (i + 1) ≤ 120 ∧ L3.length ≤ (i + 1) ∧ PsAt 57 p K3 L3 C3 ∧ PInv gs K3 L3 from ⟨by omega, by omega, by omega, h3, inv3⟩) (show acts.length - (i + 1) < acts.length - i by omega) (Sx.put rfl ((by repeat (first | exact Sx.refl | refine Sx.skip rfl ?_)))) (by repeat (first | exact Sp.here | exact Sp.sn | exact Sp.s0 | exact Fr.here | apply Sp.s2 | apply Sp.sx | apply Fr.fc | apply Fr.al | apply Fr.fa | apply Sp.sc | apply Sp.al | apply Sp.sa))
        · refine WC.exit ?_
          refine DN.then_exit ?_
          refine DN.then_exit ?_
          refine DN.block_exit ?_
          refine DN.then_normal ?_
          refine WC.seq ?_
          refine WC.region ?_
          refine WL.r rfl (Ent.func Try.call10 rfl) (known10 _) ?_
          refine WL.y rfl (Yd.assign rfl) ?_
          refine WL.nil ?_
          refine DN.then_normal ?_
          refine WC.ret ?_
          refine DN.fit (C := H) (by repeat (first | exact Sp.here | exact Sp.sn | exact Sp.s0 | exact Fr.here | apply Sp.s2 | apply Sp.sx | apply Fr.fc | apply Fr.al | apply Fr.fa | apply Sp.sc | apply Sp.al | apply Sp.sa)) ?_
          refine DN.ret1 Try.results5 rfl ?_
          exact ⟨rfl, rfl⟩
      · refine WL.gn (dj := 35) rfl rfl rfl rfl ?_
        refine WL.gn (dj := 35) rfl rfl rfl rfl ?_
        refine WL.y rfl (Yd.pickF rfl rfl) ?_
        refine WL.nil ?_
        refine DN.then_normal ?_
        refine WC.no rfl ?_
        refine WC.exit ?_
        refine DN.then_exit ?_
        refine DN.then_exit ?_
        refine DN.block_exit ?_
        refine DN.then_normal ?_
        refine WC.seq ?_
        refine WC.region ?_
        refine WL.r rfl (Ent.func Try.call10 rfl) (known10 _) ?_
        refine WL.y rfl (Yd.assign rfl) ?_
        refine WL.nil ?_
        refine DN.then_normal ?_
        refine WC.ret ?_
        refine DN.fit (C := H) (by repeat (first | exact Sp.here | exact Sp.sn | exact Sp.s0 | exact Fr.here | apply Sp.s2 | apply Sp.sx | apply Fr.fc | apply Fr.al | apply Fr.fa | apply Sp.sc | apply Sp.al | apply Sp.sa)) ?_
        refine DN.ret1 Try.results5 rfl ?_
        exact ⟨rfl, rfl⟩
    · refine WC.region ?_
      refine WL.y rfl (Yd.move rfl) ?_
      refine WL.ca rfl (Ent.func Try.call11 rfl) (new_tells _ gs H hv hl) ?_
      rintro q H1 hq
      first | (have inv1 := PInv.start hA; obtain ⟨p, C1, rfl, h1, rfl⟩ := new_inP hq hA) | (obtain ⟨rfl, hHq⟩ := new_outP hq hA; rw [hHq])
      refine WL.y rfl (Yd.move rfl) ?_
      refine WL.y rfl (Yd.extract rfl rfl) ?_
      refine WL.y rfl (Yd.extract rfl rfl) ?_
      refine WL.y rfl (Yd.assign rfl) ?_
      refine WL.y rfl (Yd.assign rfl) ?_
      refine WL.nil ?_
      refine DN.then_normal ?_
      refine WC.seq ?_
      refine WC.seq ?_
      refine WC.region ?_
      refine WL.y rfl (Yd.move rfl) ?_
      refine WL.y rfl (Yd.neq rfl rfl) ?_
      refine WL.renamed (t := 25) (v := .bool true) rfl (congrArg Value.bool (by decide)) ?_
      refine WL.nil ?_
      refine DN.then_normal ?_
      refine WC.yes rfl ?_
      refine WC.seq ?_
      refine WC.region ?_
      refine WL.y rfl (Yd.move rfl) ?_
      refine WL.y rfl (Yd.eqlNil Try.underlying26 rfl rfl) ?_
      refine WL.renamed (t := 27) (v := .bool true) rfl (congrArg Value.bool (rfl)) ?_
      refine WL.y rfl (Yd.move rfl) ?_
      refine WL.gr (dj := 28) rfl rfl rfl (Ent.func Try.call10 rfl) (known10 _) ?_
      refine WL.y rfl (Yd.pickT rfl rfl) ?_
      refine WL.y rfl (Yd.assign rfl) ?_
      refine WL.nil ?_
      refine DN.then_normal ?_
      refine WC.ret ?_
      refine DN.then_ret ?_
      refine DN.fit (C := H) (by repeat (first | exact Sp.here | exact Sp.sn | exact Sp.s0 | exact Fr.here | apply Sp.s2 | apply Sp.sx | apply Fr.fc | apply Fr.al | apply Fr.fa | apply Sp.sc | apply Sp.al | apply Sp.sa)) ?_
      refine DN.ret1 Try.results5 rfl ?_
      exact ⟨rfl, rfl⟩

end Go.Proofs.Ytllfnigodikbaaa
