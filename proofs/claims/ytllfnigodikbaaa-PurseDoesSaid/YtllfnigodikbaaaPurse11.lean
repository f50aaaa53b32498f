/-
  The walk of PurseDoes.
-/
import Derived.Test.YtllfnigodikbaaaPurse10
set_option linter.unusedVariables false
set_option linter.unusedSimpArgs false
set_option maxHeartbeats 4000000
namespace Go.Proofs.Ytllfnigodikbaaa
open Go.SL


/-- drayage/drayagelaw10.PurseDoes -/
theorem law_PurseDoes (H : List Ck) (v : Value) (gs : List Au) (hv : Rs v gs.length (gs.flatMap cellsU) H) (hl : gs.length ≤ 9223372036854775807) (va : Value) (acts : List Aq) (hva : Rs va acts.length (acts.flatMap cellsQ) H) (hla : acts.length ≤ 9223372036854775807) : Reads Try.prog 3 [v, va] H (.bool true) := by
  refine Tells.enter Try.func3 rfl Try.ntmps3 rfl ?_
  intro w0 R
  obtain ⟨vo, vc, rfl, hvc⟩ := hv.form
  obtain ⟨ao, ac, rfl, hac⟩ := hva.form
  refine WC.seq ?_
  refine WC.region ?_
  refine WL.y rfl (Yd.assign rfl) ?_
  refine WL.nil ?_
  refine DN.then_normal ?_
  refine WC.seq ?_
  refine WC.seq ?_
  refine WC.region ?_
  refine WL.y rfl (Yd.move rfl) ?_
  refine WL.y rfl (Yd.move rfl) ?_
  refine WL.rf rfl (Ent.func Try.call9 rfl) (long_reads _ _ gs acts H hv hva hl hla) (by repeat (first | exact Sp.here | exact Sp.sn | exact Sp.s0 | exact Fr.here | apply Sp.s2 | apply Sp.sx | apply Fr.fc | apply Fr.al | apply Fr.fa | apply Sp.sc | apply Sp.al | apply Sp.sa)) ?_
  refine WL.nil ?_
  refine DN.then_normal ?_
  refine WC.cond rfl (fun h19 => ?_) (fun h19 => ?_)
  · refine WC.seq ?_
    refine WC.region ?_
    refine WL.r rfl (Ent.func Try.call10 rfl) (known10 _) ?_
    refine WL.y rfl (Yd.assign rfl) ?_
    refine WL.nil ?_
    refine DN.then_normal ?_
    refine WC.ret ?_
    refine DN.then_ret ?_
    refine DN.fit (C := H) (by repeat (first | exact Sp.here | exact Sp.sn | exact Sp.s0 | exact Fr.here | apply Sp.s2 | apply Sp.sx | apply Fr.fc | apply Fr.al | apply Fr.fa | apply Sp.sc | apply Sp.al | apply Sp.sa)) ?_
    refine DN.ret1 Try.results3 rfl ?_
    exact ⟨rfl, rfl⟩
  · refine WC.skip ?_
    refine DN.then_normal ?_
    refine WC.seq ?_
    rcases Classical.em (AccL gs) with hA | hA
    · refine WC.region ?_
      refine WL.y rfl (Yd.move rfl) ?_
      refine WL.ca rfl (Ent.func Try.call11 rfl) (new_tells _ gs H hv hl) ?_
      rintro q H1 hq
      first | (have inv1 := PInv.start hA; obtain ⟨p, C1, rfl, h1, rfl⟩ := new_inP hq hA) | (obtain ⟨rfl, hHq⟩ := new_outP hq hA; rw [hHq])
      refine WL.y rfl (Yd.move rfl) ?_
      refine WL.y rfl (Yd.extract rfl rfl) ?_
      refine WL.y rfl (Yd.extract rfl rfl) ?_
      refine WL.y rfl (Yd.assign rfl) ?_
      refine WL.y rfl (Yd.assign rfl) ?_
      refine WL.nil ?_
      refine DN.then_normal ?_
      refine WC.seq ?_
      refine WC.region ?_
      refine WL.y rfl (Yd.move rfl) ?_
      refine WL.ca rfl (Ent.func Try.call12 rfl) (rnew_tells _ gs _ (hv.mono (by repeat (first | exact Gr.refl | exact Gr.left Gr.refl | exact Gr.left (Gr.left Gr.refl) | exact Gr.left (Gr.app Gr.refl) | exact Gr.left (Gr.left (Gr.left Gr.refl)) | exact Gr.nil | exact Gr.app (Gr.left Gr.refl) | refine Gr.cons ?_ | refine Gr.app ?_ | refine Gr.both ?_ ?_ | refine Gr.put (by repeat (first | exact List.mem_cons_self | apply List.mem_cons_of_mem | apply List.mem_append_right)) ?_))) hl) ?_
      rintro qq H2 hq2
      first | (have inv7 := PInv.start hA; obtain ⟨q, C2, F, rfl, h2, hT2, rfl⟩ := new_inP hq2 hA) | (obtain ⟨rfl, hHq2⟩ := new_outP hq2 hA; rw [hHq2])
      refine WL.y rfl (Yd.move rfl) ?_
      refine WL.y rfl (Yd.extract rfl rfl) ?_
      refine WL.y rfl (Yd.extract rfl rfl) ?_
      refine WL.y rfl (Yd.assign rfl) ?_
      refine WL.y rfl (Yd.assign rfl) ?_
      refine WL.nil ?_
      refine DN.then_normal ?_
      refine WC.seq ?_
      refine WC.seq ?_
      refine WC.region ?_
      refine WL.y rfl (Yd.move rfl) ?_
      refine WL.y rfl (Yd.neq rfl rfl) ?_
      refine WL.renamed (t := 32) (v := .bool false) rfl (congrArg Value.bool (by decide)) ?_
      refine WL.nil ?_
      refine DN.then_normal ?_
      refine WC.no rfl ?_
      refine WC.skip ?_
      refine DN.then_normal ?_
      refine WC.seq ?_
      refine WC.seq ?_
      refine WC.region ?_
      refine WL.y rfl (Yd.move rfl) ?_
      refine WL.y rfl (Yd.eqlNil Try.underlying26 rfl rfl) ?_
      refine WL.renamed (t := 44) (v := .bool false) rfl (congrArg Value.bool (rfl)) ?_
      refine WL.y rfl (Yd.move rfl) ?_
      refine WL.gy (dj := 45) rfl rfl rfl (Yd.move rfl) ?_
      refine WL.gy (dj := 45) rfl rfl rfl (Yd.neq rfl rfl) ?_
      refine WL.renamed (t := 47) (v := .bool false) rfl (congrArg Value.bool (by decide)) ?_
      refine WL.y rfl (Yd.pickF rfl rfl) ?_
      refine WL.nil ?_
      refine DN.then_normal ?_
      refine WC.no rfl ?_
      refine WC.skip ?_
      refine DN.then_normal ?_
      refine WC.seq ?_
      refine WC.seq ?_
      refine WC.region ?_
      refine WL.y rfl (Yd.assign rfl) ?_
      refine WL.nil ?_
      refine DN.then_normal ?_
      refine WC.block ?_
      refine WC.loopS (fun z : Nat × List Au × List Py × List Ck × List Ck => z.1 ≤ acts.length ∧ z.1 ≤ 120 ∧ z.2.2.1.length ≤ z.1 ∧ PsAt 57 p z.2.1 z.2.2.1 z.2.2.2.1 ∧ RpAt 60 46 48 q F z.2.2.1 z.2.2.2.2 ∧ PInv gs z.2.1 z.2.2.1) (fun z : Nat × List Au × List Py × List Ck × List Ck => [(9, .int .i64 (z.1 : Int))]) (fun z : Nat × List Au × List Py × List Ck × List Ck => z.2.2.2.1 ++ (z.2.2.2.2 ++ H)) (fun z : Nat × List Au × List Py × List Ck × List Ck => acts.length - z.1) (⟨0, gs, [], C1, C2⟩) (show 0 ≤ acts.length ∧ 0 ≤ 120 ∧ [].length ≤ 0 ∧ PsAt 57 p gs [] C1 ∧ RpAt 60 46 48 q F [] C2 ∧ PInv gs gs [] from ⟨Nat.zero_le _, Nat.zero_le _, Nat.zero_le _, h1, h2, inv1⟩) (Sx.put rfl ((by repeat (first | exact Sx.refl | refine Sx.skip rfl ?_)))) (by repeat (first | exact Sp.here | exact Sp.sn | exact Sp.s0 | exact Fr.here | apply Sp.s2 | apply Sp.sx | apply Fr.fc | apply Fr.al | apply Fr.fa | apply Sp.sc | apply Sp.al | apply Sp.sa)) ?_
      rintro ⟨i, K1, L1, C3, C4⟩ hI
      replace hI : i ≤ acts.length ∧ i ≤ 120 ∧ L1.length ≤ i ∧ PsAt 57 p K1 L1 C3 ∧ RpAt 60 46 48 q F L1 C4 ∧ PInv gs K1 L1 := hI
      obtain ⟨hi, hi60, hcnt, h3, h4, inv⟩ := hI
      change WC _ _ _ _ _ _ ([(9, .int .i64 (i : Int))] ++ _) (C3 ++ (C4 ++ H))
      refine WC.seq ?_
      refine WC.seq ?_
      refine WC.region ?_
      refine WL.y rfl (Yd.move rfl) ?_
      refine WL.y rfl (Yd.move rfl) ?_
      refine WL.y rfl (Yd.len (e := 35) (by kernel_rfl) rfl) ?_
      refine WL.y rfl (Yd.lss rfl rfl) ?_
      refine WL.y rfl (Yd.move rfl) ?_
      refine WL.partP (t := 53) rfl (fun hg53 => ?_) (fun hg53 => ?_)
      · refine WL.gy (dj := 53) rfl rfl rfl (Yd.move rfl) ?_
        refine WL.gy (dj := 53) rfl rfl rfl (Yd.lss rfl rfl) ?_
        refine WL.y rfl (Yd.pickT rfl rfl) ?_
        refine WL.nil ?_
        refine DN.then_normal ?_
        refine WC.ite rfl (fun h56 => ?_) (fun h56 => ?_)
        · have hlt : i < acts.length := by omega
          have hmany := inv.few2
          refine WC.skip ?_
          refine DN.then_normal ?_
          refine WC.seq ?_
          refine WC.block ?_
          refine WC.seq ?_
          refine WC.region ?_
          refine WL.y rfl (Yd.move rfl) ?_
          refine WL.y rfl (Yd.move rfl) ?_
          refine WL.elemA (e := 35) (s := 4) (by kernel_rfl) (by kernel_rfl) (by kernel_rfl) rfl rfl (rfl) (hva.mono (by repeat (first | exact Gr.refl | exact Gr.left Gr.refl | exact Gr.left (Gr.left Gr.refl) | exact Gr.left (Gr.app Gr.refl) | exact Gr.left (Gr.left (Gr.left Gr.refl)) | exact Gr.nil | exact Gr.app (Gr.left Gr.refl) | refine Gr.cons ?_ | refine Gr.app ?_ | refine Gr.both ?_ ?_ | refine Gr.put (by repeat (first | exact List.mem_cons_self | apply List.mem_cons_of_mem | apply List.mem_append_right)) ?_))) (flat_row cellsQ 4 cellsQ_len acts i hlt) (by rfl) (by omega) (hlt) rfl rfl ?_
          intro p61
          refine WL.h rfl (Hd.alloc (zs := [.int .i64 0, .int .u32 0, .string ⟨#[]⟩, .int .i64 0]) (by kernel_rfl) fun b10 => ⟨_, rfl, ?_⟩)
          refine WL.s (Hd.storeAll (n := 4) (by kernel_rfl) rfl rfl (by rfl) (by repeat (first | exact fun _ h => absurd h List.not_mem_nil | refine List.forall_mem_cons.2 ⟨by first | rfl | assumption, ?_⟩)) (by repeat (first | exact Fr.here | apply Fr.fc | apply Fr.al | apply Fr.fa)) (by rfl) ⟨rfl, ?_⟩)
          refine WL.nil ?_
          refine DN.then_normal ?_
          refine WC.seq ?_
          refine WC.region ?_
          refine WL.y rfl (Yd.move rfl) ?_
          refine WL.h rfl (Hd.loadAll (n := 4) (by kernel_rfl) rfl (by repeat (first | exact List.mem_cons_self | apply List.mem_cons_of_mem | apply List.mem_append_right)) (by rfl) ⟨_, rfl, ?_⟩)
          refine WL.c rfl (Ent.func Try.call13 rfl) (act_tells p gs K1 L1 C3 h3 inv acts[i]) (Sp.p (by repeat (first | exact Sp.here | exact Sp.sn | exact Sp.s0 | exact Fr.here | apply Sp.s2 | apply Sp.sx | apply Fr.fc | apply Fr.al | apply Fr.fa | apply Sp.sc | apply Sp.al | apply Sp.sa))) ?_
          rintro qq C6 ⟨rfl, h6⟩
          obtain ⟨inv3, hcnt3⟩ := inv.act acts[i]
          have hyes : isAuth acts[i] = true → actVP K1 L1 acts[i] = vdP (authB K1 L1 acts[i].o acts[i].name acts[i].n) ∧ actLP K1 L1 acts[i] = authLs K1 L1 acts[i].o acts[i].name acts[i].n := fun e0 => by simp only [actVP, actLP, e0, Bool.false_eq_true, if_false, if_true]; exact ⟨trivial, trivial⟩
          have hcap : isAuth acts[i] = false → acts[i].k = 2 → actVP K1 L1 acts[i] = vdP (turnB L1 acts[i].o 1) ∧ actLP K1 L1 acts[i] = turnLs L1 acts[i].o 1 2 := fun e0 e1 => by simp only [actVP, actLP, e0, if_pos e1, Bool.false_eq_true, if_false, if_true]; exact ⟨trivial, trivial⟩
          have hvoid : isAuth acts[i] = false → (acts[i].k = 2) = False → acts[i].k = 3 → actVP K1 L1 acts[i] = vdP (turnB L1 acts[i].o 1) ∧ actLP K1 L1 acts[i] = turnLs L1 acts[i].o 1 3 := fun e0 e1 e2 => by simp only [actVP, actLP, e0, e1, if_pos e2, Bool.false_eq_true, if_false, if_true]; exact ⟨trivial, trivial⟩
          have href : isAuth acts[i] = false → (acts[i].k = 2) = False → (acts[i].k = 3) = False → actVP K1 L1 acts[i] = vdP (turnB L1 acts[i].o 2) ∧ actLP K1 L1 acts[i] = turnLs L1 acts[i].o 2 3 := fun e0 e1 e2 => by simp only [actVP, actLP, e0, e1, e2, Bool.false_eq_true, if_false, if_true]; exact ⟨trivial, trivial⟩
          generalize actVP K1 L1 acts[i] = v3 at *
          generalize actKP K1 L1 acts[i] = K3 at *
          generalize actLP K1 L1 acts[i] = L3 at *
          refine WL.y rfl (Yd.assign rfl) ?_
          refine WL.nil ?_
          refine DN.then_normal ?_
          refine WC.seq ?_
          refine WC.region ?_
          refine WL.y rfl (Yd.assign rfl) ?_
          refine WL.nil ?_
          refine DN.then_normal ?_
          refine WC.cutK (fun z : List Ck => RpAt 60 46 48 q F L3 z) (fun z : List Ck => [(12, .int .i64 v3)]) (fun z : List Ck => row b10 (cellsQ acts[i]) 35 :: (C6 ++ (z ++ H))) ?_ ?_
          · refine WC.seq ?_
            refine WC.region ?_
            refine WL.y rfl (Yd.fieldAddr (k := 0) (by kernel_rfl) rfl) ?_
            refine WL.h rfl (Hd.load1 (by kernel_rfl) rfl (by repeat (first | exact List.mem_cons_self | apply List.mem_cons_of_mem | apply List.mem_append_right)) (by rfl) ⟨_, rfl, ?_⟩)
            refine WL.nil ?_
            refine DN.then_normal ?_
            refine WC.block ?_
            refine WC.cutK (fun z72 : Bool => z72 = isAuth acts[i]) (fun z72 : Bool => [(72, .bool z72)]) (fun z72 : Bool => row b10 (cellsQ acts[i]) 35 :: (C6 ++ (C4 ++ H))) ?_ ?_
            · refine WC.seq ?_
              refine WC.region ?_
              refine WL.y rfl (Yd.eql rfl rfl) ?_
              refine WL.y rfl (Yd.assign rfl) ?_
              refine WL.nil ?_
              refine DN.then_normal ?_
              refine WC.cond rfl (fun h72 => ?_) (fun h72 => ?_)
              · refine WC.skip ?_
                exact DN.reachK (_) (by unfold isAuth; rw [h72]; rfl) (Sx.put rfl ((by repeat (first | exact Sx.refl | refine Sx.skip rfl ?_)))) (Sp.all (by repeat (first | exact Sp.here | exact Sp.sn | exact Sp.s0 | exact Fr.here | apply Sp.s2 | apply Sp.sx | apply Fr.fc | apply Fr.al | apply Fr.fa | apply Sp.sc | apply Sp.al | apply Sp.sa)))
              · refine WC.region ?_
                refine WL.y rfl (Yd.eql rfl rfl) ?_
                refine WL.y rfl (Yd.assign rfl) ?_
                refine WL.nil ?_
                exact DN.reachK (_) (by unfold isAuth; rw [h72]; rfl) (Sx.put rfl ((by repeat (first | exact Sx.refl | refine Sx.skip rfl ?_)))) (Sp.all (by repeat (first | exact Sp.here | exact Sp.sn | exact Sp.s0 | exact Fr.here | apply Sp.s2 | apply Sp.sx | apply Fr.fc | apply Fr.al | apply Fr.fa | apply Sp.sc | apply Sp.al | apply Sp.sa)))
            · intro z72 hz72
              refine WC.cond rfl (fun h72 => ?_) (fun h72 => ?_)
              · obtain ⟨rfl, rfl⟩ := hyes (by rw [← hz72]; exact h72)
                refine WC.region ?_
                refine WL.y rfl (Yd.move rfl) ?_
                refine WL.y rfl (Yd.fieldAddr (k := 1) (by kernel_rfl) rfl) ?_
                refine WL.h rfl (Hd.load1 (by kernel_rfl) rfl (by repeat (first | exact List.mem_cons_self | apply List.mem_cons_of_mem | apply List.mem_append_right)) (by rfl) ⟨_, rfl, ?_⟩)
                refine WL.y rfl (Yd.fieldAddr (k := 2) (by kernel_rfl) rfl) ?_
                refine WL.h rfl (Hd.load1 (by kernel_rfl) rfl (by repeat (first | exact List.mem_cons_self | apply List.mem_cons_of_mem | apply List.mem_append_right)) (by rfl) ⟨_, rfl, ?_⟩)
                refine WL.y rfl (Yd.fieldAddr (k := 3) (by kernel_rfl) rfl) ?_
                refine WL.h rfl (Hd.load1 (by kernel_rfl) rfl (by repeat (first | exact List.mem_cons_self | apply List.mem_cons_of_mem | apply List.mem_append_right)) (by rfl) ⟨_, rfl, ?_⟩)
                refine WL.c rfl (Ent.func Try.call14 rfl) (rauth_tells q gs K1 F L1 C4 h4 inv hT2 (by omega) acts[i].o acts[i].name acts[i].n) (Sp.p (by repeat (first | exact Sp.here | exact Sp.sn | exact Sp.s0 | exact Fr.here | apply Sp.s2 | apply Sp.sx | apply Fr.fc | apply Fr.al | apply Fr.fa | apply Sp.sc | apply Sp.al | apply Sp.sa))) ?_
                rintro qq C7 ⟨rfl, h7⟩
                refine WL.y rfl (Yd.assign rfl) ?_
                refine WL.nil ?_
                refine DN.block_normal ?_
                exact DN.reachK (C7) (h7) (Sx.put rfl ((by repeat (first | exact Sx.refl | refine Sx.skip rfl ?_)))) (Sp.all (by repeat (first | exact Sp.here | exact Sp.sn | exact Sp.s0 | exact Fr.here | apply Sp.s2 | apply Sp.sx | apply Fr.fc | apply Fr.al | apply Fr.fa | apply Sp.sc | apply Sp.al | apply Sp.sa)))
              · refine WC.seq ?_
                refine WC.region ?_
                refine WL.y rfl (Yd.eql rfl rfl) ?_
                refine WL.y rfl (Yd.assign rfl) ?_
                refine WL.nil ?_
                refine DN.then_normal ?_
                refine WC.ite rfl (fun h83 => ?_) (fun h83 => ?_)
                · obtain ⟨rfl, rfl⟩ := hcap (by rw [← hz72]; exact h72) h83
                  refine WC.region ?_
                  refine WL.y rfl (Yd.move rfl) ?_
                  refine WL.y rfl (Yd.fieldAddr (k := 1) (by kernel_rfl) rfl) ?_
                  refine WL.h rfl (Hd.load1 (by kernel_rfl) rfl (by repeat (first | exact List.mem_cons_self | apply List.mem_cons_of_mem | apply List.mem_append_right)) (by rfl) ⟨_, rfl, ?_⟩)
                  refine WL.c rfl (Ent.func Try.call15 rfl) (rturn_tells q gs K1 F L1 C4 h4 inv (by omega) acts[i].o 1 2) (Sp.p (by repeat (first | exact Sp.here | exact Sp.sn | exact Sp.s0 | exact Fr.here | apply Sp.s2 | apply Sp.sx | apply Fr.fc | apply Fr.al | apply Fr.fa | apply Sp.sc | apply Sp.al | apply Sp.sa))) ?_
                  rintro qq C7 ⟨rfl, h7⟩
                  refine WL.y rfl (Yd.assign rfl) ?_
                  refine WL.nil ?_
                  refine DN.block_normal ?_
                  exact DN.reachK (C7) (h7) (Sx.put rfl ((by repeat (first | exact Sx.refl | refine Sx.skip rfl ?_)))) (Sp.all (by repeat (first | exact Sp.here | exact Sp.sn | exact Sp.s0 | exact Fr.here | apply Sp.s2 | apply Sp.sx | apply Fr.fc | apply Fr.al | apply Fr.fa | apply Sp.sc | apply Sp.al | apply Sp.sa)))
                · refine WC.seq ?_
                  refine WC.region ?_
                  refine WL.y rfl (Yd.eql rfl rfl) ?_
                  refine WL.y rfl (Yd.assign rfl) ?_
                  refine WL.nil ?_
                  refine DN.then_normal ?_
                  refine WC.ite rfl (fun h89 => ?_) (fun h89 => ?_)
                  · obtain ⟨rfl, rfl⟩ := hvoid (by rw [← hz72]; exact h72) (eq_false h83) h89
                    refine WC.region ?_
                    refine WL.y rfl (Yd.move rfl) ?_
                    refine WL.y rfl (Yd.fieldAddr (k := 1) (by kernel_rfl) rfl) ?_
                    refine WL.h rfl (Hd.load1 (by kernel_rfl) rfl (by repeat (first | exact List.mem_cons_self | apply List.mem_cons_of_mem | apply List.mem_append_right)) (by rfl) ⟨_, rfl, ?_⟩)
                    refine WL.c rfl (Ent.func Try.call15 rfl) (rturn_tells q gs K1 F L1 C4 h4 inv (by omega) acts[i].o 1 3) (Sp.p (by repeat (first | exact Sp.here | exact Sp.sn | exact Sp.s0 | exact Fr.here | apply Sp.s2 | apply Sp.sx | apply Fr.fc | apply Fr.al | apply Fr.fa | apply Sp.sc | apply Sp.al | apply Sp.sa))) ?_
                    rintro qq C7 ⟨rfl, h7⟩
                    refine WL.y rfl (Yd.assign rfl) ?_
                    refine WL.nil ?_
                    refine DN.block_normal ?_
                    exact DN.reachK (C7) (h7) (Sx.put rfl ((by repeat (first | exact Sx.refl | refine Sx.skip rfl ?_)))) (Sp.all (by repeat (first | exact Sp.here | exact Sp.sn | exact Sp.s0 | exact Fr.here | apply Sp.s2 | apply Sp.sx | apply Fr.fc | apply Fr.al | apply Fr.fa | apply Sp.sc | apply Sp.al | apply Sp.sa)))
                  · obtain ⟨rfl, rfl⟩ := href (by rw [← hz72]; exact h72) (eq_false h83) (eq_false h89)
                    refine WC.region ?_
                    refine WL.y rfl (Yd.move rfl) ?_
                    refine WL.y rfl (Yd.fieldAddr (k := 1) (by kernel_rfl) rfl) ?_
                    refine WL.h rfl (Hd.load1 (by kernel_rfl) rfl (by repeat (first | exact List.mem_cons_self | apply List.mem_cons_of_mem | apply List.mem_append_right)) (by rfl) ⟨_, rfl, ?_⟩)
                    refine WL.c rfl (Ent.func Try.call15 rfl) (rturn_tells q gs K1 F L1 C4 h4 inv (by omega) acts[i].o 2 3) (Sp.p (by repeat (first | exact Sp.here | exact Sp.sn | exact Sp.s0 | exact Fr.here | apply Sp.s2 | apply Sp.sx | apply Fr.fc | apply Fr.al | apply Fr.fa | apply Sp.sc | apply Sp.al | apply Sp.sa))) ?_
                    rintro qq C7 ⟨rfl, h7⟩
                    refine WL.y rfl (Yd.assign rfl) ?_
                    refine WL.nil ?_
                    refine DN.block_normal ?_
                    exact DN.reachK (C7) (h7) (Sx.put rfl ((by repeat (first | exact Sx.refl | refine Sx.skip rfl ?_)))) (Sp.all (by repeat (first | exact Sp.here | exact Sp.sn | exact Sp.s0 | exact Fr.here | apply Sp.s2 | apply Sp.sx | apply Fr.fc | apply Fr.al | apply Fr.fa | apply Sp.sc | apply Sp.al | apply Sp.sa)))
          · intro C7 h7
            have hmany3 := inv3.few2
            refine WC.seq ?_
            refine WC.region ?_
            refine WL.y rfl (Yd.move rfl) ?_
            refine WL.c rfl (Ent.func Try.call16 rfl) (accs_tells p K3 L3 C6 h6 (by omega)) (Sp.p (by repeat (first | exact Sp.here | exact Sp.sn | exact Sp.s0 | exact Fr.here | apply Sp.s2 | apply Sp.sx | apply Fr.fc | apply Fr.al | apply Fr.fa | apply Sp.sc | apply Sp.al | apply Sp.sa))) ?_
            rintro qq C8 ⟨S, Cs, hT, ho, rfl⟩
            have hSl := hT.perm.length_eq
            have hvw := vwU_told inv3 hT2 hT
            have hvl := congrArg List.length hvw
            obtain ⟨so, sc, rfl, _⟩ := ho.form
            refine WL.y rfl (Yd.assign rfl) ?_
            refine WL.nil ?_
            refine DN.then_normal ?_
            refine WC.seq ?_
            refine WC.region ?_
            refine WL.y rfl (Yd.move rfl) ?_
            refine WL.c rfl (Ent.func Try.call17 rfl) (pays_tells p K3 L3 C6 h6 (by omega)) (Sp.p (by repeat (first | exact Sp.here | exact Sp.sn | exact Sp.s0 | exact Fr.here | apply Sp.s2 | apply Sp.sx | apply Fr.fc | apply Fr.al | apply Fr.fa | apply Sp.sc | apply Sp.al | apply Sp.sa))) ?_
            rintro qq C8 ⟨T, Ds, hU, hq, rfl⟩
            have hTl := hU.perm.length_eq
            obtain ⟨to_, tc_, rfl, _⟩ := hq.form
            refine WL.y rfl (Yd.assign rfl) ?_
            refine WL.nil ?_
            refine DN.then_normal ?_
            refine WC.seq ?_
            refine WC.seq ?_
            refine WC.region ?_
            refine WL.y rfl (Yd.move rfl) ?_
            refine WL.y rfl (Yd.move rfl) ?_
            refine WL.y rfl (Yd.neq rfl rfl) ?_
            refine WL.renamed (t := 101) (v := .bool false) rfl (congrArg Value.bool (decide_eq_false (by simp))) ?_
            refine WL.y rfl (Yd.move rfl) ?_
            refine WL.gy (dj := 102) rfl rfl rfl (Yd.move rfl) ?_
            refine WL.gy (dj := 102) rfl rfl rfl (Yd.move rfl) ?_
            refine WL.gc (dj := 102) rfl rfl rfl (Ent.func Try.call19 rfl) (raccs_tells q gs K3 F L3 C7 h7 inv3 hT2 (by omega)) (Sp.p (by repeat (first | exact Sp.here | exact Sp.sn | exact Sp.s0 | exact Fr.here | apply Sp.s2 | apply Sp.sx | apply Fr.fc | apply Fr.al | apply Fr.fa | apply Sp.sc | apply Sp.al | apply Sp.sa))) ?_
            rintro qq C9 ⟨Cs9, ho9, rfl⟩
            obtain ⟨so9, sc9, rfl, _⟩ := ho9.form
            refine WL.grf (dj := 102) rfl rfl rfl (Ent.func Try.call18 rfl) (sameAccs_reads _ _ S (vwU K3 F) (Cs ++ Cs9) (ho.rs.mono (by repeat (first | exact Gr.refl | exact Gr.left Gr.refl | exact Gr.left (Gr.left Gr.refl) | exact Gr.left (Gr.app Gr.refl) | exact Gr.left (Gr.left (Gr.left Gr.refl)) | exact Gr.nil | exact Gr.app (Gr.left Gr.refl) | refine Gr.cons ?_ | refine Gr.app ?_ | refine Gr.both ?_ ?_ | refine Gr.put (by repeat (first | exact List.mem_cons_self | apply List.mem_cons_of_mem | apply List.mem_append_right)) ?_))) (ho9.rs.mono (by repeat (first | exact Gr.refl | exact Gr.left Gr.refl | exact Gr.left (Gr.left Gr.refl) | exact Gr.left (Gr.app Gr.refl) | exact Gr.left (Gr.left (Gr.left Gr.refl)) | exact Gr.nil | exact Gr.app (Gr.left Gr.refl) | refine Gr.cons ?_ | refine Gr.app ?_ | refine Gr.both ?_ ?_ | refine Gr.put (by repeat (first | exact List.mem_cons_self | apply List.mem_cons_of_mem | apply List.mem_append_right)) ?_))) (by omega) (by omega)) (by repeat (first | exact Sp.here | exact Sp.sn | exact Sp.s0 | exact Fr.here | apply Sp.s2 | apply Sp.sx | apply Fr.fc | apply Fr.al | apply Fr.fa | apply Sp.sc | apply Sp.al | apply Sp.sa)) ?_
            refine WL.renamed (t := 106) (v := .bool true) rfl (congrArg Value.bool (decide_eq_true hvw)) ?_
            refine WL.gy (dj := 102) rfl rfl rfl (Yd.notB rfl) ?_
            refine WL.y rfl (Yd.pickF rfl rfl) ?_
            refine WL.y rfl (Yd.move rfl) ?_
            refine WL.gy (dj := 109) rfl rfl rfl (Yd.move rfl) ?_
            refine WL.gy (dj := 109) rfl rfl rfl (Yd.move rfl) ?_
            refine WL.gc (dj := 109) rfl rfl rfl (Ent.func Try.call21 rfl) (rpays_tells q gs K3 F L3 C7 h7 inv3 (by omega) T hU) (Sp.p (by repeat (first | exact Sp.here | exact Sp.sn | exact Sp.s0 | exact Fr.here | apply Sp.s2 | apply Sp.sx | apply Fr.fc | apply Fr.al | apply Fr.fa | apply Sp.sc | apply Sp.al | apply Sp.sa))) ?_
            rintro qq C9 ⟨Ds9, hq9, rfl⟩
            obtain ⟨to9, tc9, rfl, _⟩ := hq9.form
            refine WL.grf (dj := 109) rfl rfl rfl (Ent.func Try.call20 rfl) (samePays_reads _ _ T T (Ds ++ Ds9) (hq.rs.mono (by repeat (first | exact Gr.refl | exact Gr.left Gr.refl | exact Gr.left (Gr.left Gr.refl) | exact Gr.left (Gr.app Gr.refl) | exact Gr.left (Gr.left (Gr.left Gr.refl)) | exact Gr.nil | exact Gr.app (Gr.left Gr.refl) | refine Gr.cons ?_ | refine Gr.app ?_ | refine Gr.both ?_ ?_ | refine Gr.put (by repeat (first | exact List.mem_cons_self | apply List.mem_cons_of_mem | apply List.mem_append_right)) ?_))) (hq9.rs.mono (by repeat (first | exact Gr.refl | exact Gr.left Gr.refl | exact Gr.left (Gr.left Gr.refl) | exact Gr.left (Gr.app Gr.refl) | exact Gr.left (Gr.left (Gr.left Gr.refl)) | exact Gr.nil | exact Gr.app (Gr.left Gr.refl) | refine Gr.cons ?_ | refine Gr.app ?_ | refine Gr.both ?_ ?_ | refine Gr.put (by repeat (first | exact List.mem_cons_self | apply List.mem_cons_of_mem | apply List.mem_append_right)) ?_))) (by omega) (by omega)) (by repeat (first | exact Sp.here | exact Sp.sn | exact Sp.s0 | exact Fr.here | apply Sp.s2 | apply Sp.sx | apply Fr.fc | apply Fr.al | apply Fr.fa | apply Sp.sc | apply Sp.al | apply Sp.sa)) ?_
            refine WL.renamed (t := 113) (v := .bool true) rfl (congrArg Value.bool (decide_eq_true rfl)) ?_
            refine WL.gy (dj := 109) rfl rfl rfl (Yd.notB rfl) ?_
            refine WL.y rfl (Yd.pickF rfl rfl) ?_
            refine WL.y rfl (Yd.move rfl) ?_
            refine WL.gy (dj := 116) rfl rfl rfl (Yd.move rfl) ?_
            refine WL.grf (dj := 116) rfl rfl rfl (Ent.func Try.call22 rfl) (taken_reads p gs K3 L3 C6 h6 inv3 (by omega)) (by repeat (first | exact Sp.here | exact Sp.sn | exact Sp.s0 | exact Fr.here | apply Sp.s2 | apply Sp.sx | apply Fr.fc | apply Fr.al | apply Fr.fa | apply Sp.sc | apply Sp.al | apply Sp.sa)) ?_
            refine WL.gy (dj := 116) rfl rfl rfl (Yd.move rfl) ?_
            refine WL.grf (dj := 116) rfl rfl rfl (Ent.func Try.call23 rfl) (rtaken_reads q gs K3 F L3 C7 h7 inv3 (by omega)) (by repeat (first | exact Sp.here | exact Sp.sn | exact Sp.s0 | exact Fr.here | apply Sp.s2 | apply Sp.sx | apply Fr.fc | apply Fr.al | apply Fr.fa | apply Sp.sc | apply Sp.al | apply Sp.sa)) ?_
            refine WL.gy (dj := 116) rfl rfl rfl (Yd.neq rfl rfl) ?_
            refine WL.renamed (t := 121) (v := .bool false) rfl (congrArg Value.bool (decide_eq_false (by simp))) ?_
            refine WL.y rfl (Yd.pickF rfl rfl) ?_
            refine WL.nil ?_
            refine DN.then_normal ?_
            refine WC.no rfl ?_
            refine WC.skip ?_
            refine DN.then_normal ?_
            refine WC.seq ?_
            refine WC.seq ?_
            refine WC.region ?_
            refine WL.y rfl (Yd.assign rfl) ?_
            refine WL.nil ?_
            refine DN.then_normal ?_
            refine WC.block ?_
            refine WC.loopS (fun z : Nat × List Value × List Ck => z.1 ≤ S.length ∧ Own (.slice so S.length sc) S.length z.2.1 46 3 z.2.2) (fun z : Nat × List Value × List Ck => [(15, .int .i64 (z.1 : Int))]) (fun z : Nat × List Value × List Ck => z.2.2 ++ (Ds ++ (C6 ++ (C7 ++ H)))) (fun z : Nat × List Value × List Ck => S.length - z.1) (⟨0, S.flatMap cellsU, Cs⟩) (show 0 ≤ S.length ∧ Own (.slice so S.length sc) S.length (S.flatMap cellsU) 46 3 Cs from ⟨Nat.zero_le _, ho⟩) (Sx.put rfl ((by repeat (first | exact Sx.refl | refine Sx.skip rfl ?_)))) (by repeat (first | exact Sp.here | exact Sp.sn | exact Sp.s0 | exact Fr.here | apply Sp.s2 | apply Sp.sx | apply Fr.fc | apply Fr.al | apply Fr.fa | apply Sp.sc | apply Sp.al | apply Sp.sa)) ?_
            rintro ⟨k, xs, C9⟩ hI
            replace hI : k ≤ S.length ∧ Own (.slice so S.length sc) S.length xs 46 3 C9 := hI
            obtain ⟨hk, ho9⟩ := hI
            change WC _ _ _ _ _ _ ([(15, .int .i64 (k : Int))] ++ _) (C9 ++ (Ds ++ (C6 ++ (C7 ++ H))))
            refine WC.seq ?_
            refine WC.seq ?_
            refine WC.region ?_
            refine WL.y rfl (Yd.move rfl) ?_
            refine WL.y rfl (Yd.move rfl) ?_
            refine WL.y rfl (Yd.len (e := 46) (by kernel_rfl) rfl) ?_
            refine WL.y rfl (Yd.lss rfl rfl) ?_
            refine WL.nil ?_
            refine DN.then_normal ?_
            refine WC.ite rfl (fun h126 => ?_) (fun h126 => ?_)
            · have hkl : k < S.length := by omega
              have hxl := ho9.len
              obtain ⟨bo, extra, eso, rfl, hset, ho2⟩ := ho9.set1 (by omega) ((k : Int).toNat * 3 + 1) (by omega) (.int .i64 (-7))
              refine WC.skip ?_
              refine DN.then_normal ?_
              refine WC.seq ?_
              refine WC.block ?_
              refine WC.region ?_
              refine WL.y rfl (Yd.move rfl) ?_
              refine WL.y rfl (Yd.move rfl) ?_
              refine WL.y rfl (Yd.indexAddr (e := 46) (s := 3) (b := bo) (o := 0) (n := S.length) (c := sc) (by kernel_rfl) (by kernel_rfl) (congrArg (fun z => some (Value.slice z S.length sc)) eso) rfl (by omega) (by omega)) ?_
              refine WL.y rfl (Yd.fieldAddr (k := 1) (by kernel_rfl) rfl) ?_
              refine WL.s (Hd.store1q (b := bo) (cs := xs ++ extra) (T' := 46) (by kernel_rfl) rfl rfl rfl (by repeat (first | exact Fr.here | apply Fr.fc | apply Fr.al | apply Fr.fa)) (by rw [List.length_append]; omega) ((congrArg (fun z => (xs ++ extra).set z (Value.int .i64 (-7))) (Nat.add_assoc 0 _ 1)).trans hset) ⟨rfl, ?_⟩)
              refine WL.nil ?_
              refine DN.block_normal ?_
              refine DN.then_normal ?_
              refine WC.region ?_
              refine WL.y rfl (Yd.move rfl) ?_
              refine WL.y rfl (Yd.add rfl rfl (by omega) (by omega)) ?_
              refine WL.y rfl (Yd.assign rfl) ?_
              refine WL.nil ?_
              exact DN.againS (⟨k + 1, xs.set ((k : Int).toNat * 3 + 1) (.int .i64 (-7)), [row bo (xs.set ((k : Int).toNat * 3 + 1) (.int .i64 (-7)) ++ extra) 46]⟩) (show (k + 1) ≤ S.length ∧ Own (.slice so S.length sc) S.length (xs.set ((k : Int).toNat * 3 + 1) (.int .i64 (-7))) 46 3 ([row bo (xs.set ((k : Int).toNat * 3 + 1) (.int .i64 (-7)) ++ extra) 46]) from ⟨by omega, ho2⟩) (show S.length - (k + 1) < S.length - k by omega) (Sx.put rfl ((by repeat (first | exact Sx.refl | refine Sx.skip rfl ?_)))) (by repeat (first | exact Sp.here | exact Sp.sn | exact Sp.s0 | exact Fr.here | apply Sp.s2 | apply Sp.sx | apply Fr.fc | apply Fr.al | apply Fr.fa | apply Sp.sc | apply Sp.al | apply Sp.sa))
            · refine WC.exit ?_
              refine DN.then_exit ?_
              refine DN.then_exit ?_
              refine DN.block_exit ?_
              refine DN.then_normal ?_
              refine WC.seq ?_
              refine WC.region ?_
              refine WL.y rfl (Yd.assign rfl) ?_
              refine WL.nil ?_
              refine DN.then_normal ?_
              refine WC.block ?_
              refine WC.loopS (fun z : Nat × List Value × List Ck => z.1 ≤ T.length ∧ Own (.slice to_ T.length tc_) T.length z.2.1 48 4 z.2.2) (fun z : Nat × List Value × List Ck => [(16, .int .i64 (z.1 : Int))]) (fun z : Nat × List Value × List Ck => z.2.2 ++ ((C6 ++ (C7 ++ H)))) (fun z : Nat × List Value × List Ck => T.length - z.1) (⟨0, T.flatMap cellsP, Ds⟩) (show 0 ≤ T.length ∧ Own (.slice to_ T.length tc_) T.length (T.flatMap cellsP) 48 4 Ds from ⟨Nat.zero_le _, hq⟩) (Sx.put rfl ((by repeat (first | exact Sx.refl | refine Sx.skip rfl ?_)))) (by repeat (first | exact Sp.here | exact Sp.sn | exact Sp.s0 | exact Fr.here | apply Sp.s2 | apply Sp.sx | apply Fr.fc | apply Fr.al | apply Fr.fa | apply Sp.sc | apply Sp.al | apply Sp.sa)) ?_
              rintro ⟨k, xs, C9⟩ hI
              replace hI : k ≤ T.length ∧ Own (.slice to_ T.length tc_) T.length xs 48 4 C9 := hI
              obtain ⟨hk, ho9⟩ := hI
              change WC _ _ _ _ _ _ ([(16, .int .i64 (k : Int))] ++ _) (C9 ++ ((C6 ++ (C7 ++ H))))
              refine WC.seq ?_
              refine WC.seq ?_
              refine WC.region ?_
              refine WL.y rfl (Yd.move rfl) ?_
              refine WL.y rfl (Yd.move rfl) ?_
              refine WL.y rfl (Yd.len (e := 48) (by kernel_rfl) rfl) ?_
              refine WL.y rfl (Yd.lss rfl rfl) ?_
              refine WL.nil ?_
              refine DN.then_normal ?_
              refine WC.ite rfl (fun h136 => ?_) (fun h136 => ?_)
              · have hkl : k < T.length := by omega
                have hxl := ho9.len
                obtain ⟨bo, extra, eso, rfl, hset, ho2⟩ := ho9.set1 (by omega) ((k : Int).toNat * 4 + 3) (by omega) (.int .i64 (-7))
                refine WC.skip ?_
                refine DN.then_normal ?_
                refine WC.seq ?_
                refine WC.block ?_
                refine WC.region ?_
                refine WL.y rfl (Yd.move rfl) ?_
                refine WL.y rfl (Yd.move rfl) ?_
                refine WL.y rfl (Yd.indexAddr (e := 48) (s := 4) (b := bo) (o := 0) (n := T.length) (c := tc_) (by kernel_rfl) (by kernel_rfl) (congrArg (fun z => some (Value.slice z T.length tc_)) eso) rfl (by omega) (by omega)) ?_
                refine WL.y rfl (Yd.fieldAddr (k := 3) (by kernel_rfl) rfl) ?_
                refine WL.s (Hd.store1q (b := bo) (cs := xs ++ extra) (T' := 48) (by kernel_rfl) rfl rfl rfl (by repeat (first | exact Fr.here | apply Fr.fc | apply Fr.al | apply Fr.fa)) (by rw [List.length_append]; omega) ((congrArg (fun z => (xs ++ extra).set z (Value.int .i64 (-7))) (Nat.add_assoc 0 _ 3)).trans hset) ⟨rfl, ?_⟩)
                refine WL.nil ?_
                refine DN.block_normal ?_
                refine DN.then_normal ?_
                refine WC.region ?_
                refine WL.y rfl (Yd.move rfl) ?_
                refine WL.y rfl (Yd.add rfl rfl (by omega) (by omega)) ?_
                refine WL.y rfl (Yd.assign rfl) ?_
                refine WL.nil ?_
                exact DN.againS (⟨k + 1, xs.set ((k : Int).toNat * 4 + 3) (.int .i64 (-7)), [row bo (xs.set ((k : Int).toNat * 4 + 3) (.int .i64 (-7)) ++ extra) 48]⟩) (show (k + 1) ≤ T.length ∧ Own (.slice to_ T.length tc_) T.length (xs.set ((k : Int).toNat * 4 + 3) (.int .i64 (-7))) 48 4 ([row bo (xs.set ((k : Int).toNat * 4 + 3) (.int .i64 (-7)) ++ extra) 48]) from ⟨by omega, ho2⟩) (show T.length - (k + 1) < T.length - k by omega) (Sx.put rfl ((by repeat (first | exact Sx.refl | refine Sx.skip rfl ?_)))) (by repeat (first | exact Sp.here | exact Sp.sn | exact Sp.s0 | exact Fr.here | apply Sp.s2 | apply Sp.sx | apply Fr.fc | apply Fr.al | apply Fr.fa | apply Sp.sc | apply Sp.al | apply Sp.sa))
              · refine WC.exit ?_
                refine DN.then_exit ?_
                refine DN.then_exit ?_
                refine DN.block_exit ?_
                refine DN.block_normal ?_
                refine DN.then_normal ?_
                refine WC.region ?_
                refine WL.y rfl (Yd.move rfl) ?_
                refine WL.y rfl (Yd.add rfl rfl (by omega) (by omega)) ?_
                refine WL.y rfl (Yd.assign rfl) ?_
                refine WL.nil ?_
                exact DN.againS (⟨i + 1, K3, L3, C6, C7⟩) (show (i + 1) ≤ acts.length ∧ (i + 1) ≤ 120 ∧ L3.length ≤ (i + 1) ∧ PsAt 57 p K3 L3 C6 ∧ RpAt 60 46 48 q F L3 C7 ∧ PInv gs K3 L3 from ⟨by omega, by omega, by omega, h6, h7, inv3⟩) (show acts.length - (i + 1) < acts.length - i by omega) (Sx.put rfl ((by repeat (first | exact Sx.refl | refine Sx.skip rfl ?_)))) (by repeat (first | exact Sp.here | exact Sp.sn | exact Sp.s0 | exact Fr.here | apply Sp.s2 | apply Sp.sx | apply Fr.fc | apply Fr.al | apply Fr.fa | apply Sp.sc | apply Sp.al | apply Sp.sa))
        · refine WC.exit ?_
          refine DN.then_exit ?_
          refine DN.then_exit ?_
          refine DN.block_exit ?_
          refine DN.then_normal ?_
          refine WC.seq ?_
          refine WC.region ?_
          refine WL.r rfl (Ent.func Try.call10 rfl) (known10 _) ?_
          refine WL.y rfl (Yd.assign rfl) ?_
          refine WL.nil ?_
          refine DN.then_normal ?_
          refine WC.ret ?_
          refine DN.fit (C := H) (by repeat (first | exact Sp.here | exact Sp.sn | exact Sp.s0 | exact Fr.here | apply Sp.s2 | apply Sp.sx | apply Fr.fc | apply Fr.al | apply Fr.fa | apply Sp.sc | apply Sp.al | apply Sp.sa)) ?_
          refine DN.ret1 Try.results3 rfl ?_
          exact ⟨rfl, rfl⟩
      · refine WL.gn (dj := 53) rfl rfl rfl rfl ?_
        refine WL.gn (dj := 53) rfl rfl rfl rfl ?_
        refine WL.y rfl (Yd.pickF rfl rfl) ?_
        refine WL.nil ?_
        refine DN.then_normal ?_
        refine WC.no rfl ?_
        refine WC.exit ?_
        refine DN.then_exit ?_
        refine DN.then_exit ?_
        refine DN.block_exit ?_
        refine DN.then_normal ?_
        refine WC.seq ?_
        refine WC.region ?_
        refine WL.r rfl (Ent.func Try.call10 rfl) (known10 _) ?_
        refine WL.y rfl (Yd.assign rfl) ?_
        refine WL.nil ?_
        refine DN.then_normal ?_
        refine WC.ret ?_
        refine DN.fit (C := H) (by repeat (first | exact Sp.here | exact Sp.sn | exact Sp.s0 | exact Fr.here | apply Sp.s2 | apply Sp.sx | apply Fr.fc | apply Fr.al | apply Fr.fa | apply Sp.sc | apply Sp.al | apply Sp.sa)) ?_
        refine DN.ret1 Try.results3 rfl ?_
        exact ⟨rfl, rfl⟩
    · refine WC.region ?_
      refine WL.y rfl (Yd.move rfl) ?_
      refine WL.ca rfl (Ent.func Try.call11 rfl) (new_tells _ gs H hv hl) ?_
      rintro q H1 hq
      first | (have inv1 := PInv.start hA; obtain ⟨p, C1, rfl, h1, rfl⟩ := new_inP hq hA) | (obtain ⟨rfl, hHq⟩ := new_outP hq hA; rw [hHq])
      refine WL.y rfl (Yd.move rfl) ?_
      refine WL.y rfl (Yd.extract rfl rfl) ?_
      refine WL.y rfl (Yd.extract rfl rfl) ?_
      refine WL.y rfl (Yd.assign rfl) ?_
      refine WL.y rfl (Yd.assign rfl) ?_
      refine WL.nil ?_
      refine DN.then_normal ?_
      refine WC.seq ?_
      refine WC.region ?_
      refine WL.y rfl (Yd.move rfl) ?_
      refine WL.ca rfl (Ent.func Try.call12 rfl) (rnew_tells _ gs _ (hv.mono (by repeat (first | exact Gr.refl | exact Gr.left Gr.refl | exact Gr.left (Gr.left Gr.refl) | exact Gr.left (Gr.app Gr.refl) | exact Gr.left (Gr.left (Gr.left Gr.refl)) | exact Gr.nil | exact Gr.app (Gr.left Gr.refl) | refine Gr.cons ?_ | refine Gr.app ?_ | refine Gr.both ?_ ?_ | refine Gr.put (by repeat (first | exact List.mem_cons_self | apply List.mem_cons_of_mem | apply List.mem_append_right)) ?_))) hl) ?_
      rintro qq H2 hq2
      first | (have inv7 := PInv.start hA; obtain ⟨q, C2, F, rfl, h2, hT2, rfl⟩ := new_inP hq2 hA) | (obtain ⟨rfl, hHq2⟩ := new_outP hq2 hA; rw [hHq2])
      refine WL.y rfl (Yd.move rfl) ?_
      refine WL.y rfl (Yd.extract rfl rfl) ?_
      refine WL.y rfl (Yd.extract rfl rfl) ?_
      refine WL.y rfl (Yd.assign rfl) ?_
      refine WL.y rfl (Yd.assign rfl) ?_
      refine WL.nil ?_
      refine DN.then_normal ?_
      refine WC.seq ?_
      refine WC.seq ?_
      refine WC.region ?_
      refine WL.y rfl (Yd.move rfl) ?_
      refine WL.y rfl (Yd.neq rfl rfl) ?_
      refine WL.renamed (t := 32) (v := .bool true) rfl (congrArg Value.bool (by decide)) ?_
      refine WL.nil ?_
      refine DN.then_normal ?_
      refine WC.yes rfl ?_
      refine WC.seq ?_
      refine WC.region ?_
      refine WL.y rfl (Yd.move rfl) ?_
      refine WL.y rfl (Yd.eqlNil Try.underlying26 rfl rfl) ?_
      refine WL.renamed (t := 34) (v := .bool true) rfl (congrArg Value.bool (rfl)) ?_
      refine WL.y rfl (Yd.move rfl) ?_
      refine WL.gy (dj := 35) rfl rfl rfl (Yd.move rfl) ?_
      refine WL.gy (dj := 35) rfl rfl rfl (Yd.move rfl) ?_
      refine WL.gy (dj := 35) rfl rfl rfl (Yd.eql rfl rfl) ?_
      refine WL.renamed (t := 38) (v := .bool true) rfl (congrArg Value.bool (by decide)) ?_
      refine WL.y rfl (Yd.pickT rfl rfl) ?_
      refine WL.y rfl (Yd.move rfl) ?_
      refine WL.gr (dj := 40) rfl rfl rfl (Ent.func Try.call10 rfl) (known10 _) ?_
      refine WL.y rfl (Yd.pickT rfl rfl) ?_
      refine WL.y rfl (Yd.assign rfl) ?_
      refine WL.nil ?_
      refine DN.then_normal ?_
      refine WC.ret ?_
      refine DN.then_ret ?_
      refine DN.fit (C := H) (by repeat (first | exact Sp.here | exact Sp.sn | exact Sp.s0 | exact Fr.here | apply Sp.s2 | apply Sp.sx | apply Fr.fc | apply Fr.al | apply Fr.fa | apply Sp.sc | apply Sp.al | apply Sp.sa)) ?_
      refine DN.ret1 Try.results3 rfl ?_
      exact ⟨rfl, rfl⟩

end Go.Proofs.Ytllfnigodikbaaa
