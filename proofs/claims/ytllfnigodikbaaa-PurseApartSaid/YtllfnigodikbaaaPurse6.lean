/-
  The walk of PurseApart.
-/
import Derived.Test.YtllfnigodikbaaaPurse4
set_option linter.unusedVariables false
set_option linter.unusedSimpArgs false
set_option maxHeartbeats 4000000
namespace Go.Proofs.Ytllfnigodikbaaa
open Go.SL


/-- drayage/drayagelaw10.PurseApart -/
theorem law_PurseApart (H : List Ck) (v : Value) (gs : List Au) (hv : Rs v gs.length (gs.flatMap cellsU) H) (hl : gs.length ≤ 9223372036854775807) (va : Value) (acts : List Aq) (hva : Rs va acts.length (acts.flatMap cellsQ) H) (hla : acts.length ≤ 9223372036854775807) : Reads Try.prog 8 [v, va] H (.bool true) := by
  refine Tells.enter Try.func8 rfl Try.ntmps8 rfl ?_
  intro w0 R
  obtain ⟨vo, vc, rfl, hvc⟩ := hv.form
  obtain ⟨ao, ac, rfl, hac⟩ := hva.form
  refine WC.seq ?_
  refine WC.region ?_
  refine WL.y rfl (Yd.assign rfl) ?_
  refine WL.nil ?_
  refine DN.then_normal ?_
  refine WC.seq ?_
  refine WC.seq ?_
  refine WC.region ?_
  refine WL.y rfl (Yd.move rfl) ?_
  refine WL.y rfl (Yd.move rfl) ?_
  refine WL.rf rfl (Ent.func Try.call9 rfl) (long_reads _ _ gs acts H hv hva hl hla) (by repeat (first | exact Sp.here | exact Sp.sn | exact Sp.s0 | exact Fr.here | apply Sp.s2 | apply Sp.sx | apply Fr.fc | apply Fr.al | apply Fr.fa | apply Sp.sc | apply Sp.al | apply Sp.sa)) ?_
  refine WL.nil ?_
  refine DN.then_normal ?_
  refine WC.cond rfl (fun h17 => ?_) (fun h17 => ?_)
  · refine WC.seq ?_
    refine WC.region ?_
    refine WL.r rfl (Ent.func Try.call10 rfl) (known10 _) ?_
    refine WL.y rfl (Yd.assign rfl) ?_
    refine WL.nil ?_
    refine DN.then_normal ?_
    refine WC.ret ?_
    refine DN.then_ret ?_
    refine DN.fit (C := H) (by repeat (first | exact Sp.here | exact Sp.sn | exact Sp.s0 | exact Fr.here | apply Sp.s2 | apply Sp.sx | apply Fr.fc | apply Fr.al | apply Fr.fa | apply Sp.sc | apply Sp.al | apply Sp.sa)) ?_
    refine DN.ret1 Try.results8 rfl ?_
    exact ⟨rfl, rfl⟩
  · refine WC.skip ?_
    refine DN.then_normal ?_
    refine WC.seq ?_
    rcases Classical.em (AccL gs) with hA | hA
    · refine WC.region ?_
      refine WL.y rfl (Yd.move rfl) ?_
      refine WL.ca rfl (Ent.func Try.call11 rfl) (new_tells _ gs H hv hl) ?_
      rintro q H1 hq
      first | (have inv1 := PInv.start hA; obtain ⟨p, C1, rfl, h1, rfl⟩ := new_inP hq hA) | (obtain ⟨rfl, hHq⟩ := new_outP hq hA; rw [hHq])
      refine WL.y rfl (Yd.move rfl) ?_
      refine WL.y rfl (Yd.extract rfl rfl) ?_
      refine WL.y rfl (Yd.extract rfl rfl) ?_
      refine WL.y rfl (Yd.assign rfl) ?_
      refine WL.y rfl (Yd.assign rfl) ?_
      refine WL.nil ?_
      refine DN.then_normal ?_
      refine WC.seq ?_
      refine WC.seq ?_
      refine WC.region ?_
      refine WL.y rfl (Yd.move rfl) ?_
      refine WL.y rfl (Yd.neq rfl rfl) ?_
      refine WL.renamed (t := 25) (v := .bool false) rfl (congrArg Value.bool (by decide)) ?_
      refine WL.nil ?_
      refine DN.then_normal ?_
      refine WC.no rfl ?_
      refine WC.skip ?_
      refine DN.then_normal ?_
      refine WC.seq ?_
      refine WC.seq ?_
      refine WC.region ?_
      refine WL.y rfl (Yd.assign rfl) ?_
      refine WL.nil ?_
      refine DN.then_normal ?_
      refine WC.block ?_
      refine WC.loopS (fun z : Nat × List Au × List Py × List Ck => z.1 ≤ acts.length ∧ z.1 ≤ 100 ∧ z.2.2.1.length ≤ z.1 ∧ PsAt 57 p z.2.1 z.2.2.1 z.2.2.2 ∧ PInv gs z.2.1 z.2.2.1) (fun z : Nat × List Au × List Py × List Ck => [(7, .int .i64 (z.1 : Int))]) (fun z : Nat × List Au × List Py × List Ck => z.2.2.2 ++ H) (fun z : Nat × List Au × List Py × List Ck => acts.length - z.1) (⟨0, gs, [], C1⟩) (show 0 ≤ acts.length ∧ 0 ≤ 100 ∧ [].length ≤ 0 ∧ PsAt 57 p gs [] C1 ∧ PInv gs gs [] from ⟨Nat.zero_le _, Nat.zero_le _, Nat.zero_le _, h1, inv1⟩) (Sx.put rfl ((by repeat (first | exact Sx.refl | refine Sx.skip rfl ?_)))) (by repeat (first | exact Sp.here | exact Sp.sn | exact Sp.s0 | exact Fr.here | apply Sp.s2 | apply Sp.sx | apply Fr.fc | apply Fr.al | apply Fr.fa | apply Sp.sc | apply Sp.al | apply Sp.sa)) ?_
      rintro ⟨i, K1, L1, C2⟩ hI
      replace hI : i ≤ acts.length ∧ i ≤ 100 ∧ L1.length ≤ i ∧ PsAt 57 p K1 L1 C2 ∧ PInv gs K1 L1 := hI
      obtain ⟨hi, hi60, hcnt, h2, inv⟩ := hI
      change WC _ _ _ _ _ _ ([(7, .int .i64 (i : Int))] ++ _) (C2 ++ H)
      have hmany := inv.few2
      refine WC.seq ?_
      refine WC.seq ?_
      refine WC.region ?_
      refine WL.y rfl (Yd.move rfl) ?_
      refine WL.y rfl (Yd.move rfl) ?_
      refine WL.y rfl (Yd.len (e := 35) (by kernel_rfl) rfl) ?_
      refine WL.y rfl (Yd.lss rfl rfl) ?_
      refine WL.y rfl (Yd.move rfl) ?_
      refine WL.partP (t := 35) rfl (fun hg35 => ?_) (fun hg35 => ?_)
      · refine WL.gy (dj := 35) rfl rfl rfl (Yd.move rfl) ?_
        refine WL.gy (dj := 35) rfl rfl rfl (Yd.lss rfl rfl) ?_
        refine WL.y rfl (Yd.pickT rfl rfl) ?_
        refine WL.nil ?_
        refine DN.then_normal ?_
        refine WC.ite rfl (fun h38 => ?_) (fun h38 => ?_)
        · have hlt : i < acts.length := by omega
          obtain ⟨yb, yf, ys, yT, yfr, yex, rfl, _, hym, hys⟩ := hva.lies (by omega)
          refine WC.skip ?_
          refine DN.then_normal ?_
          refine WC.seq ?_
          refine WC.block ?_
          refine WC.seq ?_
          refine WC.region ?_
          refine WL.y rfl (Yd.move rfl) ?_
          refine WL.y rfl (Yd.move rfl) ?_
          refine WL.y rfl (Yd.indexAddr (e := 35) (s := 4) (by kernel_rfl) (by kernel_rfl) rfl rfl (by omega) (by omega)) ?_
          refine WL.y rfl (Yd.fieldAddr (k := 2) (by kernel_rfl) rfl) ?_
          refine WL.h rfl (Hd.load1 (v := .string acts[i].name) (b := yb) (o := yf + (i : Int).toNat * 4 + 2) (cs := ys) (by kernel_rfl) rfl (Gr.get (by repeat (first | exact Gr.refl | exact Gr.left Gr.refl | exact Gr.left (Gr.left Gr.refl) | exact Gr.left (Gr.app Gr.refl) | exact Gr.left (Gr.left (Gr.left Gr.refl)) | exact Gr.nil | exact Gr.app (Gr.left Gr.refl) | refine Gr.cons ?_ | refine Gr.app ?_ | refine Gr.both ?_ ?_ | refine Gr.put (by repeat (first | exact List.mem_cons_self | apply List.mem_cons_of_mem | apply List.mem_append_right)) ?_)) hym) (cell_atP (L := acts) cellsQ_len hys (by omega) (by omega)) ⟨_, rfl, ?_⟩)
          refine WL.y rfl (Yd.assign rfl) ?_
          refine WL.nil ?_
          refine DN.then_normal ?_
          refine WC.seq ?_
          refine WC.region ?_
          refine WL.y rfl (Yd.move rfl) ?_
          refine WL.c rfl (Ent.func Try.call17 rfl) (pays_tells p K1 L1 C2 h2 (by omega)) (Sp.p (by repeat (first | exact Sp.here | exact Sp.sn | exact Sp.s0 | exact Fr.here | apply Sp.s2 | apply Sp.sx | apply Fr.fc | apply Fr.al | apply Fr.fa | apply Sp.sc | apply Sp.al | apply Sp.sa))) ?_
          rintro q C5 ⟨T4, Ds4, hU4, hq4, rfl⟩
          have hm4 := hU4.perm.length_eq
          obtain ⟨to4, tc4, rfl, _⟩ := hq4.form
          have htk := told_keysP inv.keys hU4
          refine WL.y rfl (Yd.assign rfl) ?_
          refine WL.nil ?_
          refine DN.then_normal ?_
          refine WC.seq ?_
          refine WC.seq ?_
          refine WC.region ?_
          refine WL.y rfl (Yd.assign rfl) ?_
          refine WL.nil ?_
          refine DN.then_normal ?_
          refine WC.block ?_
          refine WC.loopS (fun z : Nat × ByteArray => z.1 ≤ T4.length ∧ z.2 = nameVP (T4.take z.1) acts[i]) (fun z : Nat × ByteArray => [(10, .int .i64 (z.1 : Int)), (8, .string z.2)]) (fun z : Nat × ByteArray => Ds4 ++ (C2 ++ H)) (fun z : Nat × ByteArray => T4.length - z.1) (⟨0, acts[i].name⟩) (show 0 ≤ T4.length ∧ acts[i].name = nameVP (T4.take 0) acts[i] from ⟨Nat.zero_le _, (nameVP_zero _).symm⟩) (Sx.put rfl (Sx.put rfl ((by repeat (first | exact Sx.refl | refine Sx.skip rfl ?_))))) (by repeat (first | exact Sp.here | exact Sp.sn | exact Sp.s0 | exact Fr.here | apply Sp.s2 | apply Sp.sx | apply Fr.fc | apply Fr.al | apply Fr.fa | apply Sp.sc | apply Sp.al | apply Sp.sa)) ?_
          rintro ⟨k, nmv⟩ hI
          replace hI : k ≤ T4.length ∧ nmv = nameVP (T4.take k) acts[i] := hI
          obtain ⟨hk, hz⟩ := hI
          change WC _ _ _ _ _ _ ([(10, .int .i64 (k : Int)), (8, .string nmv)] ++ _) (Ds4 ++ (C2 ++ H))
          refine WC.seq ?_
          refine WC.seq ?_
          refine WC.region ?_
          refine WL.y rfl (Yd.move rfl) ?_
          refine WL.y rfl (Yd.move rfl) ?_
          refine WL.y rfl (Yd.len (e := 48) (by kernel_rfl) rfl) ?_
          refine WL.y rfl (Yd.lss rfl rfl) ?_
          refine WL.nil ?_
          refine DN.then_normal ?_
          refine WC.ite rfl (fun h51 => ?_) (fun h51 => ?_)
          · have hklt : k < T4.length := by omega
            obtain ⟨ub, uf, us, uT, ufr, uex, rfl, _, hum, hus⟩ := hq4.rs.lies (by omega)
            have hstep := nameVP_step htk hklt acts[i]
            refine WC.skip ?_
            refine DN.then_normal ?_
            refine WC.seq ?_
            refine WC.block ?_
            refine WC.seq ?_
            refine WC.draw 27 (by kernel_rfl) rfl ?_
            refine WA.quiet 27 0 rfl rfl (by kernel_rfl) (by kernel_rfl) (by kernel_rfl) rfl ?_
            refine WQ.y rfl (Yd.move rfl) ?_
            refine WQ.y rfl (Yd.move rfl) ?_
            refine WQ.y rfl (Yd.indexAddr (e := 48) (s := 4) (by kernel_rfl) (by kernel_rfl) rfl rfl (by omega) (by omega)) ?_
            refine WQ.y rfl (Yd.fieldAddr (k := 0) (by kernel_rfl) rfl) ?_
            refine WQ.rd rfl Wt.none (Rd.load1 (v := .int .u32 T4[k].o.toNat) (b := ub) (o := uf + (k : Int).toNat * 4 + 0) (cs := us) (by kernel_rfl) rfl (Gr.get (by repeat (first | exact Gr.refl | exact Gr.left Gr.refl | exact Gr.left (Gr.left Gr.refl) | exact Gr.left (Gr.app Gr.refl) | exact Gr.left (Gr.left (Gr.left Gr.refl)) | exact Gr.nil | exact Gr.app (Gr.left Gr.refl) | refine Gr.cons ?_ | refine Gr.app ?_ | refine Gr.both ?_ ?_ | refine Gr.put (by repeat (first | exact List.mem_cons_self | apply List.mem_cons_of_mem | apply List.mem_append_right)) ?_)) hum) (cell_atP (L := T4) cellsP_len hus (by omega) (by omega))) ?_
            refine WQ.y rfl (Yd.move rfl) ?_
            refine WQ.y rfl (Yd.move rfl) ?_
            refine WQ.y rfl (Yd.indexAddr (e := 35) (s := 4) (by kernel_rfl) (by kernel_rfl) rfl rfl (by omega) (by omega)) ?_
            refine WQ.y rfl (Yd.fieldAddr (k := 1) (by kernel_rfl) rfl) ?_
            refine WQ.rd rfl Wt.none (Rd.load1 (v := .int .u32 acts[i].o.toNat) (b := yb) (o := yf + (i : Int).toNat * 4 + 1) (cs := ys) (by kernel_rfl) rfl (Gr.get (by repeat (first | exact Gr.refl | exact Gr.left Gr.refl | exact Gr.left (Gr.left Gr.refl) | exact Gr.left (Gr.app Gr.refl) | exact Gr.left (Gr.left (Gr.left Gr.refl)) | exact Gr.nil | exact Gr.app (Gr.left Gr.refl) | refine Gr.cons ?_ | refine Gr.app ?_ | refine Gr.both ?_ ?_ | refine Gr.put (by repeat (first | exact List.mem_cons_self | apply List.mem_cons_of_mem | apply List.mem_append_right)) ?_)) hym) (cell_atP (L := acts) cellsQ_len hys (by omega) (by omega))) ?_
            refine WQ.y rfl (Yd.eql32 _ _ rfl rfl rfl rfl) ?_
            refine WQ.y rfl (Yd.move rfl) ?_
            refine WQ.partP (t := 65) rfl (fun hg65 => ?_) (fun hg65 => ?_)
            · refine WQ.gy (dj := 65) rfl rfl rfl (Yd.move rfl) ?_
              refine WQ.gy (dj := 65) rfl rfl rfl (Yd.move rfl) ?_
              refine WQ.gy (dj := 65) rfl rfl rfl (Yd.indexAddr (e := 35) (s := 4) (by kernel_rfl) (by kernel_rfl) rfl rfl (by omega) (by omega)) ?_
              refine WQ.gy (dj := 65) rfl rfl rfl (Yd.fieldAddr (k := 0) (by kernel_rfl) rfl) ?_
              refine WQ.rd rfl (Wt.yes (dj := 65) rfl rfl) (Rd.load1 (v := .int .i64 acts[i].k) (b := yb) (o := yf + (i : Int).toNat * 4 + 0) (cs := ys) (by kernel_rfl) rfl (Gr.get (by repeat (first | exact Gr.refl | exact Gr.left Gr.refl | exact Gr.left (Gr.left Gr.refl) | exact Gr.left (Gr.app Gr.refl) | exact Gr.left (Gr.left (Gr.left Gr.refl)) | exact Gr.nil | exact Gr.app (Gr.left Gr.refl) | refine Gr.cons ?_ | refine Gr.app ?_ | refine Gr.both ?_ ?_ | refine Gr.put (by repeat (first | exact List.mem_cons_self | apply List.mem_cons_of_mem | apply List.mem_append_right)) ?_)) hym) (cell_atP (L := acts) cellsQ_len hys (by omega) (by omega))) ?_
              refine WQ.gy (dj := 65) rfl rfl rfl (Yd.neq rfl rfl) ?_
              refine WQ.y rfl (Yd.pickT rfl rfl) ?_
              refine WQ.y rfl (Yd.move rfl) ?_
              refine WQ.partP (t := 73) rfl (fun hg73 => ?_) (fun hg73 => ?_)
              · refine WQ.gy (dj := 73) rfl rfl rfl (Yd.move rfl) ?_
                refine WQ.gy (dj := 73) rfl rfl rfl (Yd.move rfl) ?_
                refine WQ.gy (dj := 73) rfl rfl rfl (Yd.indexAddr (e := 35) (s := 4) (by kernel_rfl) (by kernel_rfl) rfl rfl (by omega) (by omega)) ?_
                refine WQ.gy (dj := 73) rfl rfl rfl (Yd.fieldAddr (k := 0) (by kernel_rfl) rfl) ?_
                refine WQ.rd rfl (Wt.yes (dj := 73) rfl rfl) (Rd.load1 (v := .int .i64 acts[i].k) (b := yb) (o := yf + (i : Int).toNat * 4 + 0) (cs := ys) (by kernel_rfl) rfl (Gr.get (by repeat (first | exact Gr.refl | exact Gr.left Gr.refl | exact Gr.left (Gr.left Gr.refl) | exact Gr.left (Gr.app Gr.refl) | exact Gr.left (Gr.left (Gr.left Gr.refl)) | exact Gr.nil | exact Gr.app (Gr.left Gr.refl) | refine Gr.cons ?_ | refine Gr.app ?_ | refine Gr.both ?_ ?_ | refine Gr.put (by repeat (first | exact List.mem_cons_self | apply List.mem_cons_of_mem | apply List.mem_append_right)) ?_)) hym) (cell_atP (L := acts) cellsQ_len hys (by omega) (by omega))) ?_
                refine WQ.gy (dj := 73) rfl rfl rfl (Yd.neq rfl rfl) ?_
                refine WQ.y rfl (Yd.pickT rfl rfl) ?_
                refine WQ.nil ?_
                refine WA.done (by kernel_rfl) ?_
                refine DN.then_normal ?_
                refine WC.ite rfl (fun h80 => ?_) (fun h80 => ?_)
                · rw [if_pos ⟨hg65, by unfold isAuth; rw [decide_eq_false hg73, decide_eq_false h80]; rfl⟩] at hstep
                  refine WC.region ?_
                  refine WL.y rfl (Yd.move rfl) ?_
                  refine WL.y rfl (Yd.move rfl) ?_
                  refine WL.y rfl (Yd.indexAddr (e := 48) (s := 4) (by kernel_rfl) (by kernel_rfl) rfl rfl (by omega) (by omega)) ?_
                  refine WL.y rfl (Yd.fieldAddr (k := 1) (by kernel_rfl) rfl) ?_
                  refine WL.h rfl (Hd.load1 (v := .string T4[k].name) (b := ub) (o := uf + (k : Int).toNat * 4 + 1) (cs := us) (by kernel_rfl) rfl (Gr.get (by repeat (first | exact Gr.refl | exact Gr.left Gr.refl | exact Gr.left (Gr.left Gr.refl) | exact Gr.left (Gr.app Gr.refl) | exact Gr.left (Gr.left (Gr.left Gr.refl)) | exact Gr.nil | exact Gr.app (Gr.left Gr.refl) | refine Gr.cons ?_ | refine Gr.app ?_ | refine Gr.both ?_ ?_ | refine Gr.put (by repeat (first | exact List.mem_cons_self | apply List.mem_cons_of_mem | apply List.mem_append_right)) ?_)) hum) (cell_atP (L := T4) cellsP_len hus (by omega) (by omega)) ⟨_, rfl, ?_⟩)
                  refine WL.y rfl (Yd.assign rfl) ?_
                  refine WL.nil ?_
                  refine DN.block_normal ?_
                  refine DN.then_normal ?_
                  refine WC.region ?_
                  refine WL.y rfl (Yd.move rfl) ?_
                  refine WL.y rfl (Yd.add rfl rfl (by omega) (by omega)) ?_
                  refine WL.y rfl (Yd.assign rfl) ?_
                  refine WL.nil ?_
                  exact DN.againS (⟨k + 1, T4[k].name⟩) (show (k + 1) ≤ T4.length ∧ T4[k].name = nameVP (T4.take (k + 1)) acts[i] from ⟨by omega, by rw [hstep]⟩) (show T4.length - (k + 1) < T4.length - k by omega) (Sx.put rfl (Sx.put rfl ((by repeat (first | exact Sx.refl | refine Sx.skip rfl ?_))))) (by repeat (first | exact Sp.here | exact Sp.sn | exact Sp.s0 | exact Fr.here | apply Sp.s2 | apply Sp.sx | apply Fr.fc | apply Fr.al | apply Fr.fa | apply Sp.sc | apply Sp.al | apply Sp.sa))
                · rw [if_neg (fun e => by have := e.2; unfold isAuth at this; simp only [Bool.or_eq_false_iff, decide_eq_false_iff_not] at this; exact h80 this.2)] at hstep
                  refine WC.skip ?_
                  refine DN.block_normal ?_
                  refine DN.then_normal ?_
                  refine WC.region ?_
                  refine WL.y rfl (Yd.move rfl) ?_
                  refine WL.y rfl (Yd.add rfl rfl (by omega) (by omega)) ?_
                  refine WL.y rfl (Yd.assign rfl) ?_
                  refine WL.nil ?_
                  exact DN.againS (⟨k + 1, nmv⟩) (show (k + 1) ≤ T4.length ∧ nmv = nameVP (T4.take (k + 1)) acts[i] from ⟨by omega, by rw [hstep]; exact hz⟩) (show T4.length - (k + 1) < T4.length - k by omega) (Sx.put rfl (Sx.put rfl ((by repeat (first | exact Sx.refl | refine Sx.skip rfl ?_))))) (by repeat (first | exact Sp.here | exact Sp.sn | exact Sp.s0 | exact Fr.here | apply Sp.s2 | apply Sp.sx | apply Fr.fc | apply Fr.al | apply Fr.fa | apply Sp.sc | apply Sp.al | apply Sp.sa))
              · refine WQ.gn (dj := 73) rfl rfl rfl rfl ?_
                refine WQ.gn (dj := 73) rfl rfl rfl rfl ?_
                refine WQ.gn (dj := 73) rfl rfl rfl rfl ?_
                refine WQ.gn (dj := 73) rfl rfl rfl rfl ?_
                refine WQ.gn (dj := 73) rfl rfl rfl rfl ?_
                refine WQ.gn (dj := 73) rfl rfl rfl rfl ?_
                refine WQ.y rfl (Yd.pickF rfl rfl) ?_
                refine WQ.nil ?_
                refine WA.done (by kernel_rfl) ?_
                refine DN.then_normal ?_
                refine WC.no rfl ?_
                refine WC.skip ?_
                refine DN.block_normal ?_
                refine DN.then_normal ?_
                refine WC.region ?_
                refine WL.y rfl (Yd.move rfl) ?_
                refine WL.y rfl (Yd.add rfl rfl (by omega) (by omega)) ?_
                refine WL.y rfl (Yd.assign rfl) ?_
                refine WL.nil ?_
                exact DN.againS (⟨k + 1, nmv⟩) (show (k + 1) ≤ T4.length ∧ nmv = nameVP (T4.take (k + 1)) acts[i] from ⟨by omega, by rw [hstep, if_neg (fun e => by have := e.2; unfold isAuth at this; simp only [Bool.or_eq_false_iff, decide_eq_false_iff_not] at this; exact hg73 this.1)]; exact hz⟩) (show T4.length - (k + 1) < T4.length - k by omega) (Sx.put rfl (Sx.put rfl ((by repeat (first | exact Sx.refl | refine Sx.skip rfl ?_))))) (by repeat (first | exact Sp.here | exact Sp.sn | exact Sp.s0 | exact Fr.here | apply Sp.s2 | apply Sp.sx | apply Fr.fc | apply Fr.al | apply Fr.fa | apply Sp.sc | apply Sp.al | apply Sp.sa))
            · refine WQ.gn (dj := 65) rfl rfl rfl rfl ?_
              refine WQ.gn (dj := 65) rfl rfl rfl rfl ?_
              refine WQ.gn (dj := 65) rfl rfl rfl rfl ?_
              refine WQ.gn (dj := 65) rfl rfl rfl rfl ?_
              refine WQ.gn (dj := 65) rfl rfl rfl rfl ?_
              refine WQ.gn (dj := 65) rfl rfl rfl rfl ?_
              refine WQ.y rfl (Yd.pickF rfl rfl) ?_
              refine WQ.y rfl (Yd.move rfl) ?_
              refine WQ.gn (dj := 73) rfl rfl rfl rfl ?_
              refine WQ.gn (dj := 73) rfl rfl rfl rfl ?_
              refine WQ.gn (dj := 73) rfl rfl rfl rfl ?_
              refine WQ.gn (dj := 73) rfl rfl rfl rfl ?_
              refine WQ.gn (dj := 73) rfl rfl rfl rfl ?_
              refine WQ.gn (dj := 73) rfl rfl rfl rfl ?_
              refine WQ.y rfl (Yd.pickF rfl rfl) ?_
              refine WQ.nil ?_
              refine WA.done (by kernel_rfl) ?_
              refine DN.then_normal ?_
              refine WC.no rfl ?_
              refine WC.skip ?_
              refine DN.block_normal ?_
              refine DN.then_normal ?_
              refine WC.region ?_
              refine WL.y rfl (Yd.move rfl) ?_
              refine WL.y rfl (Yd.add rfl rfl (by omega) (by omega)) ?_
              refine WL.y rfl (Yd.assign rfl) ?_
              refine WL.nil ?_
              exact DN.againS (⟨k + 1, nmv⟩) (show (k + 1) ≤ T4.length ∧ nmv = nameVP (T4.take (k + 1)) acts[i] from ⟨by omega, by rw [hstep, if_neg (fun e => hg65 e.1)]; exact hz⟩) (show T4.length - (k + 1) < T4.length - k by omega) (Sx.put rfl (Sx.put rfl ((by repeat (first | exact Sx.refl | refine Sx.skip rfl ?_))))) (by repeat (first | exact Sp.here | exact Sp.sn | exact Sp.s0 | exact Fr.here | apply Sp.s2 | apply Sp.sx | apply Fr.fc | apply Fr.al | apply Fr.fa | apply Sp.sc | apply Sp.al | apply Sp.sa))
          · obtain rfl : k = T4.length := by omega
            rw [List.take_length, nameVP_perm inv.keys hU4] at hz
            refine WC.exit ?_
            refine DN.then_exit ?_
            refine DN.then_exit ?_
            refine DN.block_exit ?_
            refine DN.then_normal ?_
            refine WC.seq ?_
            refine WC.region ?_
            refine WL.y rfl (Yd.move rfl) ?_
            refine WL.c rfl (Ent.func Try.call16 rfl) (accs_tells p K1 L1 C2 h2 (by omega)) (Sp.p (by repeat (first | exact Sp.here | exact Sp.sn | exact Sp.s0 | exact Fr.here | apply Sp.s2 | apply Sp.sx | apply Fr.fc | apply Fr.al | apply Fr.fa | apply Sp.sc | apply Sp.al | apply Sp.sa))) ?_
            rintro q C5 ⟨S4, Cs4, hT4, ho4, rfl⟩
            have hl4 := hT4.perm.length_eq
            obtain ⟨so4, sc4, rfl, _⟩ := ho4.form
            refine WL.y rfl (Yd.assign rfl) ?_
            refine WL.nil ?_
            refine DN.then_normal ?_
            refine WC.seq ?_
            refine WC.region ?_
            refine WL.y rfl (Yd.move rfl) ?_
            refine WL.y rfl (Yd.move rfl) ?_
            refine WL.y rfl (Yd.move rfl) ?_
            refine WL.elemA (e := 35) (s := 4) (by kernel_rfl) (by kernel_rfl) (by kernel_rfl) rfl rfl (rfl) (hva.mono (by repeat (first | exact Gr.refl | exact Gr.left Gr.refl | exact Gr.left (Gr.left Gr.refl) | exact Gr.left (Gr.app Gr.refl) | exact Gr.left (Gr.left (Gr.left Gr.refl)) | exact Gr.nil | exact Gr.app (Gr.left Gr.refl) | refine Gr.cons ?_ | refine Gr.app ?_ | refine Gr.both ?_ ?_ | refine Gr.put (by repeat (first | exact List.mem_cons_self | apply List.mem_cons_of_mem | apply List.mem_append_right)) ?_))) (flat_row cellsQ 4 cellsQ_len acts i hlt) (by rfl) (by omega) (hlt) rfl rfl ?_
            intro p91
            refine WL.c rfl (Ent.func Try.call13 rfl) (act_tells p gs K1 L1 C2 h2 inv acts[i]) (Sp.p (by repeat (first | exact Sp.here | exact Sp.sn | exact Sp.s0 | exact Fr.here | apply Sp.s2 | apply Sp.sx | apply Fr.fc | apply Fr.al | apply Fr.fa | apply Sp.sc | apply Sp.al | apply Sp.sa))) ?_
            rintro q C3 ⟨rfl, h3⟩
            obtain ⟨inv3, hcnt3⟩ := inv.act acts[i]
            have hor := actVP_or K1 L1 acts[i]
            obtain ⟨K3, hK3⟩ : ∃ x, x = actKP K1 L1 acts[i] := ⟨_, rfl⟩
            obtain ⟨L3, hL3⟩ : ∃ x, x = actLP K1 L1 acts[i] := ⟨_, rfl⟩
            rw [← hK3, ← hL3] at h3 inv3
            rw [← hL3] at hcnt3
            have hmany3 := inv3.few2
            refine WL.y rfl (Yd.assign rfl) ?_
            refine WL.nil ?_
            refine DN.then_normal ?_
            refine WC.seq ?_
            refine WC.region ?_
            refine WL.y rfl (Yd.move rfl) ?_
            refine WL.c rfl (Ent.func Try.call16 rfl) (accs_tells p K3 L3 C3 h3 (by omega)) (Sp.p (by repeat (first | exact Sp.here | exact Sp.sn | exact Sp.s0 | exact Fr.here | apply Sp.s2 | apply Sp.sx | apply Fr.fc | apply Fr.al | apply Fr.fa | apply Sp.sc | apply Sp.al | apply Sp.sa))) ?_
            rintro q C6 ⟨S5, Cs5, hT5, ho5, rfl⟩
            have hl5 := hT5.perm.length_eq
            obtain ⟨so5, sc5, rfl, _⟩ := ho5.form
            have hnm5 := told_namesU inv.knd (inv3.names.trans inv.names.symm) hT4 hT5
            refine WL.y rfl (Yd.assign rfl) ?_
            refine WL.nil ?_
            refine DN.then_normal ?_
            refine WC.seq ?_
            refine WC.seq ?_
            refine WC.region ?_
            refine WL.y rfl (Yd.assign rfl) ?_
            refine WL.nil ?_
            refine DN.then_normal ?_
            refine WC.block ?_
            refine WC.loopS (fun z : Nat => z ≤ S5.length) (fun z : Nat => [(14, .int .i64 (z : Int))]) (fun z : Nat => Cs5 ++ (Cs4 ++ (C3 ++ H))) (fun z : Nat => S5.length - z) (0) (show 0 ≤ S5.length from Nat.zero_le _) (Sx.put rfl ((by repeat (first | exact Sx.refl | refine Sx.skip rfl ?_)))) (by repeat (first | exact Sp.here | exact Sp.sn | exact Sp.s0 | exact Fr.here | apply Sp.s2 | apply Sp.sx | apply Fr.fc | apply Fr.al | apply Fr.fa | apply Sp.sc | apply Sp.al | apply Sp.sa)) ?_
            rintro k hI
            replace hI : k ≤ S5.length := hI
            obtain hk := hI
            change WC _ _ _ _ _ _ ([(14, .int .i64 (k : Int))] ++ _) (Cs5 ++ (Cs4 ++ (C3 ++ H)))
            refine WC.seq ?_
            refine WC.seq ?_
            refine WC.region ?_
            refine WL.y rfl (Yd.move rfl) ?_
            refine WL.y rfl (Yd.move rfl) ?_
            refine WL.y rfl (Yd.len (e := 46) (by kernel_rfl) rfl) ?_
            refine WL.y rfl (Yd.lss rfl rfl) ?_
            refine WL.y rfl (Yd.move rfl) ?_
            refine WL.partP (t := 100) rfl (fun hg100 => ?_) (fun hg100 => ?_)
            · refine WL.gy (dj := 100) rfl rfl rfl (Yd.move rfl) ?_
              refine WL.gy (dj := 100) rfl rfl rfl (Yd.move rfl) ?_
              refine WL.gy (dj := 100) rfl rfl rfl (Yd.len (e := 46) (by kernel_rfl) rfl) ?_
              refine WL.gy (dj := 100) rfl rfl rfl (Yd.lss rfl rfl) ?_
              refine WL.y rfl (Yd.pickT rfl rfl) ?_
              refine WL.nil ?_
              refine DN.then_normal ?_
              refine WC.ite rfl (fun h105 => ?_) (fun h105 => ?_)
              · have hklt : k < S5.length := by omega
                have hk4 : k < S4.length := by omega
                obtain ⟨ub, uf, us, uT, ufr, uex, rfl, _, hum, hus⟩ := ho5.rs.lies (by omega)
                obtain ⟨wb, wf, ws, wT, wfr, wex, rfl, _, hwm, hws⟩ := ho4.rs.lies (by omega)
                have hn5 := hnm5.2 k hklt hk4
                have hf5 := told_acc inv3.knd hT5 (List.getElem_mem hklt)
                have hf4 := told_acc inv.knd hT4 (List.getElem_mem hk4)
                have hap : S5[k].name ≠ nameVP L1 acts[i] → acc (actKP K1 L1 acts[i]) S5[k].name = acc K1 S5[k].name := act_apartP K1 L1 _
                refine WC.skip ?_
                refine DN.then_normal ?_
                refine WC.seq ?_
                refine WC.block ?_
                refine WC.seq ?_
                refine WC.draw 35 (by kernel_rfl) rfl ?_
                refine WA.quiet 35 0 rfl rfl (by kernel_rfl) (by kernel_rfl) (by kernel_rfl) rfl ?_
                refine WQ.y rfl (Yd.move rfl) ?_
                refine WQ.y rfl (Yd.move rfl) ?_
                refine WQ.y rfl (Yd.indexAddr (e := 46) (s := 3) (by kernel_rfl) (by kernel_rfl) rfl rfl (by omega) (by omega)) ?_
                refine WQ.y rfl (Yd.fieldAddr (k := 0) (by kernel_rfl) rfl) ?_
                refine WQ.rd rfl Wt.none (Rd.load1 (v := .string S5[k].name) (b := ub) (o := uf + (k : Int).toNat * 3 + 0) (cs := us) (by kernel_rfl) rfl (Gr.get (by repeat (first | exact Gr.refl | exact Gr.left Gr.refl | exact Gr.left (Gr.left Gr.refl) | exact Gr.left (Gr.app Gr.refl) | exact Gr.left (Gr.left (Gr.left Gr.refl)) | exact Gr.nil | exact Gr.app (Gr.left Gr.refl) | refine Gr.cons ?_ | refine Gr.app ?_ | refine Gr.both ?_ ?_ | refine Gr.put (by repeat (first | exact List.mem_cons_self | apply List.mem_cons_of_mem | apply List.mem_append_right)) ?_)) hum) (cell_atP (L := S5) cellsU_len hus (by omega) (by omega))) ?_
                refine WQ.y rfl (Yd.move rfl) ?_
                refine WQ.y rfl (Yd.move rfl) ?_
                refine WQ.y rfl (Yd.indexAddr (e := 46) (s := 3) (by kernel_rfl) (by kernel_rfl) rfl rfl (by omega) (by omega)) ?_
                refine WQ.y rfl (Yd.fieldAddr (k := 0) (by kernel_rfl) rfl) ?_
                refine WQ.rd rfl Wt.none (Rd.load1 (v := .string S4[k].name) (b := wb) (o := wf + (k : Int).toNat * 3 + 0) (cs := ws) (by kernel_rfl) rfl (Gr.get (by repeat (first | exact Gr.refl | exact Gr.left Gr.refl | exact Gr.left (Gr.left Gr.refl) | exact Gr.left (Gr.app Gr.refl) | exact Gr.left (Gr.left (Gr.left Gr.refl)) | exact Gr.nil | exact Gr.app (Gr.left Gr.refl) | refine Gr.cons ?_ | refine Gr.app ?_ | refine Gr.both ?_ ?_ | refine Gr.put (by repeat (first | exact List.mem_cons_self | apply List.mem_cons_of_mem | apply List.mem_append_right)) ?_)) hwm) (cell_atP (L := S4) cellsU_len hws (by omega) (by omega))) ?_
                refine WQ.y rfl (Yd.neqS rfl rfl) ?_
                refine WQ.renamed (t := 118) (v := .bool false) rfl (congrArg Value.bool (decide_eq_false (fun h => h hn5))) ?_
                refine WQ.y rfl (Yd.move rfl) ?_
                refine WQ.gy (dj := 119) rfl rfl rfl (Yd.move rfl) ?_
                refine WQ.gy (dj := 119) rfl rfl rfl (Yd.move rfl) ?_
                refine WQ.gy (dj := 119) rfl rfl rfl (Yd.indexAddr (e := 46) (s := 3) (by kernel_rfl) (by kernel_rfl) rfl rfl (by omega) (by omega)) ?_
                refine WQ.rd rfl (Wt.yes (dj := 119) rfl rfl) (Rd.loadA (n := 3) (b := ub) (o := uf + (k : Int).toNat * 3) (cs := us) (vs := cellsU S5[k]) (by kernel_rfl) rfl (Gr.get (by repeat (first | exact Gr.refl | exact Gr.left Gr.refl | exact Gr.left (Gr.left Gr.refl) | exact Gr.left (Gr.app Gr.refl) | exact Gr.left (Gr.left (Gr.left Gr.refl)) | exact Gr.nil | exact Gr.app (Gr.left Gr.refl) | refine Gr.cons ?_ | refine Gr.app ?_ | refine Gr.both ?_ ?_ | refine Gr.put (by repeat (first | exact List.mem_cons_self | apply List.mem_cons_of_mem | apply List.mem_append_right)) ?_)) hum) (cellsU_len _) (rs_cell hus (by rw [flat_len cellsU 3 cellsU_len]; omega) (flat_row cellsU 3 cellsU_len S5 k (by omega)))) ?_
                refine WQ.gy (dj := 119) rfl rfl rfl (Yd.move rfl) ?_
                refine WQ.gy (dj := 119) rfl rfl rfl (Yd.move rfl) ?_
                refine WQ.gy (dj := 119) rfl rfl rfl (Yd.indexAddr (e := 46) (s := 3) (by kernel_rfl) (by kernel_rfl) rfl rfl (by omega) (by omega)) ?_
                refine WQ.rd rfl (Wt.yes (dj := 119) rfl rfl) (Rd.loadA (n := 3) (b := wb) (o := wf + (k : Int).toNat * 3) (cs := ws) (vs := cellsU S4[k]) (by kernel_rfl) rfl (Gr.get (by repeat (first | exact Gr.refl | exact Gr.left Gr.refl | exact Gr.left (Gr.left Gr.refl) | exact Gr.left (Gr.app Gr.refl) | exact Gr.left (Gr.left (Gr.left Gr.refl)) | exact Gr.nil | exact Gr.app (Gr.left Gr.refl) | refine Gr.cons ?_ | refine Gr.app ?_ | refine Gr.both ?_ ?_ | refine Gr.put (by repeat (first | exact List.mem_cons_self | apply List.mem_cons_of_mem | apply List.mem_append_right)) ?_)) hwm) (cellsU_len _) (rs_cell hws (by rw [flat_len cellsU 3 cellsU_len]; omega) (flat_row cellsU 3 cellsU_len S4 k (by omega)))) ?_
                refine WQ.gy (dj := 119) rfl rfl rfl (Yd.neqSt [1, 0, 0] (by kernel_rfl) rfl rfl (same_au S5[k] S4[k])) ?_
                refine WQ.gy (dj := 119) rfl rfl rfl (Yd.move rfl) ?_
                refine WQ.part (t := 129) rfl (fun hg129 => ?_) (fun hg129 => ?_)
                · refine WQ.gy (dj := 129) rfl rfl rfl (Yd.move rfl) ?_
                  refine WQ.gy (dj := 129) rfl rfl rfl (Yd.neq rfl rfl) ?_
                  refine WQ.renamed (t := 131) (v := .bool false) rfl (congrArg Value.bool (decide_eq_false (by rcases hor with h | h; exact fun e => e h; exfalso; have e1 : S5[k] = S4[k] := (by rw [← hf5, ← hf4, ← hn5, hK3, h.2.1]); simp [e1] at hg129))) ?_
                  refine WQ.gy (dj := 129) rfl rfl rfl (Yd.move rfl) ?_
                  refine WQ.gy (dj := 132) rfl rfl rfl (Yd.move rfl) ?_
                  refine WQ.gy (dj := 132) rfl rfl rfl (Yd.move rfl) ?_
                  refine WQ.gy (dj := 132) rfl rfl rfl (Yd.indexAddr (e := 46) (s := 3) (by kernel_rfl) (by kernel_rfl) rfl rfl (by omega) (by omega)) ?_
                  refine WQ.gy (dj := 132) rfl rfl rfl (Yd.fieldAddr (k := 0) (by kernel_rfl) rfl) ?_
                  refine WQ.rd rfl (Wt.yes (dj := 132) rfl rfl) (Rd.load1 (v := .string S5[k].name) (b := ub) (o := uf + (k : Int).toNat * 3 + 0) (cs := us) (by kernel_rfl) rfl (Gr.get (by repeat (first | exact Gr.refl | exact Gr.left Gr.refl | exact Gr.left (Gr.left Gr.refl) | exact Gr.left (Gr.app Gr.refl) | exact Gr.left (Gr.left (Gr.left Gr.refl)) | exact Gr.nil | exact Gr.app (Gr.left Gr.refl) | refine Gr.cons ?_ | refine Gr.app ?_ | refine Gr.both ?_ ?_ | refine Gr.put (by repeat (first | exact List.mem_cons_self | apply List.mem_cons_of_mem | apply List.mem_append_right)) ?_)) hum) (cell_atP (L := S5) cellsU_len hus (by omega) (by omega))) ?_
                  refine WQ.gy (dj := 132) rfl rfl rfl (Yd.move rfl) ?_
                  refine WQ.gy (dj := 132) rfl rfl rfl (Yd.neqS rfl rfl) ?_
                  refine WQ.renamed (t := 139) (v := .bool false) rfl (congrArg Value.bool (decide_eq_false (fun h => by have e1 : S5[k] = S4[k] := (by rw [← hf5, ← hf4, ← hn5, hK3]; exact hap (by rw [← hz]; exact h)); simp [e1] at hg129))) ?_
                  refine WQ.gy (dj := 129) rfl rfl rfl (Yd.pickF rfl rfl) ?_
                  refine WQ.gy (dj := 119) rfl rfl rfl (Yd.pickT rfl rfl) ?_
                  refine WQ.y rfl (Yd.pickF rfl rfl) ?_
                  refine WQ.nil ?_
                  refine WA.done (by kernel_rfl) ?_
                  refine DN.then_normal ?_
                  refine WC.no rfl ?_
                  refine WC.skip ?_
                  refine DN.block_normal ?_
                  refine DN.then_normal ?_
                  refine WC.region ?_
                  refine WL.y rfl (Yd.move rfl) ?_
                  refine WL.y rfl (Yd.add rfl rfl (by omega) (by omega)) ?_
                  refine WL.y rfl (Yd.assign rfl) ?_
                  refine WL.nil ?_
                  exact DN.againS (k + 1) (show (k + 1) ≤ S5.length from (by omega)) (show S5.length - (k + 1) < S5.length - k by omega) (Sx.put rfl ((by repeat (first | exact Sx.refl | refine Sx.skip rfl ?_)))) (by repeat (first | exact Sp.here | exact Sp.sn | exact Sp.s0 | exact Fr.here | apply Sp.s2 | apply Sp.sx | apply Fr.fc | apply Fr.al | apply Fr.fa | apply Sp.sc | apply Sp.al | apply Sp.sa))
                · refine WQ.gn (dj := 129) rfl rfl rfl rfl ?_
                  refine WQ.gn (dj := 129) rfl rfl rfl rfl ?_
                  refine WQ.gn (dj := 129) rfl rfl rfl rfl ?_
                  refine WQ.gu (dj := 132) rfl rfl rfl ?_
                  refine WQ.gu (dj := 132) rfl rfl rfl ?_
                  refine WQ.gu (dj := 132) rfl rfl rfl ?_
                  refine WQ.gu (dj := 132) rfl rfl rfl ?_
                  refine WQ.gu (dj := 132) rfl rfl rfl ?_
                  refine WQ.gu (dj := 132) rfl rfl rfl ?_
                  refine WQ.gu (dj := 132) rfl rfl rfl ?_
                  refine WQ.gn (dj := 129) rfl rfl rfl rfl ?_
                  refine WQ.gy (dj := 119) rfl rfl rfl (Yd.pickF rfl rfl) ?_
                  refine WQ.y rfl (Yd.pickF rfl rfl) ?_
                  refine WQ.nil ?_
                  refine WA.done (by kernel_rfl) ?_
                  refine DN.then_normal ?_
                  refine WC.no rfl ?_
                  refine WC.skip ?_
                  refine DN.block_normal ?_
                  refine DN.then_normal ?_
                  refine WC.region ?_
                  refine WL.y rfl (Yd.move rfl) ?_
                  refine WL.y rfl (Yd.add rfl rfl (by omega) (by omega)) ?_
                  refine WL.y rfl (Yd.assign rfl) ?_
                  refine WL.nil ?_
                  exact DN.againS (k + 1) (show (k + 1) ≤ S5.length from (by omega)) (show S5.length - (k + 1) < S5.length - k by omega) (Sx.put rfl ((by repeat (first | exact Sx.refl | refine Sx.skip rfl ?_)))) (by repeat (first | exact Sp.here | exact Sp.sn | exact Sp.s0 | exact Fr.here | apply Sp.s2 | apply Sp.sx | apply Fr.fc | apply Fr.al | apply Fr.fa | apply Sp.sc | apply Sp.al | apply Sp.sa))
              · refine WC.exit ?_
                refine DN.then_exit ?_
                refine DN.then_exit ?_
                refine DN.block_exit ?_
                refine DN.then_normal ?_
                refine WC.seq ?_
                refine WC.region ?_
                refine WL.y rfl (Yd.move rfl) ?_
                refine WL.y rfl (Yd.len (e := 46) (by kernel_rfl) rfl) ?_
                refine WL.y rfl (Yd.move rfl) ?_
                refine WL.y rfl (Yd.len (e := 46) (by kernel_rfl) rfl) ?_
                refine WL.y rfl (Yd.neq rfl rfl) ?_
                refine WL.renamed (t := 147) (v := .bool false) rfl (congrArg Value.bool (decide_eq_false (by omega))) ?_
                refine WL.nil ?_
                refine DN.then_normal ?_
                refine WC.no rfl ?_
                refine WC.skip ?_
                refine DN.block_normal ?_
                refine DN.then_normal ?_
                refine WC.region ?_
                refine WL.y rfl (Yd.move rfl) ?_
                refine WL.y rfl (Yd.add rfl rfl (by omega) (by omega)) ?_
                refine WL.y rfl (Yd.assign rfl) ?_
                refine WL.nil ?_
                exact DN.againS (⟨i + 1, K3, L3, C3⟩) (show (i + 1) ≤ acts.length ∧ (i + 1) ≤ 100 ∧ L3.length ≤ (i + 1) ∧ PsAt 57 p K3 L3 C3 ∧ PInv gs K3 L3 from ⟨by omega, by omega, by omega, h3, inv3⟩) (show acts.length - (i + 1) < acts.length - i by omega) (Sx.put rfl ((by repeat (first | exact Sx.refl | refine Sx.skip rfl ?_)))) (by repeat (first | exact Sp.here | exact Sp.sn | exact Sp.s0 | exact Fr.here | apply Sp.s2 | apply Sp.sx | apply Fr.fc | apply Fr.al | apply Fr.fa | apply Sp.sc | apply Sp.al | apply Sp.sa))
            · refine WL.gn (dj := 100) rfl rfl rfl rfl ?_
              refine WL.gn (dj := 100) rfl rfl rfl rfl ?_
              refine WL.gn (dj := 100) rfl rfl rfl rfl ?_
              refine WL.gn (dj := 100) rfl rfl rfl rfl ?_
              refine WL.y rfl (Yd.pickF rfl rfl) ?_
              refine WL.nil ?_
              refine DN.then_normal ?_
              refine WC.no rfl ?_
              refine WC.exit ?_
              refine DN.then_exit ?_
              refine DN.then_exit ?_
              refine DN.block_exit ?_
              refine DN.then_normal ?_
              refine WC.seq ?_
              refine WC.region ?_
              refine WL.y rfl (Yd.move rfl) ?_
              refine WL.y rfl (Yd.len (e := 46) (by kernel_rfl) rfl) ?_
              refine WL.y rfl (Yd.move rfl) ?_
              refine WL.y rfl (Yd.len (e := 46) (by kernel_rfl) rfl) ?_
              refine WL.y rfl (Yd.neq rfl rfl) ?_
              refine WL.renamed (t := 147) (v := .bool false) rfl (congrArg Value.bool (decide_eq_false (by omega))) ?_
              refine WL.nil ?_
              refine DN.then_normal ?_
              refine WC.no rfl ?_
              refine WC.skip ?_
              refine DN.block_normal ?_
              refine DN.then_normal ?_
              refine WC.region ?_
              refine WL.y rfl (Yd.move rfl) ?_
              refine WL.y rfl (Yd.add rfl rfl (by omega) (by omega)) ?_
              refine WL.y rfl (Yd.assign rfl) ?_
              refine WL.nil ?_
              exact DN.againS (⟨i + 1, K3, L3, C3⟩) (show (i + 1) ≤ acts.length ∧ (i + 1) ≤ 100 ∧ L3.length ≤ (i + 1) ∧ PsAt 57 p K3 L3 C3 ∧ PInv gs K3 L3 from ⟨by omega, by omega, by omega, h3, inv3⟩) (show acts.length - (i + 1) < acts.length - i by omega) (Sx.put rfl ((by repeat (first | exact Sx.refl | refine Sx.skip rfl ?_)))) (by repeat (first | exact Sp.here | exact Sp.sn | exact Sp.s0 | exact Fr.here | apply Sp.s2 | apply Sp.sx | apply Fr.fc | apply Fr.al | apply Fr.fa | apply Sp.sc | apply Sp.al | apply Sp.sa))
        · refine WC.exit ?_
          refine DN.then_exit ?_
          refine DN.then_exit ?_
          refine DN.block_exit ?_
          refine DN.then_normal ?_
          refine WC.seq ?_
          refine WC.region ?_
          refine WL.r rfl (Ent.func Try.call10 rfl) (known10 _) ?_
          refine WL.y rfl (Yd.assign rfl) ?_
          refine WL.nil ?_
          refine DN.then_normal ?_
          refine WC.ret ?_
          refine DN.fit (C := H) (by repeat (first | exact Sp.here | exact Sp.sn | exact Sp.s0 | exact Fr.here | apply Sp.s2 | apply Sp.sx | apply Fr.fc | apply Fr.al | apply Fr.fa | apply Sp.sc | apply Sp.al | apply Sp.sa)) ?_
          refine DN.ret1 Try.results8 rfl ?_
          exact ⟨rfl, rfl⟩
      · refine WL.gn (dj := 35) rfl rfl rfl rfl ?_
        refine WL.gn (dj := 35) rfl rfl rfl rfl ?_
        refine WL.y rfl (Yd.pickF rfl rfl) ?_
        refine WL.nil ?_
        refine DN.then_normal ?_
        refine WC.no rfl ?_
        refine WC.exit ?_
        refine DN.then_exit ?_
        refine DN.then_exit ?_
        refine DN.block_exit ?_
        refine DN.then_normal ?_
        refine WC.seq ?_
        refine WC.region ?_
        refine WL.r rfl (Ent.func Try.call10 rfl) (known10 _) ?_
        refine WL.y rfl (Yd.assign rfl) ?_
        refine WL.nil ?_
        refine DN.then_normal ?_
        refine WC.ret ?_
        refine DN.fit (C := H) (by repeat (first | exact Sp.here | exact Sp.sn | exact Sp.s0 | exact Fr.here | apply Sp.s2 | apply Sp.sx | apply Fr.fc | apply Fr.al | apply Fr.fa | apply Sp.sc | apply Sp.al | apply Sp.sa)) ?_
        refine DN.ret1 Try.results8 rfl ?_
        exact ⟨rfl, rfl⟩
    · refine WC.region ?_
      refine WL.y rfl (Yd.move rfl) ?_
      refine WL.ca rfl (Ent.func Try.call11 rfl) (new_tells _ gs H hv hl) ?_
      rintro q H1 hq
      first | (have inv1 := PInv.start hA; obtain ⟨p, C1, rfl, h1, rfl⟩ := new_inP hq hA) | (obtain ⟨rfl, hHq⟩ := new_outP hq hA; rw [hHq])
      refine WL.y rfl (Yd.move rfl) ?_
      refine WL.y rfl (Yd.extract rfl rfl) ?_
      refine WL.y rfl (Yd.extract rfl rfl) ?_
      refine WL.y rfl (Yd.assign rfl) ?_
      refine WL.y rfl (Yd.assign rfl) ?_
      refine WL.nil ?_
      refine DN.then_normal ?_
      refine WC.seq ?_
      refine WC.seq ?_
      refine WC.region ?_
      refine WL.y rfl (Yd.move rfl) ?_
      refine WL.y rfl (Yd.neq rfl rfl) ?_
      refine WL.renamed (t := 25) (v := .bool true) rfl (congrArg Value.bool (by decide)) ?_
      refine WL.nil ?_
      refine DN.then_normal ?_
      refine WC.yes rfl ?_
      refine WC.seq ?_
      refine WC.region ?_
      refine WL.y rfl (Yd.move rfl) ?_
      refine WL.y rfl (Yd.eqlNil Try.underlying26 rfl rfl) ?_
      refine WL.renamed (t := 27) (v := .bool true) rfl (congrArg Value.bool (rfl)) ?_
      refine WL.y rfl (Yd.move rfl) ?_
      refine WL.gr (dj := 28) rfl rfl rfl (Ent.func Try.call10 rfl) (known10 _) ?_
      refine WL.y rfl (Yd.pickT rfl rfl) ?_
      refine WL.y rfl (Yd.assign rfl) ?_
      refine WL.nil ?_
      refine DN.then_normal ?_
      refine WC.ret ?_
      refine DN.then_ret ?_
      refine DN.fit (C := H) (by repeat (first | exact Sp.here | exact Sp.sn | exact Sp.s0 | exact Fr.here | apply Sp.s2 | apply Sp.sx | apply Fr.fc | apply Fr.al | apply Fr.fa | apply Sp.sc | apply Sp.al | apply Sp.sa)) ?_
      refine DN.ret1 Try.results8 rfl ?_
      exact ⟨rfl, rfl⟩

end Go.Proofs.Ytllfnigodikbaaa
