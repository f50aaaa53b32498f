/-
  The walk of StockApart.
-/
import Derived.Test.YtdbbkodjhmfjfaaStock6
set_option linter.unusedVariables false
set_option linter.unusedSimpArgs false
set_option maxHeartbeats 4000000
namespace Go.Proofs.Ytdbbkodjhmfjfaa
open Go.SL


/-- drayage/drayagelaw09.StockApart -/
theorem law_StockApart (H : List Ck) (v : Value) (gs : List Gd) (hg : ∀ g ∈ gs, g.gone = 0) (hv : Rs v gs.length (gs.flatMap cellsG) H) (hl : gs.length ≤ 9223372036854775807) (va : Value) (acts : List Ac9) (hva : Rs va acts.length (acts.flatMap cellsA) H) (hla : acts.length ≤ 9223372036854775807) : Reads Try.prog 7 [v, va] H (.bool true) := by
  refine Tells.enter Try.func7 rfl Try.ntmps7 rfl ?_
  intro w0 R
  obtain ⟨vo, vc, rfl, hvc⟩ := hv.form
  obtain ⟨ao, ac, rfl, hac⟩ := hva.form
  refine WC.seq ?_
  refine WC.region ?_
  refine WL.y rfl (Yd.assign rfl) ?_
  refine WL.nil ?_
  refine DN.then_normal ?_
  refine WC.seq ?_
  refine WC.seq ?_
  refine WC.region ?_
  refine WL.y rfl (Yd.move rfl) ?_
  refine WL.y rfl (Yd.move rfl) ?_
  refine WL.rf rfl (Ent.func Try.call9 rfl) (long_reads _ _ gs acts H hv hva hl hla) (by repeat (first | exact Sp.here | exact Sp.sn | exact Sp.s0 | exact Fr.here | apply Sp.s2 | apply Sp.sx | apply Fr.fc | apply Fr.al | apply Fr.fa | apply Sp.sc | apply Sp.al | apply Sp.sa)) ?_
  refine WL.nil ?_
  refine DN.then_normal ?_
  refine WC.cond rfl (fun h22 => ?_) (fun h22 => ?_)
  · refine WC.seq ?_
    refine WC.region ?_
    refine WL.r rfl (Ent.func Try.call10 rfl) (known09 _) ?_
    refine WL.y rfl (Yd.assign rfl) ?_
    refine WL.nil ?_
    refine DN.then_normal ?_
    refine WC.ret ?_
    refine DN.then_ret ?_
    refine DN.fit (C := H) (by repeat (first | exact Sp.here | exact Sp.sn | exact Sp.s0 | exact Fr.here | apply Sp.s2 | apply Sp.sx | apply Fr.fc | apply Fr.al | apply Fr.fa | apply Sp.sc | apply Sp.al | apply Sp.sa)) ?_
    refine DN.ret1 Try.results7 rfl ?_
    exact ⟨rfl, rfl⟩
  · refine WC.skip ?_
    refine DN.then_normal ?_
    refine WC.seq ?_
    rcases Classical.em (GoodL gs) with hA | hA
    · refine WC.region ?_
      refine WL.y rfl (Yd.move rfl) ?_
      refine WL.ca rfl (Ent.func Try.call11 rfl) (new_tells _ gs hg H hv hl) ?_
      rintro q H1 hq
      first | (obtain ⟨p, C1, rfl, h1, rfl⟩ := new_in hq hA; have inv1 := hA.inv hg) | (obtain ⟨rfl, hHq⟩ := new_out hq hA; rw [hHq])
      refine WL.y rfl (Yd.move rfl) ?_
      refine WL.y rfl (Yd.extract rfl rfl) ?_
      refine WL.y rfl (Yd.extract rfl rfl) ?_
      refine WL.y rfl (Yd.assign rfl) ?_
      refine WL.y rfl (Yd.assign rfl) ?_
      refine WL.nil ?_
      refine DN.then_normal ?_
      refine WC.seq ?_
      refine WC.region ?_
      refine WL.y rfl (Yd.move rfl) ?_
      refine WL.ca rfl (Ent.func Try.call11 rfl) (new_tells _ gs hg _ (by first | exact hv | exact hv.mono fun y hy => List.mem_append_right _ hy) hl) ?_
      rintro q H1 hq
      first | (have inv7 := hA.inv hg; obtain ⟨p2, C7, rfl, h7, rfl⟩ := new_in hq hA) | (obtain ⟨rfl, hHq⟩ := new_out hq hA; rw [hHq])
      refine WL.y rfl (Yd.move rfl) ?_
      refine WL.y rfl (Yd.extract rfl rfl) ?_
      refine WL.y rfl (Yd.extract rfl rfl) ?_
      refine WL.y rfl (Yd.assign rfl) ?_
      refine WL.y rfl (Yd.assign rfl) ?_
      refine WL.nil ?_
      refine DN.then_normal ?_
      refine WC.seq ?_
      refine WC.seq ?_
      refine WC.region ?_
      refine WL.y rfl (Yd.move rfl) ?_
      refine WL.y rfl (Yd.move rfl) ?_
      refine WL.y rfl (Yd.neq rfl rfl) ?_
      refine WL.renamed (t := 36) (v := .bool false) rfl (congrArg Value.bool (by decide)) ?_
      refine WL.y rfl (Yd.move rfl) ?_
      refine WL.gy (dj := 37) rfl rfl rfl (Yd.move rfl) ?_
      refine WL.gy (dj := 37) rfl rfl rfl (Yd.neq rfl rfl) ?_
      refine WL.renamed (t := 39) (v := .bool false) rfl (congrArg Value.bool (by decide)) ?_
      refine WL.y rfl (Yd.pickF rfl rfl) ?_
      refine WL.nil ?_
      refine DN.then_normal ?_
      refine WC.no rfl ?_
      refine WC.skip ?_
      refine DN.then_normal ?_
      refine WC.seq ?_
      refine WC.region ?_
      refine WL.y rfl (Yd.move rfl) ?_
      refine WL.c rfl (Ent.func Try.call12 rfl) (goods_tells p2 gs [] C7 h7 (by have := hA.1; omega)) (Sp.p (by repeat (first | exact Sp.here | exact Sp.sn | exact Sp.s0 | exact Fr.here | apply Sp.s2 | apply Sp.sx | apply Fr.fc | apply Fr.al | apply Fr.fa | apply Sp.sc | apply Sp.al | apply Sp.sa))) ?_
      rintro q C5 ⟨S9, Cs9, hT9, ho9, rfl⟩
      have hl9 := hT9.perm.length_eq
      obtain ⟨so9, sc9, rfl, _⟩ := ho9.form
      have hfew := hA.1
      refine WL.y rfl (Yd.assign rfl) ?_
      refine WL.nil ?_
      refine DN.then_normal ?_
      refine WC.seq ?_
      refine WC.seq ?_
      refine WC.region ?_
      refine WL.y rfl (Yd.assign rfl) ?_
      refine WL.nil ?_
      refine DN.then_normal ?_
      refine WC.block ?_
      refine WC.loopS (fun z : Nat × List Gd × List Ho × List Ck => z.1 ≤ acts.length ∧ StAt 57 p z.2.1 z.2.2.1 z.2.2.2 ∧ SInv gs z.2.1 z.2.2.1) (fun z : Nat × List Gd × List Ho × List Ck => [(10, .int .i64 (z.1 : Int))]) (fun z : Nat × List Gd × List Ho × List Ck => z.2.2.2 ++ (Cs9 ++ (C7 ++ H))) (fun z : Nat × List Gd × List Ho × List Ck => acts.length - z.1) (⟨0, gs, [], C1⟩) (show 0 ≤ acts.length ∧ StAt 57 p gs [] C1 ∧ SInv gs gs [] from ⟨Nat.zero_le _, h1, inv1⟩) (Sx.put rfl ((by repeat (first | exact Sx.refl | refine Sx.skip rfl ?_)))) (by repeat (first | exact Sp.here | exact Sp.sn | exact Sp.s0 | exact Fr.here | apply Sp.s2 | apply Sp.sx | apply Fr.fc | apply Fr.al | apply Fr.fa | apply Sp.sc | apply Sp.al | apply Sp.sa)) ?_
      rintro ⟨i, K1, L1, C2⟩ hI
      replace hI : i ≤ acts.length ∧ StAt 57 p K1 L1 C2 ∧ SInv gs K1 L1 := hI
      obtain ⟨hi, h2, inv⟩ := hI
      change WC _ _ _ _ _ _ ([(10, .int .i64 (i : Int))] ++ _) (C2 ++ (Cs9 ++ (C7 ++ H)))
      have hmany := inv.many
      refine WC.seq ?_
      refine WC.seq ?_
      refine WC.region ?_
      refine WL.y rfl (Yd.move rfl) ?_
      refine WL.y rfl (Yd.move rfl) ?_
      refine WL.y rfl (Yd.len (e := 41) (by kernel_rfl) rfl) ?_
      refine WL.y rfl (Yd.lss rfl rfl) ?_
      refine WL.y rfl (Yd.move rfl) ?_
      refine WL.partP (t := 53) rfl (fun hg53 => ?_) (fun hg53 => ?_)
      · refine WL.gy (dj := 53) rfl rfl rfl (Yd.move rfl) ?_
        refine WL.gy (dj := 53) rfl rfl rfl (Yd.lss rfl rfl) ?_
        refine WL.y rfl (Yd.pickT rfl rfl) ?_
        refine WL.nil ?_
        refine DN.then_normal ?_
        refine WC.ite rfl (fun h56 => ?_) (fun h56 => ?_)
        · have hlt : i < acts.length := by omega
          obtain ⟨yb, yf, ys, yT, yfr, yex, rfl, _, hym, hys⟩ := hva.lies (by omega)
          refine WC.skip ?_
          refine DN.then_normal ?_
          refine WC.seq ?_
          refine WC.block ?_
          refine WC.seq ?_
          refine WC.region ?_
          refine WL.y rfl (Yd.move rfl) ?_
          refine WL.c rfl (Ent.func Try.call12 rfl) (goods_tells p K1 L1 C2 h2 (by omega)) (Sp.p (by repeat (first | exact Sp.here | exact Sp.sn | exact Sp.s0 | exact Fr.here | apply Sp.s2 | apply Sp.sx | apply Fr.fc | apply Fr.al | apply Fr.fa | apply Sp.sc | apply Sp.al | apply Sp.sa))) ?_
          rintro q C5 ⟨S4, Cs4, hT4, ho4, rfl⟩
          have hl4 := hT4.perm.length_eq
          obtain ⟨so4, sc4, rfl, _⟩ := ho4.form
          refine WL.y rfl (Yd.assign rfl) ?_
          refine WL.nil ?_
          refine DN.then_normal ?_
          refine WC.seq ?_
          refine WC.region ?_
          refine WL.y rfl (Yd.move rfl) ?_
          refine WL.c rfl (Ent.func Try.call18 rfl) (holds_tells p K1 L1 C2 h2 (by omega)) (Sp.p (by repeat (first | exact Sp.here | exact Sp.sn | exact Sp.s0 | exact Fr.here | apply Sp.s2 | apply Sp.sx | apply Fr.fc | apply Fr.al | apply Fr.fa | apply Sp.sc | apply Sp.al | apply Sp.sa))) ?_
          rintro q C5 ⟨T4, Ds4, hU4, hq4, rfl⟩
          have hm4 := hU4.perm.length_eq
          obtain ⟨to4, tc4, rfl, _⟩ := hq4.form
          have htk := told_keys inv.keys hU4
          refine WL.y rfl (Yd.assign rfl) ?_
          refine WL.nil ?_
          refine DN.then_normal ?_
          refine WC.seq ?_
          refine WC.region ?_
          refine WL.y rfl (Yd.move rfl) ?_
          refine WL.y rfl (Yd.move rfl) ?_
          refine WL.y rfl (Yd.move rfl) ?_
          refine WL.elemA (e := 41) (s := 4) (by kernel_rfl) (by kernel_rfl) (by kernel_rfl) rfl rfl (rfl) (hva.mono (by repeat (first | exact Gr.refl | exact Gr.left Gr.refl | exact Gr.left (Gr.left Gr.refl) | exact Gr.left (Gr.app Gr.refl) | exact Gr.left (Gr.left (Gr.left Gr.refl)) | exact Gr.nil | exact Gr.app (Gr.left Gr.refl) | refine Gr.cons ?_ | refine Gr.app ?_ | refine Gr.both ?_ ?_ | refine Gr.put (by repeat (first | exact List.mem_cons_self | apply List.mem_cons_of_mem | apply List.mem_append_right)) ?_))) (flat_row cellsA 4 cellsA_len acts i hlt) (by rfl) (by omega) (hlt) rfl rfl ?_
          intro p66
          refine WL.c rfl (Ent.func Try.call15 rfl) (act_tells p gs K1 L1 C2 h2 inv acts[i]) (Sp.p (by repeat (first | exact Sp.here | exact Sp.sn | exact Sp.s0 | exact Fr.here | apply Sp.s2 | apply Sp.sx | apply Fr.fc | apply Fr.al | apply Fr.fa | apply Sp.sc | apply Sp.al | apply Sp.sa))) ?_
          rintro q C3 ⟨rfl, h3⟩
          have inv3 := inv.act acts[i]
          obtain ⟨K3, hK3⟩ : ∃ x, x = actKs K1 L1 acts[i] := ⟨_, rfl⟩
          obtain ⟨L3, hL3⟩ : ∃ x, x = actLs K1 L1 acts[i] := ⟨_, rfl⟩
          rw [← hK3, ← hL3] at h3 inv3
          have hmany3 := inv3.many
          refine WL.y rfl (Yd.assign rfl) ?_
          refine WL.nil ?_
          refine DN.then_normal ?_
          refine WC.seq ?_
          refine WC.region ?_
          refine WL.y rfl (Yd.move rfl) ?_
          refine WL.y rfl (Yd.move rfl) ?_
          refine WL.y rfl (Yd.indexAddr (e := 41) (s := 4) (by kernel_rfl) (by kernel_rfl) rfl rfl (by omega) (by omega)) ?_
          refine WL.y rfl (Yd.fieldAddr (k := 2) (by kernel_rfl) rfl) ?_
          refine WL.h rfl (Hd.load1 (v := .string acts[i].name) (b := yb) (o := yf + (i : Int).toNat * 4 + 2) (cs := ys) (by kernel_rfl) rfl (Gr.get (by repeat (first | exact Gr.refl | exact Gr.left Gr.refl | exact Gr.left (Gr.left Gr.refl) | exact Gr.left (Gr.app Gr.refl) | exact Gr.left (Gr.left (Gr.left Gr.refl)) | exact Gr.nil | exact Gr.app (Gr.left Gr.refl) | refine Gr.cons ?_ | refine Gr.app ?_ | refine Gr.both ?_ ?_ | refine Gr.put (by repeat (first | exact List.mem_cons_self | apply List.mem_cons_of_mem | apply List.mem_append_right)) ?_)) hym) (cell_at2 (L := acts) cellsA_len hys (by omega) (by omega)) ⟨_, rfl, ?_⟩)
          refine WL.y rfl (Yd.assign rfl) ?_
          refine WL.nil ?_
          refine DN.then_normal ?_
          refine WC.cutK (fun nf : ByteArray => nf = nameOf L1 acts[i]) (fun nf : ByteArray => [(14, .string nf)]) (fun nf : ByteArray => Cs4 ++ (C3 ++ (Cs9 ++ (C7 ++ H)))) ?_ ?_
          · refine WC.seq ?_
            refine WC.region ?_
            refine WL.y rfl (Yd.assign rfl) ?_
            refine WL.nil ?_
            refine DN.then_normal ?_
            refine WC.block ?_
            refine WC.loopS (fun z : Nat × ByteArray => z.1 ≤ T4.length ∧ (isHold acts[i] = false ∨ z.1 = 0) ∧ z.2 = nameUp (T4.take z.1) acts[i]) (fun z : Nat × ByteArray => [(15, .int .i64 (z.1 : Int)), (14, .string z.2)]) (fun z : Nat × ByteArray => Ds4 ++ (Cs4 ++ (C3 ++ (Cs9 ++ (C7 ++ H))))) (fun z : Nat × ByteArray => T4.length - z.1) (⟨0, acts[i].name⟩) (show 0 ≤ T4.length ∧ (isHold acts[i] = false ∨ 0 = 0) ∧ acts[i].name = nameUp (T4.take 0) acts[i] from ⟨Nat.zero_le _, .inr rfl, rfl⟩) (Sx.put rfl (Sx.put rfl ((by repeat (first | exact Sx.refl | refine Sx.skip rfl ?_))))) (by repeat (first | exact Sp.here | exact Sp.sn | exact Sp.s0 | exact Fr.here | apply Sp.s2 | apply Sp.sx | apply Fr.fc | apply Fr.al | apply Fr.fa | apply Sp.sc | apply Sp.al | apply Sp.sa)) ?_
            rintro ⟨k, nmv⟩ hI
            replace hI : k ≤ T4.length ∧ (isHold acts[i] = false ∨ k = 0) ∧ nmv = nameUp (T4.take k) acts[i] := hI
            obtain ⟨hk, hor, hz⟩ := hI
            change WC _ _ _ _ _ _ ([(15, .int .i64 (k : Int)), (14, .string nmv)] ++ _) (Ds4 ++ (Cs4 ++ (C3 ++ (Cs9 ++ (C7 ++ H)))))
            refine WC.seq ?_
            refine WC.seq ?_
            refine WC.region ?_
            refine WL.y rfl (Yd.move rfl) ?_
            refine WL.y rfl (Yd.move rfl) ?_
            refine WL.y rfl (Yd.len (e := 50) (by kernel_rfl) rfl) ?_
            refine WL.y rfl (Yd.lss rfl rfl) ?_
            refine WL.y rfl (Yd.move rfl) ?_
            refine WL.partP (t := 78) rfl (fun hg78 => ?_) (fun hg78 => ?_)
            · refine WL.gy (dj := 78) rfl rfl rfl (Yd.move rfl) ?_
              refine WL.gy (dj := 78) rfl rfl rfl (Yd.move rfl) ?_
              refine WL.gy (dj := 78) rfl rfl rfl (Yd.indexAddr (e := 41) (s := 4) (by kernel_rfl) (by kernel_rfl) rfl rfl (by omega) (by omega)) ?_
              refine WL.gy (dj := 78) rfl rfl rfl (Yd.fieldAddr (k := 0) (by kernel_rfl) rfl) ?_
              refine WL.gh (dj := 78) rfl rfl rfl (Hd.load1 (v := .int .i64 acts[i].k) (b := yb) (o := yf + (i : Int).toNat * 4 + 0) (cs := ys) (by kernel_rfl) rfl (Gr.get (by repeat (first | exact Gr.refl | exact Gr.left Gr.refl | exact Gr.left (Gr.left Gr.refl) | exact Gr.left (Gr.app Gr.refl) | exact Gr.left (Gr.left (Gr.left Gr.refl)) | exact Gr.nil | exact Gr.app (Gr.left Gr.refl) | refine Gr.cons ?_ | refine Gr.app ?_ | refine Gr.both ?_ ?_ | refine Gr.put (by repeat (first | exact List.mem_cons_self | apply List.mem_cons_of_mem | apply List.mem_append_right)) ?_)) hym) (cell_at2 (L := acts) cellsA_len hys (by omega) (by omega)) ⟨_, rfl, ?_⟩)
              refine WL.gy (dj := 78) rfl rfl rfl (Yd.neq rfl rfl) ?_
              refine WL.y rfl (Yd.pickT rfl rfl) ?_
              refine WL.y rfl (Yd.move rfl) ?_
              refine WL.partP (t := 86) rfl (fun hg86 => ?_) (fun hg86 => ?_)
              · refine WL.gy (dj := 86) rfl rfl rfl (Yd.move rfl) ?_
                refine WL.gy (dj := 86) rfl rfl rfl (Yd.move rfl) ?_
                refine WL.gy (dj := 86) rfl rfl rfl (Yd.indexAddr (e := 41) (s := 4) (by kernel_rfl) (by kernel_rfl) rfl rfl (by omega) (by omega)) ?_
                refine WL.gy (dj := 86) rfl rfl rfl (Yd.fieldAddr (k := 0) (by kernel_rfl) rfl) ?_
                refine WL.gh (dj := 86) rfl rfl rfl (Hd.load1 (v := .int .i64 acts[i].k) (b := yb) (o := yf + (i : Int).toNat * 4 + 0) (cs := ys) (by kernel_rfl) rfl (Gr.get (by repeat (first | exact Gr.refl | exact Gr.left Gr.refl | exact Gr.left (Gr.left Gr.refl) | exact Gr.left (Gr.app Gr.refl) | exact Gr.left (Gr.left (Gr.left Gr.refl)) | exact Gr.nil | exact Gr.app (Gr.left Gr.refl) | refine Gr.cons ?_ | refine Gr.app ?_ | refine Gr.both ?_ ?_ | refine Gr.put (by repeat (first | exact List.mem_cons_self | apply List.mem_cons_of_mem | apply List.mem_append_right)) ?_)) hym) (cell_at2 (L := acts) cellsA_len hys (by omega) (by omega)) ⟨_, rfl, ?_⟩)
                refine WL.gy (dj := 86) rfl rfl rfl (Yd.neq rfl rfl) ?_
                refine WL.y rfl (Yd.pickT rfl rfl) ?_
                refine WL.nil ?_
                refine DN.then_normal ?_
                refine WC.ite rfl (fun h93 => ?_) (fun h93 => ?_)
                · have hklt : k < T4.length := by omega
                  obtain ⟨ub, uf, us, uT, ufr, uex, rfl, _, hum, hus⟩ := hq4.rs.lies (by omega)
                  have hstep := name_step htk hklt acts[i]
                  have hnh : isHold acts[i] = false := by unfold isHold; rw [decide_eq_false hg86, decide_eq_false h93]; rfl
                  refine WC.skip ?_
                  refine DN.then_normal ?_
                  refine WC.seq ?_
                  refine WC.block ?_
                  refine WC.seq ?_
                  refine WC.draw 11 (by kernel_rfl) rfl ?_
                  refine WA.y (i := 0) (NoPanic.then (NoPanic.block (NoPanic.then (NoPanic.then (NoPanic.block (NoPanic.then (NoPanic.block (NoPanic.then (NoPanic.then (NoPanic.block (NoPanic.then (NoPanic.body)))))))))))) rfl (by kernel_rfl) (by kernel_rfl) (by kernel_rfl) rfl (Yd.move rfl) ?_
                  refine WA.y (i := 1) (NoPanic.then (NoPanic.block (NoPanic.then (NoPanic.then (NoPanic.block (NoPanic.then (NoPanic.block (NoPanic.then (NoPanic.then (NoPanic.block (NoPanic.then (NoPanic.body)))))))))))) rfl (by kernel_rfl) (by kernel_rfl) (by kernel_rfl) rfl (Yd.move rfl) ?_
                  refine WA.y (i := 2) (NoPanic.then (NoPanic.block (NoPanic.then (NoPanic.then (NoPanic.block (NoPanic.then (NoPanic.block (NoPanic.then (NoPanic.then (NoPanic.block (NoPanic.then (NoPanic.body)))))))))))) rfl (by kernel_rfl) (by kernel_rfl) (by kernel_rfl) rfl (Yd.indexAddr (e := 50) (s := 3) (by kernel_rfl) (by kernel_rfl) rfl rfl (by omega) (by omega)) ?_
                  refine WA.y (i := 3) (NoPanic.then (NoPanic.block (NoPanic.then (NoPanic.then (NoPanic.block (NoPanic.then (NoPanic.block (NoPanic.then (NoPanic.then (NoPanic.block (NoPanic.then (NoPanic.body)))))))))))) rfl (by kernel_rfl) (by kernel_rfl) (by kernel_rfl) rfl (Yd.fieldAddr (k := 0) (by kernel_rfl) rfl) ?_
                  refine WA.y (i := 5) (NoPanic.then (NoPanic.block (NoPanic.then (NoPanic.then (NoPanic.block (NoPanic.then (NoPanic.block (NoPanic.then (NoPanic.then (NoPanic.block (NoPanic.then (NoPanic.body)))))))))))) rfl (by kernel_rfl) (by kernel_rfl) (by kernel_rfl) rfl (Yd.move rfl) ?_
                  refine WA.y (i := 6) (NoPanic.then (NoPanic.block (NoPanic.then (NoPanic.then (NoPanic.block (NoPanic.then (NoPanic.block (NoPanic.then (NoPanic.then (NoPanic.block (NoPanic.then (NoPanic.body)))))))))))) rfl (by kernel_rfl) (by kernel_rfl) (by kernel_rfl) rfl (Yd.move rfl) ?_
                  refine WA.y (i := 7) (NoPanic.then (NoPanic.block (NoPanic.then (NoPanic.then (NoPanic.block (NoPanic.then (NoPanic.block (NoPanic.then (NoPanic.then (NoPanic.block (NoPanic.then (NoPanic.body)))))))))))) rfl (by kernel_rfl) (by kernel_rfl) (by kernel_rfl) rfl (Yd.indexAddr (e := 41) (s := 4) (by kernel_rfl) (by kernel_rfl) rfl rfl (by omega) (by omega)) ?_
                  refine WA.y (i := 8) (NoPanic.then (NoPanic.block (NoPanic.then (NoPanic.then (NoPanic.block (NoPanic.then (NoPanic.block (NoPanic.then (NoPanic.then (NoPanic.block (NoPanic.then (NoPanic.body)))))))))))) rfl (by kernel_rfl) (by kernel_rfl) (by kernel_rfl) rfl (Yd.fieldAddr (k := 1) (by kernel_rfl) rfl) ?_
                  refine WA.two (i := 4) (j := 9) (by kernel_rfl) ?_ ?_
                  · refine WO.h rfl Wt.none rfl (Hd.load1 (v := .int .u32 T4[k].o.toNat) (b := ub) (o := uf + (k : Int).toNat * 3 + 0) (cs := us) (by kernel_rfl) rfl (Gr.get (by repeat (first | exact Gr.refl | exact Gr.left Gr.refl | exact Gr.left (Gr.left Gr.refl) | exact Gr.left (Gr.app Gr.refl) | exact Gr.left (Gr.left (Gr.left Gr.refl)) | exact Gr.nil | exact Gr.app (Gr.left Gr.refl) | refine Gr.cons ?_ | refine Gr.app ?_ | refine Gr.both ?_ ?_ | refine Gr.put (by repeat (first | exact List.mem_cons_self | apply List.mem_cons_of_mem | apply List.mem_append_right)) ?_)) hum) (cell_at2 (L := T4) cellsH_len hus (by omega) (by omega)) ⟨_, rfl, ?_⟩)
                    refine WA.one (i := 9) (by kernel_rfl) ?_
                    refine WO.h rfl Wt.none rfl (Hd.load1 (v := .int .u32 acts[i].o.toNat) (b := yb) (o := yf + (i : Int).toNat * 4 + 1) (cs := ys) (by kernel_rfl) rfl (Gr.get (by repeat (first | exact Gr.refl | exact Gr.left Gr.refl | exact Gr.left (Gr.left Gr.refl) | exact Gr.left (Gr.app Gr.refl) | exact Gr.left (Gr.left (Gr.left Gr.refl)) | exact Gr.nil | exact Gr.app (Gr.left Gr.refl) | refine Gr.cons ?_ | refine Gr.app ?_ | refine Gr.both ?_ ?_ | refine Gr.put (by repeat (first | exact List.mem_cons_self | apply List.mem_cons_of_mem | apply List.mem_append_right)) ?_)) hym) (cell_at2 (L := acts) cellsA_len hys (by omega) (by omega)) ⟨_, rfl, ?_⟩)
                    refine WA.y (i := 10) (NoPanic.then (NoPanic.block (NoPanic.then (NoPanic.then (NoPanic.block (NoPanic.then (NoPanic.block (NoPanic.then (NoPanic.then (NoPanic.block (NoPanic.then (NoPanic.body)))))))))))) rfl (by kernel_rfl) (by kernel_rfl) (by kernel_rfl) rfl (Yd.eql32 _ _ rfl rfl rfl rfl) ?_
                    refine WA.done (by kernel_rfl) ?_
                    refine DN.then_normal ?_
                    refine WC.ite rfl (fun h106 => ?_) (fun h106 => ?_)
                    · rw [if_pos h106] at hstep
                      refine WC.region ?_
                      refine WL.y rfl (Yd.move rfl) ?_
                      refine WL.y rfl (Yd.move rfl) ?_
                      refine WL.y rfl (Yd.indexAddr (e := 50) (s := 3) (by kernel_rfl) (by kernel_rfl) rfl rfl (by omega) (by omega)) ?_
                      refine WL.y rfl (Yd.fieldAddr (k := 1) (by kernel_rfl) rfl) ?_
                      refine WL.h rfl (Hd.load1 (v := .string T4[k].name) (b := ub) (o := uf + (k : Int).toNat * 3 + 1) (cs := us) (by kernel_rfl) rfl (Gr.get (by repeat (first | exact Gr.refl | exact Gr.left Gr.refl | exact Gr.left (Gr.left Gr.refl) | exact Gr.left (Gr.app Gr.refl) | exact Gr.left (Gr.left (Gr.left Gr.refl)) | exact Gr.nil | exact Gr.app (Gr.left Gr.refl) | refine Gr.cons ?_ | refine Gr.app ?_ | refine Gr.both ?_ ?_ | refine Gr.put (by repeat (first | exact List.mem_cons_self | apply List.mem_cons_of_mem | apply List.mem_append_right)) ?_)) hum) (cell_at2 (L := T4) cellsH_len hus (by omega) (by omega)) ⟨_, rfl, ?_⟩)
                      refine WL.y rfl (Yd.assign rfl) ?_
                      refine WL.nil ?_
                      refine DN.block_normal ?_
                      refine DN.then_normal ?_
                      refine WC.region ?_
                      refine WL.y rfl (Yd.move rfl) ?_
                      refine WL.y rfl (Yd.add rfl rfl (by omega) (by omega)) ?_
                      refine WL.y rfl (Yd.assign rfl) ?_
                      refine WL.nil ?_
                      exact DN.againS (⟨k + 1, T4[k].name⟩) (show (k + 1) ≤ T4.length ∧ (isHold acts[i] = false ∨ (k + 1) = 0) ∧ T4[k].name = nameUp (T4.take (k + 1)) acts[i] from ⟨by omega, .inl hnh, by rw [hstep]⟩) (show T4.length - (k + 1) < T4.length - k by omega) (Sx.put rfl (Sx.put rfl ((by repeat (first | exact Sx.refl | refine Sx.skip rfl ?_))))) (by repeat (first | exact Sp.here | exact Sp.sn | exact Sp.s0 | exact Fr.here | apply Sp.s2 | apply Sp.sx | apply Fr.fc | apply Fr.al | apply Fr.fa | apply Sp.sc | apply Sp.al | apply Sp.sa))
                    · rw [if_neg h106] at hstep
                      refine WC.skip ?_
                      refine DN.block_normal ?_
                      refine DN.then_normal ?_
                      refine WC.region ?_
                      refine WL.y rfl (Yd.move rfl) ?_
                      refine WL.y rfl (Yd.add rfl rfl (by omega) (by omega)) ?_
                      refine WL.y rfl (Yd.assign rfl) ?_
                      refine WL.nil ?_
                      exact DN.againS (⟨k + 1, nmv⟩) (show (k + 1) ≤ T4.length ∧ (isHold acts[i] = false ∨ (k + 1) = 0) ∧ nmv = nameUp (T4.take (k + 1)) acts[i] from ⟨by omega, .inl hnh, by rw [hstep]; exact hz⟩) (show T4.length - (k + 1) < T4.length - k by omega) (Sx.put rfl (Sx.put rfl ((by repeat (first | exact Sx.refl | refine Sx.skip rfl ?_))))) (by repeat (first | exact Sp.here | exact Sp.sn | exact Sp.s0 | exact Fr.here | apply Sp.s2 | apply Sp.sx | apply Fr.fc | apply Fr.al | apply Fr.fa | apply Sp.sc | apply Sp.al | apply Sp.sa))
                  · refine WO.h rfl Wt.none rfl (Hd.load1 (v := .int .u32 acts[i].o.toNat) (b := yb) (o := yf + (i : Int).toNat * 4 + 1) (cs := ys) (by kernel_rfl) rfl (Gr.get (by repeat (first | exact Gr.refl | exact Gr.left Gr.refl | exact Gr.left (Gr.left Gr.refl) | exact Gr.left (Gr.app Gr.refl) | exact Gr.left (Gr.left (Gr.left Gr.refl)) | exact Gr.nil | exact Gr.app (Gr.left Gr.refl) | refine Gr.cons ?_ | refine Gr.app ?_ | refine Gr.both ?_ ?_ | refine Gr.put (by repeat (first | exact List.mem_cons_self | apply List.mem_cons_of_mem | apply List.mem_append_right)) ?_)) hym) (cell_at2 (L := acts) cellsA_len hys (by omega) (by omega)) ⟨_, rfl, ?_⟩)
                    refine WA.one (i := 4) (by kernel_rfl) ?_
                    refine WO.h rfl Wt.none rfl (Hd.load1 (v := .int .u32 T4[k].o.toNat) (b := ub) (o := uf + (k : Int).toNat * 3 + 0) (cs := us) (by kernel_rfl) rfl (Gr.get (by repeat (first | exact Gr.refl | exact Gr.left Gr.refl | exact Gr.left (Gr.left Gr.refl) | exact Gr.left (Gr.app Gr.refl) | exact Gr.left (Gr.left (Gr.left Gr.refl)) | exact Gr.nil | exact Gr.app (Gr.left Gr.refl) | refine Gr.cons ?_ | refine Gr.app ?_ | refine Gr.both ?_ ?_ | refine Gr.put (by repeat (first | exact List.mem_cons_self | apply List.mem_cons_of_mem | apply List.mem_append_right)) ?_)) hum) (cell_at2 (L := T4) cellsH_len hus (by omega) (by omega)) ⟨_, rfl, ?_⟩)
                    refine WA.y (i := 10) (NoPanic.then (NoPanic.block (NoPanic.then (NoPanic.then (NoPanic.block (NoPanic.then (NoPanic.block (NoPanic.then (NoPanic.then (NoPanic.block (NoPanic.then (NoPanic.body)))))))))))) rfl (by kernel_rfl) (by kernel_rfl) (by kernel_rfl) rfl (Yd.eql32 _ _ rfl rfl rfl rfl) ?_
                    refine WA.done (by kernel_rfl) ?_
                    refine DN.then_normal ?_
                    refine WC.ite rfl (fun h106 => ?_) (fun h106 => ?_)
                    · rw [if_pos h106] at hstep
                      refine WC.region ?_
                      refine WL.y rfl (Yd.move rfl) ?_
                      refine WL.y rfl (Yd.move rfl) ?_
                      refine WL.y rfl (Yd.indexAddr (e := 50) (s := 3) (by kernel_rfl) (by kernel_rfl) rfl rfl (by omega) (by omega)) ?_
                      refine WL.y rfl (Yd.fieldAddr (k := 1) (by kernel_rfl) rfl) ?_
                      refine WL.h rfl (Hd.load1 (v := .string T4[k].name) (b := ub) (o := uf + (k : Int).toNat * 3 + 1) (cs := us) (by kernel_rfl) rfl (Gr.get (by repeat (first | exact Gr.refl | exact Gr.left Gr.refl | exact Gr.left (Gr.left Gr.refl) | exact Gr.left (Gr.app Gr.refl) | exact Gr.left (Gr.left (Gr.left Gr.refl)) | exact Gr.nil | exact Gr.app (Gr.left Gr.refl) | refine Gr.cons ?_ | refine Gr.app ?_ | refine Gr.both ?_ ?_ | refine Gr.put (by repeat (first | exact List.mem_cons_self | apply List.mem_cons_of_mem | apply List.mem_append_right)) ?_)) hum) (cell_at2 (L := T4) cellsH_len hus (by omega) (by omega)) ⟨_, rfl, ?_⟩)
                      refine WL.y rfl (Yd.assign rfl) ?_
                      refine WL.nil ?_
                      refine DN.block_normal ?_
                      refine DN.then_normal ?_
                      refine WC.region ?_
                      refine WL.y rfl (Yd.move rfl) ?_
                      refine WL.y rfl (Yd.add rfl rfl (by omega) (by omega)) ?_
                      refine WL.y rfl (Yd.assign rfl) ?_
                      refine WL.nil ?_
                      exact DN.againS (⟨k + 1, T4[k].name⟩) (show (k + 1) ≤ T4.length ∧ (isHold acts[i] = false ∨ (k + 1) = 0) ∧ T4[k].name = nameUp (T4.take (k + 1)) acts[i] from ⟨by omega, .inl hnh, by rw [hstep]⟩) (show T4.length - (k + 1) < T4.length - k by omega) (Sx.put rfl (Sx.put rfl ((by repeat (first | exact Sx.refl | refine Sx.skip rfl ?_))))) (by repeat (first | exact Sp.here | exact Sp.sn | exact Sp.s0 | exact Fr.here | apply Sp.s2 | apply Sp.sx | apply Fr.fc | apply Fr.al | apply Fr.fa | apply Sp.sc | apply Sp.al | apply Sp.sa))
                    · rw [if_neg h106] at hstep
                      refine WC.skip ?_
                      refine DN.block_normal ?_
                      refine DN.then_normal ?_
                      refine WC.region ?_
                      refine WL.y rfl (Yd.move rfl) ?_
                      refine WL.y rfl (Yd.add rfl rfl (by omega) (by omega)) ?_
                      refine WL.y rfl (Yd.assign rfl) ?_
                      refine WL.nil ?_
                      exact DN.againS (⟨k + 1, nmv⟩) (show (k + 1) ≤ T4.length ∧ (isHold acts[i] = false ∨ (k + 1) = 0) ∧ nmv = nameUp (T4.take (k + 1)) acts[i] from ⟨by omega, .inl hnh, by rw [hstep]; exact hz⟩) (show T4.length - (k + 1) < T4.length - k by omega) (Sx.put rfl (Sx.put rfl ((by repeat (first | exact Sx.refl | refine Sx.skip rfl ?_))))) (by repeat (first | exact Sp.here | exact Sp.sn | exact Sp.s0 | exact Fr.here | apply Sp.s2 | apply Sp.sx | apply Fr.fc | apply Fr.al | apply Fr.fa | apply Sp.sc | apply Sp.al | apply Sp.sa))
                · refine WC.exit ?_
                  refine DN.then_exit ?_
                  refine DN.then_exit ?_
                  refine DN.block_exit ?_
                  refine DN.fit (C := Cs4 ++ (C3 ++ (Cs9 ++ (C7 ++ H)))) (by repeat (first | exact Sp.here | exact Sp.sn | exact Sp.s0 | exact Fr.here | apply Sp.s2 | apply Sp.sx | apply Fr.fc | apply Fr.al | apply Fr.fa | apply Sp.sc | apply Sp.al | apply Sp.sa)) ?_
                  exact DN.reachK (_) (by rw [hz]; exact name_end inv.keys hU4 hor (by first | exact .inl (by omega) | exact .inr (by unfold isHold; simp; omega))) (Sx.put rfl ((by repeat (first | exact Sx.refl | refine Sx.skip rfl ?_)))) (Sp.all (by repeat (first | exact Sp.here | exact Sp.sn | exact Sp.s0 | exact Fr.here | apply Sp.s2 | apply Sp.sx | apply Fr.fc | apply Fr.al | apply Fr.fa | apply Sp.sc | apply Sp.al | apply Sp.sa)))
              · refine WL.gn (dj := 86) rfl rfl rfl rfl ?_
                refine WL.gn (dj := 86) rfl rfl rfl rfl ?_
                refine WL.gn (dj := 86) rfl rfl rfl rfl ?_
                refine WL.gn (dj := 86) rfl rfl rfl rfl ?_
                refine WL.gn (dj := 86) rfl rfl rfl rfl ?_
                refine WL.gn (dj := 86) rfl rfl rfl rfl ?_
                refine WL.y rfl (Yd.pickF rfl rfl) ?_
                refine WL.nil ?_
                refine DN.then_normal ?_
                refine WC.no rfl ?_
                refine WC.exit ?_
                refine DN.then_exit ?_
                refine DN.then_exit ?_
                refine DN.block_exit ?_
                refine DN.fit (C := Cs4 ++ (C3 ++ (Cs9 ++ (C7 ++ H)))) (by repeat (first | exact Sp.here | exact Sp.sn | exact Sp.s0 | exact Fr.here | apply Sp.s2 | apply Sp.sx | apply Fr.fc | apply Fr.al | apply Fr.fa | apply Sp.sc | apply Sp.al | apply Sp.sa)) ?_
                exact DN.reachK (_) (by rw [hz]; exact name_end inv.keys hU4 hor (by first | exact .inl (by omega) | exact .inr (by unfold isHold; simp; omega))) (Sx.put rfl ((by repeat (first | exact Sx.refl | refine Sx.skip rfl ?_)))) (Sp.all (by repeat (first | exact Sp.here | exact Sp.sn | exact Sp.s0 | exact Fr.here | apply Sp.s2 | apply Sp.sx | apply Fr.fc | apply Fr.al | apply Fr.fa | apply Sp.sc | apply Sp.al | apply Sp.sa)))
            · refine WL.gn (dj := 78) rfl rfl rfl rfl ?_
              refine WL.gn (dj := 78) rfl rfl rfl rfl ?_
              refine WL.gn (dj := 78) rfl rfl rfl rfl ?_
              refine WL.gn (dj := 78) rfl rfl rfl rfl ?_
              refine WL.gn (dj := 78) rfl rfl rfl rfl ?_
              refine WL.gn (dj := 78) rfl rfl rfl rfl ?_
              refine WL.y rfl (Yd.pickF rfl rfl) ?_
              refine WL.y rfl (Yd.move rfl) ?_
              refine WL.gn (dj := 86) rfl rfl rfl rfl ?_
              refine WL.gn (dj := 86) rfl rfl rfl rfl ?_
              refine WL.gn (dj := 86) rfl rfl rfl rfl ?_
              refine WL.gn (dj := 86) rfl rfl rfl rfl ?_
              refine WL.gn (dj := 86) rfl rfl rfl rfl ?_
              refine WL.gn (dj := 86) rfl rfl rfl rfl ?_
              refine WL.y rfl (Yd.pickF rfl rfl) ?_
              refine WL.nil ?_
              refine DN.then_normal ?_
              refine WC.no rfl ?_
              refine WC.exit ?_
              refine DN.then_exit ?_
              refine DN.then_exit ?_
              refine DN.block_exit ?_
              refine DN.fit (C := Cs4 ++ (C3 ++ (Cs9 ++ (C7 ++ H)))) (by repeat (first | exact Sp.here | exact Sp.sn | exact Sp.s0 | exact Fr.here | apply Sp.s2 | apply Sp.sx | apply Fr.fc | apply Fr.al | apply Fr.fa | apply Sp.sc | apply Sp.al | apply Sp.sa)) ?_
              exact DN.reachK (_) (by rw [hz]; exact name_end inv.keys hU4 hor (by first | exact .inl (by omega) | exact .inr (by unfold isHold; simp; omega))) (Sx.put rfl ((by repeat (first | exact Sx.refl | refine Sx.skip rfl ?_)))) (Sp.all (by repeat (first | exact Sp.here | exact Sp.sn | exact Sp.s0 | exact Fr.here | apply Sp.s2 | apply Sp.sx | apply Fr.fc | apply Fr.al | apply Fr.fa | apply Sp.sc | apply Sp.al | apply Sp.sa)))
          · intro nf hnf
            refine WC.seq ?_
            refine WC.region ?_
            refine WL.y rfl (Yd.move rfl) ?_
            refine WL.c rfl (Ent.func Try.call12 rfl) (goods_tells p K3 L3 C3 h3 (by omega)) (Sp.p (by repeat (first | exact Sp.here | exact Sp.sn | exact Sp.s0 | exact Fr.here | apply Sp.s2 | apply Sp.sx | apply Fr.fc | apply Fr.al | apply Fr.fa | apply Sp.sc | apply Sp.al | apply Sp.sa))) ?_
            rintro q C6 ⟨S5, Cs5, hT5, ho5, rfl⟩
            have hl5 := hT5.perm.length_eq
            obtain ⟨so5, sc5, rfl, _⟩ := ho5.form
            have hnm5 := told_names inv.knd (inv3.names.trans inv.names.symm) hT4 hT5
            refine WL.y rfl (Yd.assign rfl) ?_
            refine WL.nil ?_
            refine DN.then_normal ?_
            refine WC.seq ?_
            refine WC.region ?_
            refine WL.y rfl (Yd.assign rfl) ?_
            refine WL.nil ?_
            refine DN.then_normal ?_
            refine WC.block ?_
            refine WC.loopS (fun z : Nat => z ≤ S5.length) (fun z : Nat => [(17, .int .i64 (z : Int))]) (fun z : Nat => Cs5 ++ (Cs4 ++ (C3 ++ (Cs9 ++ (C7 ++ H))))) (fun z : Nat => S5.length - z) (0) (show 0 ≤ S5.length from Nat.zero_le _) (Sx.put rfl ((by repeat (first | exact Sx.refl | refine Sx.skip rfl ?_)))) (by repeat (first | exact Sp.here | exact Sp.sn | exact Sp.s0 | exact Fr.here | apply Sp.s2 | apply Sp.sx | apply Fr.fc | apply Fr.al | apply Fr.fa | apply Sp.sc | apply Sp.al | apply Sp.sa)) ?_
            rintro k hI
            replace hI : k ≤ S5.length := hI
            obtain hk := hI
            change WC _ _ _ _ _ _ ([(17, .int .i64 (k : Int))] ++ _) (Cs5 ++ (Cs4 ++ (C3 ++ (Cs9 ++ (C7 ++ H)))))
            refine WC.seq ?_
            refine WC.seq ?_
            refine WC.region ?_
            refine WL.y rfl (Yd.move rfl) ?_
            refine WL.y rfl (Yd.move rfl) ?_
            refine WL.y rfl (Yd.len (e := 32) (by kernel_rfl) rfl) ?_
            refine WL.y rfl (Yd.lss rfl rfl) ?_
            refine WL.y rfl (Yd.move rfl) ?_
            refine WL.partP (t := 118) rfl (fun hg118 => ?_) (fun hg118 => ?_)
            · refine WL.gy (dj := 118) rfl rfl rfl (Yd.move rfl) ?_
              refine WL.gy (dj := 118) rfl rfl rfl (Yd.eql rfl rfl) ?_
              refine WL.y rfl (Yd.pickT rfl rfl) ?_
              refine WL.nil ?_
              refine DN.then_normal ?_
              refine WC.ite rfl (fun h121 => ?_) (fun h121 => ?_)
              · have hklt : k < S5.length := by omega
                have hk4 : k < S4.length := by omega
                obtain ⟨ub, uf, us, uT, ufr, uex, rfl, _, hum, hus⟩ := ho5.rs.lies (by omega)
                obtain ⟨wb, wf, ws, wT, wfr, wex, rfl, _, hwm, hws⟩ := ho4.rs.lies (by omega)
                have hn5 := hnm5.2 k hklt hk4
                have hf5 := (told_free inv3.knd hT5 (List.getElem_mem hklt)).1
                have hf4 := (told_free inv.knd hT4 (List.getElem_mem hk4)).1
                have hap : S5[k].name ≠ nameOf L1 acts[i] → freeOf (actKs K1 L1 acts[i]) S5[k].name = freeOf K1 S5[k].name := act_apart K1 L1 _
                refine WC.skip ?_
                refine DN.then_normal ?_
                refine WC.seq ?_
                refine WC.block ?_
                refine WC.seq ?_
                refine WC.draw 18 (by kernel_rfl) rfl ?_
                refine WA.y (i := 0) (NoPanic.then (NoPanic.block (NoPanic.then (NoPanic.then (NoPanic.block (NoPanic.block (NoPanic.then (NoPanic.then (NoPanic.block (NoPanic.then (NoPanic.body))))))))))) rfl (by kernel_rfl) (by kernel_rfl) (by kernel_rfl) rfl (Yd.move rfl) ?_
                refine WA.y (i := 1) (NoPanic.then (NoPanic.block (NoPanic.then (NoPanic.then (NoPanic.block (NoPanic.block (NoPanic.then (NoPanic.then (NoPanic.block (NoPanic.then (NoPanic.body))))))))))) rfl (by kernel_rfl) (by kernel_rfl) (by kernel_rfl) rfl (Yd.move rfl) ?_
                refine WA.y (i := 2) (NoPanic.then (NoPanic.block (NoPanic.then (NoPanic.then (NoPanic.block (NoPanic.block (NoPanic.then (NoPanic.then (NoPanic.block (NoPanic.then (NoPanic.body))))))))))) rfl (by kernel_rfl) (by kernel_rfl) (by kernel_rfl) rfl (Yd.indexAddr (e := 32) (s := 2) (by kernel_rfl) (by kernel_rfl) rfl rfl (by omega) (by omega)) ?_
                refine WA.y (i := 3) (NoPanic.then (NoPanic.block (NoPanic.then (NoPanic.then (NoPanic.block (NoPanic.block (NoPanic.then (NoPanic.then (NoPanic.block (NoPanic.then (NoPanic.body))))))))))) rfl (by kernel_rfl) (by kernel_rfl) (by kernel_rfl) rfl (Yd.fieldAddr (k := 0) (by kernel_rfl) rfl) ?_
                refine WA.y (i := 5) (NoPanic.then (NoPanic.block (NoPanic.then (NoPanic.then (NoPanic.block (NoPanic.block (NoPanic.then (NoPanic.then (NoPanic.block (NoPanic.then (NoPanic.body))))))))))) rfl (by kernel_rfl) (by kernel_rfl) (by kernel_rfl) rfl (Yd.move rfl) ?_
                refine WA.one (i := 4) (by kernel_rfl) ?_
                refine WO.h rfl Wt.none rfl (Hd.load1 (v := .string S5[k].name) (b := ub) (o := uf + (k : Int).toNat * 2 + 0) (cs := us) (by kernel_rfl) rfl (Gr.get (by repeat (first | exact Gr.refl | exact Gr.left Gr.refl | exact Gr.left (Gr.left Gr.refl) | exact Gr.left (Gr.app Gr.refl) | exact Gr.left (Gr.left (Gr.left Gr.refl)) | exact Gr.nil | exact Gr.app (Gr.left Gr.refl) | refine Gr.cons ?_ | refine Gr.app ?_ | refine Gr.both ?_ ?_ | refine Gr.put (by repeat (first | exact List.mem_cons_self | apply List.mem_cons_of_mem | apply List.mem_append_right)) ?_)) hum) (cell_at2 (L := S5) cellsG_len hus (by omega) (by omega)) ⟨_, rfl, ?_⟩)
                refine WA.y (i := 6) (NoPanic.then (NoPanic.block (NoPanic.then (NoPanic.then (NoPanic.block (NoPanic.block (NoPanic.then (NoPanic.then (NoPanic.block (NoPanic.then (NoPanic.body))))))))))) rfl (by kernel_rfl) (by kernel_rfl) (by kernel_rfl) rfl (Yd.neqS rfl rfl) ?_
                refine WA.y (i := 7) (NoPanic.then (NoPanic.block (NoPanic.then (NoPanic.then (NoPanic.block (NoPanic.block (NoPanic.then (NoPanic.then (NoPanic.block (NoPanic.then (NoPanic.body))))))))))) rfl (by kernel_rfl) (by kernel_rfl) (by kernel_rfl) rfl (Yd.move rfl) ?_
                refine WA.partP (t := 131) rfl (fun hg131 => ?_) (fun hg131 => ?_)
                · refine WA.gy (i := 8) (dj := 131) (NoPanic.then (NoPanic.block (NoPanic.then (NoPanic.then (NoPanic.block (NoPanic.block (NoPanic.then (NoPanic.then (NoPanic.block (NoPanic.then (NoPanic.body))))))))))) rfl (by kernel_rfl) (by kernel_rfl) (by kernel_rfl) rfl rfl rfl (Yd.move rfl) ?_
                  refine WA.gy (i := 9) (dj := 131) (NoPanic.then (NoPanic.block (NoPanic.then (NoPanic.then (NoPanic.block (NoPanic.block (NoPanic.then (NoPanic.then (NoPanic.block (NoPanic.then (NoPanic.body))))))))))) rfl (by kernel_rfl) (by kernel_rfl) (by kernel_rfl) rfl rfl rfl (Yd.move rfl) ?_
                  refine WA.gy (i := 10) (dj := 131) (NoPanic.then (NoPanic.block (NoPanic.then (NoPanic.then (NoPanic.block (NoPanic.block (NoPanic.then (NoPanic.then (NoPanic.block (NoPanic.then (NoPanic.body))))))))))) rfl (by kernel_rfl) (by kernel_rfl) (by kernel_rfl) rfl rfl rfl (Yd.indexAddr (e := 32) (s := 2) (by kernel_rfl) (by kernel_rfl) rfl rfl (by omega) (by omega)) ?_
                  refine WA.gy (i := 12) (dj := 131) (NoPanic.then (NoPanic.block (NoPanic.then (NoPanic.then (NoPanic.block (NoPanic.block (NoPanic.then (NoPanic.then (NoPanic.block (NoPanic.then (NoPanic.body))))))))))) rfl (by kernel_rfl) (by kernel_rfl) (by kernel_rfl) rfl rfl rfl (Yd.move rfl) ?_
                  refine WA.gy (i := 13) (dj := 131) (NoPanic.then (NoPanic.block (NoPanic.then (NoPanic.then (NoPanic.block (NoPanic.block (NoPanic.then (NoPanic.then (NoPanic.block (NoPanic.then (NoPanic.body))))))))))) rfl (by kernel_rfl) (by kernel_rfl) (by kernel_rfl) rfl rfl rfl (Yd.move rfl) ?_
                  refine WA.gy (i := 14) (dj := 131) (NoPanic.then (NoPanic.block (NoPanic.then (NoPanic.then (NoPanic.block (NoPanic.block (NoPanic.then (NoPanic.then (NoPanic.block (NoPanic.then (NoPanic.body))))))))))) rfl (by kernel_rfl) (by kernel_rfl) (by kernel_rfl) rfl rfl rfl (Yd.indexAddr (e := 32) (s := 2) (by kernel_rfl) (by kernel_rfl) rfl rfl (by omega) (by omega)) ?_
                  refine WA.two (i := 11) (j := 15) (by kernel_rfl) ?_ ?_
                  · refine WO.h rfl (Wt.yes (dj := 131) rfl rfl) rfl (Hd.loadA (n := 2) (b := ub) (o := uf + (k : Int).toNat * 2) (cs := us) (vs := cellsG S5[k]) (by kernel_rfl) rfl (Gr.get (by repeat (first | exact Gr.refl | exact Gr.left Gr.refl | exact Gr.left (Gr.left Gr.refl) | exact Gr.left (Gr.app Gr.refl) | exact Gr.left (Gr.left (Gr.left Gr.refl)) | exact Gr.nil | exact Gr.app (Gr.left Gr.refl) | refine Gr.cons ?_ | refine Gr.app ?_ | refine Gr.both ?_ ?_ | refine Gr.put (by repeat (first | exact List.mem_cons_self | apply List.mem_cons_of_mem | apply List.mem_append_right)) ?_)) hum) (cellsG_len _) (rs_cell hus (by rw [flat_len cellsG 2 cellsG_len]; omega) (flat_row cellsG 2 cellsG_len S5 k (by omega))) ⟨_, rfl, ?_⟩)
                    refine WA.one (i := 15) (by kernel_rfl) ?_
                    refine WO.h rfl (Wt.yes (dj := 131) rfl rfl) rfl (Hd.loadA (n := 2) (b := wb) (o := wf + (k : Int).toNat * 2) (cs := ws) (vs := cellsG S4[k]) (by kernel_rfl) rfl (Gr.get (by repeat (first | exact Gr.refl | exact Gr.left Gr.refl | exact Gr.left (Gr.left Gr.refl) | exact Gr.left (Gr.app Gr.refl) | exact Gr.left (Gr.left (Gr.left Gr.refl)) | exact Gr.nil | exact Gr.app (Gr.left Gr.refl) | refine Gr.cons ?_ | refine Gr.app ?_ | refine Gr.both ?_ ?_ | refine Gr.put (by repeat (first | exact List.mem_cons_self | apply List.mem_cons_of_mem | apply List.mem_append_right)) ?_)) hwm) (cellsG_len _) (rs_cell hws (by rw [flat_len cellsG 2 cellsG_len]; omega) (flat_row cellsG 2 cellsG_len S4 k (by omega))) ⟨_, rfl, ?_⟩)
                    refine WA.gy (i := 16) (dj := 131) (NoPanic.then (NoPanic.block (NoPanic.then (NoPanic.then (NoPanic.block (NoPanic.block (NoPanic.then (NoPanic.then (NoPanic.block (NoPanic.then (NoPanic.body))))))))))) rfl (by kernel_rfl) (by kernel_rfl) (by kernel_rfl) rfl rfl rfl (Yd.neqSt [1, 0] (by kernel_rfl) rfl rfl (same_gd _ _)) ?_
                    refine WA.renamed (t := 140) (v := .bool false) rfl (congrArg Value.bool (by rw [decide_eq_true (show g2 S5[k] = g2 S4[k] from Prod.ext hn5 (by show S5[k].free = S4[k].free; rw [← hf5, ← hf4, ← hn5, hK3]; exact hap (by rw [← hnf]; exact hg131)))]; rfl)) ?_
                    refine WA.y (i := 17) (NoPanic.then (NoPanic.block (NoPanic.then (NoPanic.then (NoPanic.block (NoPanic.block (NoPanic.then (NoPanic.then (NoPanic.block (NoPanic.then (NoPanic.body))))))))))) rfl (by kernel_rfl) (by kernel_rfl) (by kernel_rfl) rfl (Yd.pickT rfl rfl) ?_
                    refine WA.done (by kernel_rfl) ?_
                    refine DN.then_normal ?_
                    refine WC.no rfl ?_
                    refine WC.skip ?_
                    refine DN.block_normal ?_
                    refine DN.then_normal ?_
                    refine WC.region ?_
                    refine WL.y rfl (Yd.move rfl) ?_
                    refine WL.y rfl (Yd.add rfl rfl (by omega) (by omega)) ?_
                    refine WL.y rfl (Yd.assign rfl) ?_
                    refine WL.nil ?_
                    exact DN.againS (k + 1) (show (k + 1) ≤ S5.length from (by omega)) (show S5.length - (k + 1) < S5.length - k by omega) (Sx.put rfl ((by repeat (first | exact Sx.refl | refine Sx.skip rfl ?_)))) (by repeat (first | exact Sp.here | exact Sp.sn | exact Sp.s0 | exact Fr.here | apply Sp.s2 | apply Sp.sx | apply Fr.fc | apply Fr.al | apply Fr.fa | apply Sp.sc | apply Sp.al | apply Sp.sa))
                  · refine WO.h rfl (Wt.yes (dj := 131) rfl rfl) rfl (Hd.loadA (n := 2) (b := wb) (o := wf + (k : Int).toNat * 2) (cs := ws) (vs := cellsG S4[k]) (by kernel_rfl) rfl (Gr.get (by repeat (first | exact Gr.refl | exact Gr.left Gr.refl | exact Gr.left (Gr.left Gr.refl) | exact Gr.left (Gr.app Gr.refl) | exact Gr.left (Gr.left (Gr.left Gr.refl)) | exact Gr.nil | exact Gr.app (Gr.left Gr.refl) | refine Gr.cons ?_ | refine Gr.app ?_ | refine Gr.both ?_ ?_ | refine Gr.put (by repeat (first | exact List.mem_cons_self | apply List.mem_cons_of_mem | apply List.mem_append_right)) ?_)) hwm) (cellsG_len _) (rs_cell hws (by rw [flat_len cellsG 2 cellsG_len]; omega) (flat_row cellsG 2 cellsG_len S4 k (by omega))) ⟨_, rfl, ?_⟩)
                    refine WA.one (i := 11) (by kernel_rfl) ?_
                    refine WO.h rfl (Wt.yes (dj := 131) rfl rfl) rfl (Hd.loadA (n := 2) (b := ub) (o := uf + (k : Int).toNat * 2) (cs := us) (vs := cellsG S5[k]) (by kernel_rfl) rfl (Gr.get (by repeat (first | exact Gr.refl | exact Gr.left Gr.refl | exact Gr.left (Gr.left Gr.refl) | exact Gr.left (Gr.app Gr.refl) | exact Gr.left (Gr.left (Gr.left Gr.refl)) | exact Gr.nil | exact Gr.app (Gr.left Gr.refl) | refine Gr.cons ?_ | refine Gr.app ?_ | refine Gr.both ?_ ?_ | refine Gr.put (by repeat (first | exact List.mem_cons_self | apply List.mem_cons_of_mem | apply List.mem_append_right)) ?_)) hum) (cellsG_len _) (rs_cell hus (by rw [flat_len cellsG 2 cellsG_len]; omega) (flat_row cellsG 2 cellsG_len S5 k (by omega))) ⟨_, rfl, ?_⟩)
                    refine WA.gy (i := 16) (dj := 131) (NoPanic.then (NoPanic.block (NoPanic.then (NoPanic.then (NoPanic.block (NoPanic.block (NoPanic.then (NoPanic.then (NoPanic.block (NoPanic.then (NoPanic.body))))))))))) rfl (by kernel_rfl) (by kernel_rfl) (by kernel_rfl) rfl rfl rfl (Yd.neqSt [1, 0] (by kernel_rfl) rfl rfl (same_gd _ _)) ?_
                    refine WA.renamed (t := 140) (v := .bool false) rfl (congrArg Value.bool (by rw [decide_eq_true (show g2 S5[k] = g2 S4[k] from Prod.ext hn5 (by show S5[k].free = S4[k].free; rw [← hf5, ← hf4, ← hn5, hK3]; exact hap (by rw [← hnf]; exact hg131)))]; rfl)) ?_
                    refine WA.y (i := 17) (NoPanic.then (NoPanic.block (NoPanic.then (NoPanic.then (NoPanic.block (NoPanic.block (NoPanic.then (NoPanic.then (NoPanic.block (NoPanic.then (NoPanic.body))))))))))) rfl (by kernel_rfl) (by kernel_rfl) (by kernel_rfl) rfl (Yd.pickT rfl rfl) ?_
                    refine WA.done (by kernel_rfl) ?_
                    refine DN.then_normal ?_
                    refine WC.no rfl ?_
                    refine WC.skip ?_
                    refine DN.block_normal ?_
                    refine DN.then_normal ?_
                    refine WC.region ?_
                    refine WL.y rfl (Yd.move rfl) ?_
                    refine WL.y rfl (Yd.add rfl rfl (by omega) (by omega)) ?_
                    refine WL.y rfl (Yd.assign rfl) ?_
                    refine WL.nil ?_
                    exact DN.againS (k + 1) (show (k + 1) ≤ S5.length from (by omega)) (show S5.length - (k + 1) < S5.length - k by omega) (Sx.put rfl ((by repeat (first | exact Sx.refl | refine Sx.skip rfl ?_)))) (by repeat (first | exact Sp.here | exact Sp.sn | exact Sp.s0 | exact Fr.here | apply Sp.s2 | apply Sp.sx | apply Fr.fc | apply Fr.al | apply Fr.fa | apply Sp.sc | apply Sp.al | apply Sp.sa))
                · refine WA.gn (i := 8) (dj := 131) (NoPanic.then (NoPanic.block (NoPanic.then (NoPanic.then (NoPanic.block (NoPanic.block (NoPanic.then (NoPanic.then (NoPanic.block (NoPanic.then (NoPanic.body))))))))))) rfl (by kernel_rfl) (by kernel_rfl) (by kernel_rfl) rfl rfl rfl rfl ?_
                  refine WA.gn (i := 9) (dj := 131) (NoPanic.then (NoPanic.block (NoPanic.then (NoPanic.then (NoPanic.block (NoPanic.block (NoPanic.then (NoPanic.then (NoPanic.block (NoPanic.then (NoPanic.body))))))))))) rfl (by kernel_rfl) (by kernel_rfl) (by kernel_rfl) rfl rfl rfl rfl ?_
                  refine WA.gn (i := 10) (dj := 131) (NoPanic.then (NoPanic.block (NoPanic.then (NoPanic.then (NoPanic.block (NoPanic.block (NoPanic.then (NoPanic.then (NoPanic.block (NoPanic.then (NoPanic.body))))))))))) rfl (by kernel_rfl) (by kernel_rfl) (by kernel_rfl) rfl rfl rfl rfl ?_
                  refine WA.gn (i := 11) (dj := 131) (NoPanic.then (NoPanic.block (NoPanic.then (NoPanic.then (NoPanic.block (NoPanic.block (NoPanic.then (NoPanic.then (NoPanic.block (NoPanic.then (NoPanic.body))))))))))) rfl (by kernel_rfl) (by kernel_rfl) (by kernel_rfl) rfl rfl rfl rfl ?_
                  refine WA.gn (i := 12) (dj := 131) (NoPanic.then (NoPanic.block (NoPanic.then (NoPanic.then (NoPanic.block (NoPanic.block (NoPanic.then (NoPanic.then (NoPanic.block (NoPanic.then (NoPanic.body))))))))))) rfl (by kernel_rfl) (by kernel_rfl) (by kernel_rfl) rfl rfl rfl rfl ?_
                  refine WA.gn (i := 13) (dj := 131) (NoPanic.then (NoPanic.block (NoPanic.then (NoPanic.then (NoPanic.block (NoPanic.block (NoPanic.then (NoPanic.then (NoPanic.block (NoPanic.then (NoPanic.body))))))))))) rfl (by kernel_rfl) (by kernel_rfl) (by kernel_rfl) rfl rfl rfl rfl ?_
                  refine WA.gn (i := 14) (dj := 131) (NoPanic.then (NoPanic.block (NoPanic.then (NoPanic.then (NoPanic.block (NoPanic.block (NoPanic.then (NoPanic.then (NoPanic.block (NoPanic.then (NoPanic.body))))))))))) rfl (by kernel_rfl) (by kernel_rfl) (by kernel_rfl) rfl rfl rfl rfl ?_
                  refine WA.gn (i := 15) (dj := 131) (NoPanic.then (NoPanic.block (NoPanic.then (NoPanic.then (NoPanic.block (NoPanic.block (NoPanic.then (NoPanic.then (NoPanic.block (NoPanic.then (NoPanic.body))))))))))) rfl (by kernel_rfl) (by kernel_rfl) (by kernel_rfl) rfl rfl rfl rfl ?_
                  refine WA.gn (i := 16) (dj := 131) (NoPanic.then (NoPanic.block (NoPanic.then (NoPanic.then (NoPanic.block (NoPanic.block (NoPanic.then (NoPanic.then (NoPanic.block (NoPanic.then (NoPanic.body))))))))))) rfl (by kernel_rfl) (by kernel_rfl) (by kernel_rfl) rfl rfl rfl rfl ?_
                  refine WA.y (i := 17) (NoPanic.then (NoPanic.block (NoPanic.then (NoPanic.then (NoPanic.block (NoPanic.block (NoPanic.then (NoPanic.then (NoPanic.block (NoPanic.then (NoPanic.body))))))))))) rfl (by kernel_rfl) (by kernel_rfl) (by kernel_rfl) rfl (Yd.pickF rfl rfl) ?_
                  refine WA.done (by kernel_rfl) ?_
                  refine DN.then_normal ?_
                  refine WC.no rfl ?_
                  refine WC.skip ?_
                  refine DN.block_normal ?_
                  refine DN.then_normal ?_
                  refine WC.region ?_
                  refine WL.y rfl (Yd.move rfl) ?_
                  refine WL.y rfl (Yd.add rfl rfl (by omega) (by omega)) ?_
                  refine WL.y rfl (Yd.assign rfl) ?_
                  refine WL.nil ?_
                  exact DN.againS (k + 1) (show (k + 1) ≤ S5.length from (by omega)) (show S5.length - (k + 1) < S5.length - k by omega) (Sx.put rfl ((by repeat (first | exact Sx.refl | refine Sx.skip rfl ?_)))) (by repeat (first | exact Sp.here | exact Sp.sn | exact Sp.s0 | exact Fr.here | apply Sp.s2 | apply Sp.sx | apply Fr.fc | apply Fr.al | apply Fr.fa | apply Sp.sc | apply Sp.al | apply Sp.sa))
              · refine WC.exit ?_
                refine DN.then_exit ?_
                refine DN.then_exit ?_
                refine DN.block_exit ?_
                refine DN.block_normal ?_
                refine DN.then_normal ?_
                refine WC.region ?_
                refine WL.y rfl (Yd.move rfl) ?_
                refine WL.y rfl (Yd.add rfl rfl (by omega) (by omega)) ?_
                refine WL.y rfl (Yd.assign rfl) ?_
                refine WL.nil ?_
                exact DN.againS (⟨i + 1, K3, L3, C3⟩) (show (i + 1) ≤ acts.length ∧ StAt 57 p K3 L3 C3 ∧ SInv gs K3 L3 from ⟨by omega, h3, inv3⟩) (show acts.length - (i + 1) < acts.length - i by omega) (Sx.put rfl ((by repeat (first | exact Sx.refl | refine Sx.skip rfl ?_)))) (by repeat (first | exact Sp.here | exact Sp.sn | exact Sp.s0 | exact Fr.here | apply Sp.s2 | apply Sp.sx | apply Fr.fc | apply Fr.al | apply Fr.fa | apply Sp.sc | apply Sp.al | apply Sp.sa))
            · refine WL.gn (dj := 118) rfl rfl rfl rfl ?_
              refine WL.gn (dj := 118) rfl rfl rfl rfl ?_
              refine WL.y rfl (Yd.pickF rfl rfl) ?_
              refine WL.nil ?_
              refine DN.then_normal ?_
              refine WC.no rfl ?_
              refine WC.exit ?_
              refine DN.then_exit ?_
              refine DN.then_exit ?_
              refine DN.block_exit ?_
              refine DN.block_normal ?_
              refine DN.then_normal ?_
              refine WC.region ?_
              refine WL.y rfl (Yd.move rfl) ?_
              refine WL.y rfl (Yd.add rfl rfl (by omega) (by omega)) ?_
              refine WL.y rfl (Yd.assign rfl) ?_
              refine WL.nil ?_
              exact DN.againS (⟨i + 1, K3, L3, C3⟩) (show (i + 1) ≤ acts.length ∧ StAt 57 p K3 L3 C3 ∧ SInv gs K3 L3 from ⟨by omega, h3, inv3⟩) (show acts.length - (i + 1) < acts.length - i by omega) (Sx.put rfl ((by repeat (first | exact Sx.refl | refine Sx.skip rfl ?_)))) (by repeat (first | exact Sp.here | exact Sp.sn | exact Sp.s0 | exact Fr.here | apply Sp.s2 | apply Sp.sx | apply Fr.fc | apply Fr.al | apply Fr.fa | apply Sp.sc | apply Sp.al | apply Sp.sa))
        · refine WC.exit ?_
          refine DN.then_exit ?_
          refine DN.then_exit ?_
          refine DN.block_exit ?_
          refine DN.then_normal ?_
          refine WC.seq ?_
          refine WC.region ?_
          refine WL.y rfl (Yd.assign rfl) ?_
          refine WL.nil ?_
          refine DN.then_normal ?_
          refine WC.seq ?_
          refine WC.region ?_
          refine WL.y rfl (Yd.move rfl) ?_
          refine WL.rf rfl (Ent.func Try.call13 rfl) (hold_nil 1#32 ⟨#[97]⟩ 1 []) (by repeat (first | exact Sp.here | exact Sp.sn | exact Sp.s0 | exact Fr.here | apply Sp.s2 | apply Sp.sx | apply Fr.fc | apply Fr.al | apply Fr.fa | apply Sp.sc | apply Sp.al | apply Sp.sa)) ?_
          refine WL.y rfl (Yd.eql rfl rfl) ?_
          refine WL.renamed (t := 144) (v := .bool true) rfl (congrArg Value.bool (by decide)) ?_
          refine WL.y rfl (Yd.move rfl) ?_
          refine WL.gy (dj := 145) rfl rfl rfl (Yd.move rfl) ?_
          refine WL.grf (dj := 145) rfl rfl rfl (Ent.func Try.call25 rfl) (free_nil 1#32 []) (by repeat (first | exact Sp.here | exact Sp.sn | exact Sp.s0 | exact Fr.here | apply Sp.s2 | apply Sp.sx | apply Fr.fc | apply Fr.al | apply Fr.fa | apply Sp.sc | apply Sp.al | apply Sp.sa)) ?_
          refine WL.gy (dj := 145) rfl rfl rfl (Yd.eql rfl rfl) ?_
          refine WL.renamed (t := 148) (v := .bool true) rfl (congrArg Value.bool (by decide)) ?_
          refine WL.y rfl (Yd.pickT rfl rfl) ?_
          refine WL.y rfl (Yd.move rfl) ?_
          refine WL.gy (dj := 150) rfl rfl rfl (Yd.move rfl) ?_
          refine WL.grf (dj := 150) rfl rfl rfl (Ent.func Try.call26 rfl) (ship_nil 1#32 []) (by repeat (first | exact Sp.here | exact Sp.sn | exact Sp.s0 | exact Fr.here | apply Sp.s2 | apply Sp.sx | apply Fr.fc | apply Fr.al | apply Fr.fa | apply Sp.sc | apply Sp.al | apply Sp.sa)) ?_
          refine WL.gy (dj := 150) rfl rfl rfl (Yd.eql rfl rfl) ?_
          refine WL.renamed (t := 153) (v := .bool true) rfl (congrArg Value.bool (by decide)) ?_
          refine WL.y rfl (Yd.pickT rfl rfl) ?_
          refine WL.y rfl (Yd.move rfl) ?_
          refine WL.gy (dj := 155) rfl rfl rfl (Yd.move rfl) ?_
          refine WL.grf (dj := 155) rfl rfl rfl (Ent.func Try.call12 rfl) (goods_nil []) (by repeat (first | exact Sp.here | exact Sp.sn | exact Sp.s0 | exact Fr.here | apply Sp.s2 | apply Sp.sx | apply Fr.fc | apply Fr.al | apply Fr.fa | apply Sp.sc | apply Sp.al | apply Sp.sa)) ?_
          refine WL.gy (dj := 155) rfl rfl rfl (Yd.len (e := 32) (by kernel_rfl) rfl) ?_
          refine WL.gy (dj := 155) rfl rfl rfl (Yd.eql rfl rfl) ?_
          refine WL.renamed (t := 159) (v := .bool true) rfl (congrArg Value.bool (by decide)) ?_
          refine WL.y rfl (Yd.pickT rfl rfl) ?_
          refine WL.y rfl (Yd.move rfl) ?_
          refine WL.gy (dj := 161) rfl rfl rfl (Yd.move rfl) ?_
          refine WL.grf (dj := 161) rfl rfl rfl (Ent.func Try.call18 rfl) (holdsS_nil []) (by repeat (first | exact Sp.here | exact Sp.sn | exact Sp.s0 | exact Fr.here | apply Sp.s2 | apply Sp.sx | apply Fr.fc | apply Fr.al | apply Fr.fa | apply Sp.sc | apply Sp.al | apply Sp.sa)) ?_
          refine WL.gy (dj := 161) rfl rfl rfl (Yd.len (e := 50) (by kernel_rfl) rfl) ?_
          refine WL.gy (dj := 161) rfl rfl rfl (Yd.eql rfl rfl) ?_
          refine WL.renamed (t := 165) (v := .bool true) rfl (congrArg Value.bool (by decide)) ?_
          refine WL.y rfl (Yd.pickT rfl rfl) ?_
          refine WL.y rfl (Yd.move rfl) ?_
          refine WL.gy (dj := 167) rfl rfl rfl (Yd.move rfl) ?_
          refine WL.grf (dj := 167) rfl rfl rfl (Ent.func Try.call23 rfl) (gone_nil ⟨#[97]⟩ []) (by repeat (first | exact Sp.here | exact Sp.sn | exact Sp.s0 | exact Fr.here | apply Sp.s2 | apply Sp.sx | apply Fr.fc | apply Fr.al | apply Fr.fa | apply Sp.sc | apply Sp.al | apply Sp.sa)) ?_
          refine WL.gy (dj := 167) rfl rfl rfl (Yd.eql rfl rfl) ?_
          refine WL.renamed (t := 170) (v := .bool true) rfl (congrArg Value.bool (by decide)) ?_
          refine WL.y rfl (Yd.pickT rfl rfl) ?_
          refine WL.y rfl (Yd.assign rfl) ?_
          refine WL.nil ?_
          refine DN.then_normal ?_
          refine WC.seq ?_
          refine WC.region ?_
          refine WL.y rfl (Yd.move rfl) ?_
          refine WL.c rfl (Ent.func Try.call12 rfl) (goods_tells p2 gs [] C7 h7 (by have := hA.1; omega)) (Sp.p (by repeat (first | exact Sp.here | exact Sp.sn | exact Sp.s0 | exact Fr.here | apply Sp.s2 | apply Sp.sx | apply Fr.fc | apply Fr.al | apply Fr.fa | apply Sp.sc | apply Sp.al | apply Sp.sa))) ?_
          rintro q C5 ⟨S6, Cs6, hT6, ho6, rfl⟩
          have hl6 := hT6.perm.length_eq
          obtain ⟨so6, sc6, rfl, _⟩ := ho6.form
          have he6 := told_same hA.2.1 hT6 hT9
          refine WL.y rfl (Yd.move rfl) ?_
          refine WL.rf rfl (Ent.func Try.call19 rfl) (sameGoods_reads _ _ S6 S9 (Cs6 ++ Cs9) (ho6.rs.mono (by repeat (first | exact Gr.refl | exact Gr.left Gr.refl | exact Gr.left (Gr.left Gr.refl) | exact Gr.left (Gr.app Gr.refl) | exact Gr.left (Gr.left (Gr.left Gr.refl)) | exact Gr.nil | exact Gr.app (Gr.left Gr.refl) | refine Gr.cons ?_ | refine Gr.app ?_ | refine Gr.both ?_ ?_ | refine Gr.put (by repeat (first | exact List.mem_cons_self | apply List.mem_cons_of_mem | apply List.mem_append_right)) ?_))) (ho9.rs.mono (by repeat (first | exact Gr.refl | exact Gr.left Gr.refl | exact Gr.left (Gr.left Gr.refl) | exact Gr.left (Gr.app Gr.refl) | exact Gr.left (Gr.left (Gr.left Gr.refl)) | exact Gr.nil | exact Gr.app (Gr.left Gr.refl) | refine Gr.cons ?_ | refine Gr.app ?_ | refine Gr.both ?_ ?_ | refine Gr.put (by repeat (first | exact List.mem_cons_self | apply List.mem_cons_of_mem | apply List.mem_append_right)) ?_))) (by omega) (by omega)) (by repeat (first | exact Sp.here | exact Sp.sn | exact Sp.s0 | exact Fr.here | apply Sp.s2 | apply Sp.sx | apply Fr.fc | apply Fr.al | apply Fr.fa | apply Sp.sc | apply Sp.al | apply Sp.sa)) ?_
          refine WL.renamed (t := 175) (v := .bool true) rfl (congrArg Value.bool (decide_eq_true (by rw [he6]))) ?_
          refine WL.y rfl (Yd.move rfl) ?_
          refine WL.gy (dj := 176) rfl rfl rfl (Yd.move rfl) ?_
          refine WL.gc (dj := 176) rfl rfl rfl (Ent.func Try.call18 rfl) (holds_tells p2 gs [] C7 h7 (by decide)) (Sp.p (by repeat (first | exact Sp.here | exact Sp.sn | exact Sp.s0 | exact Fr.here | apply Sp.s2 | apply Sp.sx | apply Fr.fc | apply Fr.al | apply Fr.fa | apply Sp.sc | apply Sp.al | apply Sp.sa))) ?_
          rintro q C5 ⟨T7, Ds7, hU7, hq7, rfl⟩
          have hm7 := hU7.perm.length_eq
          obtain ⟨to7, tc7, rfl, _⟩ := hq7.form
          refine WL.gy (dj := 176) rfl rfl rfl (Yd.len (e := 50) (by kernel_rfl) rfl) ?_
          refine WL.gy (dj := 176) rfl rfl rfl (Yd.eql rfl rfl) ?_
          refine WL.renamed (t := 180) (v := .bool true) rfl (congrArg Value.bool (decide_eq_true (by simp only [List.length_nil] at hm7; omega))) ?_
          refine WL.y rfl (Yd.pickT rfl rfl) ?_
          refine WL.y rfl (Yd.move rfl) ?_
          refine WL.gy (dj := 182) rfl rfl rfl (Yd.move rfl) ?_
          refine WL.y rfl (Yd.pickT rfl rfl) ?_
          refine WL.y rfl (Yd.move rfl) ?_
          refine WL.gr (dj := 185) rfl rfl rfl (Ent.func Try.call10 rfl) (known09 _) ?_
          refine WL.y rfl (Yd.pickT rfl rfl) ?_
          refine WL.y rfl (Yd.assign rfl) ?_
          refine WL.nil ?_
          refine DN.then_normal ?_
          refine WC.ret ?_
          refine DN.fit (C := H) (by repeat (first | exact Sp.here | exact Sp.sn | exact Sp.s0 | exact Fr.here | apply Sp.s2 | apply Sp.sx | apply Fr.fc | apply Fr.al | apply Fr.fa | apply Sp.sc | apply Sp.al | apply Sp.sa)) ?_
          refine DN.ret1 Try.results7 rfl ?_
          exact ⟨rfl, rfl⟩
      · refine WL.gn (dj := 53) rfl rfl rfl rfl ?_
        refine WL.gn (dj := 53) rfl rfl rfl rfl ?_
        refine WL.y rfl (Yd.pickF rfl rfl) ?_
        refine WL.nil ?_
        refine DN.then_normal ?_
        refine WC.no rfl ?_
        refine WC.exit ?_
        refine DN.then_exit ?_
        refine DN.then_exit ?_
        refine DN.block_exit ?_
        refine DN.then_normal ?_
        refine WC.seq ?_
        refine WC.region ?_
        refine WL.y rfl (Yd.assign rfl) ?_
        refine WL.nil ?_
        refine DN.then_normal ?_
        refine WC.seq ?_
        refine WC.region ?_
        refine WL.y rfl (Yd.move rfl) ?_
        refine WL.rf rfl (Ent.func Try.call13 rfl) (hold_nil 1#32 ⟨#[97]⟩ 1 []) (by repeat (first | exact Sp.here | exact Sp.sn | exact Sp.s0 | exact Fr.here | apply Sp.s2 | apply Sp.sx | apply Fr.fc | apply Fr.al | apply Fr.fa | apply Sp.sc | apply Sp.al | apply Sp.sa)) ?_
        refine WL.y rfl (Yd.eql rfl rfl) ?_
        refine WL.renamed (t := 144) (v := .bool true) rfl (congrArg Value.bool (by decide)) ?_
        refine WL.y rfl (Yd.move rfl) ?_
        refine WL.gy (dj := 145) rfl rfl rfl (Yd.move rfl) ?_
        refine WL.grf (dj := 145) rfl rfl rfl (Ent.func Try.call25 rfl) (free_nil 1#32 []) (by repeat (first | exact Sp.here | exact Sp.sn | exact Sp.s0 | exact Fr.here | apply Sp.s2 | apply Sp.sx | apply Fr.fc | apply Fr.al | apply Fr.fa | apply Sp.sc | apply Sp.al | apply Sp.sa)) ?_
        refine WL.gy (dj := 145) rfl rfl rfl (Yd.eql rfl rfl) ?_
        refine WL.renamed (t := 148) (v := .bool true) rfl (congrArg Value.bool (by decide)) ?_
        refine WL.y rfl (Yd.pickT rfl rfl) ?_
        refine WL.y rfl (Yd.move rfl) ?_
        refine WL.gy (dj := 150) rfl rfl rfl (Yd.move rfl) ?_
        refine WL.grf (dj := 150) rfl rfl rfl (Ent.func Try.call26 rfl) (ship_nil 1#32 []) (by repeat (first | exact Sp.here | exact Sp.sn | exact Sp.s0 | exact Fr.here | apply Sp.s2 | apply Sp.sx | apply Fr.fc | apply Fr.al | apply Fr.fa | apply Sp.sc | apply Sp.al | apply Sp.sa)) ?_
        refine WL.gy (dj := 150) rfl rfl rfl (Yd.eql rfl rfl) ?_
        refine WL.renamed (t := 153) (v := .bool true) rfl (congrArg Value.bool (by decide)) ?_
        refine WL.y rfl (Yd.pickT rfl rfl) ?_
        refine WL.y rfl (Yd.move rfl) ?_
        refine WL.gy (dj := 155) rfl rfl rfl (Yd.move rfl) ?_
        refine WL.grf (dj := 155) rfl rfl rfl (Ent.func Try.call12 rfl) (goods_nil []) (by repeat (first | exact Sp.here | exact Sp.sn | exact Sp.s0 | exact Fr.here | apply Sp.s2 | apply Sp.sx | apply Fr.fc | apply Fr.al | apply Fr.fa | apply Sp.sc | apply Sp.al | apply Sp.sa)) ?_
        refine WL.gy (dj := 155) rfl rfl rfl (Yd.len (e := 32) (by kernel_rfl) rfl) ?_
        refine WL.gy (dj := 155) rfl rfl rfl (Yd.eql rfl rfl) ?_
        refine WL.renamed (t := 159) (v := .bool true) rfl (congrArg Value.bool (by decide)) ?_
        refine WL.y rfl (Yd.pickT rfl rfl) ?_
        refine WL.y rfl (Yd.move rfl) ?_
        refine WL.gy (dj := 161) rfl rfl rfl (Yd.move rfl) ?_
        refine WL.grf (dj := 161) rfl rfl rfl (Ent.func Try.call18 rfl) (holdsS_nil []) (by repeat (first | exact Sp.here | exact Sp.sn | exact Sp.s0 | exact Fr.here | apply Sp.s2 | apply Sp.sx | apply Fr.fc | apply Fr.al | apply Fr.fa | apply Sp.sc | apply Sp.al | apply Sp.sa)) ?_
        refine WL.gy (dj := 161) rfl rfl rfl (Yd.len (e := 50) (by kernel_rfl) rfl) ?_
        refine WL.gy (dj := 161) rfl rfl rfl (Yd.eql rfl rfl) ?_
        refine WL.renamed (t := 165) (v := .bool true) rfl (congrArg Value.bool (by decide)) ?_
        refine WL.y rfl (Yd.pickT rfl rfl) ?_
        refine WL.y rfl (Yd.move rfl) ?_
        refine WL.gy (dj := 167) rfl rfl rfl (Yd.move rfl) ?_
        refine WL.grf (dj := 167) rfl rfl rfl (Ent.func Try.call23 rfl) (gone_nil ⟨#[97]⟩ []) (by repeat (first | exact Sp.here | exact Sp.sn | exact Sp.s0 | exact Fr.here | apply Sp.s2 | apply Sp.sx | apply Fr.fc | apply Fr.al | apply Fr.fa | apply Sp.sc | apply Sp.al | apply Sp.sa)) ?_
        refine WL.gy (dj := 167) rfl rfl rfl (Yd.eql rfl rfl) ?_
        refine WL.renamed (t := 170) (v := .bool true) rfl (congrArg Value.bool (by decide)) ?_
        refine WL.y rfl (Yd.pickT rfl rfl) ?_
        refine WL.y rfl (Yd.assign rfl) ?_
        refine WL.nil ?_
        refine DN.then_normal ?_
        refine WC.seq ?_
        refine WC.region ?_
        refine WL.y rfl (Yd.move rfl) ?_
        refine WL.c rfl (Ent.func Try.call12 rfl) (goods_tells p2 gs [] C7 h7 (by have := hA.1; omega)) (Sp.p (by repeat (first | exact Sp.here | exact Sp.sn | exact Sp.s0 | exact Fr.here | apply Sp.s2 | apply Sp.sx | apply Fr.fc | apply Fr.al | apply Fr.fa | apply Sp.sc | apply Sp.al | apply Sp.sa))) ?_
        rintro q C5 ⟨S6, Cs6, hT6, ho6, rfl⟩
        have hl6 := hT6.perm.length_eq
        obtain ⟨so6, sc6, rfl, _⟩ := ho6.form
        have he6 := told_same hA.2.1 hT6 hT9
        refine WL.y rfl (Yd.move rfl) ?_
        refine WL.rf rfl (Ent.func Try.call19 rfl) (sameGoods_reads _ _ S6 S9 (Cs6 ++ Cs9) (ho6.rs.mono (by repeat (first | exact Gr.refl | exact Gr.left Gr.refl | exact Gr.left (Gr.left Gr.refl) | exact Gr.left (Gr.app Gr.refl) | exact Gr.left (Gr.left (Gr.left Gr.refl)) | exact Gr.nil | exact Gr.app (Gr.left Gr.refl) | refine Gr.cons ?_ | refine Gr.app ?_ | refine Gr.both ?_ ?_ | refine Gr.put (by repeat (first | exact List.mem_cons_self | apply List.mem_cons_of_mem | apply List.mem_append_right)) ?_))) (ho9.rs.mono (by repeat (first | exact Gr.refl | exact Gr.left Gr.refl | exact Gr.left (Gr.left Gr.refl) | exact Gr.left (Gr.app Gr.refl) | exact Gr.left (Gr.left (Gr.left Gr.refl)) | exact Gr.nil | exact Gr.app (Gr.left Gr.refl) | refine Gr.cons ?_ | refine Gr.app ?_ | refine Gr.both ?_ ?_ | refine Gr.put (by repeat (first | exact List.mem_cons_self | apply List.mem_cons_of_mem | apply List.mem_append_right)) ?_))) (by omega) (by omega)) (by repeat (first | exact Sp.here | exact Sp.sn | exact Sp.s0 | exact Fr.here | apply Sp.s2 | apply Sp.sx | apply Fr.fc | apply Fr.al | apply Fr.fa | apply Sp.sc | apply Sp.al | apply Sp.sa)) ?_
        refine WL.renamed (t := 175) (v := .bool true) rfl (congrArg Value.bool (decide_eq_true (by rw [he6]))) ?_
        refine WL.y rfl (Yd.move rfl) ?_
        refine WL.gy (dj := 176) rfl rfl rfl (Yd.move rfl) ?_
        refine WL.gc (dj := 176) rfl rfl rfl (Ent.func Try.call18 rfl) (holds_tells p2 gs [] C7 h7 (by decide)) (Sp.p (by repeat (first | exact Sp.here | exact Sp.sn | exact Sp.s0 | exact Fr.here | apply Sp.s2 | apply Sp.sx | apply Fr.fc | apply Fr.al | apply Fr.fa | apply Sp.sc | apply Sp.al | apply Sp.sa))) ?_
        rintro q C5 ⟨T7, Ds7, hU7, hq7, rfl⟩
        have hm7 := hU7.perm.length_eq
        obtain ⟨to7, tc7, rfl, _⟩ := hq7.form
        refine WL.gy (dj := 176) rfl rfl rfl (Yd.len (e := 50) (by kernel_rfl) rfl) ?_
        refine WL.gy (dj := 176) rfl rfl rfl (Yd.eql rfl rfl) ?_
        refine WL.renamed (t := 180) (v := .bool true) rfl (congrArg Value.bool (decide_eq_true (by simp only [List.length_nil] at hm7; omega))) ?_
        refine WL.y rfl (Yd.pickT rfl rfl) ?_
        refine WL.y rfl (Yd.move rfl) ?_
        refine WL.gy (dj := 182) rfl rfl rfl (Yd.move rfl) ?_
        refine WL.y rfl (Yd.pickT rfl rfl) ?_
        refine WL.y rfl (Yd.move rfl) ?_
        refine WL.gr (dj := 185) rfl rfl rfl (Ent.func Try.call10 rfl) (known09 _) ?_
        refine WL.y rfl (Yd.pickT rfl rfl) ?_
        refine WL.y rfl (Yd.assign rfl) ?_
        refine WL.nil ?_
        refine DN.then_normal ?_
        refine WC.ret ?_
        refine DN.fit (C := H) (by repeat (first | exact Sp.here | exact Sp.sn | exact Sp.s0 | exact Fr.here | apply Sp.s2 | apply Sp.sx | apply Fr.fc | apply Fr.al | apply Fr.fa | apply Sp.sc | apply Sp.al | apply Sp.sa)) ?_
        refine DN.ret1 Try.results7 rfl ?_
        exact ⟨rfl, rfl⟩
    · refine WC.region ?_
      refine WL.y rfl (Yd.move rfl) ?_
      refine WL.ca rfl (Ent.func Try.call11 rfl) (new_tells _ gs hg H hv hl) ?_
      rintro q H1 hq
      first | (obtain ⟨p, C1, rfl, h1, rfl⟩ := new_in hq hA; have inv1 := hA.inv hg) | (obtain ⟨rfl, hHq⟩ := new_out hq hA; rw [hHq])
      refine WL.y rfl (Yd.move rfl) ?_
      refine WL.y rfl (Yd.extract rfl rfl) ?_
      refine WL.y rfl (Yd.extract rfl rfl) ?_
      refine WL.y rfl (Yd.assign rfl) ?_
      refine WL.y rfl (Yd.assign rfl) ?_
      refine WL.nil ?_
      refine DN.then_normal ?_
      refine WC.seq ?_
      refine WC.region ?_
      refine WL.y rfl (Yd.move rfl) ?_
      refine WL.ca rfl (Ent.func Try.call11 rfl) (new_tells _ gs hg _ (by first | exact hv | exact hv.mono fun y hy => List.mem_append_right _ hy) hl) ?_
      rintro q H1 hq
      first | (have inv7 := hA.inv hg; obtain ⟨p2, C7, rfl, h7, rfl⟩ := new_in hq hA) | (obtain ⟨rfl, hHq⟩ := new_out hq hA; rw [hHq])
      refine WL.y rfl (Yd.move rfl) ?_
      refine WL.y rfl (Yd.extract rfl rfl) ?_
      refine WL.y rfl (Yd.extract rfl rfl) ?_
      refine WL.y rfl (Yd.assign rfl) ?_
      refine WL.y rfl (Yd.assign rfl) ?_
      refine WL.nil ?_
      refine DN.then_normal ?_
      refine WC.seq ?_
      refine WC.seq ?_
      refine WC.region ?_
      refine WL.y rfl (Yd.move rfl) ?_
      refine WL.y rfl (Yd.move rfl) ?_
      refine WL.y rfl (Yd.neq rfl rfl) ?_
      refine WL.renamed (t := 36) (v := .bool false) rfl (congrArg Value.bool (by decide)) ?_
      refine WL.y rfl (Yd.move rfl) ?_
      refine WL.gy (dj := 37) rfl rfl rfl (Yd.move rfl) ?_
      refine WL.gy (dj := 37) rfl rfl rfl (Yd.neq rfl rfl) ?_
      refine WL.renamed (t := 39) (v := .bool true) rfl (congrArg Value.bool (by decide)) ?_
      refine WL.y rfl (Yd.pickF rfl rfl) ?_
      refine WL.nil ?_
      refine DN.then_normal ?_
      refine WC.yes rfl ?_
      refine WC.seq ?_
      refine WC.region ?_
      refine WL.y rfl (Yd.move rfl) ?_
      refine WL.y rfl (Yd.move rfl) ?_
      refine WL.y rfl (Yd.eql rfl rfl) ?_
      refine WL.renamed (t := 43) (v := .bool true) rfl (congrArg Value.bool (by decide)) ?_
      refine WL.y rfl (Yd.move rfl) ?_
      refine WL.gr (dj := 44) rfl rfl rfl (Ent.func Try.call10 rfl) (known09 _) ?_
      refine WL.y rfl (Yd.pickT rfl rfl) ?_
      refine WL.y rfl (Yd.assign rfl) ?_
      refine WL.nil ?_
      refine DN.then_normal ?_
      refine WC.ret ?_
      refine DN.then_ret ?_
      refine DN.fit (C := H) (by repeat (first | exact Sp.here | exact Sp.sn | exact Sp.s0 | exact Fr.here | apply Sp.s2 | apply Sp.sx | apply Fr.fc | apply Fr.al | apply Fr.fa | apply Sp.sc | apply Sp.al | apply Sp.sa)) ?_
      refine DN.ret1 Try.results7 rfl ?_
      exact ⟨rfl, rfl⟩

end Go.Proofs.Ytdbbkodjhmfjfaa
