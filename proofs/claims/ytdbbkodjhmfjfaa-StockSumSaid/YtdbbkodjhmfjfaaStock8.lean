/-
  The walk of StockSum.
-/
import Derived.Test.YtdbbkodjhmfjfaaStock6
set_option linter.unusedVariables false
set_option linter.unusedSimpArgs false
set_option maxHeartbeats 4000000
namespace Go.Proofs.Ytdbbkodjhmfjfaa
open Go.SL


/-- drayage/drayagelaw09.StockSum -/
theorem law_StockSum (H : List Ck) (v : Value) (gs : List Gd) (hg : ∀ g ∈ gs, g.gone = 0) (hv : Rs v gs.length (gs.flatMap cellsG) H) (hl : gs.length ≤ 9223372036854775807) (va : Value) (acts : List Ac9) (hva : Rs va acts.length (acts.flatMap cellsA) H) (hla : acts.length ≤ 9223372036854775807) : Reads Try.prog 5 [v, va] H (.bool true) := by
  refine Tells.enter Try.func5 rfl Try.ntmps5 rfl ?_
  intro w0 R
  obtain ⟨vo, vc, rfl, hvc⟩ := hv.form
  obtain ⟨ao, ac, rfl, hac⟩ := hva.form
  refine WC.seq ?_
  refine WC.region ?_
  refine WL.y rfl (Yd.assign rfl) ?_
  refine WL.nil ?_
  refine DN.then_normal ?_
  refine WC.seq ?_
  refine WC.seq ?_
  refine WC.region ?_
  refine WL.y rfl (Yd.move rfl) ?_
  refine WL.y rfl (Yd.move rfl) ?_
  refine WL.rf rfl (Ent.func Try.call9 rfl) (long_reads _ _ gs acts H hv hva hl hla) (by repeat (first | exact Sp.here | exact Sp.sn | exact Sp.s0 | exact Fr.here | apply Sp.s2 | apply Sp.sx | apply Fr.fc | apply Fr.al | apply Fr.fa | apply Sp.sc | apply Sp.al | apply Sp.sa)) ?_
  refine WL.nil ?_
  refine DN.then_normal ?_
  refine WC.cond rfl (fun h19 => ?_) (fun h19 => ?_)
  · refine WC.seq ?_
    refine WC.region ?_
    refine WL.r rfl (Ent.func Try.call10 rfl) (known09 _) ?_
    refine WL.y rfl (Yd.assign rfl) ?_
    refine WL.nil ?_
    refine DN.then_normal ?_
    refine WC.ret ?_
    refine DN.then_ret ?_
    refine DN.fit (C := H) (by repeat (first | exact Sp.here | exact Sp.sn | exact Sp.s0 | exact Fr.here | apply Sp.s2 | apply Sp.sx | apply Fr.fc | apply Fr.al | apply Fr.fa | apply Sp.sc | apply Sp.al | apply Sp.sa)) ?_
    refine DN.ret1 Try.results5 rfl ?_
    exact ⟨rfl, rfl⟩
  · refine WC.skip ?_
    refine DN.then_normal ?_
    refine WC.seq ?_
    rcases Classical.em (GoodL gs) with hA | hA
    · refine WC.region ?_
      refine WL.y rfl (Yd.move rfl) ?_
      refine WL.ca rfl (Ent.func Try.call11 rfl) (new_tells _ gs hg H hv hl) ?_
      rintro q H1 hq
      first | (obtain ⟨p, C1, rfl, h1, rfl⟩ := new_in hq hA; have inv1 := hA.inv hg) | (obtain ⟨rfl, hHq⟩ := new_out hq hA; rw [hHq])
      refine WL.y rfl (Yd.move rfl) ?_
      refine WL.y rfl (Yd.extract rfl rfl) ?_
      refine WL.y rfl (Yd.extract rfl rfl) ?_
      refine WL.y rfl (Yd.assign rfl) ?_
      refine WL.y rfl (Yd.assign rfl) ?_
      refine WL.nil ?_
      refine DN.then_normal ?_
      refine WC.seq ?_
      refine WC.seq ?_
      refine WC.region ?_
      refine WL.y rfl (Yd.move rfl) ?_
      refine WL.y rfl (Yd.neq rfl rfl) ?_
      refine WL.renamed (t := 27) (v := .bool false) rfl (congrArg Value.bool (by decide)) ?_
      refine WL.nil ?_
      refine DN.then_normal ?_
      refine WC.no rfl ?_
      refine WC.skip ?_
      refine DN.then_normal ?_
      refine WC.seq ?_
      refine WC.region ?_
      refine WL.y rfl (Yd.move rfl) ?_
      refine WL.c rfl (Ent.func Try.call12 rfl) (goods_tells p gs [] C1 h1 (by have := hA.1; omega)) (Sp.p (by repeat (first | exact Sp.here | exact Sp.sn | exact Sp.s0 | exact Fr.here | apply Sp.s2 | apply Sp.sx | apply Fr.fc | apply Fr.al | apply Fr.fa | apply Sp.sc | apply Sp.al | apply Sp.sa))) ?_
      rintro q C5 ⟨S1, Cs1, hT1, ho1, rfl⟩
      have hl1 := hT1.perm.length_eq
      obtain ⟨so1, sc1, rfl, _⟩ := ho1.form
      refine WL.y rfl (Yd.assign rfl) ?_
      refine WL.nil ?_
      refine DN.then_normal ?_
      refine WC.seq ?_
      refine WC.seq ?_
      refine WC.region ?_
      refine WL.y rfl (Yd.assign rfl) ?_
      refine WL.nil ?_
      refine DN.then_normal ?_
      refine WC.block ?_
      refine WC.loopS (fun z : Nat × List Gd × List Ho × List Ck => z.1 ≤ acts.length ∧ StAt 57 p z.2.1 z.2.2.1 z.2.2.2 ∧ SInv gs z.2.1 z.2.2.1) (fun z : Nat × List Gd × List Ho × List Ck => [(8, .int .i64 (z.1 : Int))]) (fun z : Nat × List Gd × List Ho × List Ck => z.2.2.2 ++ (Cs1 ++ H)) (fun z : Nat × List Gd × List Ho × List Ck => acts.length - z.1) (⟨0, gs, [], C1⟩) (show 0 ≤ acts.length ∧ StAt 57 p gs [] C1 ∧ SInv gs gs [] from ⟨Nat.zero_le _, h1, inv1⟩) (Sx.put rfl ((by repeat (first | exact Sx.refl | refine Sx.skip rfl ?_)))) (by repeat (first | exact Sp.here | exact Sp.sn | exact Sp.s0 | exact Fr.here | apply Sp.s2 | apply Sp.sx | apply Fr.fc | apply Fr.al | apply Fr.fa | apply Sp.sc | apply Sp.al | apply Sp.sa)) ?_
      rintro ⟨i, K1, L1, C2⟩ hI
      replace hI : i ≤ acts.length ∧ StAt 57 p K1 L1 C2 ∧ SInv gs K1 L1 := hI
      obtain ⟨hi, h2, inv⟩ := hI
      change WC _ _ _ _ _ _ ([(8, .int .i64 (i : Int))] ++ _) (C2 ++ (Cs1 ++ H))
      have hmany := inv.many
      refine WC.seq ?_
      refine WC.seq ?_
      refine WC.region ?_
      refine WL.y rfl (Yd.move rfl) ?_
      refine WL.y rfl (Yd.move rfl) ?_
      refine WL.y rfl (Yd.len (e := 41) (by kernel_rfl) rfl) ?_
      refine WL.y rfl (Yd.lss rfl rfl) ?_
      refine WL.y rfl (Yd.move rfl) ?_
      refine WL.partP (t := 39) rfl (fun hg39 => ?_) (fun hg39 => ?_)
      · refine WL.gy (dj := 39) rfl rfl rfl (Yd.move rfl) ?_
        refine WL.gy (dj := 39) rfl rfl rfl (Yd.lss rfl rfl) ?_
        refine WL.y rfl (Yd.pickT rfl rfl) ?_
        refine WL.nil ?_
        refine DN.then_normal ?_
        refine WC.ite rfl (fun h42 => ?_) (fun h42 => ?_)
        · have hlt : i < acts.length := by omega
          refine WC.skip ?_
          refine DN.then_normal ?_
          refine WC.seq ?_
          refine WC.block ?_
          refine WC.seq ?_
          refine WC.region ?_
          refine WL.y rfl (Yd.move rfl) ?_
          refine WL.c rfl (Ent.func Try.call12 rfl) (goods_tells p K1 L1 C2 h2 (by omega)) (Sp.p (by repeat (first | exact Sp.here | exact Sp.sn | exact Sp.s0 | exact Fr.here | apply Sp.s2 | apply Sp.sx | apply Fr.fc | apply Fr.al | apply Fr.fa | apply Sp.sc | apply Sp.al | apply Sp.sa))) ?_
          rintro q C5 ⟨S4, Cs4, hT4, ho4, rfl⟩
          have hl4 := hT4.perm.length_eq
          obtain ⟨so4, sc4, rfl, _⟩ := ho4.form
          refine WL.y rfl (Yd.assign rfl) ?_
          refine WL.nil ?_
          refine DN.then_normal ?_
          refine WC.seq ?_
          refine WC.region ?_
          refine WL.y rfl (Yd.move rfl) ?_
          refine WL.c rfl (Ent.func Try.call18 rfl) (holds_tells p K1 L1 C2 h2 (by omega)) (Sp.p (by repeat (first | exact Sp.here | exact Sp.sn | exact Sp.s0 | exact Fr.here | apply Sp.s2 | apply Sp.sx | apply Fr.fc | apply Fr.al | apply Fr.fa | apply Sp.sc | apply Sp.al | apply Sp.sa))) ?_
          rintro q C5 ⟨T4, Ds4, hU4, hq4, rfl⟩
          have hm4 := hU4.perm.length_eq
          obtain ⟨to4, tc4, rfl, _⟩ := hq4.form
          refine WL.y rfl (Yd.assign rfl) ?_
          refine WL.nil ?_
          refine DN.then_normal ?_
          refine WC.seq ?_
          refine WC.region ?_
          refine WL.y rfl (Yd.move rfl) ?_
          refine WL.y rfl (Yd.move rfl) ?_
          refine WL.y rfl (Yd.move rfl) ?_
          refine WL.elemA (e := 41) (s := 4) (by kernel_rfl) (by kernel_rfl) (by kernel_rfl) rfl rfl (rfl) (hva.mono (by repeat (first | exact Gr.refl | exact Gr.left Gr.refl | exact Gr.left (Gr.left Gr.refl) | exact Gr.left (Gr.app Gr.refl) | exact Gr.left (Gr.left (Gr.left Gr.refl)) | exact Gr.nil | exact Gr.app (Gr.left Gr.refl) | refine Gr.cons ?_ | refine Gr.app ?_ | refine Gr.both ?_ ?_ | refine Gr.put (by repeat (first | exact List.mem_cons_self | apply List.mem_cons_of_mem | apply List.mem_append_right)) ?_))) (flat_row cellsA 4 cellsA_len acts i hlt) (by rfl) (by omega) (hlt) rfl rfl ?_
          intro p52
          refine WL.c rfl (Ent.func Try.call15 rfl) (act_tells p gs K1 L1 C2 h2 inv acts[i]) (Sp.p (by repeat (first | exact Sp.here | exact Sp.sn | exact Sp.s0 | exact Fr.here | apply Sp.s2 | apply Sp.sx | apply Fr.fc | apply Fr.al | apply Fr.fa | apply Sp.sc | apply Sp.al | apply Sp.sa))) ?_
          rintro q C3 ⟨rfl, h3⟩
          have inv3 := inv.act acts[i]
          have hor := actV_or K1 L1 acts[i]
          obtain ⟨K3, hK3⟩ : ∃ x, x = actKs K1 L1 acts[i] := ⟨_, rfl⟩
          obtain ⟨L3, hL3⟩ : ∃ x, x = actLs K1 L1 acts[i] := ⟨_, rfl⟩
          rw [← hK3, ← hL3] at h3 inv3 hor
          have hmany3 := inv3.many
          refine WL.y rfl (Yd.assign rfl) ?_
          refine WL.nil ?_
          refine DN.then_normal ?_
          refine WC.seq ?_
          refine WC.region ?_
          refine WL.y rfl (Yd.move rfl) ?_
          refine WL.c rfl (Ent.func Try.call12 rfl) (goods_tells p K3 L3 C3 h3 (by omega)) (Sp.p (by repeat (first | exact Sp.here | exact Sp.sn | exact Sp.s0 | exact Fr.here | apply Sp.s2 | apply Sp.sx | apply Fr.fc | apply Fr.al | apply Fr.fa | apply Sp.sc | apply Sp.al | apply Sp.sa))) ?_
          rintro q C6 ⟨S5, Cs5, hT5, ho5, rfl⟩
          have hl5 := hT5.perm.length_eq
          obtain ⟨so5, sc5, rfl, _⟩ := ho5.form
          have hnm5 := told_names hA.2.1 inv3.names hT1 hT5
          refine WL.y rfl (Yd.assign rfl) ?_
          refine WL.nil ?_
          refine DN.then_normal ?_
          refine WC.seq ?_
          refine WC.region ?_
          refine WL.y rfl (Yd.move rfl) ?_
          refine WL.c rfl (Ent.func Try.call18 rfl) (holds_tells p K3 L3 C3 h3 (by omega)) (Sp.p (by repeat (first | exact Sp.here | exact Sp.sn | exact Sp.s0 | exact Fr.here | apply Sp.s2 | apply Sp.sx | apply Fr.fc | apply Fr.al | apply Fr.fa | apply Sp.sc | apply Sp.al | apply Sp.sa))) ?_
          rintro q C6 ⟨T5, Ds5, hU5, hq5, rfl⟩
          have hm5 := hU5.perm.length_eq
          obtain ⟨to5, tc5, rfl, _⟩ := hq5.form
          have hpos : ∀ x ∈ T5, 1 ≤ x.n := fun x hx => (inv3.holds x (hU5.perm.mem_iff.1 hx)).1
          refine WL.y rfl (Yd.assign rfl) ?_
          refine WL.nil ?_
          refine DN.then_normal ?_
          refine WC.seq ?_
          refine WC.cutK (fun _z : Unit => True) (fun _z : Unit => [(83, .bool false)]) (fun _z : Unit => Ds5 ++ (Cs5 ++ (C3 ++ (Cs1 ++ H)))) ?_ ?_
          · refine WC.region ?_
            refine WL.y rfl (Yd.move rfl) ?_
            refine WL.y rfl (Yd.neq rfl rfl) ?_
            refine WL.y rfl (Yd.move rfl) ?_
            refine WL.partP (t := 61) rfl (fun hg61 => ?_) (fun hg61 => ?_)
            · refine WL.gy (dj := 61) rfl rfl rfl (Yd.move rfl) ?_
              refine WL.gy (dj := 61) rfl rfl rfl (Yd.neq rfl rfl) ?_
              refine WL.renamed (t := 63) (v := .bool false) rfl (congrArg Value.bool (decide_eq_false (by rcases hor with h | h; exact absurd h hg61; exact fun e => e h.1))) ?_
              refine WL.gy (dj := 61) rfl rfl rfl (Yd.move rfl) ?_
              refine WL.gy (dj := 64) rfl rfl rfl (Yd.move rfl) ?_
              refine WL.gy (dj := 64) rfl rfl rfl (Yd.move rfl) ?_
              refine WL.grf (dj := 64) rfl rfl rfl (Ent.func Try.call19 rfl) (sameGoods_reads _ _ S4 S5 (Cs4 ++ Cs5) (ho4.rs.mono (by repeat (first | exact Gr.refl | exact Gr.left Gr.refl | exact Gr.left (Gr.left Gr.refl) | exact Gr.left (Gr.app Gr.refl) | exact Gr.left (Gr.left (Gr.left Gr.refl)) | exact Gr.nil | exact Gr.app (Gr.left Gr.refl) | refine Gr.cons ?_ | refine Gr.app ?_ | refine Gr.both ?_ ?_ | refine Gr.put (by repeat (first | exact List.mem_cons_self | apply List.mem_cons_of_mem | apply List.mem_append_right)) ?_))) (ho5.rs.mono (by repeat (first | exact Gr.refl | exact Gr.left Gr.refl | exact Gr.left (Gr.left Gr.refl) | exact Gr.left (Gr.app Gr.refl) | exact Gr.left (Gr.left (Gr.left Gr.refl)) | exact Gr.nil | exact Gr.app (Gr.left Gr.refl) | refine Gr.cons ?_ | refine Gr.app ?_ | refine Gr.both ?_ ?_ | refine Gr.put (by repeat (first | exact List.mem_cons_self | apply List.mem_cons_of_mem | apply List.mem_append_right)) ?_))) (by omega) (by omega)) (by repeat (first | exact Sp.here | exact Sp.sn | exact Sp.s0 | exact Fr.here | apply Sp.s2 | apply Sp.sx | apply Fr.fc | apply Fr.al | apply Fr.fa | apply Sp.sc | apply Sp.al | apply Sp.sa)) ?_
              refine WL.renamed (t := 67) (v := .bool true) rfl (congrArg Value.bool (decide_eq_true (by obtain ⟨_, e1, e2⟩ := (by rcases hor with h | h; exact absurd h hg61; exact h : actV K1 L1 acts[i] = 2 ∧ K3 = K1 ∧ L3 = L1); rw [e1] at hT5; rw [told_same inv.knd hT4 hT5]))) ?_
              refine WL.gy (dj := 64) rfl rfl rfl (Yd.notB rfl) ?_
              refine WL.gy (dj := 61) rfl rfl rfl (Yd.pickF rfl rfl) ?_
              refine WL.gy (dj := 61) rfl rfl rfl (Yd.move rfl) ?_
              refine WL.gy (dj := 70) rfl rfl rfl (Yd.move rfl) ?_
              refine WL.gy (dj := 70) rfl rfl rfl (Yd.move rfl) ?_
              refine WL.grf (dj := 70) rfl rfl rfl (Ent.func Try.call21 rfl) (sameHolds_reads _ _ T4 T5 (Ds4 ++ Ds5) (hq4.rs.mono (by repeat (first | exact Gr.refl | exact Gr.left Gr.refl | exact Gr.left (Gr.left Gr.refl) | exact Gr.left (Gr.app Gr.refl) | exact Gr.left (Gr.left (Gr.left Gr.refl)) | exact Gr.nil | exact Gr.app (Gr.left Gr.refl) | refine Gr.cons ?_ | refine Gr.app ?_ | refine Gr.both ?_ ?_ | refine Gr.put (by repeat (first | exact List.mem_cons_self | apply List.mem_cons_of_mem | apply List.mem_append_right)) ?_))) (hq5.rs.mono (by repeat (first | exact Gr.refl | exact Gr.left Gr.refl | exact Gr.left (Gr.left Gr.refl) | exact Gr.left (Gr.app Gr.refl) | exact Gr.left (Gr.left (Gr.left Gr.refl)) | exact Gr.nil | exact Gr.app (Gr.left Gr.refl) | refine Gr.cons ?_ | refine Gr.app ?_ | refine Gr.both ?_ ?_ | refine Gr.put (by repeat (first | exact List.mem_cons_self | apply List.mem_cons_of_mem | apply List.mem_append_right)) ?_))) (by omega) (by omega)) (by repeat (first | exact Sp.here | exact Sp.sn | exact Sp.s0 | exact Fr.here | apply Sp.s2 | apply Sp.sx | apply Fr.fc | apply Fr.al | apply Fr.fa | apply Sp.sc | apply Sp.al | apply Sp.sa)) ?_
              refine WL.renamed (t := 73) (v := .bool true) rfl (congrArg Value.bool (decide_eq_true (by obtain ⟨_, e1, e2⟩ := (by rcases hor with h | h; exact absurd h hg61; exact h : actV K1 L1 acts[i] = 2 ∧ K3 = K1 ∧ L3 = L1); rw [e2] at hU5; exact told_holds inv.keys hU4 hU5))) ?_
              refine WL.gy (dj := 70) rfl rfl rfl (Yd.notB rfl) ?_
              refine WL.gy (dj := 61) rfl rfl rfl (Yd.pickF rfl rfl) ?_
              refine WL.y rfl (Yd.pickT rfl rfl) ?_
              refine WL.y rfl (Yd.move rfl) ?_
              refine WL.gy (dj := 77) rfl rfl rfl (Yd.move rfl) ?_
              refine WL.gy (dj := 77) rfl rfl rfl (Yd.len (e := 32) (by kernel_rfl) rfl) ?_
              refine WL.gy (dj := 77) rfl rfl rfl (Yd.move rfl) ?_
              refine WL.gy (dj := 77) rfl rfl rfl (Yd.len (e := 32) (by kernel_rfl) rfl) ?_
              refine WL.gy (dj := 77) rfl rfl rfl (Yd.neq rfl rfl) ?_
              refine WL.renamed (t := 82) (v := .bool false) rfl (congrArg Value.bool (decide_eq_false (by omega))) ?_
              refine WL.y rfl (Yd.pickF rfl rfl) ?_
              refine WL.nil ?_
              refine DN.fit (C := Ds5 ++ (Cs5 ++ (C3 ++ (Cs1 ++ H)))) (by repeat (first | exact Sp.here | exact Sp.sn | exact Sp.s0 | exact Fr.here | apply Sp.s2 | apply Sp.sx | apply Fr.fc | apply Fr.al | apply Fr.fa | apply Sp.sc | apply Sp.al | apply Sp.sa)) ?_
              exact DN.reachK (()) (trivial) (Sx.put rfl ((by repeat (first | exact Sx.refl | refine Sx.skip rfl ?_)))) (Sp.all (by repeat (first | exact Sp.here | exact Sp.sn | exact Sp.s0 | exact Fr.here | apply Sp.s2 | apply Sp.sx | apply Fr.fc | apply Fr.al | apply Fr.fa | apply Sp.sc | apply Sp.al | apply Sp.sa)))
            · refine WL.gn (dj := 61) rfl rfl rfl rfl ?_
              refine WL.gn (dj := 61) rfl rfl rfl rfl ?_
              refine WL.gn (dj := 61) rfl rfl rfl rfl ?_
              refine WL.gu (dj := 64) rfl rfl rfl ?_
              refine WL.gu (dj := 64) rfl rfl rfl ?_
              refine WL.gu (dj := 64) rfl rfl rfl ?_
              refine WL.gu (dj := 64) rfl rfl rfl ?_
              refine WL.gn (dj := 61) rfl rfl rfl rfl ?_
              refine WL.gn (dj := 61) rfl rfl rfl rfl ?_
              refine WL.gu (dj := 70) rfl rfl rfl ?_
              refine WL.gu (dj := 70) rfl rfl rfl ?_
              refine WL.gu (dj := 70) rfl rfl rfl ?_
              refine WL.gu (dj := 70) rfl rfl rfl ?_
              refine WL.gn (dj := 61) rfl rfl rfl rfl ?_
              refine WL.y rfl (Yd.pickF rfl rfl) ?_
              refine WL.y rfl (Yd.move rfl) ?_
              refine WL.gy (dj := 77) rfl rfl rfl (Yd.move rfl) ?_
              refine WL.gy (dj := 77) rfl rfl rfl (Yd.len (e := 32) (by kernel_rfl) rfl) ?_
              refine WL.gy (dj := 77) rfl rfl rfl (Yd.move rfl) ?_
              refine WL.gy (dj := 77) rfl rfl rfl (Yd.len (e := 32) (by kernel_rfl) rfl) ?_
              refine WL.gy (dj := 77) rfl rfl rfl (Yd.neq rfl rfl) ?_
              refine WL.renamed (t := 82) (v := .bool false) rfl (congrArg Value.bool (decide_eq_false (by omega))) ?_
              refine WL.y rfl (Yd.pickF rfl rfl) ?_
              refine WL.nil ?_
              refine DN.fit (C := Ds5 ++ (Cs5 ++ (C3 ++ (Cs1 ++ H)))) (by repeat (first | exact Sp.here | exact Sp.sn | exact Sp.s0 | exact Fr.here | apply Sp.s2 | apply Sp.sx | apply Fr.fc | apply Fr.al | apply Fr.fa | apply Sp.sc | apply Sp.al | apply Sp.sa)) ?_
              exact DN.reachK (()) (trivial) (Sx.put rfl ((by repeat (first | exact Sx.refl | refine Sx.skip rfl ?_)))) (Sp.all (by repeat (first | exact Sp.here | exact Sp.sn | exact Sp.s0 | exact Fr.here | apply Sp.s2 | apply Sp.sx | apply Fr.fc | apply Fr.al | apply Fr.fa | apply Sp.sc | apply Sp.al | apply Sp.sa)))
          · intro _ _
            refine WC.no rfl ?_
            refine WC.skip ?_
            refine DN.then_normal ?_
            refine WC.seq ?_
            refine WC.region ?_
            refine WL.y rfl (Yd.assign rfl) ?_
            refine WL.nil ?_
            refine DN.then_normal ?_
            refine WC.block ?_
            refine WC.loopS (fun z : Nat => z ≤ S5.length) (fun z : Nat => [(14, .int .i64 (z : Int))]) (fun z : Nat => Ds5 ++ (Cs5 ++ (C3 ++ (Cs1 ++ H)))) (fun z : Nat => S5.length - z) (0) (show 0 ≤ S5.length from Nat.zero_le _) (Sx.put rfl ((by repeat (first | exact Sx.refl | refine Sx.skip rfl ?_)))) (by repeat (first | exact Sp.here | exact Sp.sn | exact Sp.s0 | exact Fr.here | apply Sp.s2 | apply Sp.sx | apply Fr.fc | apply Fr.al | apply Fr.fa | apply Sp.sc | apply Sp.al | apply Sp.sa)) ?_
            rintro k hI
            replace hI : k ≤ S5.length := hI
            obtain hk := hI
            change WC _ _ _ _ _ _ ([(14, .int .i64 (k : Int))] ++ _) (Ds5 ++ (Cs5 ++ (C3 ++ (Cs1 ++ H))))
            refine WC.seq ?_
            refine WC.seq ?_
            refine WC.region ?_
            refine WL.y rfl (Yd.move rfl) ?_
            refine WL.y rfl (Yd.move rfl) ?_
            refine WL.y rfl (Yd.len (e := 32) (by kernel_rfl) rfl) ?_
            refine WL.y rfl (Yd.lss rfl rfl) ?_
            refine WL.nil ?_
            refine DN.then_normal ?_
            refine WC.ite rfl (fun h87 => ?_) (fun h87 => ?_)
            · have hklt : k < S5.length := by omega
              obtain ⟨ub, uf, us, uT, ufr, uex, rfl, _, hum, hus⟩ := ho5.rs.lies (by omega)
              obtain ⟨xb, xf, xs, xT, xfr, xex, rfl, _, hxm, hxs⟩ := ho1.rs.lies (by omega)
              have hk1 : k < S1.length := by omega
              have hn5 := hnm5.2 k hklt hk1
              have hf5 := (told_free inv3.knd hT5 (List.getElem_mem hklt)).1
              have hf1 := (told_free hA.2.1 hT1 (List.getElem_mem hk1)).1
              rw [← hn5] at hf1
              have hsum := inv3.sums S5[k].name
              have hmid := inv3.mid S5[k].name
              have hsp := sumN_perm hU5.perm S5[k].name
              refine WC.skip ?_
              refine DN.then_normal ?_
              refine WC.seq ?_
              refine WC.block ?_
              refine WC.seq ?_
              refine WC.draw 14 (by kernel_rfl) rfl ?_
              refine WA.y (i := 0) (NoPanic.then (NoPanic.block (NoPanic.then (NoPanic.then (NoPanic.block (NoPanic.block (NoPanic.then (NoPanic.then (NoPanic.block (NoPanic.then (NoPanic.body))))))))))) rfl (by kernel_rfl) (by kernel_rfl) (by kernel_rfl) rfl (Yd.move rfl) ?_
              refine WA.y (i := 1) (NoPanic.then (NoPanic.block (NoPanic.then (NoPanic.then (NoPanic.block (NoPanic.block (NoPanic.then (NoPanic.then (NoPanic.block (NoPanic.then (NoPanic.body))))))))))) rfl (by kernel_rfl) (by kernel_rfl) (by kernel_rfl) rfl (Yd.move rfl) ?_
              refine WA.y (i := 2) (NoPanic.then (NoPanic.block (NoPanic.then (NoPanic.then (NoPanic.block (NoPanic.block (NoPanic.then (NoPanic.then (NoPanic.block (NoPanic.then (NoPanic.body))))))))))) rfl (by kernel_rfl) (by kernel_rfl) (by kernel_rfl) rfl (Yd.indexAddr (e := 32) (s := 2) (by kernel_rfl) (by kernel_rfl) rfl rfl (by omega) (by omega)) ?_
              refine WA.y (i := 3) (NoPanic.then (NoPanic.block (NoPanic.then (NoPanic.then (NoPanic.block (NoPanic.block (NoPanic.then (NoPanic.then (NoPanic.block (NoPanic.then (NoPanic.body))))))))))) rfl (by kernel_rfl) (by kernel_rfl) (by kernel_rfl) rfl (Yd.fieldAddr (k := 1) (by kernel_rfl) rfl) ?_
              refine WA.y (i := 5) (NoPanic.then (NoPanic.block (NoPanic.then (NoPanic.then (NoPanic.block (NoPanic.block (NoPanic.then (NoPanic.then (NoPanic.block (NoPanic.then (NoPanic.body))))))))))) rfl (by kernel_rfl) (by kernel_rfl) (by kernel_rfl) rfl (Yd.move rfl) ?_
              refine WA.y (i := 6) (NoPanic.then (NoPanic.block (NoPanic.then (NoPanic.then (NoPanic.block (NoPanic.block (NoPanic.then (NoPanic.then (NoPanic.block (NoPanic.then (NoPanic.body))))))))))) rfl (by kernel_rfl) (by kernel_rfl) (by kernel_rfl) rfl (Yd.move rfl) ?_
              refine WA.y (i := 7) (NoPanic.then (NoPanic.block (NoPanic.then (NoPanic.then (NoPanic.block (NoPanic.block (NoPanic.then (NoPanic.then (NoPanic.block (NoPanic.then (NoPanic.body))))))))))) rfl (by kernel_rfl) (by kernel_rfl) (by kernel_rfl) rfl (Yd.move rfl) ?_
              refine WA.y (i := 8) (NoPanic.then (NoPanic.block (NoPanic.then (NoPanic.then (NoPanic.block (NoPanic.block (NoPanic.then (NoPanic.then (NoPanic.block (NoPanic.then (NoPanic.body))))))))))) rfl (by kernel_rfl) (by kernel_rfl) (by kernel_rfl) rfl (Yd.indexAddr (e := 32) (s := 2) (by kernel_rfl) (by kernel_rfl) rfl rfl (by omega) (by omega)) ?_
              refine WA.y (i := 9) (NoPanic.then (NoPanic.block (NoPanic.then (NoPanic.then (NoPanic.block (NoPanic.block (NoPanic.then (NoPanic.then (NoPanic.block (NoPanic.then (NoPanic.body))))))))))) rfl (by kernel_rfl) (by kernel_rfl) (by kernel_rfl) rfl (Yd.fieldAddr (k := 0) (by kernel_rfl) rfl) ?_
              refine WA.two (i := 4) (j := 10) (by kernel_rfl) ?_ ?_
              · refine WO.h rfl Wt.none rfl (Hd.load1 (v := .int .i64 S5[k].free) (b := ub) (o := uf + (k : Int).toNat * 2 + 1) (cs := us) (by kernel_rfl) rfl (Gr.get (by repeat (first | exact Gr.refl | exact Gr.left Gr.refl | exact Gr.left (Gr.left Gr.refl) | exact Gr.left (Gr.app Gr.refl) | exact Gr.left (Gr.left (Gr.left Gr.refl)) | exact Gr.nil | exact Gr.app (Gr.left Gr.refl) | refine Gr.cons ?_ | refine Gr.app ?_ | refine Gr.both ?_ ?_ | refine Gr.put (by repeat (first | exact List.mem_cons_self | apply List.mem_cons_of_mem | apply List.mem_append_right)) ?_)) hum) (cell_at2 (L := S5) cellsG_len hus (by omega) (by omega)) ⟨_, rfl, ?_⟩)
                refine WA.one (i := 10) (by kernel_rfl) ?_
                refine WO.h rfl Wt.none rfl (Hd.load1 (v := .string S5[k].name) (b := ub) (o := uf + (k : Int).toNat * 2 + 0) (cs := us) (by kernel_rfl) rfl (Gr.get (by repeat (first | exact Gr.refl | exact Gr.left Gr.refl | exact Gr.left (Gr.left Gr.refl) | exact Gr.left (Gr.app Gr.refl) | exact Gr.left (Gr.left (Gr.left Gr.refl)) | exact Gr.nil | exact Gr.app (Gr.left Gr.refl) | refine Gr.cons ?_ | refine Gr.app ?_ | refine Gr.both ?_ ?_ | refine Gr.put (by repeat (first | exact List.mem_cons_self | apply List.mem_cons_of_mem | apply List.mem_append_right)) ?_)) hum) (cell_at2 (L := S5) cellsG_len hus (by omega) (by omega)) ⟨_, rfl, ?_⟩)
                refine WA.one (i := 11) (by kernel_rfl) ?_
                refine WO.rf rfl Wt.none rfl (Ent.func Try.call23 rfl) (gone_reads p K3 L3 C3 h3 S5[k].name) (by repeat (first | exact Sp.here | exact Sp.sn | exact Sp.s0 | exact Fr.here | apply Sp.s2 | apply Sp.sx | apply Fr.fc | apply Fr.al | apply Fr.fa | apply Sp.sc | apply Sp.al | apply Sp.sa)) ?_
                refine WA.y (i := 12) (NoPanic.then (NoPanic.block (NoPanic.then (NoPanic.then (NoPanic.block (NoPanic.block (NoPanic.then (NoPanic.then (NoPanic.block (NoPanic.then (NoPanic.body))))))))))) rfl (by kernel_rfl) (by kernel_rfl) (by kernel_rfl) rfl (Yd.add rfl rfl (by omega) (by omega)) ?_
                refine WA.y (i := 13) (NoPanic.then (NoPanic.block (NoPanic.then (NoPanic.then (NoPanic.block (NoPanic.block (NoPanic.then (NoPanic.then (NoPanic.block (NoPanic.then (NoPanic.body))))))))))) rfl (by kernel_rfl) (by kernel_rfl) (by kernel_rfl) rfl (Yd.assign rfl) ?_
                refine WA.done (by kernel_rfl) ?_
                refine DN.then_normal ?_
                refine WC.seq ?_
                refine WC.seq ?_
                refine WC.region ?_
                refine WL.y rfl (Yd.assign rfl) ?_
                refine WL.nil ?_
                refine DN.then_normal ?_
                refine WC.block ?_
                refine WC.loopS (fun z : Nat × Int => z.1 ≤ T5.length ∧ z.2 = S5[k].free + goneOf K3 S5[k].name + sumN (T5.take z.1) S5[k].name) (fun z : Nat × Int => [(16, .int .i64 (z.1 : Int)), (15, .int .i64 z.2)]) (fun z : Nat × Int => Ds5 ++ (Cs5 ++ (C3 ++ (Cs1 ++ H)))) (fun z : Nat × Int => T5.length - z.1) (⟨0, S5[k].free + goneOf K3 S5[k].name⟩) (show 0 ≤ T5.length ∧ (S5[k].free + goneOf K3 S5[k].name) = S5[k].free + goneOf K3 S5[k].name + sumN (T5.take 0) S5[k].name from ⟨Nat.zero_le _, by simp [sumN]⟩) (Sx.put rfl (Sx.put rfl ((by repeat (first | exact Sx.refl | refine Sx.skip rfl ?_))))) (by repeat (first | exact Sp.here | exact Sp.sn | exact Sp.s0 | exact Fr.here | apply Sp.s2 | apply Sp.sx | apply Fr.fc | apply Fr.al | apply Fr.fa | apply Sp.sc | apply Sp.al | apply Sp.sa)) ?_
                rintro ⟨j, z⟩ hI
                replace hI : j ≤ T5.length ∧ z = S5[k].free + goneOf K3 S5[k].name + sumN (T5.take j) S5[k].name := hI
                obtain ⟨hj, hz⟩ := hI
                change WC _ _ _ _ _ _ ([(16, .int .i64 (j : Int)), (15, .int .i64 z)] ++ _) (Ds5 ++ (Cs5 ++ (C3 ++ (Cs1 ++ H))))
                refine WC.seq ?_
                refine WC.seq ?_
                refine WC.region ?_
                refine WL.y rfl (Yd.move rfl) ?_
                refine WL.y rfl (Yd.move rfl) ?_
                refine WL.y rfl (Yd.len (e := 50) (by kernel_rfl) rfl) ?_
                refine WL.y rfl (Yd.lss rfl rfl) ?_
                refine WL.nil ?_
                refine DN.then_normal ?_
                refine WC.ite rfl (fun h106 => ?_) (fun h106 => ?_)
                · have hjlt : j < T5.length := by omega
                  obtain ⟨wb, wf, ws, wT, wfr, wex, rfl, _, hwm, hws⟩ := hq5.rs.lies (by omega)
                  have hst := sumN_take hjlt S5[k].name
                  have hp1 := sumN_part hpos (j + 1) S5[k].name
                  have hp0 := sumN_part hpos j S5[k].name
                  have hpn := hpos T5[j] (List.getElem_mem hjlt)
                  refine WC.skip ?_
                  refine DN.then_normal ?_
                  refine WC.seq ?_
                  refine WC.block ?_
                  refine WC.seq ?_
                  refine WC.draw 11 (by kernel_rfl) rfl ?_
                  refine WA.y (i := 0) (NoPanic.then (NoPanic.block (NoPanic.then (NoPanic.then (NoPanic.block (NoPanic.then (NoPanic.block (NoPanic.then (NoPanic.then (NoPanic.block (NoPanic.block (NoPanic.then (NoPanic.then (NoPanic.block (NoPanic.then (NoPanic.body)))))))))))))))) rfl (by kernel_rfl) (by kernel_rfl) (by kernel_rfl) rfl (Yd.move rfl) ?_
                  refine WA.y (i := 1) (NoPanic.then (NoPanic.block (NoPanic.then (NoPanic.then (NoPanic.block (NoPanic.then (NoPanic.block (NoPanic.then (NoPanic.then (NoPanic.block (NoPanic.block (NoPanic.then (NoPanic.then (NoPanic.block (NoPanic.then (NoPanic.body)))))))))))))))) rfl (by kernel_rfl) (by kernel_rfl) (by kernel_rfl) rfl (Yd.move rfl) ?_
                  refine WA.y (i := 2) (NoPanic.then (NoPanic.block (NoPanic.then (NoPanic.then (NoPanic.block (NoPanic.then (NoPanic.block (NoPanic.then (NoPanic.then (NoPanic.block (NoPanic.block (NoPanic.then (NoPanic.then (NoPanic.block (NoPanic.then (NoPanic.body)))))))))))))))) rfl (by kernel_rfl) (by kernel_rfl) (by kernel_rfl) rfl (Yd.indexAddr (e := 50) (s := 3) (by kernel_rfl) (by kernel_rfl) rfl rfl (by omega) (by omega)) ?_
                  refine WA.y (i := 3) (NoPanic.then (NoPanic.block (NoPanic.then (NoPanic.then (NoPanic.block (NoPanic.then (NoPanic.block (NoPanic.then (NoPanic.then (NoPanic.block (NoPanic.block (NoPanic.then (NoPanic.then (NoPanic.block (NoPanic.then (NoPanic.body)))))))))))))))) rfl (by kernel_rfl) (by kernel_rfl) (by kernel_rfl) rfl (Yd.fieldAddr (k := 1) (by kernel_rfl) rfl) ?_
                  refine WA.y (i := 5) (NoPanic.then (NoPanic.block (NoPanic.then (NoPanic.then (NoPanic.block (NoPanic.then (NoPanic.block (NoPanic.then (NoPanic.then (NoPanic.block (NoPanic.block (NoPanic.then (NoPanic.then (NoPanic.block (NoPanic.then (NoPanic.body)))))))))))))))) rfl (by kernel_rfl) (by kernel_rfl) (by kernel_rfl) rfl (Yd.move rfl) ?_
                  refine WA.y (i := 6) (NoPanic.then (NoPanic.block (NoPanic.then (NoPanic.then (NoPanic.block (NoPanic.then (NoPanic.block (NoPanic.then (NoPanic.then (NoPanic.block (NoPanic.block (NoPanic.then (NoPanic.then (NoPanic.block (NoPanic.then (NoPanic.body)))))))))))))))) rfl (by kernel_rfl) (by kernel_rfl) (by kernel_rfl) rfl (Yd.move rfl) ?_
                  refine WA.y (i := 7) (NoPanic.then (NoPanic.block (NoPanic.then (NoPanic.then (NoPanic.block (NoPanic.then (NoPanic.block (NoPanic.then (NoPanic.then (NoPanic.block (NoPanic.block (NoPanic.then (NoPanic.then (NoPanic.block (NoPanic.then (NoPanic.body)))))))))))))))) rfl (by kernel_rfl) (by kernel_rfl) (by kernel_rfl) rfl (Yd.indexAddr (e := 32) (s := 2) (by kernel_rfl) (by kernel_rfl) rfl rfl (by omega) (by omega)) ?_
                  refine WA.y (i := 8) (NoPanic.then (NoPanic.block (NoPanic.then (NoPanic.then (NoPanic.block (NoPanic.then (NoPanic.block (NoPanic.then (NoPanic.then (NoPanic.block (NoPanic.block (NoPanic.then (NoPanic.then (NoPanic.block (NoPanic.then (NoPanic.body)))))))))))))))) rfl (by kernel_rfl) (by kernel_rfl) (by kernel_rfl) rfl (Yd.fieldAddr (k := 0) (by kernel_rfl) rfl) ?_
                  refine WA.two (i := 4) (j := 9) (by kernel_rfl) ?_ ?_
                  · refine WO.h rfl Wt.none rfl (Hd.load1 (v := .string T5[j].name) (b := wb) (o := wf + (j : Int).toNat * 3 + 1) (cs := ws) (by kernel_rfl) rfl (Gr.get (by repeat (first | exact Gr.refl | exact Gr.left Gr.refl | exact Gr.left (Gr.left Gr.refl) | exact Gr.left (Gr.app Gr.refl) | exact Gr.left (Gr.left (Gr.left Gr.refl)) | exact Gr.nil | exact Gr.app (Gr.left Gr.refl) | refine Gr.cons ?_ | refine Gr.app ?_ | refine Gr.both ?_ ?_ | refine Gr.put (by repeat (first | exact List.mem_cons_self | apply List.mem_cons_of_mem | apply List.mem_append_right)) ?_)) hwm) (cell_at2 (L := T5) cellsH_len hws (by omega) (by omega)) ⟨_, rfl, ?_⟩)
                    refine WA.one (i := 9) (by kernel_rfl) ?_
                    refine WO.h rfl Wt.none rfl (Hd.load1 (v := .string S5[k].name) (b := ub) (o := uf + (k : Int).toNat * 2 + 0) (cs := us) (by kernel_rfl) rfl (Gr.get (by repeat (first | exact Gr.refl | exact Gr.left Gr.refl | exact Gr.left (Gr.left Gr.refl) | exact Gr.left (Gr.app Gr.refl) | exact Gr.left (Gr.left (Gr.left Gr.refl)) | exact Gr.nil | exact Gr.app (Gr.left Gr.refl) | refine Gr.cons ?_ | refine Gr.app ?_ | refine Gr.both ?_ ?_ | refine Gr.put (by repeat (first | exact List.mem_cons_self | apply List.mem_cons_of_mem | apply List.mem_append_right)) ?_)) hum) (cell_at2 (L := S5) cellsG_len hus (by omega) (by omega)) ⟨_, rfl, ?_⟩)
                    refine WA.y (i := 10) (NoPanic.then (NoPanic.block (NoPanic.then (NoPanic.then (NoPanic.block (NoPanic.then (NoPanic.block (NoPanic.then (NoPanic.then (NoPanic.block (NoPanic.block (NoPanic.then (NoPanic.then (NoPanic.block (NoPanic.then (NoPanic.body)))))))))))))))) rfl (by kernel_rfl) (by kernel_rfl) (by kernel_rfl) rfl (Yd.eqlS rfl rfl) ?_
                    refine WA.done (by kernel_rfl) ?_
                    refine DN.then_normal ?_
                    refine WC.ite rfl (fun h119 => ?_) (fun h119 => ?_)
                    · rw [if_pos h119] at hst
                      refine WC.region ?_
                      refine WL.y rfl (Yd.move rfl) ?_
                      refine WL.y rfl (Yd.move rfl) ?_
                      refine WL.y rfl (Yd.move rfl) ?_
                      refine WL.y rfl (Yd.indexAddr (e := 50) (s := 3) (by kernel_rfl) (by kernel_rfl) rfl rfl (by omega) (by omega)) ?_
                      refine WL.y rfl (Yd.fieldAddr (k := 2) (by kernel_rfl) rfl) ?_
                      refine WL.h rfl (Hd.load1 (v := .int .i64 T5[j].n) (b := wb) (o := wf + (j : Int).toNat * 3 + 2) (cs := ws) (by kernel_rfl) rfl (Gr.get (by repeat (first | exact Gr.refl | exact Gr.left Gr.refl | exact Gr.left (Gr.left Gr.refl) | exact Gr.left (Gr.app Gr.refl) | exact Gr.left (Gr.left (Gr.left Gr.refl)) | exact Gr.nil | exact Gr.app (Gr.left Gr.refl) | refine Gr.cons ?_ | refine Gr.app ?_ | refine Gr.both ?_ ?_ | refine Gr.put (by repeat (first | exact List.mem_cons_self | apply List.mem_cons_of_mem | apply List.mem_append_right)) ?_)) hwm) (cell_at2 (L := T5) cellsH_len hws (by omega) (by omega)) ⟨_, rfl, ?_⟩)
                      refine WL.y rfl (Yd.add rfl rfl (by omega) (by omega)) ?_
                      refine WL.y rfl (Yd.assign rfl) ?_
                      refine WL.nil ?_
                      refine DN.block_normal ?_
                      refine DN.then_normal ?_
                      refine WC.region ?_
                      refine WL.y rfl (Yd.move rfl) ?_
                      refine WL.y rfl (Yd.add rfl rfl (by omega) (by omega)) ?_
                      refine WL.y rfl (Yd.assign rfl) ?_
                      refine WL.nil ?_
                      exact DN.againS (⟨j + 1, z + T5[j].n⟩) (show (j + 1) ≤ T5.length ∧ (z + T5[j].n) = S5[k].free + goneOf K3 S5[k].name + sumN (T5.take (j + 1)) S5[k].name from ⟨by omega, by omega⟩) (show T5.length - (j + 1) < T5.length - j by omega) (Sx.put rfl (Sx.put rfl ((by repeat (first | exact Sx.refl | refine Sx.skip rfl ?_))))) (by repeat (first | exact Sp.here | exact Sp.sn | exact Sp.s0 | exact Fr.here | apply Sp.s2 | apply Sp.sx | apply Fr.fc | apply Fr.al | apply Fr.fa | apply Sp.sc | apply Sp.al | apply Sp.sa))
                    · rw [if_neg h119] at hst
                      refine WC.skip ?_
                      refine DN.block_normal ?_
                      refine DN.then_normal ?_
                      refine WC.region ?_
                      refine WL.y rfl (Yd.move rfl) ?_
                      refine WL.y rfl (Yd.add rfl rfl (by omega) (by omega)) ?_
                      refine WL.y rfl (Yd.assign rfl) ?_
                      refine WL.nil ?_
                      exact DN.againS (⟨j + 1, z⟩) (show (j + 1) ≤ T5.length ∧ z = S5[k].free + goneOf K3 S5[k].name + sumN (T5.take (j + 1)) S5[k].name from ⟨by omega, by omega⟩) (show T5.length - (j + 1) < T5.length - j by omega) (Sx.put rfl (Sx.put rfl ((by repeat (first | exact Sx.refl | refine Sx.skip rfl ?_))))) (by repeat (first | exact Sp.here | exact Sp.sn | exact Sp.s0 | exact Fr.here | apply Sp.s2 | apply Sp.sx | apply Fr.fc | apply Fr.al | apply Fr.fa | apply Sp.sc | apply Sp.al | apply Sp.sa))
                  · refine WO.h rfl Wt.none rfl (Hd.load1 (v := .string S5[k].name) (b := ub) (o := uf + (k : Int).toNat * 2 + 0) (cs := us) (by kernel_rfl) rfl (Gr.get (by repeat (first | exact Gr.refl | exact Gr.left Gr.refl | exact Gr.left (Gr.left Gr.refl) | exact Gr.left (Gr.app Gr.refl) | exact Gr.left (Gr.left (Gr.left Gr.refl)) | exact Gr.nil | exact Gr.app (Gr.left Gr.refl) | refine Gr.cons ?_ | refine Gr.app ?_ | refine Gr.both ?_ ?_ | refine Gr.put (by repeat (first | exact List.mem_cons_self | apply List.mem_cons_of_mem | apply List.mem_append_right)) ?_)) hum) (cell_at2 (L := S5) cellsG_len hus (by omega) (by omega)) ⟨_, rfl, ?_⟩)
                    refine WA.one (i := 4) (by kernel_rfl) ?_
                    refine WO.h rfl Wt.none rfl (Hd.load1 (v := .string T5[j].name) (b := wb) (o := wf + (j : Int).toNat * 3 + 1) (cs := ws) (by kernel_rfl) rfl (Gr.get (by repeat (first | exact Gr.refl | exact Gr.left Gr.refl | exact Gr.left (Gr.left Gr.refl) | exact Gr.left (Gr.app Gr.refl) | exact Gr.left (Gr.left (Gr.left Gr.refl)) | exact Gr.nil | exact Gr.app (Gr.left Gr.refl) | refine Gr.cons ?_ | refine Gr.app ?_ | refine Gr.both ?_ ?_ | refine Gr.put (by repeat (first | exact List.mem_cons_self | apply List.mem_cons_of_mem | apply List.mem_append_right)) ?_)) hwm) (cell_at2 (L := T5) cellsH_len hws (by omega) (by omega)) ⟨_, rfl, ?_⟩)
                    refine WA.y (i := 10) (NoPanic.then (NoPanic.block (NoPanic.then (NoPanic.then (NoPanic.block (NoPanic.then (NoPanic.block (NoPanic.then (NoPanic.then (NoPanic.block (NoPanic.block (NoPanic.then (NoPanic.then (NoPanic.block (NoPanic.then (NoPanic.body)))))))))))))))) rfl (by kernel_rfl) (by kernel_rfl) (by kernel_rfl) rfl (Yd.eqlS rfl rfl) ?_
                    refine WA.done (by kernel_rfl) ?_
                    refine DN.then_normal ?_
                    refine WC.ite rfl (fun h119 => ?_) (fun h119 => ?_)
                    · rw [if_pos h119] at hst
                      refine WC.region ?_
                      refine WL.y rfl (Yd.move rfl) ?_
                      refine WL.y rfl (Yd.move rfl) ?_
                      refine WL.y rfl (Yd.move rfl) ?_
                      refine WL.y rfl (Yd.indexAddr (e := 50) (s := 3) (by kernel_rfl) (by kernel_rfl) rfl rfl (by omega) (by omega)) ?_
                      refine WL.y rfl (Yd.fieldAddr (k := 2) (by kernel_rfl) rfl) ?_
                      refine WL.h rfl (Hd.load1 (v := .int .i64 T5[j].n) (b := wb) (o := wf + (j : Int).toNat * 3 + 2) (cs := ws) (by kernel_rfl) rfl (Gr.get (by repeat (first | exact Gr.refl | exact Gr.left Gr.refl | exact Gr.left (Gr.left Gr.refl) | exact Gr.left (Gr.app Gr.refl) | exact Gr.left (Gr.left (Gr.left Gr.refl)) | exact Gr.nil | exact Gr.app (Gr.left Gr.refl) | refine Gr.cons ?_ | refine Gr.app ?_ | refine Gr.both ?_ ?_ | refine Gr.put (by repeat (first | exact List.mem_cons_self | apply List.mem_cons_of_mem | apply List.mem_append_right)) ?_)) hwm) (cell_at2 (L := T5) cellsH_len hws (by omega) (by omega)) ⟨_, rfl, ?_⟩)
                      refine WL.y rfl (Yd.add rfl rfl (by omega) (by omega)) ?_
                      refine WL.y rfl (Yd.assign rfl) ?_
                      refine WL.nil ?_
                      refine DN.block_normal ?_
                      refine DN.then_normal ?_
                      refine WC.region ?_
                      refine WL.y rfl (Yd.move rfl) ?_
                      refine WL.y rfl (Yd.add rfl rfl (by omega) (by omega)) ?_
                      refine WL.y rfl (Yd.assign rfl) ?_
                      refine WL.nil ?_
                      exact DN.againS (⟨j + 1, z + T5[j].n⟩) (show (j + 1) ≤ T5.length ∧ (z + T5[j].n) = S5[k].free + goneOf K3 S5[k].name + sumN (T5.take (j + 1)) S5[k].name from ⟨by omega, by omega⟩) (show T5.length - (j + 1) < T5.length - j by omega) (Sx.put rfl (Sx.put rfl ((by repeat (first | exact Sx.refl | refine Sx.skip rfl ?_))))) (by repeat (first | exact Sp.here | exact Sp.sn | exact Sp.s0 | exact Fr.here | apply Sp.s2 | apply Sp.sx | apply Fr.fc | apply Fr.al | apply Fr.fa | apply Sp.sc | apply Sp.al | apply Sp.sa))
                    · rw [if_neg h119] at hst
                      refine WC.skip ?_
                      refine DN.block_normal ?_
                      refine DN.then_normal ?_
                      refine WC.region ?_
                      refine WL.y rfl (Yd.move rfl) ?_
                      refine WL.y rfl (Yd.add rfl rfl (by omega) (by omega)) ?_
                      refine WL.y rfl (Yd.assign rfl) ?_
                      refine WL.nil ?_
                      exact DN.againS (⟨j + 1, z⟩) (show (j + 1) ≤ T5.length ∧ z = S5[k].free + goneOf K3 S5[k].name + sumN (T5.take (j + 1)) S5[k].name from ⟨by omega, by omega⟩) (show T5.length - (j + 1) < T5.length - j by omega) (Sx.put rfl (Sx.put rfl ((by repeat (first | exact Sx.refl | refine Sx.skip rfl ?_))))) (by repeat (first | exact Sp.here | exact Sp.sn | exact Sp.s0 | exact Fr.here | apply Sp.s2 | apply Sp.sx | apply Fr.fc | apply Fr.al | apply Fr.fa | apply Sp.sc | apply Sp.al | apply Sp.sa))
                · obtain rfl : j = T5.length := by omega
                  rw [List.take_length] at hz
                  refine WC.exit ?_
                  refine DN.then_exit ?_
                  refine DN.then_exit ?_
                  refine DN.block_exit ?_
                  refine DN.then_normal ?_
                  refine WC.seq ?_
                  refine WC.draw 28 (by kernel_rfl) rfl ?_
                  refine WA.y (i := 0) (NoPanic.then (NoPanic.block (NoPanic.then (NoPanic.then (NoPanic.block (NoPanic.block (NoPanic.then (NoPanic.then (NoPanic.block (NoPanic.then (NoPanic.body))))))))))) rfl (by kernel_rfl) (by kernel_rfl) (by kernel_rfl) rfl (Yd.move rfl) ?_
                  refine WA.y (i := 1) (NoPanic.then (NoPanic.block (NoPanic.then (NoPanic.then (NoPanic.block (NoPanic.block (NoPanic.then (NoPanic.then (NoPanic.block (NoPanic.then (NoPanic.body))))))))))) rfl (by kernel_rfl) (by kernel_rfl) (by kernel_rfl) rfl (Yd.move rfl) ?_
                  refine WA.y (i := 2) (NoPanic.then (NoPanic.block (NoPanic.then (NoPanic.then (NoPanic.block (NoPanic.block (NoPanic.then (NoPanic.then (NoPanic.block (NoPanic.then (NoPanic.body))))))))))) rfl (by kernel_rfl) (by kernel_rfl) (by kernel_rfl) rfl (Yd.indexAddr (e := 32) (s := 2) (by kernel_rfl) (by kernel_rfl) rfl rfl (by omega) (by omega)) ?_
                  refine WA.y (i := 3) (NoPanic.then (NoPanic.block (NoPanic.then (NoPanic.then (NoPanic.block (NoPanic.block (NoPanic.then (NoPanic.then (NoPanic.block (NoPanic.then (NoPanic.body))))))))))) rfl (by kernel_rfl) (by kernel_rfl) (by kernel_rfl) rfl (Yd.fieldAddr (k := 1) (by kernel_rfl) rfl) ?_
                  refine WA.one (i := 4) (by kernel_rfl) ?_
                  refine WO.h rfl Wt.none rfl (Hd.load1 (v := .int .i64 S5[k].free) (b := ub) (o := uf + (k : Int).toNat * 2 + 1) (cs := us) (by kernel_rfl) rfl (Gr.get (by repeat (first | exact Gr.refl | exact Gr.left Gr.refl | exact Gr.left (Gr.left Gr.refl) | exact Gr.left (Gr.app Gr.refl) | exact Gr.left (Gr.left (Gr.left Gr.refl)) | exact Gr.nil | exact Gr.app (Gr.left Gr.refl) | refine Gr.cons ?_ | refine Gr.app ?_ | refine Gr.both ?_ ?_ | refine Gr.put (by repeat (first | exact List.mem_cons_self | apply List.mem_cons_of_mem | apply List.mem_append_right)) ?_)) hum) (cell_at2 (L := S5) cellsG_len hus (by omega) (by omega)) ⟨_, rfl, ?_⟩)
                  refine WA.y (i := 5) (NoPanic.then (NoPanic.block (NoPanic.then (NoPanic.then (NoPanic.block (NoPanic.block (NoPanic.then (NoPanic.then (NoPanic.block (NoPanic.then (NoPanic.body))))))))))) rfl (by kernel_rfl) (by kernel_rfl) (by kernel_rfl) rfl (Yd.lss rfl rfl) ?_
                  refine WA.renamed (t := 132) (v := .bool false) rfl (congrArg Value.bool (decide_eq_false (by omega))) ?_
                  refine WA.y (i := 6) (NoPanic.then (NoPanic.block (NoPanic.then (NoPanic.then (NoPanic.block (NoPanic.block (NoPanic.then (NoPanic.then (NoPanic.block (NoPanic.then (NoPanic.body))))))))))) rfl (by kernel_rfl) (by kernel_rfl) (by kernel_rfl) rfl (Yd.move rfl) ?_
                  refine WA.gy (i := 7) (dj := 133) (NoPanic.then (NoPanic.block (NoPanic.then (NoPanic.then (NoPanic.block (NoPanic.block (NoPanic.then (NoPanic.then (NoPanic.block (NoPanic.then (NoPanic.body))))))))))) rfl (by kernel_rfl) (by kernel_rfl) (by kernel_rfl) rfl rfl rfl (Yd.move rfl) ?_
                  refine WA.gy (i := 8) (dj := 133) (NoPanic.then (NoPanic.block (NoPanic.then (NoPanic.then (NoPanic.block (NoPanic.block (NoPanic.then (NoPanic.then (NoPanic.block (NoPanic.then (NoPanic.body))))))))))) rfl (by kernel_rfl) (by kernel_rfl) (by kernel_rfl) rfl rfl rfl (Yd.move rfl) ?_
                  refine WA.gy (i := 9) (dj := 133) (NoPanic.then (NoPanic.block (NoPanic.then (NoPanic.then (NoPanic.block (NoPanic.block (NoPanic.then (NoPanic.then (NoPanic.block (NoPanic.then (NoPanic.body))))))))))) rfl (by kernel_rfl) (by kernel_rfl) (by kernel_rfl) rfl rfl rfl (Yd.move rfl) ?_
                  refine WA.gy (i := 10) (dj := 133) (NoPanic.then (NoPanic.block (NoPanic.then (NoPanic.then (NoPanic.block (NoPanic.block (NoPanic.then (NoPanic.then (NoPanic.block (NoPanic.then (NoPanic.body))))))))))) rfl (by kernel_rfl) (by kernel_rfl) (by kernel_rfl) rfl rfl rfl (Yd.indexAddr (e := 32) (s := 2) (by kernel_rfl) (by kernel_rfl) rfl rfl (by omega) (by omega)) ?_
                  refine WA.gy (i := 11) (dj := 133) (NoPanic.then (NoPanic.block (NoPanic.then (NoPanic.then (NoPanic.block (NoPanic.block (NoPanic.then (NoPanic.then (NoPanic.block (NoPanic.then (NoPanic.body))))))))))) rfl (by kernel_rfl) (by kernel_rfl) (by kernel_rfl) rfl rfl rfl (Yd.fieldAddr (k := 1) (by kernel_rfl) rfl) ?_
                  refine WA.one (i := 12) (by kernel_rfl) ?_
                  refine WO.h rfl (Wt.yes (dj := 133) rfl rfl) rfl (Hd.load1 (v := .int .i64 S1[k].free) (b := xb) (o := xf + (k : Int).toNat * 2 + 1) (cs := xs) (by kernel_rfl) rfl (Gr.get (by repeat (first | exact Gr.refl | exact Gr.left Gr.refl | exact Gr.left (Gr.left Gr.refl) | exact Gr.left (Gr.app Gr.refl) | exact Gr.left (Gr.left (Gr.left Gr.refl)) | exact Gr.nil | exact Gr.app (Gr.left Gr.refl) | refine Gr.cons ?_ | refine Gr.app ?_ | refine Gr.both ?_ ?_ | refine Gr.put (by repeat (first | exact List.mem_cons_self | apply List.mem_cons_of_mem | apply List.mem_append_right)) ?_)) hxm) (cell_at2 (L := S1) cellsG_len hxs (by omega) (by omega)) ⟨_, rfl, ?_⟩)
                  refine WA.gy (i := 13) (dj := 133) (NoPanic.then (NoPanic.block (NoPanic.then (NoPanic.then (NoPanic.block (NoPanic.block (NoPanic.then (NoPanic.then (NoPanic.block (NoPanic.then (NoPanic.body))))))))))) rfl (by kernel_rfl) (by kernel_rfl) (by kernel_rfl) rfl rfl rfl (Yd.neq rfl rfl) ?_
                  refine WA.renamed (t := 140) (v := .bool false) rfl (congrArg Value.bool (decide_eq_false (by omega))) ?_
                  refine WA.y (i := 14) (NoPanic.then (NoPanic.block (NoPanic.then (NoPanic.then (NoPanic.block (NoPanic.block (NoPanic.then (NoPanic.then (NoPanic.block (NoPanic.then (NoPanic.body))))))))))) rfl (by kernel_rfl) (by kernel_rfl) (by kernel_rfl) rfl (Yd.pickF rfl rfl) ?_
                  refine WA.y (i := 15) (NoPanic.then (NoPanic.block (NoPanic.then (NoPanic.then (NoPanic.block (NoPanic.block (NoPanic.then (NoPanic.then (NoPanic.block (NoPanic.then (NoPanic.body))))))))))) rfl (by kernel_rfl) (by kernel_rfl) (by kernel_rfl) rfl (Yd.move rfl) ?_
                  refine WA.gy (i := 16) (dj := 142) (NoPanic.then (NoPanic.block (NoPanic.then (NoPanic.then (NoPanic.block (NoPanic.block (NoPanic.then (NoPanic.then (NoPanic.block (NoPanic.then (NoPanic.body))))))))))) rfl (by kernel_rfl) (by kernel_rfl) (by kernel_rfl) rfl rfl rfl (Yd.move rfl) ?_
                  refine WA.gy (i := 17) (dj := 142) (NoPanic.then (NoPanic.block (NoPanic.then (NoPanic.then (NoPanic.block (NoPanic.block (NoPanic.then (NoPanic.then (NoPanic.block (NoPanic.then (NoPanic.body))))))))))) rfl (by kernel_rfl) (by kernel_rfl) (by kernel_rfl) rfl rfl rfl (Yd.move rfl) ?_
                  refine WA.gy (i := 18) (dj := 142) (NoPanic.then (NoPanic.block (NoPanic.then (NoPanic.then (NoPanic.block (NoPanic.block (NoPanic.then (NoPanic.then (NoPanic.block (NoPanic.then (NoPanic.body))))))))))) rfl (by kernel_rfl) (by kernel_rfl) (by kernel_rfl) rfl rfl rfl (Yd.indexAddr (e := 32) (s := 2) (by kernel_rfl) (by kernel_rfl) rfl rfl (by omega) (by omega)) ?_
                  refine WA.gy (i := 19) (dj := 142) (NoPanic.then (NoPanic.block (NoPanic.then (NoPanic.then (NoPanic.block (NoPanic.block (NoPanic.then (NoPanic.then (NoPanic.block (NoPanic.then (NoPanic.body))))))))))) rfl (by kernel_rfl) (by kernel_rfl) (by kernel_rfl) rfl rfl rfl (Yd.fieldAddr (k := 0) (by kernel_rfl) rfl) ?_
                  refine WA.gy (i := 21) (dj := 142) (NoPanic.then (NoPanic.block (NoPanic.then (NoPanic.then (NoPanic.block (NoPanic.block (NoPanic.then (NoPanic.then (NoPanic.block (NoPanic.then (NoPanic.body))))))))))) rfl (by kernel_rfl) (by kernel_rfl) (by kernel_rfl) rfl rfl rfl (Yd.move rfl) ?_
                  refine WA.gy (i := 22) (dj := 142) (NoPanic.then (NoPanic.block (NoPanic.then (NoPanic.then (NoPanic.block (NoPanic.block (NoPanic.then (NoPanic.then (NoPanic.block (NoPanic.then (NoPanic.body))))))))))) rfl (by kernel_rfl) (by kernel_rfl) (by kernel_rfl) rfl rfl rfl (Yd.move rfl) ?_
                  refine WA.gy (i := 23) (dj := 142) (NoPanic.then (NoPanic.block (NoPanic.then (NoPanic.then (NoPanic.block (NoPanic.block (NoPanic.then (NoPanic.then (NoPanic.block (NoPanic.then (NoPanic.body))))))))))) rfl (by kernel_rfl) (by kernel_rfl) (by kernel_rfl) rfl rfl rfl (Yd.indexAddr (e := 32) (s := 2) (by kernel_rfl) (by kernel_rfl) rfl rfl (by omega) (by omega)) ?_
                  refine WA.gy (i := 24) (dj := 142) (NoPanic.then (NoPanic.block (NoPanic.then (NoPanic.then (NoPanic.block (NoPanic.block (NoPanic.then (NoPanic.then (NoPanic.block (NoPanic.then (NoPanic.body))))))))))) rfl (by kernel_rfl) (by kernel_rfl) (by kernel_rfl) rfl rfl rfl (Yd.fieldAddr (k := 0) (by kernel_rfl) rfl) ?_
                  refine WA.two (i := 20) (j := 25) (by kernel_rfl) ?_ ?_
                  · refine WO.h rfl (Wt.yes (dj := 142) rfl rfl) rfl (Hd.load1 (v := .string S5[k].name) (b := ub) (o := uf + (k : Int).toNat * 2 + 0) (cs := us) (by kernel_rfl) rfl (Gr.get (by repeat (first | exact Gr.refl | exact Gr.left Gr.refl | exact Gr.left (Gr.left Gr.refl) | exact Gr.left (Gr.app Gr.refl) | exact Gr.left (Gr.left (Gr.left Gr.refl)) | exact Gr.nil | exact Gr.app (Gr.left Gr.refl) | refine Gr.cons ?_ | refine Gr.app ?_ | refine Gr.both ?_ ?_ | refine Gr.put (by repeat (first | exact List.mem_cons_self | apply List.mem_cons_of_mem | apply List.mem_append_right)) ?_)) hum) (cell_at2 (L := S5) cellsG_len hus (by omega) (by omega)) ⟨_, rfl, ?_⟩)
                    refine WA.one (i := 25) (by kernel_rfl) ?_
                    refine WO.h rfl (Wt.yes (dj := 142) rfl rfl) rfl (Hd.load1 (v := .string S1[k].name) (b := xb) (o := xf + (k : Int).toNat * 2 + 0) (cs := xs) (by kernel_rfl) rfl (Gr.get (by repeat (first | exact Gr.refl | exact Gr.left Gr.refl | exact Gr.left (Gr.left Gr.refl) | exact Gr.left (Gr.app Gr.refl) | exact Gr.left (Gr.left (Gr.left Gr.refl)) | exact Gr.nil | exact Gr.app (Gr.left Gr.refl) | refine Gr.cons ?_ | refine Gr.app ?_ | refine Gr.both ?_ ?_ | refine Gr.put (by repeat (first | exact List.mem_cons_self | apply List.mem_cons_of_mem | apply List.mem_append_right)) ?_)) hxm) (cell_at2 (L := S1) cellsG_len hxs (by omega) (by omega)) ⟨_, rfl, ?_⟩)
                    refine WA.gy (i := 26) (dj := 142) (NoPanic.then (NoPanic.block (NoPanic.then (NoPanic.then (NoPanic.block (NoPanic.block (NoPanic.then (NoPanic.then (NoPanic.block (NoPanic.then (NoPanic.body))))))))))) rfl (by kernel_rfl) (by kernel_rfl) (by kernel_rfl) rfl rfl rfl (Yd.neqS rfl rfl) ?_
                    refine WA.renamed (t := 153) (v := .bool false) rfl (congrArg Value.bool (decide_eq_false (fun h => h hn5))) ?_
                    refine WA.y (i := 27) (NoPanic.then (NoPanic.block (NoPanic.then (NoPanic.then (NoPanic.block (NoPanic.block (NoPanic.then (NoPanic.then (NoPanic.block (NoPanic.then (NoPanic.body))))))))))) rfl (by kernel_rfl) (by kernel_rfl) (by kernel_rfl) rfl (Yd.pickF rfl rfl) ?_
                    refine WA.done (by kernel_rfl) ?_
                    refine DN.then_normal ?_
                    refine WC.no rfl ?_
                    refine WC.skip ?_
                    refine DN.block_normal ?_
                    refine DN.then_normal ?_
                    refine WC.region ?_
                    refine WL.y rfl (Yd.move rfl) ?_
                    refine WL.y rfl (Yd.add rfl rfl (by omega) (by omega)) ?_
                    refine WL.y rfl (Yd.assign rfl) ?_
                    refine WL.nil ?_
                    exact DN.againS (k + 1) (show (k + 1) ≤ S5.length from (by omega)) (show S5.length - (k + 1) < S5.length - k by omega) (Sx.put rfl ((by repeat (first | exact Sx.refl | refine Sx.skip rfl ?_)))) (by repeat (first | exact Sp.here | exact Sp.sn | exact Sp.s0 | exact Fr.here | apply Sp.s2 | apply Sp.sx | apply Fr.fc | apply Fr.al | apply Fr.fa | apply Sp.sc | apply Sp.al | apply Sp.sa))
                  · refine WO.h rfl (Wt.yes (dj := 142) rfl rfl) rfl (Hd.load1 (v := .string S1[k].name) (b := xb) (o := xf + (k : Int).toNat * 2 + 0) (cs := xs) (by kernel_rfl) rfl (Gr.get (by repeat (first | exact Gr.refl | exact Gr.left Gr.refl | exact Gr.left (Gr.left Gr.refl) | exact Gr.left (Gr.app Gr.refl) | exact Gr.left (Gr.left (Gr.left Gr.refl)) | exact Gr.nil | exact Gr.app (Gr.left Gr.refl) | refine Gr.cons ?_ | refine Gr.app ?_ | refine Gr.both ?_ ?_ | refine Gr.put (by repeat (first | exact List.mem_cons_self | apply List.mem_cons_of_mem | apply List.mem_append_right)) ?_)) hxm) (cell_at2 (L := S1) cellsG_len hxs (by omega) (by omega)) ⟨_, rfl, ?_⟩)
                    refine WA.one (i := 20) (by kernel_rfl) ?_
                    refine WO.h rfl (Wt.yes (dj := 142) rfl rfl) rfl (Hd.load1 (v := .string S5[k].name) (b := ub) (o := uf + (k : Int).toNat * 2 + 0) (cs := us) (by kernel_rfl) rfl (Gr.get (by repeat (first | exact Gr.refl | exact Gr.left Gr.refl | exact Gr.left (Gr.left Gr.refl) | exact Gr.left (Gr.app Gr.refl) | exact Gr.left (Gr.left (Gr.left Gr.refl)) | exact Gr.nil | exact Gr.app (Gr.left Gr.refl) | refine Gr.cons ?_ | refine Gr.app ?_ | refine Gr.both ?_ ?_ | refine Gr.put (by repeat (first | exact List.mem_cons_self | apply List.mem_cons_of_mem | apply List.mem_append_right)) ?_)) hum) (cell_at2 (L := S5) cellsG_len hus (by omega) (by omega)) ⟨_, rfl, ?_⟩)
                    refine WA.gy (i := 26) (dj := 142) (NoPanic.then (NoPanic.block (NoPanic.then (NoPanic.then (NoPanic.block (NoPanic.block (NoPanic.then (NoPanic.then (NoPanic.block (NoPanic.then (NoPanic.body))))))))))) rfl (by kernel_rfl) (by kernel_rfl) (by kernel_rfl) rfl rfl rfl (Yd.neqS rfl rfl) ?_
                    refine WA.renamed (t := 153) (v := .bool false) rfl (congrArg Value.bool (decide_eq_false (fun h => h hn5))) ?_
                    refine WA.y (i := 27) (NoPanic.then (NoPanic.block (NoPanic.then (NoPanic.then (NoPanic.block (NoPanic.block (NoPanic.then (NoPanic.then (NoPanic.block (NoPanic.then (NoPanic.body))))))))))) rfl (by kernel_rfl) (by kernel_rfl) (by kernel_rfl) rfl (Yd.pickF rfl rfl) ?_
                    refine WA.done (by kernel_rfl) ?_
                    refine DN.then_normal ?_
                    refine WC.no rfl ?_
                    refine WC.skip ?_
                    refine DN.block_normal ?_
                    refine DN.then_normal ?_
                    refine WC.region ?_
                    refine WL.y rfl (Yd.move rfl) ?_
                    refine WL.y rfl (Yd.add rfl rfl (by omega) (by omega)) ?_
                    refine WL.y rfl (Yd.assign rfl) ?_
                    refine WL.nil ?_
                    exact DN.againS (k + 1) (show (k + 1) ≤ S5.length from (by omega)) (show S5.length - (k + 1) < S5.length - k by omega) (Sx.put rfl ((by repeat (first | exact Sx.refl | refine Sx.skip rfl ?_)))) (by repeat (first | exact Sp.here | exact Sp.sn | exact Sp.s0 | exact Fr.here | apply Sp.s2 | apply Sp.sx | apply Fr.fc | apply Fr.al | apply Fr.fa | apply Sp.sc | apply Sp.al | apply Sp.sa))
              · refine WO.h rfl Wt.none rfl (Hd.load1 (v := .string S5[k].name) (b := ub) (o := uf + (k : Int).toNat * 2 + 0) (cs := us) (by kernel_rfl) rfl (Gr.get (by repeat (first | exact Gr.refl | exact Gr.left Gr.refl | exact Gr.left (Gr.left Gr.refl) | exact Gr.left (Gr.app Gr.refl) | exact Gr.left (Gr.left (Gr.left Gr.refl)) | exact Gr.nil | exact Gr.app (Gr.left Gr.refl) | refine Gr.cons ?_ | refine Gr.app ?_ | refine Gr.both ?_ ?_ | refine Gr.put (by repeat (first | exact List.mem_cons_self | apply List.mem_cons_of_mem | apply List.mem_append_right)) ?_)) hum) (cell_at2 (L := S5) cellsG_len hus (by omega) (by omega)) ⟨_, rfl, ?_⟩)
                refine WA.two (i := 4) (j := 11) (by kernel_rfl) ?_ ?_
                · refine WO.h rfl Wt.none rfl (Hd.load1 (v := .int .i64 S5[k].free) (b := ub) (o := uf + (k : Int).toNat * 2 + 1) (cs := us) (by kernel_rfl) rfl (Gr.get (by repeat (first | exact Gr.refl | exact Gr.left Gr.refl | exact Gr.left (Gr.left Gr.refl) | exact Gr.left (Gr.app Gr.refl) | exact Gr.left (Gr.left (Gr.left Gr.refl)) | exact Gr.nil | exact Gr.app (Gr.left Gr.refl) | refine Gr.cons ?_ | refine Gr.app ?_ | refine Gr.both ?_ ?_ | refine Gr.put (by repeat (first | exact List.mem_cons_self | apply List.mem_cons_of_mem | apply List.mem_append_right)) ?_)) hum) (cell_at2 (L := S5) cellsG_len hus (by omega) (by omega)) ⟨_, rfl, ?_⟩)
                  refine WA.one (i := 11) (by kernel_rfl) ?_
                  refine WO.rf rfl Wt.none rfl (Ent.func Try.call23 rfl) (gone_reads p K3 L3 C3 h3 S5[k].name) (by repeat (first | exact Sp.here | exact Sp.sn | exact Sp.s0 | exact Fr.here | apply Sp.s2 | apply Sp.sx | apply Fr.fc | apply Fr.al | apply Fr.fa | apply Sp.sc | apply Sp.al | apply Sp.sa)) ?_
                  refine WA.y (i := 12) (NoPanic.then (NoPanic.block (NoPanic.then (NoPanic.then (NoPanic.block (NoPanic.block (NoPanic.then (NoPanic.then (NoPanic.block (NoPanic.then (NoPanic.body))))))))))) rfl (by kernel_rfl) (by kernel_rfl) (by kernel_rfl) rfl (Yd.add rfl rfl (by omega) (by omega)) ?_
                  refine WA.y (i := 13) (NoPanic.then (NoPanic.block (NoPanic.then (NoPanic.then (NoPanic.block (NoPanic.block (NoPanic.then (NoPanic.then (NoPanic.block (NoPanic.then (NoPanic.body))))))))))) rfl (by kernel_rfl) (by kernel_rfl) (by kernel_rfl) rfl (Yd.assign rfl) ?_
                  refine WA.done (by kernel_rfl) ?_
                  refine DN.then_normal ?_
                  refine WC.seq ?_
                  refine WC.seq ?_
                  refine WC.region ?_
                  refine WL.y rfl (Yd.assign rfl) ?_
                  refine WL.nil ?_
                  refine DN.then_normal ?_
                  refine WC.block ?_
                  refine WC.loopS (fun z : Nat × Int => z.1 ≤ T5.length ∧ z.2 = S5[k].free + goneOf K3 S5[k].name + sumN (T5.take z.1) S5[k].name) (fun z : Nat × Int => [(16, .int .i64 (z.1 : Int)), (15, .int .i64 z.2)]) (fun z : Nat × Int => Ds5 ++ (Cs5 ++ (C3 ++ (Cs1 ++ H)))) (fun z : Nat × Int => T5.length - z.1) (⟨0, S5[k].free + goneOf K3 S5[k].name⟩) (show 0 ≤ T5.length ∧ (S5[k].free + goneOf K3 S5[k].name) = S5[k].free + goneOf K3 S5[k].name + sumN (T5.take 0) S5[k].name from ⟨Nat.zero_le _, by simp [sumN]⟩) (Sx.put rfl (Sx.put rfl ((by repeat (first | exact Sx.refl | refine Sx.skip rfl ?_))))) (by repeat (first | exact Sp.here | exact Sp.sn | exact Sp.s0 | exact Fr.here | apply Sp.s2 | apply Sp.sx | apply Fr.fc | apply Fr.al | apply Fr.fa | apply Sp.sc | apply Sp.al | apply Sp.sa)) ?_
                  rintro ⟨j, z⟩ hI
                  replace hI : j ≤ T5.length ∧ z = S5[k].free + goneOf K3 S5[k].name + sumN (T5.take j) S5[k].name := hI
                  obtain ⟨hj, hz⟩ := hI
                  change WC _ _ _ _ _ _ ([(16, .int .i64 (j : Int)), (15, .int .i64 z)] ++ _) (Ds5 ++ (Cs5 ++ (C3 ++ (Cs1 ++ H))))
                  refine WC.seq ?_
                  refine WC.seq ?_
                  refine WC.region ?_
                  refine WL.y rfl (Yd.move rfl) ?_
                  refine WL.y rfl (Yd.move rfl) ?_
                  refine WL.y rfl (Yd.len (e := 50) (by kernel_rfl) rfl) ?_
                  refine WL.y rfl (Yd.lss rfl rfl) ?_
                  refine WL.nil ?_
                  refine DN.then_normal ?_
                  refine WC.ite rfl (fun h106 => ?_) (fun h106 => ?_)
                  · have hjlt : j < T5.length := by omega
                    obtain ⟨wb, wf, ws, wT, wfr, wex, rfl, _, hwm, hws⟩ := hq5.rs.lies (by omega)
                    have hst := sumN_take hjlt S5[k].name
                    have hp1 := sumN_part hpos (j + 1) S5[k].name
                    have hp0 := sumN_part hpos j S5[k].name
                    have hpn := hpos T5[j] (List.getElem_mem hjlt)
                    refine WC.skip ?_
                    refine DN.then_normal ?_
                    refine WC.seq ?_
                    refine WC.block ?_
                    refine WC.seq ?_
                    refine WC.draw 11 (by kernel_rfl) rfl ?_
                    refine WA.y (i := 0) (NoPanic.then (NoPanic.block (NoPanic.then (NoPanic.then (NoPanic.block (NoPanic.then (NoPanic.block (NoPanic.then (NoPanic.then (NoPanic.block (NoPanic.block (NoPanic.then (NoPanic.then (NoPanic.block (NoPanic.then (NoPanic.body)))))))))))))))) rfl (by kernel_rfl) (by kernel_rfl) (by kernel_rfl) rfl (Yd.move rfl) ?_
                    refine WA.y (i := 1) (NoPanic.then (NoPanic.block (NoPanic.then (NoPanic.then (NoPanic.block (NoPanic.then (NoPanic.block (NoPanic.then (NoPanic.then (NoPanic.block (NoPanic.block (NoPanic.then (NoPanic.then (NoPanic.block (NoPanic.then (NoPanic.body)))))))))))))))) rfl (by kernel_rfl) (by kernel_rfl) (by kernel_rfl) rfl (Yd.move rfl) ?_
                    refine WA.y (i := 2) (NoPanic.then (NoPanic.block (NoPanic.then (NoPanic.then (NoPanic.block (NoPanic.then (NoPanic.block (NoPanic.then (NoPanic.then (NoPanic.block (NoPanic.block (NoPanic.then (NoPanic.then (NoPanic.block (NoPanic.then (NoPanic.body)))))))))))))))) rfl (by kernel_rfl) (by kernel_rfl) (by kernel_rfl) rfl (Yd.indexAddr (e := 50) (s := 3) (by kernel_rfl) (by kernel_rfl) rfl rfl (by omega) (by omega)) ?_
                    refine WA.y (i := 3) (NoPanic.then (NoPanic.block (NoPanic.then (NoPanic.then (NoPanic.block (NoPanic.then (NoPanic.block (NoPanic.then (NoPanic.then (NoPanic.block (NoPanic.block (NoPanic.then (NoPanic.then (NoPanic.block (NoPanic.then (NoPanic.body)))))))))))))))) rfl (by kernel_rfl) (by kernel_rfl) (by kernel_rfl) rfl (Yd.fieldAddr (k := 1) (by kernel_rfl) rfl) ?_
                    refine WA.y (i := 5) (NoPanic.then (NoPanic.block (NoPanic.then (NoPanic.then (NoPanic.block (NoPanic.then (NoPanic.block (NoPanic.then (NoPanic.then (NoPanic.block (NoPanic.block (NoPanic.then (NoPanic.then (NoPanic.block (NoPanic.then (NoPanic.body)))))))))))))))) rfl (by kernel_rfl) (by kernel_rfl) (by kernel_rfl) rfl (Yd.move rfl) ?_
                    refine WA.y (i := 6) (NoPanic.then (NoPanic.block (NoPanic.then (NoPanic.then (NoPanic.block (NoPanic.then (NoPanic.block (NoPanic.then (NoPanic.then (NoPanic.block (NoPanic.block (NoPanic.then (NoPanic.then (NoPanic.block (NoPanic.then (NoPanic.body)))))))))))))))) rfl (by kernel_rfl) (by kernel_rfl) (by kernel_rfl) rfl (Yd.move rfl) ?_
                    refine WA.y (i := 7) (NoPanic.then (NoPanic.block (NoPanic.then (NoPanic.then (NoPanic.block (NoPanic.then (NoPanic.block (NoPanic.then (NoPanic.then (NoPanic.block (NoPanic.block (NoPanic.then (NoPanic.then (NoPanic.block (NoPanic.then (NoPanic.body)))))))))))))))) rfl (by kernel_rfl) (by kernel_rfl) (by kernel_rfl) rfl (Yd.indexAddr (e := 32) (s := 2) (by kernel_rfl) (by kernel_rfl) rfl rfl (by omega) (by omega)) ?_
                    refine WA.y (i := 8) (NoPanic.then (NoPanic.block (NoPanic.then (NoPanic.then (NoPanic.block (NoPanic.then (NoPanic.block (NoPanic.then (NoPanic.then (NoPanic.block (NoPanic.block (NoPanic.then (NoPanic.then (NoPanic.block (NoPanic.then (NoPanic.body)))))))))))))))) rfl (by kernel_rfl) (by kernel_rfl) (by kernel_rfl) rfl (Yd.fieldAddr (k := 0) (by kernel_rfl) rfl) ?_
                    refine WA.two (i := 4) (j := 9) (by kernel_rfl) ?_ ?_
                    · refine WO.h rfl Wt.none rfl (Hd.load1 (v := .string T5[j].name) (b := wb) (o := wf + (j : Int).toNat * 3 + 1) (cs := ws) (by kernel_rfl) rfl (Gr.get (by repeat (first | exact Gr.refl | exact Gr.left Gr.refl | exact Gr.left (Gr.left Gr.refl) | exact Gr.left (Gr.app Gr.refl) | exact Gr.left (Gr.left (Gr.left Gr.refl)) | exact Gr.nil | exact Gr.app (Gr.left Gr.refl) | refine Gr.cons ?_ | refine Gr.app ?_ | refine Gr.both ?_ ?_ | refine Gr.put (by repeat (first | exact List.mem_cons_self | apply List.mem_cons_of_mem | apply List.mem_append_right)) ?_)) hwm) (cell_at2 (L := T5) cellsH_len hws (by omega) (by omega)) ⟨_, rfl, ?_⟩)
                      refine WA.one (i := 9) (by kernel_rfl) ?_
                      refine WO.h rfl Wt.none rfl (Hd.load1 (v := .string S5[k].name) (b := ub) (o := uf + (k : Int).toNat * 2 + 0) (cs := us) (by kernel_rfl) rfl (Gr.get (by repeat (first | exact Gr.refl | exact Gr.left Gr.refl | exact Gr.left (Gr.left Gr.refl) | exact Gr.left (Gr.app Gr.refl) | exact Gr.left (Gr.left (Gr.left Gr.refl)) | exact Gr.nil | exact Gr.app (Gr.left Gr.refl) | refine Gr.cons ?_ | refine Gr.app ?_ | refine Gr.both ?_ ?_ | refine Gr.put (by repeat (first | exact List.mem_cons_self | apply List.mem_cons_of_mem | apply List.mem_append_right)) ?_)) hum) (cell_at2 (L := S5) cellsG_len hus (by omega) (by omega)) ⟨_, rfl, ?_⟩)
                      refine WA.y (i := 10) (NoPanic.then (NoPanic.block (NoPanic.then (NoPanic.then (NoPanic.block (NoPanic.then (NoPanic.block (NoPanic.then (NoPanic.then (NoPanic.block (NoPanic.block (NoPanic.then (NoPanic.then (NoPanic.block (NoPanic.then (NoPanic.body)))))))))))))))) rfl (by kernel_rfl) (by kernel_rfl) (by kernel_rfl) rfl (Yd.eqlS rfl rfl) ?_
                      refine WA.done (by kernel_rfl) ?_
                      refine DN.then_normal ?_
                      refine WC.ite rfl (fun h119 => ?_) (fun h119 => ?_)
                      · rw [if_pos h119] at hst
                        refine WC.region ?_
                        refine WL.y rfl (Yd.move rfl) ?_
                        refine WL.y rfl (Yd.move rfl) ?_
                        refine WL.y rfl (Yd.move rfl) ?_
                        refine WL.y rfl (Yd.indexAddr (e := 50) (s := 3) (by kernel_rfl) (by kernel_rfl) rfl rfl (by omega) (by omega)) ?_
                        refine WL.y rfl (Yd.fieldAddr (k := 2) (by kernel_rfl) rfl) ?_
                        refine WL.h rfl (Hd.load1 (v := .int .i64 T5[j].n) (b := wb) (o := wf + (j : Int).toNat * 3 + 2) (cs := ws) (by kernel_rfl) rfl (Gr.get (by repeat (first | exact Gr.refl | exact Gr.left Gr.refl | exact Gr.left (Gr.left Gr.refl) | exact Gr.left (Gr.app Gr.refl) | exact Gr.left (Gr.left (Gr.left Gr.refl)) | exact Gr.nil | exact Gr.app (Gr.left Gr.refl) | refine Gr.cons ?_ | refine Gr.app ?_ | refine Gr.both ?_ ?_ | refine Gr.put (by repeat (first | exact List.mem_cons_self | apply List.mem_cons_of_mem | apply List.mem_append_right)) ?_)) hwm) (cell_at2 (L := T5) cellsH_len hws (by omega) (by omega)) ⟨_, rfl, ?_⟩)
                        refine WL.y rfl (Yd.add rfl rfl (by omega) (by omega)) ?_
                        refine WL.y rfl (Yd.assign rfl) ?_
                        refine WL.nil ?_
                        refine DN.block_normal ?_
                        refine DN.then_normal ?_
                        refine WC.region ?_
                        refine WL.y rfl (Yd.move rfl) ?_
                        refine WL.y rfl (Yd.add rfl rfl (by omega) (by omega)) ?_
                        refine WL.y rfl (Yd.assign rfl) ?_
                        refine WL.nil ?_
                        exact DN.againS (⟨j + 1, z + T5[j].n⟩) (show (j + 1) ≤ T5.length ∧ (z + T5[j].n) = S5[k].free + goneOf K3 S5[k].name + sumN (T5.take (j + 1)) S5[k].name from ⟨by omega, by omega⟩) (show T5.length - (j + 1) < T5.length - j by omega) (Sx.put rfl (Sx.put rfl ((by repeat (first | exact Sx.refl | refine Sx.skip rfl ?_))))) (by repeat (first | exact Sp.here | exact Sp.sn | exact Sp.s0 | exact Fr.here | apply Sp.s2 | apply Sp.sx | apply Fr.fc | apply Fr.al | apply Fr.fa | apply Sp.sc | apply Sp.al | apply Sp.sa))
                      · rw [if_neg h119] at hst
                        refine WC.skip ?_
                        refine DN.block_normal ?_
                        refine DN.then_normal ?_
                        refine WC.region ?_
                        refine WL.y rfl (Yd.move rfl) ?_
                        refine WL.y rfl (Yd.add rfl rfl (by omega) (by omega)) ?_
                        refine WL.y rfl (Yd.assign rfl) ?_
                        refine WL.nil ?_
                        exact DN.againS (⟨j + 1, z⟩) (show (j + 1) ≤ T5.length ∧ z = S5[k].free + goneOf K3 S5[k].name + sumN (T5.take (j + 1)) S5[k].name from ⟨by omega, by omega⟩) (show T5.length - (j + 1) < T5.length - j by omega) (Sx.put rfl (Sx.put rfl ((by repeat (first | exact Sx.refl | refine Sx.skip rfl ?_))))) (by repeat (first | exact Sp.here | exact Sp.sn | exact Sp.s0 | exact Fr.here | apply Sp.s2 | apply Sp.sx | apply Fr.fc | apply Fr.al | apply Fr.fa | apply Sp.sc | apply Sp.al | apply Sp.sa))
                    · refine WO.h rfl Wt.none rfl (Hd.load1 (v := .string S5[k].name) (b := ub) (o := uf + (k : Int).toNat * 2 + 0) (cs := us) (by kernel_rfl) rfl (Gr.get (by repeat (first | exact Gr.refl | exact Gr.left Gr.refl | exact Gr.left (Gr.left Gr.refl) | exact Gr.left (Gr.app Gr.refl) | exact Gr.left (Gr.left (Gr.left Gr.refl)) | exact Gr.nil | exact Gr.app (Gr.left Gr.refl) | refine Gr.cons ?_ | refine Gr.app ?_ | refine Gr.both ?_ ?_ | refine Gr.put (by repeat (first | exact List.mem_cons_self | apply List.mem_cons_of_mem | apply List.mem_append_right)) ?_)) hum) (cell_at2 (L := S5) cellsG_len hus (by omega) (by omega)) ⟨_, rfl, ?_⟩)
                      refine WA.one (i := 4) (by kernel_rfl) ?_
                      refine WO.h rfl Wt.none rfl (Hd.load1 (v := .string T5[j].name) (b := wb) (o := wf + (j : Int).toNat * 3 + 1) (cs := ws) (by kernel_rfl) rfl (Gr.get (by repeat (first | exact Gr.refl | exact Gr.left Gr.refl | exact Gr.left (Gr.left Gr.refl) | exact Gr.left (Gr.app Gr.refl) | exact Gr.left (Gr.left (Gr.left Gr.refl)) | exact Gr.nil | exact Gr.app (Gr.left Gr.refl) | refine Gr.cons ?_ | refine Gr.app ?_ | refine Gr.both ?_ ?_ | refine Gr.put (by repeat (first | exact List.mem_cons_self | apply List.mem_cons_of_mem | apply List.mem_append_right)) ?_)) hwm) (cell_at2 (L := T5) cellsH_len hws (by omega) (by omega)) ⟨_, rfl, ?_⟩)
                      refine WA.y (i := 10) (NoPanic.then (NoPanic.block (NoPanic.then (NoPanic.then (NoPanic.block (NoPanic.then (NoPanic.block (NoPanic.then (NoPanic.then (NoPanic.block (NoPanic.block (NoPanic.then (NoPanic.then (NoPanic.block (NoPanic.then (NoPanic.body)))))))))))))))) rfl (by kernel_rfl) (by kernel_rfl) (by kernel_rfl) rfl (Yd.eqlS rfl rfl) ?_
                      refine WA.done (by kernel_rfl) ?_
                      refine DN.then_normal ?_
                      refine WC.ite rfl (fun h119 => ?_) (fun h119 => ?_)
                      · rw [if_pos h119] at hst
                        refine WC.region ?_
                        refine WL.y rfl (Yd.move rfl) ?_
                        refine WL.y rfl (Yd.move rfl) ?_
                        refine WL.y rfl (Yd.move rfl) ?_
                        refine WL.y rfl (Yd.indexAddr (e := 50) (s := 3) (by kernel_rfl) (by kernel_rfl) rfl rfl (by omega) (by omega)) ?_
                        refine WL.y rfl (Yd.fieldAddr (k := 2) (by kernel_rfl) rfl) ?_
                        refine WL.h rfl (Hd.load1 (v := .int .i64 T5[j].n) (b := wb) (o := wf + (j : Int).toNat * 3 + 2) (cs := ws) (by kernel_rfl) rfl (Gr.get (by repeat (first | exact Gr.refl | exact Gr.left Gr.refl | exact Gr.left (Gr.left Gr.refl) | exact Gr.left (Gr.app Gr.refl) | exact Gr.left (Gr.left (Gr.left Gr.refl)) | exact Gr.nil | exact Gr.app (Gr.left Gr.refl) | refine Gr.cons ?_ | refine Gr.app ?_ | refine Gr.both ?_ ?_ | refine Gr.put (by repeat (first | exact List.mem_cons_self | apply List.mem_cons_of_mem | apply List.mem_append_right)) ?_)) hwm) (cell_at2 (L := T5) cellsH_len hws (by omega) (by omega)) ⟨_, rfl, ?_⟩)
                        refine WL.y rfl (Yd.add rfl rfl (by omega) (by omega)) ?_
                        refine WL.y rfl (Yd.assign rfl) ?_
                        refine WL.nil ?_
                        refine DN.block_normal ?_
                        refine DN.then_normal ?_
                        refine WC.region ?_
                        refine WL.y rfl (Yd.move rfl) ?_
                        refine WL.y rfl (Yd.add rfl rfl (by omega) (by omega)) ?_
                        refine WL.y rfl (Yd.assign rfl) ?_
                        refine WL.nil ?_
                        exact DN.againS (⟨j + 1, z + T5[j].n⟩) (show (j + 1) ≤ T5.length ∧ (z + T5[j].n) = S5[k].free + goneOf K3 S5[k].name + sumN (T5.take (j + 1)) S5[k].name from ⟨by omega, by omega⟩) (show T5.length - (j + 1) < T5.length - j by omega) (Sx.put rfl (Sx.put rfl ((by repeat (first | exact Sx.refl | refine Sx.skip rfl ?_))))) (by repeat (first | exact Sp.here | exact Sp.sn | exact Sp.s0 | exact Fr.here | apply Sp.s2 | apply Sp.sx | apply Fr.fc | apply Fr.al | apply Fr.fa | apply Sp.sc | apply Sp.al | apply Sp.sa))
                      · rw [if_neg h119] at hst
                        refine WC.skip ?_
                        refine DN.block_normal ?_
                        refine DN.then_normal ?_
                        refine WC.region ?_
                        refine WL.y rfl (Yd.move rfl) ?_
                        refine WL.y rfl (Yd.add rfl rfl (by omega) (by omega)) ?_
                        refine WL.y rfl (Yd.assign rfl) ?_
                        refine WL.nil ?_
                        exact DN.againS (⟨j + 1, z⟩) (show (j + 1) ≤ T5.length ∧ z = S5[k].free + goneOf K3 S5[k].name + sumN (T5.take (j + 1)) S5[k].name from ⟨by omega, by omega⟩) (show T5.length - (j + 1) < T5.length - j by omega) (Sx.put rfl (Sx.put rfl ((by repeat (first | exact Sx.refl | refine Sx.skip rfl ?_))))) (by repeat (first | exact Sp.here | exact Sp.sn | exact Sp.s0 | exact Fr.here | apply Sp.s2 | apply Sp.sx | apply Fr.fc | apply Fr.al | apply Fr.fa | apply Sp.sc | apply Sp.al | apply Sp.sa))
                  · obtain rfl : j = T5.length := by omega
                    rw [List.take_length] at hz
                    refine WC.exit ?_
                    refine DN.then_exit ?_
                    refine DN.then_exit ?_
                    refine DN.block_exit ?_
                    refine DN.then_normal ?_
                    refine WC.seq ?_
                    refine WC.draw 28 (by kernel_rfl) rfl ?_
                    refine WA.y (i := 0) (NoPanic.then (NoPanic.block (NoPanic.then (NoPanic.then (NoPanic.block (NoPanic.block (NoPanic.then (NoPanic.then (NoPanic.block (NoPanic.then (NoPanic.body))))))))))) rfl (by kernel_rfl) (by kernel_rfl) (by kernel_rfl) rfl (Yd.move rfl) ?_
                    refine WA.y (i := 1) (NoPanic.then (NoPanic.block (NoPanic.then (NoPanic.then (NoPanic.block (NoPanic.block (NoPanic.then (NoPanic.then (NoPanic.block (NoPanic.then (NoPanic.body))))))))))) rfl (by kernel_rfl) (by kernel_rfl) (by kernel_rfl) rfl (Yd.move rfl) ?_
                    refine WA.y (i := 2) (NoPanic.then (NoPanic.block (NoPanic.then (NoPanic.then (NoPanic.block (NoPanic.block (NoPanic.then (NoPanic.then (NoPanic.block (NoPanic.then (NoPanic.body))))))))))) rfl (by kernel_rfl) (by kernel_rfl) (by kernel_rfl) rfl (Yd.indexAddr (e := 32) (s := 2) (by kernel_rfl) (by kernel_rfl) rfl rfl (by omega) (by omega)) ?_
                    refine WA.y (i := 3) (NoPanic.then (NoPanic.block (NoPanic.then (NoPanic.then (NoPanic.block (NoPanic.block (NoPanic.then (NoPanic.then (NoPanic.block (NoPanic.then (NoPanic.body))))))))))) rfl (by kernel_rfl) (by kernel_rfl) (by kernel_rfl) rfl (Yd.fieldAddr (k := 1) (by kernel_rfl) rfl) ?_
                    refine WA.one (i := 4) (by kernel_rfl) ?_
                    refine WO.h rfl Wt.none rfl (Hd.load1 (v := .int .i64 S5[k].free) (b := ub) (o := uf + (k : Int).toNat * 2 + 1) (cs := us) (by kernel_rfl) rfl (Gr.get (by repeat (first | exact Gr.refl | exact Gr.left Gr.refl | exact Gr.left (Gr.left Gr.refl) | exact Gr.left (Gr.app Gr.refl) | exact Gr.left (Gr.left (Gr.left Gr.refl)) | exact Gr.nil | exact Gr.app (Gr.left Gr.refl) | refine Gr.cons ?_ | refine Gr.app ?_ | refine Gr.both ?_ ?_ | refine Gr.put (by repeat (first | exact List.mem_cons_self | apply List.mem_cons_of_mem | apply List.mem_append_right)) ?_)) hum) (cell_at2 (L := S5) cellsG_len hus (by omega) (by omega)) ⟨_, rfl, ?_⟩)
                    refine WA.y (i := 5) (NoPanic.then (NoPanic.block (NoPanic.then (NoPanic.then (NoPanic.block (NoPanic.block (NoPanic.then (NoPanic.then (NoPanic.block (NoPanic.then (NoPanic.body))))))))))) rfl (by kernel_rfl) (by kernel_rfl) (by kernel_rfl) rfl (Yd.lss rfl rfl) ?_
                    refine WA.renamed (t := 132) (v := .bool false) rfl (congrArg Value.bool (decide_eq_false (by omega))) ?_
                    refine WA.y (i := 6) (NoPanic.then (NoPanic.block (NoPanic.then (NoPanic.then (NoPanic.block (NoPanic.block (NoPanic.then (NoPanic.then (NoPanic.block (NoPanic.then (NoPanic.body))))))))))) rfl (by kernel_rfl) (by kernel_rfl) (by kernel_rfl) rfl (Yd.move rfl) ?_
                    refine WA.gy (i := 7) (dj := 133) (NoPanic.then (NoPanic.block (NoPanic.then (NoPanic.then (NoPanic.block (NoPanic.block (NoPanic.then (NoPanic.then (NoPanic.block (NoPanic.then (NoPanic.body))))))))))) rfl (by kernel_rfl) (by kernel_rfl) (by kernel_rfl) rfl rfl rfl (Yd.move rfl) ?_
                    refine WA.gy (i := 8) (dj := 133) (NoPanic.then (NoPanic.block (NoPanic.then (NoPanic.then (NoPanic.block (NoPanic.block (NoPanic.then (NoPanic.then (NoPanic.block (NoPanic.then (NoPanic.body))))))))))) rfl (by kernel_rfl) (by kernel_rfl) (by kernel_rfl) rfl rfl rfl (Yd.move rfl) ?_
                    refine WA.gy (i := 9) (dj := 133) (NoPanic.then (NoPanic.block (NoPanic.then (NoPanic.then (NoPanic.block (NoPanic.block (NoPanic.then (NoPanic.then (NoPanic.block (NoPanic.then (NoPanic.body))))))))))) rfl (by kernel_rfl) (by kernel_rfl) (by kernel_rfl) rfl rfl rfl (Yd.move rfl) ?_
                    refine WA.gy (i := 10) (dj := 133) (NoPanic.then (NoPanic.block (NoPanic.then (NoPanic.then (NoPanic.block (NoPanic.block (NoPanic.then (NoPanic.then (NoPanic.block (NoPanic.then (NoPanic.body))))))))))) rfl (by kernel_rfl) (by kernel_rfl) (by kernel_rfl) rfl rfl rfl (Yd.indexAddr (e := 32) (s := 2) (by kernel_rfl) (by kernel_rfl) rfl rfl (by omega) (by omega)) ?_
                    refine WA.gy (i := 11) (dj := 133) (NoPanic.then (NoPanic.block (NoPanic.then (NoPanic.then (NoPanic.block (NoPanic.block (NoPanic.then (NoPanic.then (NoPanic.block (NoPanic.then (NoPanic.body))))))))))) rfl (by kernel_rfl) (by kernel_rfl) (by kernel_rfl) rfl rfl rfl (Yd.fieldAddr (k := 1) (by kernel_rfl) rfl) ?_
                    refine WA.one (i := 12) (by kernel_rfl) ?_
                    refine WO.h rfl (Wt.yes (dj := 133) rfl rfl) rfl (Hd.load1 (v := .int .i64 S1[k].free) (b := xb) (o := xf + (k : Int).toNat * 2 + 1) (cs := xs) (by kernel_rfl) rfl (Gr.get (by repeat (first | exact Gr.refl | exact Gr.left Gr.refl | exact Gr.left (Gr.left Gr.refl) | exact Gr.left (Gr.app Gr.refl) | exact Gr.left (Gr.left (Gr.left Gr.refl)) | exact Gr.nil | exact Gr.app (Gr.left Gr.refl) | refine Gr.cons ?_ | refine Gr.app ?_ | refine Gr.both ?_ ?_ | refine Gr.put (by repeat (first | exact List.mem_cons_self | apply List.mem_cons_of_mem | apply List.mem_append_right)) ?_)) hxm) (cell_at2 (L := S1) cellsG_len hxs (by omega) (by omega)) ⟨_, rfl, ?_⟩)
                    refine WA.gy (i := 13) (dj := 133) (NoPanic.then (NoPanic.block (NoPanic.then (NoPanic.then (NoPanic.block (NoPanic.block (NoPanic.then (NoPanic.then (NoPanic.block (NoPanic.then (NoPanic.body))))))))))) rfl (by kernel_rfl) (by kernel_rfl) (by kernel_rfl) rfl rfl rfl (Yd.neq rfl rfl) ?_
                    refine WA.renamed (t := 140) (v := .bool false) rfl (congrArg Value.bool (decide_eq_false (by omega))) ?_
                    refine WA.y (i := 14) (NoPanic.then (NoPanic.block (NoPanic.then (NoPanic.then (NoPanic.block (NoPanic.block (NoPanic.then (NoPanic.then (NoPanic.block (NoPanic.then (NoPanic.body))))))))))) rfl (by kernel_rfl) (by kernel_rfl) (by kernel_rfl) rfl (Yd.pickF rfl rfl) ?_
                    refine WA.y (i := 15) (NoPanic.then (NoPanic.block (NoPanic.then (NoPanic.then (NoPanic.block (NoPanic.block (NoPanic.then (NoPanic.then (NoPanic.block (NoPanic.then (NoPanic.body))))))))))) rfl (by kernel_rfl) (by kernel_rfl) (by kernel_rfl) rfl (Yd.move rfl) ?_
                    refine WA.gy (i := 16) (dj := 142) (NoPanic.then (NoPanic.block (NoPanic.then (NoPanic.then (NoPanic.block (NoPanic.block (NoPanic.then (NoPanic.then (NoPanic.block (NoPanic.then (NoPanic.body))))))))))) rfl (by kernel_rfl) (by kernel_rfl) (by kernel_rfl) rfl rfl rfl (Yd.move rfl) ?_
                    refine WA.gy (i := 17) (dj := 142) (NoPanic.then (NoPanic.block (NoPanic.then (NoPanic.then (NoPanic.block (NoPanic.block (NoPanic.then (NoPanic.then (NoPanic.block (NoPanic.then (NoPanic.body))))))))))) rfl (by kernel_rfl) (by kernel_rfl) (by kernel_rfl) rfl rfl rfl (Yd.move rfl) ?_
                    refine WA.gy (i := 18) (dj := 142) (NoPanic.then (NoPanic.block (NoPanic.then (NoPanic.then (NoPanic.block (NoPanic.block (NoPanic.then (NoPanic.then (NoPanic.block (NoPanic.then (NoPanic.body))))))))))) rfl (by kernel_rfl) (by kernel_rfl) (by kernel_rfl) rfl rfl rfl (Yd.indexAddr (e := 32) (s := 2) (by kernel_rfl) (by kernel_rfl) rfl rfl (by omega) (by omega)) ?_
                    refine WA.gy (i := 19) (dj := 142) (NoPanic.then (NoPanic.block (NoPanic.then (NoPanic.then (NoPanic.block (NoPanic.block (NoPanic.then (NoPanic.then (NoPanic.block (NoPanic.then (NoPanic.body))))))))))) rfl (by kernel_rfl) (by kernel_rfl) (by kernel_rfl) rfl rfl rfl (Yd.fieldAddr (k := 0) (by kernel_rfl) rfl) ?_
                    refine WA.gy (i := 21) (dj := 142) (NoPanic.then (NoPanic.block (NoPanic.then (NoPanic.then (NoPanic.block (NoPanic.block (NoPanic.then (NoPanic.then (NoPanic.block (NoPanic.then (NoPanic.body))))))))))) rfl (by kernel_rfl) (by kernel_rfl) (by kernel_rfl) rfl rfl rfl (Yd.move rfl) ?_
                    refine WA.gy (i := 22) (dj := 142) (NoPanic.then (NoPanic.block (NoPanic.then (NoPanic.then (NoPanic.block (NoPanic.block (NoPanic.then (NoPanic.then (NoPanic.block (NoPanic.then (NoPanic.body))))))))))) rfl (by kernel_rfl) (by kernel_rfl) (by kernel_rfl) rfl rfl rfl (Yd.move rfl) ?_
                    refine WA.gy (i := 23) (dj := 142) (NoPanic.then (NoPanic.block (NoPanic.then (NoPanic.then (NoPanic.block (NoPanic.block (NoPanic.then (NoPanic.then (NoPanic.block (NoPanic.then (NoPanic.body))))))))))) rfl (by kernel_rfl) (by kernel_rfl) (by kernel_rfl) rfl rfl rfl (Yd.indexAddr (e := 32) (s := 2) (by kernel_rfl) (by kernel_rfl) rfl rfl (by omega) (by omega)) ?_
                    refine WA.gy (i := 24) (dj := 142) (NoPanic.then (NoPanic.block (NoPanic.then (NoPanic.then (NoPanic.block (NoPanic.block (NoPanic.then (NoPanic.then (NoPanic.block (NoPanic.then (NoPanic.body))))))))))) rfl (by kernel_rfl) (by kernel_rfl) (by kernel_rfl) rfl rfl rfl (Yd.fieldAddr (k := 0) (by kernel_rfl) rfl) ?_
                    refine WA.two (i := 20) (j := 25) (by kernel_rfl) ?_ ?_
                    · refine WO.h rfl (Wt.yes (dj := 142) rfl rfl) rfl (Hd.load1 (v := .string S5[k].name) (b := ub) (o := uf + (k : Int).toNat * 2 + 0) (cs := us) (by kernel_rfl) rfl (Gr.get (by repeat (first | exact Gr.refl | exact Gr.left Gr.refl | exact Gr.left (Gr.left Gr.refl) | exact Gr.left (Gr.app Gr.refl) | exact Gr.left (Gr.left (Gr.left Gr.refl)) | exact Gr.nil | exact Gr.app (Gr.left Gr.refl) | refine Gr.cons ?_ | refine Gr.app ?_ | refine Gr.both ?_ ?_ | refine Gr.put (by repeat (first | exact List.mem_cons_self | apply List.mem_cons_of_mem | apply List.mem_append_right)) ?_)) hum) (cell_at2 (L := S5) cellsG_len hus (by omega) (by omega)) ⟨_, rfl, ?_⟩)
                      refine WA.one (i := 25) (by kernel_rfl) ?_
                      refine WO.h rfl (Wt.yes (dj := 142) rfl rfl) rfl (Hd.load1 (v := .string S1[k].name) (b := xb) (o := xf + (k : Int).toNat * 2 + 0) (cs := xs) (by kernel_rfl) rfl (Gr.get (by repeat (first | exact Gr.refl | exact Gr.left Gr.refl | exact Gr.left (Gr.left Gr.refl) | exact Gr.left (Gr.app Gr.refl) | exact Gr.left (Gr.left (Gr.left Gr.refl)) | exact Gr.nil | exact Gr.app (Gr.left Gr.refl) | refine Gr.cons ?_ | refine Gr.app ?_ | refine Gr.both ?_ ?_ | refine Gr.put (by repeat (first | exact List.mem_cons_self | apply List.mem_cons_of_mem | apply List.mem_append_right)) ?_)) hxm) (cell_at2 (L := S1) cellsG_len hxs (by omega) (by omega)) ⟨_, rfl, ?_⟩)
                      refine WA.gy (i := 26) (dj := 142) (NoPanic.then (NoPanic.block (NoPanic.then (NoPanic.then (NoPanic.block (NoPanic.block (NoPanic.then (NoPanic.then (NoPanic.block (NoPanic.then (NoPanic.body))))))))))) rfl (by kernel_rfl) (by kernel_rfl) (by kernel_rfl) rfl rfl rfl (Yd.neqS rfl rfl) ?_
                      refine WA.renamed (t := 153) (v := .bool false) rfl (congrArg Value.bool (decide_eq_false (fun h => h hn5))) ?_
                      refine WA.y (i := 27) (NoPanic.then (NoPanic.block (NoPanic.then (NoPanic.then (NoPanic.block (NoPanic.block (NoPanic.then (NoPanic.then (NoPanic.block (NoPanic.then (NoPanic.body))))))))))) rfl (by kernel_rfl) (by kernel_rfl) (by kernel_rfl) rfl (Yd.pickF rfl rfl) ?_
                      refine WA.done (by kernel_rfl) ?_
                      refine DN.then_normal ?_
                      refine WC.no rfl ?_
                      refine WC.skip ?_
                      refine DN.block_normal ?_
                      refine DN.then_normal ?_
                      refine WC.region ?_
                      refine WL.y rfl (Yd.move rfl) ?_
                      refine WL.y rfl (Yd.add rfl rfl (by omega) (by omega)) ?_
                      refine WL.y rfl (Yd.assign rfl) ?_
                      refine WL.nil ?_
                      exact DN.againS (k + 1) (show (k + 1) ≤ S5.length from (by omega)) (show S5.length - (k + 1) < S5.length - k by omega) (Sx.put rfl ((by repeat (first | exact Sx.refl | refine Sx.skip rfl ?_)))) (by repeat (first | exact Sp.here | exact Sp.sn | exact Sp.s0 | exact Fr.here | apply Sp.s2 | apply Sp.sx | apply Fr.fc | apply Fr.al | apply Fr.fa | apply Sp.sc | apply Sp.al | apply Sp.sa))
                    · refine WO.h rfl (Wt.yes (dj := 142) rfl rfl) rfl (Hd.load1 (v := .string S1[k].name) (b := xb) (o := xf + (k : Int).toNat * 2 + 0) (cs := xs) (by kernel_rfl) rfl (Gr.get (by repeat (first | exact Gr.refl | exact Gr.left Gr.refl | exact Gr.left (Gr.left Gr.refl) | exact Gr.left (Gr.app Gr.refl) | exact Gr.left (Gr.left (Gr.left Gr.refl)) | exact Gr.nil | exact Gr.app (Gr.left Gr.refl) | refine Gr.cons ?_ | refine Gr.app ?_ | refine Gr.both ?_ ?_ | refine Gr.put (by repeat (first | exact List.mem_cons_self | apply List.mem_cons_of_mem | apply List.mem_append_right)) ?_)) hxm) (cell_at2 (L := S1) cellsG_len hxs (by omega) (by omega)) ⟨_, rfl, ?_⟩)
                      refine WA.one (i := 20) (by kernel_rfl) ?_
                      refine WO.h rfl (Wt.yes (dj := 142) rfl rfl) rfl (Hd.load1 (v := .string S5[k].name) (b := ub) (o := uf + (k : Int).toNat * 2 + 0) (cs := us) (by kernel_rfl) rfl (Gr.get (by repeat (first | exact Gr.refl | exact Gr.left Gr.refl | exact Gr.left (Gr.left Gr.refl) | exact Gr.left (Gr.app Gr.refl) | exact Gr.left (Gr.left (Gr.left Gr.refl)) | exact Gr.nil | exact Gr.app (Gr.left Gr.refl) | refine Gr.cons ?_ | refine Gr.app ?_ | refine Gr.both ?_ ?_ | refine Gr.put (by repeat (first | exact List.mem_cons_self | apply List.mem_cons_of_mem | apply List.mem_append_right)) ?_)) hum) (cell_at2 (L := S5) cellsG_len hus (by omega) (by omega)) ⟨_, rfl, ?_⟩)
                      refine WA.gy (i := 26) (dj := 142) (NoPanic.then (NoPanic.block (NoPanic.then (NoPanic.then (NoPanic.block (NoPanic.block (NoPanic.then (NoPanic.then (NoPanic.block (NoPanic.then (NoPanic.body))))))))))) rfl (by kernel_rfl) (by kernel_rfl) (by kernel_rfl) rfl rfl rfl (Yd.neqS rfl rfl) ?_
                      refine WA.renamed (t := 153) (v := .bool false) rfl (congrArg Value.bool (decide_eq_false (fun h => h hn5))) ?_
                      refine WA.y (i := 27) (NoPanic.then (NoPanic.block (NoPanic.then (NoPanic.then (NoPanic.block (NoPanic.block (NoPanic.then (NoPanic.then (NoPanic.block (NoPanic.then (NoPanic.body))))))))))) rfl (by kernel_rfl) (by kernel_rfl) (by kernel_rfl) rfl (Yd.pickF rfl rfl) ?_
                      refine WA.done (by kernel_rfl) ?_
                      refine DN.then_normal ?_
                      refine WC.no rfl ?_
                      refine WC.skip ?_
                      refine DN.block_normal ?_
                      refine DN.then_normal ?_
                      refine WC.region ?_
                      refine WL.y rfl (Yd.move rfl) ?_
                      refine WL.y rfl (Yd.add rfl rfl (by omega) (by omega)) ?_
                      refine WL.y rfl (Yd.assign rfl) ?_
                      refine WL.nil ?_
                      exact DN.againS (k + 1) (show (k + 1) ≤ S5.length from (by omega)) (show S5.length - (k + 1) < S5.length - k by omega) (Sx.put rfl ((by repeat (first | exact Sx.refl | refine Sx.skip rfl ?_)))) (by repeat (first | exact Sp.here | exact Sp.sn | exact Sp.s0 | exact Fr.here | apply Sp.s2 | apply Sp.sx | apply Fr.fc | apply Fr.al | apply Fr.fa | apply Sp.sc | apply Sp.al | apply Sp.sa))
                · refine WO.rf rfl Wt.none rfl (Ent.func Try.call23 rfl) (gone_reads p K3 L3 C3 h3 S5[k].name) (by repeat (first | exact Sp.here | exact Sp.sn | exact Sp.s0 | exact Fr.here | apply Sp.s2 | apply Sp.sx | apply Fr.fc | apply Fr.al | apply Fr.fa | apply Sp.sc | apply Sp.al | apply Sp.sa)) ?_
                  refine WA.one (i := 4) (by kernel_rfl) ?_
                  refine WO.h rfl Wt.none rfl (Hd.load1 (v := .int .i64 S5[k].free) (b := ub) (o := uf + (k : Int).toNat * 2 + 1) (cs := us) (by kernel_rfl) rfl (Gr.get (by repeat (first | exact Gr.refl | exact Gr.left Gr.refl | exact Gr.left (Gr.left Gr.refl) | exact Gr.left (Gr.app Gr.refl) | exact Gr.left (Gr.left (Gr.left Gr.refl)) | exact Gr.nil | exact Gr.app (Gr.left Gr.refl) | refine Gr.cons ?_ | refine Gr.app ?_ | refine Gr.both ?_ ?_ | refine Gr.put (by repeat (first | exact List.mem_cons_self | apply List.mem_cons_of_mem | apply List.mem_append_right)) ?_)) hum) (cell_at2 (L := S5) cellsG_len hus (by omega) (by omega)) ⟨_, rfl, ?_⟩)
                  refine WA.y (i := 12) (NoPanic.then (NoPanic.block (NoPanic.then (NoPanic.then (NoPanic.block (NoPanic.block (NoPanic.then (NoPanic.then (NoPanic.block (NoPanic.then (NoPanic.body))))))))))) rfl (by kernel_rfl) (by kernel_rfl) (by kernel_rfl) rfl (Yd.add rfl rfl (by omega) (by omega)) ?_
                  refine WA.y (i := 13) (NoPanic.then (NoPanic.block (NoPanic.then (NoPanic.then (NoPanic.block (NoPanic.block (NoPanic.then (NoPanic.then (NoPanic.block (NoPanic.then (NoPanic.body))))))))))) rfl (by kernel_rfl) (by kernel_rfl) (by kernel_rfl) rfl (Yd.assign rfl) ?_
                  refine WA.done (by kernel_rfl) ?_
                  refine DN.then_normal ?_
                  refine WC.seq ?_
                  refine WC.seq ?_
                  refine WC.region ?_
                  refine WL.y rfl (Yd.assign rfl) ?_
                  refine WL.nil ?_
                  refine DN.then_normal ?_
                  refine WC.block ?_
                  refine WC.loopS (fun z : Nat × Int => z.1 ≤ T5.length ∧ z.2 = S5[k].free + goneOf K3 S5[k].name + sumN (T5.take z.1) S5[k].name) (fun z : Nat × Int => [(16, .int .i64 (z.1 : Int)), (15, .int .i64 z.2)]) (fun z : Nat × Int => Ds5 ++ (Cs5 ++ (C3 ++ (Cs1 ++ H)))) (fun z : Nat × Int => T5.length - z.1) (⟨0, S5[k].free + goneOf K3 S5[k].name⟩) (show 0 ≤ T5.length ∧ (S5[k].free + goneOf K3 S5[k].name) = S5[k].free + goneOf K3 S5[k].name + sumN (T5.take 0) S5[k].name from ⟨Nat.zero_le _, by simp [sumN]⟩) (Sx.put rfl (Sx.put rfl ((by repeat (first | exact Sx.refl | refine Sx.skip rfl ?_))))) (by repeat (first | exact Sp.here | exact Sp.sn | exact Sp.s0 | exact Fr.here | apply Sp.s2 | apply Sp.sx | apply Fr.fc | apply Fr.al | apply Fr.fa | apply Sp.sc | apply Sp.al | apply Sp.sa)) ?_
                  rintro ⟨j, z⟩ hI
                  replace hI : j ≤ T5.length ∧ z = S5[k].free + goneOf K3 S5[k].name + sumN (T5.take j) S5[k].name := hI
                  obtain ⟨hj, hz⟩ := hI
                  change WC _ _ _ _ _ _ ([(16, .int .i64 (j : Int)), (15, .int .i64 z)] ++ _) (Ds5 ++ (Cs5 ++ (C3 ++ (Cs1 ++ H))))
                  refine WC.seq ?_
                  refine WC.seq ?_
                  refine WC.region ?_
                  refine WL.y rfl (Yd.move rfl) ?_
                  refine WL.y rfl (Yd.move rfl) ?_
                  refine WL.y rfl (Yd.len (e := 50) (by kernel_rfl) rfl) ?_
                  refine WL.y rfl (Yd.lss rfl rfl) ?_
                  refine WL.nil ?_
                  refine DN.then_normal ?_
                  refine WC.ite rfl (fun h106 => ?_) (fun h106 => ?_)
                  · have hjlt : j < T5.length := by omega
                    obtain ⟨wb, wf, ws, wT, wfr, wex, rfl, _, hwm, hws⟩ := hq5.rs.lies (by omega)
                    have hst := sumN_take hjlt S5[k].name
                    have hp1 := sumN_part hpos (j + 1) S5[k].name
                    have hp0 := sumN_part hpos j S5[k].name
                    have hpn := hpos T5[j] (List.getElem_mem hjlt)
                    refine WC.skip ?_
                    refine DN.then_normal ?_
                    refine WC.seq ?_
                    refine WC.block ?_
                    refine WC.seq ?_
                    refine WC.draw 11 (by kernel_rfl) rfl ?_
                    refine WA.y (i := 0) (NoPanic.then (NoPanic.block (NoPanic.then (NoPanic.then (NoPanic.block (NoPanic.then (NoPanic.block (NoPanic.then (NoPanic.then (NoPanic.block (NoPanic.block (NoPanic.then (NoPanic.then (NoPanic.block (NoPanic.then (NoPanic.body)))))))))))))))) rfl (by kernel_rfl) (by kernel_rfl) (by kernel_rfl) rfl (Yd.move rfl) ?_
                    refine WA.y (i := 1) (NoPanic.then (NoPanic.block (NoPanic.then (NoPanic.then (NoPanic.block (NoPanic.then (NoPanic.block (NoPanic.then (NoPanic.then (NoPanic.block (NoPanic.block (NoPanic.then (NoPanic.then (NoPanic.block (NoPanic.then (NoPanic.body)))))))))))))))) rfl (by kernel_rfl) (by kernel_rfl) (by kernel_rfl) rfl (Yd.move rfl) ?_
                    refine WA.y (i := 2) (NoPanic.then (NoPanic.block (NoPanic.then (NoPanic.then (NoPanic.block (NoPanic.then (NoPanic.block (NoPanic.then (NoPanic.then (NoPanic.block (NoPanic.block (NoPanic.then (NoPanic.then (NoPanic.block (NoPanic.then (NoPanic.body)))))))))))))))) rfl (by kernel_rfl) (by kernel_rfl) (by kernel_rfl) rfl (Yd.indexAddr (e := 50) (s := 3) (by kernel_rfl) (by kernel_rfl) rfl rfl (by omega) (by omega)) ?_
                    refine WA.y (i := 3) (NoPanic.then (NoPanic.block (NoPanic.then (NoPanic.then (NoPanic.block (NoPanic.then (NoPanic.block (NoPanic.then (NoPanic.then (NoPanic.block (NoPanic.block (NoPanic.then (NoPanic.then (NoPanic.block (NoPanic.then (NoPanic.body)))))))))))))))) rfl (by kernel_rfl) (by kernel_rfl) (by kernel_rfl) rfl (Yd.fieldAddr (k := 1) (by kernel_rfl) rfl) ?_
                    refine WA.y (i := 5) (NoPanic.then (NoPanic.block (NoPanic.then (NoPanic.then (NoPanic.block (NoPanic.then (NoPanic.block (NoPanic.then (NoPanic.then (NoPanic.block (NoPanic.block (NoPanic.then (NoPanic.then (NoPanic.block (NoPanic.then (NoPanic.body)))))))))))))))) rfl (by kernel_rfl) (by kernel_rfl) (by kernel_rfl) rfl (Yd.move rfl) ?_
                    refine WA.y (i := 6) (NoPanic.then (NoPanic.block (NoPanic.then (NoPanic.then (NoPanic.block (NoPanic.then (NoPanic.block (NoPanic.then (NoPanic.then (NoPanic.block (NoPanic.block (NoPanic.then (NoPanic.then (NoPanic.block (NoPanic.then (NoPanic.body)))))))))))))))) rfl (by kernel_rfl) (by kernel_rfl) (by kernel_rfl) rfl (Yd.move rfl) ?_
                    refine WA.y (i := 7) (NoPanic.then (NoPanic.block (NoPanic.then (NoPanic.then (NoPanic.block (NoPanic.then (NoPanic.block (NoPanic.then (NoPanic.then (NoPanic.block (NoPanic.block (NoPanic.then (NoPanic.then (NoPanic.block (NoPanic.then (NoPanic.body)))))))))))))))) rfl (by kernel_rfl) (by kernel_rfl) (by kernel_rfl) rfl (Yd.indexAddr (e := 32) (s := 2) (by kernel_rfl) (by kernel_rfl) rfl rfl (by omega) (by omega)) ?_
                    refine WA.y (i := 8) (NoPanic.then (NoPanic.block (NoPanic.then (NoPanic.then (NoPanic.block (NoPanic.then (NoPanic.block (NoPanic.then (NoPanic.then (NoPanic.block (NoPanic.block (NoPanic.then (NoPanic.then (NoPanic.block (NoPanic.then (NoPanic.body)))))))))))))))) rfl (by kernel_rfl) (by kernel_rfl) (by kernel_rfl) rfl (Yd.fieldAddr (k := 0) (by kernel_rfl) rfl) ?_
                    refine WA.two (i := 4) (j := 9) (by kernel_rfl) ?_ ?_
                    · refine WO.h rfl Wt.none rfl (Hd.load1 (v := .string T5[j].name) (b := wb) (o := wf + (j : Int).toNat * 3 + 1) (cs := ws) (by kernel_rfl) rfl (Gr.get (by repeat (first | exact Gr.refl | exact Gr.left Gr.refl | exact Gr.left (Gr.left Gr.refl) | exact Gr.left (Gr.app Gr.refl) | exact Gr.left (Gr.left (Gr.left Gr.refl)) | exact Gr.nil | exact Gr.app (Gr.left Gr.refl) | refine Gr.cons ?_ | refine Gr.app ?_ | refine Gr.both ?_ ?_ | refine Gr.put (by repeat (first | exact List.mem_cons_self | apply List.mem_cons_of_mem | apply List.mem_append_right)) ?_)) hwm) (cell_at2 (L := T5) cellsH_len hws (by omega) (by omega)) ⟨_, rfl, ?_⟩)
                      refine WA.one (i := 9) (by kernel_rfl) ?_
                      refine WO.h rfl Wt.none rfl (Hd.load1 (v := .string S5[k].name) (b := ub) (o := uf + (k : Int).toNat * 2 + 0) (cs := us) (by kernel_rfl) rfl (Gr.get (by repeat (first | exact Gr.refl | exact Gr.left Gr.refl | exact Gr.left (Gr.left Gr.refl) | exact Gr.left (Gr.app Gr.refl) | exact Gr.left (Gr.left (Gr.left Gr.refl)) | exact Gr.nil | exact Gr.app (Gr.left Gr.refl) | refine Gr.cons ?_ | refine Gr.app ?_ | refine Gr.both ?_ ?_ | refine Gr.put (by repeat (first | exact List.mem_cons_self | apply List.mem_cons_of_mem | apply List.mem_append_right)) ?_)) hum) (cell_at2 (L := S5) cellsG_len hus (by omega) (by omega)) ⟨_, rfl, ?_⟩)
                      refine WA.y (i := 10) (NoPanic.then (NoPanic.block (NoPanic.then (NoPanic.then (NoPanic.block (NoPanic.then (NoPanic.block (NoPanic.then (NoPanic.then (NoPanic.block (NoPanic.block (NoPanic.then (NoPanic.then (NoPanic.block (NoPanic.then (NoPanic.body)))))))))))))))) rfl (by kernel_rfl) (by kernel_rfl) (by kernel_rfl) rfl (Yd.eqlS rfl rfl) ?_
                      refine WA.done (by kernel_rfl) ?_
                      refine DN.then_normal ?_
                      refine WC.ite rfl (fun h119 => ?_) (fun h119 => ?_)
                      · rw [if_pos h119] at hst
                        refine WC.region ?_
                        refine WL.y rfl (Yd.move rfl) ?_
                        refine WL.y rfl (Yd.move rfl) ?_
                        refine WL.y rfl (Yd.move rfl) ?_
                        refine WL.y rfl (Yd.indexAddr (e := 50) (s := 3) (by kernel_rfl) (by kernel_rfl) rfl rfl (by omega) (by omega)) ?_
                        refine WL.y rfl (Yd.fieldAddr (k := 2) (by kernel_rfl) rfl) ?_
                        refine WL.h rfl (Hd.load1 (v := .int .i64 T5[j].n) (b := wb) (o := wf + (j : Int).toNat * 3 + 2) (cs := ws) (by kernel_rfl) rfl (Gr.get (by repeat (first | exact Gr.refl | exact Gr.left Gr.refl | exact Gr.left (Gr.left Gr.refl) | exact Gr.left (Gr.app Gr.refl) | exact Gr.left (Gr.left (Gr.left Gr.refl)) | exact Gr.nil | exact Gr.app (Gr.left Gr.refl) | refine Gr.cons ?_ | refine Gr.app ?_ | refine Gr.both ?_ ?_ | refine Gr.put (by repeat (first | exact List.mem_cons_self | apply List.mem_cons_of_mem | apply List.mem_append_right)) ?_)) hwm) (cell_at2 (L := T5) cellsH_len hws (by omega) (by omega)) ⟨_, rfl, ?_⟩)
                        refine WL.y rfl (Yd.add rfl rfl (by omega) (by omega)) ?_
                        refine WL.y rfl (Yd.assign rfl) ?_
                        refine WL.nil ?_
                        refine DN.block_normal ?_
                        refine DN.then_normal ?_
                        refine WC.region ?_
                        refine WL.y rfl (Yd.move rfl) ?_
                        refine WL.y rfl (Yd.add rfl rfl (by omega) (by omega)) ?_
                        refine WL.y rfl (Yd.assign rfl) ?_
                        refine WL.nil ?_
                        exact DN.againS (⟨j + 1, z + T5[j].n⟩) (show (j + 1) ≤ T5.length ∧ (z + T5[j].n) = S5[k].free + goneOf K3 S5[k].name + sumN (T5.take (j + 1)) S5[k].name from ⟨by omega, by omega⟩) (show T5.length - (j + 1) < T5.length - j by omega) (Sx.put rfl (Sx.put rfl ((by repeat (first | exact Sx.refl | refine Sx.skip rfl ?_))))) (by repeat (first | exact Sp.here | exact Sp.sn | exact Sp.s0 | exact Fr.here | apply Sp.s2 | apply Sp.sx | apply Fr.fc | apply Fr.al | apply Fr.fa | apply Sp.sc | apply Sp.al | apply Sp.sa))
                      · rw [if_neg h119] at hst
                        refine WC.skip ?_
                        refine DN.block_normal ?_
                        refine DN.then_normal ?_
                        refine WC.region ?_
                        refine WL.y rfl (Yd.move rfl) ?_
                        refine WL.y rfl (Yd.add rfl rfl (by omega) (by omega)) ?_
                        refine WL.y rfl (Yd.assign rfl) ?_
                        refine WL.nil ?_
                        exact DN.againS (⟨j + 1, z⟩) (show (j + 1) ≤ T5.length ∧ z = S5[k].free + goneOf K3 S5[k].name + sumN (T5.take (j + 1)) S5[k].name from ⟨by omega, by omega⟩) (show T5.length - (j + 1) < T5.length - j by omega) (Sx.put rfl (Sx.put rfl ((by repeat (first | exact Sx.refl | refine Sx.skip rfl ?_))))) (by repeat (first | exact Sp.here | exact Sp.sn | exact Sp.s0 | exact Fr.here | apply Sp.s2 | apply Sp.sx | apply Fr.fc | apply Fr.al | apply Fr.fa | apply Sp.sc | apply Sp.al | apply Sp.sa))
                    · refine WO.h rfl Wt.none rfl (Hd.load1 (v := .string S5[k].name) (b := ub) (o := uf + (k : Int).toNat * 2 + 0) (cs := us) (by kernel_rfl) rfl (Gr.get (by repeat (first | exact Gr.refl | exact Gr.left Gr.refl | exact Gr.left (Gr.left Gr.refl) | exact Gr.left (Gr.app Gr.refl) | exact Gr.left (Gr.left (Gr.left Gr.refl)) | exact Gr.nil | exact Gr.app (Gr.left Gr.refl) | refine Gr.cons ?_ | refine Gr.app ?_ | refine Gr.both ?_ ?_ | refine Gr.put (by repeat (first | exact List.mem_cons_self | apply List.mem_cons_of_mem | apply List.mem_append_right)) ?_)) hum) (cell_at2 (L := S5) cellsG_len hus (by omega) (by omega)) ⟨_, rfl, ?_⟩)
                      refine WA.one (i := 4) (by kernel_rfl) ?_
                      refine WO.h rfl Wt.none rfl (Hd.load1 (v := .string T5[j].name) (b := wb) (o := wf + (j : Int).toNat * 3 + 1) (cs := ws) (by kernel_rfl) rfl (Gr.get (by repeat (first | exact Gr.refl | exact Gr.left Gr.refl | exact Gr.left (Gr.left Gr.refl) | exact Gr.left (Gr.app Gr.refl) | exact Gr.left (Gr.left (Gr.left Gr.refl)) | exact Gr.nil | exact Gr.app (Gr.left Gr.refl) | refine Gr.cons ?_ | refine Gr.app ?_ | refine Gr.both ?_ ?_ | refine Gr.put (by repeat (first | exact List.mem_cons_self | apply List.mem_cons_of_mem | apply List.mem_append_right)) ?_)) hwm) (cell_at2 (L := T5) cellsH_len hws (by omega) (by omega)) ⟨_, rfl, ?_⟩)
                      refine WA.y (i := 10) (NoPanic.then (NoPanic.block (NoPanic.then (NoPanic.then (NoPanic.block (NoPanic.then (NoPanic.block (NoPanic.then (NoPanic.then (NoPanic.block (NoPanic.block (NoPanic.then (NoPanic.then (NoPanic.block (NoPanic.then (NoPanic.body)))))))))))))))) rfl (by kernel_rfl) (by kernel_rfl) (by kernel_rfl) rfl (Yd.eqlS rfl rfl) ?_
                      refine WA.done (by kernel_rfl) ?_
                      refine DN.then_normal ?_
                      refine WC.ite rfl (fun h119 => ?_) (fun h119 => ?_)
                      · rw [if_pos h119] at hst
                        refine WC.region ?_
                        refine WL.y rfl (Yd.move rfl) ?_
                        refine WL.y rfl (Yd.move rfl) ?_
                        refine WL.y rfl (Yd.move rfl) ?_
                        refine WL.y rfl (Yd.indexAddr (e := 50) (s := 3) (by kernel_rfl) (by kernel_rfl) rfl rfl (by omega) (by omega)) ?_
                        refine WL.y rfl (Yd.fieldAddr (k := 2) (by kernel_rfl) rfl) ?_
                        refine WL.h rfl (Hd.load1 (v := .int .i64 T5[j].n) (b := wb) (o := wf + (j : Int).toNat * 3 + 2) (cs := ws) (by kernel_rfl) rfl (Gr.get (by repeat (first | exact Gr.refl | exact Gr.left Gr.refl | exact Gr.left (Gr.left Gr.refl) | exact Gr.left (Gr.app Gr.refl) | exact Gr.left (Gr.left (Gr.left Gr.refl)) | exact Gr.nil | exact Gr.app (Gr.left Gr.refl) | refine Gr.cons ?_ | refine Gr.app ?_ | refine Gr.both ?_ ?_ | refine Gr.put (by repeat (first | exact List.mem_cons_self | apply List.mem_cons_of_mem | apply List.mem_append_right)) ?_)) hwm) (cell_at2 (L := T5) cellsH_len hws (by omega) (by omega)) ⟨_, rfl, ?_⟩)
                        refine WL.y rfl (Yd.add rfl rfl (by omega) (by omega)) ?_
                        refine WL.y rfl (Yd.assign rfl) ?_
                        refine WL.nil ?_
                        refine DN.block_normal ?_
                        refine DN.then_normal ?_
                        refine WC.region ?_
                        refine WL.y rfl (Yd.move rfl) ?_
                        refine WL.y rfl (Yd.add rfl rfl (by omega) (by omega)) ?_
                        refine WL.y rfl (Yd.assign rfl) ?_
                        refine WL.nil ?_
                        exact DN.againS (⟨j + 1, z + T5[j].n⟩) (show (j + 1) ≤ T5.length ∧ (z + T5[j].n) = S5[k].free + goneOf K3 S5[k].name + sumN (T5.take (j + 1)) S5[k].name from ⟨by omega, by omega⟩) (show T5.length - (j + 1) < T5.length - j by omega) (Sx.put rfl (Sx.put rfl ((by repeat (first | exact Sx.refl | refine Sx.skip rfl ?_))))) (by repeat (first | exact Sp.here | exact Sp.sn | exact Sp.s0 | exact Fr.here | apply Sp.s2 | apply Sp.sx | apply Fr.fc | apply Fr.al | apply Fr.fa | apply Sp.sc | apply Sp.al | apply Sp.sa))
                      · rw [if_neg h119] at hst
                        refine WC.skip ?_
                        refine DN.block_normal ?_
                        refine DN.then_normal ?_
                        refine WC.region ?_
                        refine WL.y rfl (Yd.move rfl) ?_
                        refine WL.y rfl (Yd.add rfl rfl (by omega) (by omega)) ?_
                        refine WL.y rfl (Yd.assign rfl) ?_
                        refine WL.nil ?_
                        exact DN.againS (⟨j + 1, z⟩) (show (j + 1) ≤ T5.length ∧ z = S5[k].free + goneOf K3 S5[k].name + sumN (T5.take (j + 1)) S5[k].name from ⟨by omega, by omega⟩) (show T5.length - (j + 1) < T5.length - j by omega) (Sx.put rfl (Sx.put rfl ((by repeat (first | exact Sx.refl | refine Sx.skip rfl ?_))))) (by repeat (first | exact Sp.here | exact Sp.sn | exact Sp.s0 | exact Fr.here | apply Sp.s2 | apply Sp.sx | apply Fr.fc | apply Fr.al | apply Fr.fa | apply Sp.sc | apply Sp.al | apply Sp.sa))
                  · obtain rfl : j = T5.length := by omega
                    rw [List.take_length] at hz
                    refine WC.exit ?_
                    refine DN.then_exit ?_
                    refine DN.then_exit ?_
                    refine DN.block_exit ?_
                    refine DN.then_normal ?_
                    refine WC.seq ?_
                    refine WC.draw 28 (by kernel_rfl) rfl ?_
                    refine WA.y (i := 0) (NoPanic.then (NoPanic.block (NoPanic.then (NoPanic.then (NoPanic.block (NoPanic.block (NoPanic.then (NoPanic.then (NoPanic.block (NoPanic.then (NoPanic.body))))))))))) rfl (by kernel_rfl) (by kernel_rfl) (by kernel_rfl) rfl (Yd.move rfl) ?_
                    refine WA.y (i := 1) (NoPanic.then (NoPanic.block (NoPanic.then (NoPanic.then (NoPanic.block (NoPanic.block (NoPanic.then (NoPanic.then (NoPanic.block (NoPanic.then (NoPanic.body))))))))))) rfl (by kernel_rfl) (by kernel_rfl) (by kernel_rfl) rfl (Yd.move rfl) ?_
                    refine WA.y (i := 2) (NoPanic.then (NoPanic.block (NoPanic.then (NoPanic.then (NoPanic.block (NoPanic.block (NoPanic.then (NoPanic.then (NoPanic.block (NoPanic.then (NoPanic.body))))))))))) rfl (by kernel_rfl) (by kernel_rfl) (by kernel_rfl) rfl (Yd.indexAddr (e := 32) (s := 2) (by kernel_rfl) (by kernel_rfl) rfl rfl (by omega) (by omega)) ?_
                    refine WA.y (i := 3) (NoPanic.then (NoPanic.block (NoPanic.then (NoPanic.then (NoPanic.block (NoPanic.block (NoPanic.then (NoPanic.then (NoPanic.block (NoPanic.then (NoPanic.body))))))))))) rfl (by kernel_rfl) (by kernel_rfl) (by kernel_rfl) rfl (Yd.fieldAddr (k := 1) (by kernel_rfl) rfl) ?_
                    refine WA.one (i := 4) (by kernel_rfl) ?_
                    refine WO.h rfl Wt.none rfl (Hd.load1 (v := .int .i64 S5[k].free) (b := ub) (o := uf + (k : Int).toNat * 2 + 1) (cs := us) (by kernel_rfl) rfl (Gr.get (by repeat (first | exact Gr.refl | exact Gr.left Gr.refl | exact Gr.left (Gr.left Gr.refl) | exact Gr.left (Gr.app Gr.refl) | exact Gr.left (Gr.left (Gr.left Gr.refl)) | exact Gr.nil | exact Gr.app (Gr.left Gr.refl) | refine Gr.cons ?_ | refine Gr.app ?_ | refine Gr.both ?_ ?_ | refine Gr.put (by repeat (first | exact List.mem_cons_self | apply List.mem_cons_of_mem | apply List.mem_append_right)) ?_)) hum) (cell_at2 (L := S5) cellsG_len hus (by omega) (by omega)) ⟨_, rfl, ?_⟩)
                    refine WA.y (i := 5) (NoPanic.then (NoPanic.block (NoPanic.then (NoPanic.then (NoPanic.block (NoPanic.block (NoPanic.then (NoPanic.then (NoPanic.block (NoPanic.then (NoPanic.body))))))))))) rfl (by kernel_rfl) (by kernel_rfl) (by kernel_rfl) rfl (Yd.lss rfl rfl) ?_
                    refine WA.renamed (t := 132) (v := .bool false) rfl (congrArg Value.bool (decide_eq_false (by omega))) ?_
                    refine WA.y (i := 6) (NoPanic.then (NoPanic.block (NoPanic.then (NoPanic.then (NoPanic.block (NoPanic.block (NoPanic.then (NoPanic.then (NoPanic.block (NoPanic.then (NoPanic.body))))))))))) rfl (by kernel_rfl) (by kernel_rfl) (by kernel_rfl) rfl (Yd.move rfl) ?_
                    refine WA.gy (i := 7) (dj := 133) (NoPanic.then (NoPanic.block (NoPanic.then (NoPanic.then (NoPanic.block (NoPanic.block (NoPanic.then (NoPanic.then (NoPanic.block (NoPanic.then (NoPanic.body))))))))))) rfl (by kernel_rfl) (by kernel_rfl) (by kernel_rfl) rfl rfl rfl (Yd.move rfl) ?_
                    refine WA.gy (i := 8) (dj := 133) (NoPanic.then (NoPanic.block (NoPanic.then (NoPanic.then (NoPanic.block (NoPanic.block (NoPanic.then (NoPanic.then (NoPanic.block (NoPanic.then (NoPanic.body))))))))))) rfl (by kernel_rfl) (by kernel_rfl) (by kernel_rfl) rfl rfl rfl (Yd.move rfl) ?_
                    refine WA.gy (i := 9) (dj := 133) (NoPanic.then (NoPanic.block (NoPanic.then (NoPanic.then (NoPanic.block (NoPanic.block (NoPanic.then (NoPanic.then (NoPanic.block (NoPanic.then (NoPanic.body))))))))))) rfl (by kernel_rfl) (by kernel_rfl) (by kernel_rfl) rfl rfl rfl (Yd.move rfl) ?_
                    refine WA.gy (i := 10) (dj := 133) (NoPanic.then (NoPanic.block (NoPanic.then (NoPanic.then (NoPanic.block (NoPanic.block (NoPanic.then (NoPanic.then (NoPanic.block (NoPanic.then (NoPanic.body))))))))))) rfl (by kernel_rfl) (by kernel_rfl) (by kernel_rfl) rfl rfl rfl (Yd.indexAddr (e := 32) (s := 2) (by kernel_rfl) (by kernel_rfl) rfl rfl (by omega) (by omega)) ?_
                    refine WA.gy (i := 11) (dj := 133) (NoPanic.then (NoPanic.block (NoPanic.then (NoPanic.then (NoPanic.block (NoPanic.block (NoPanic.then (NoPanic.then (NoPanic.block (NoPanic.then (NoPanic.body))))))))))) rfl (by kernel_rfl) (by kernel_rfl) (by kernel_rfl) rfl rfl rfl (Yd.fieldAddr (k := 1) (by kernel_rfl) rfl) ?_
                    refine WA.one (i := 12) (by kernel_rfl) ?_
                    refine WO.h rfl (Wt.yes (dj := 133) rfl rfl) rfl (Hd.load1 (v := .int .i64 S1[k].free) (b := xb) (o := xf + (k : Int).toNat * 2 + 1) (cs := xs) (by kernel_rfl) rfl (Gr.get (by repeat (first | exact Gr.refl | exact Gr.left Gr.refl | exact Gr.left (Gr.left Gr.refl) | exact Gr.left (Gr.app Gr.refl) | exact Gr.left (Gr.left (Gr.left Gr.refl)) | exact Gr.nil | exact Gr.app (Gr.left Gr.refl) | refine Gr.cons ?_ | refine Gr.app ?_ | refine Gr.both ?_ ?_ | refine Gr.put (by repeat (first | exact List.mem_cons_self | apply List.mem_cons_of_mem | apply List.mem_append_right)) ?_)) hxm) (cell_at2 (L := S1) cellsG_len hxs (by omega) (by omega)) ⟨_, rfl, ?_⟩)
                    refine WA.gy (i := 13) (dj := 133) (NoPanic.then (NoPanic.block (NoPanic.then (NoPanic.then (NoPanic.block (NoPanic.block (NoPanic.then (NoPanic.then (NoPanic.block (NoPanic.then (NoPanic.body))))))))))) rfl (by kernel_rfl) (by kernel_rfl) (by kernel_rfl) rfl rfl rfl (Yd.neq rfl rfl) ?_
                    refine WA.renamed (t := 140) (v := .bool false) rfl (congrArg Value.bool (decide_eq_false (by omega))) ?_
                    refine WA.y (i := 14) (NoPanic.then (NoPanic.block (NoPanic.then (NoPanic.then (NoPanic.block (NoPanic.block (NoPanic.then (NoPanic.then (NoPanic.block (NoPanic.then (NoPanic.body))))))))))) rfl (by kernel_rfl) (by kernel_rfl) (by kernel_rfl) rfl (Yd.pickF rfl rfl) ?_
                    refine WA.y (i := 15) (NoPanic.then (NoPanic.block (NoPanic.then (NoPanic.then (NoPanic.block (NoPanic.block (NoPanic.then (NoPanic.then (NoPanic.block (NoPanic.then (NoPanic.body))))))))))) rfl (by kernel_rfl) (by kernel_rfl) (by kernel_rfl) rfl (Yd.move rfl) ?_
                    refine WA.gy (i := 16) (dj := 142) (NoPanic.then (NoPanic.block (NoPanic.then (NoPanic.then (NoPanic.block (NoPanic.block (NoPanic.then (NoPanic.then (NoPanic.block (NoPanic.then (NoPanic.body))))))))))) rfl (by kernel_rfl) (by kernel_rfl) (by kernel_rfl) rfl rfl rfl (Yd.move rfl) ?_
                    refine WA.gy (i := 17) (dj := 142) (NoPanic.then (NoPanic.block (NoPanic.then (NoPanic.then (NoPanic.block (NoPanic.block (NoPanic.then (NoPanic.then (NoPanic.block (NoPanic.then (NoPanic.body))))))))))) rfl (by kernel_rfl) (by kernel_rfl) (by kernel_rfl) rfl rfl rfl (Yd.move rfl) ?_
                    refine WA.gy (i := 18) (dj := 142) (NoPanic.then (NoPanic.block (NoPanic.then (NoPanic.then (NoPanic.block (NoPanic.block (NoPanic.then (NoPanic.then (NoPanic.block (NoPanic.then (NoPanic.body))))))))))) rfl (by kernel_rfl) (by kernel_rfl) (by kernel_rfl) rfl rfl rfl (Yd.indexAddr (e := 32) (s := 2) (by kernel_rfl) (by kernel_rfl) rfl rfl (by omega) (by omega)) ?_
                    refine WA.gy (i := 19) (dj := 142) (NoPanic.then (NoPanic.block (NoPanic.then (NoPanic.then (NoPanic.block (NoPanic.block (NoPanic.then (NoPanic.then (NoPanic.block (NoPanic.then (NoPanic.body))))))))))) rfl (by kernel_rfl) (by kernel_rfl) (by kernel_rfl) rfl rfl rfl (Yd.fieldAddr (k := 0) (by kernel_rfl) rfl) ?_
                    refine WA.gy (i := 21) (dj := 142) (NoPanic.then (NoPanic.block (NoPanic.then (NoPanic.then (NoPanic.block (NoPanic.block (NoPanic.then (NoPanic.then (NoPanic.block (NoPanic.then (NoPanic.body))))))))))) rfl (by kernel_rfl) (by kernel_rfl) (by kernel_rfl) rfl rfl rfl (Yd.move rfl) ?_
                    refine WA.gy (i := 22) (dj := 142) (NoPanic.then (NoPanic.block (NoPanic.then (NoPanic.then (NoPanic.block (NoPanic.block (NoPanic.then (NoPanic.then (NoPanic.block (NoPanic.then (NoPanic.body))))))))))) rfl (by kernel_rfl) (by kernel_rfl) (by kernel_rfl) rfl rfl rfl (Yd.move rfl) ?_
                    refine WA.gy (i := 23) (dj := 142) (NoPanic.then (NoPanic.block (NoPanic.then (NoPanic.then (NoPanic.block (NoPanic.block (NoPanic.then (NoPanic.then (NoPanic.block (NoPanic.then (NoPanic.body))))))))))) rfl (by kernel_rfl) (by kernel_rfl) (by kernel_rfl) rfl rfl rfl (Yd.indexAddr (e := 32) (s := 2) (by kernel_rfl) (by kernel_rfl) rfl rfl (by omega) (by omega)) ?_
                    refine WA.gy (i := 24) (dj := 142) (NoPanic.then (NoPanic.block (NoPanic.then (NoPanic.then (NoPanic.block (NoPanic.block (NoPanic.then (NoPanic.then (NoPanic.block (NoPanic.then (NoPanic.body))))))))))) rfl (by kernel_rfl) (by kernel_rfl) (by kernel_rfl) rfl rfl rfl (Yd.fieldAddr (k := 0) (by kernel_rfl) rfl) ?_
                    refine WA.two (i := 20) (j := 25) (by kernel_rfl) ?_ ?_
                    · refine WO.h rfl (Wt.yes (dj := 142) rfl rfl) rfl (Hd.load1 (v := .string S5[k].name) (b := ub) (o := uf + (k : Int).toNat * 2 + 0) (cs := us) (by kernel_rfl) rfl (Gr.get (by repeat (first | exact Gr.refl | exact Gr.left Gr.refl | exact Gr.left (Gr.left Gr.refl) | exact Gr.left (Gr.app Gr.refl) | exact Gr.left (Gr.left (Gr.left Gr.refl)) | exact Gr.nil | exact Gr.app (Gr.left Gr.refl) | refine Gr.cons ?_ | refine Gr.app ?_ | refine Gr.both ?_ ?_ | refine Gr.put (by repeat (first | exact List.mem_cons_self | apply List.mem_cons_of_mem | apply List.mem_append_right)) ?_)) hum) (cell_at2 (L := S5) cellsG_len hus (by omega) (by omega)) ⟨_, rfl, ?_⟩)
                      refine WA.one (i := 25) (by kernel_rfl) ?_
                      refine WO.h rfl (Wt.yes (dj := 142) rfl rfl) rfl (Hd.load1 (v := .string S1[k].name) (b := xb) (o := xf + (k : Int).toNat * 2 + 0) (cs := xs) (by kernel_rfl) rfl (Gr.get (by repeat (first | exact Gr.refl | exact Gr.left Gr.refl | exact Gr.left (Gr.left Gr.refl) | exact Gr.left (Gr.app Gr.refl) | exact Gr.left (Gr.left (Gr.left Gr.refl)) | exact Gr.nil | exact Gr.app (Gr.left Gr.refl) | refine Gr.cons ?_ | refine Gr.app ?_ | refine Gr.both ?_ ?_ | refine Gr.put (by repeat (first | exact List.mem_cons_self | apply List.mem_cons_of_mem | apply List.mem_append_right)) ?_)) hxm) (cell_at2 (L := S1) cellsG_len hxs (by omega) (by omega)) ⟨_, rfl, ?_⟩)
                      refine WA.gy (i := 26) (dj := 142) (NoPanic.then (NoPanic.block (NoPanic.then (NoPanic.then (NoPanic.block (NoPanic.block (NoPanic.then (NoPanic.then (NoPanic.block (NoPanic.then (NoPanic.body))))))))))) rfl (by kernel_rfl) (by kernel_rfl) (by kernel_rfl) rfl rfl rfl (Yd.neqS rfl rfl) ?_
                      refine WA.renamed (t := 153) (v := .bool false) rfl (congrArg Value.bool (decide_eq_false (fun h => h hn5))) ?_
                      refine WA.y (i := 27) (NoPanic.then (NoPanic.block (NoPanic.then (NoPanic.then (NoPanic.block (NoPanic.block (NoPanic.then (NoPanic.then (NoPanic.block (NoPanic.then (NoPanic.body))))))))))) rfl (by kernel_rfl) (by kernel_rfl) (by kernel_rfl) rfl (Yd.pickF rfl rfl) ?_
                      refine WA.done (by kernel_rfl) ?_
                      refine DN.then_normal ?_
                      refine WC.no rfl ?_
                      refine WC.skip ?_
                      refine DN.block_normal ?_
                      refine DN.then_normal ?_
                      refine WC.region ?_
                      refine WL.y rfl (Yd.move rfl) ?_
                      refine WL.y rfl (Yd.add rfl rfl (by omega) (by omega)) ?_
                      refine WL.y rfl (Yd.assign rfl) ?_
                      refine WL.nil ?_
                      exact DN.againS (k + 1) (show (k + 1) ≤ S5.length from (by omega)) (show S5.length - (k + 1) < S5.length - k by omega) (Sx.put rfl ((by repeat (first | exact Sx.refl | refine Sx.skip rfl ?_)))) (by repeat (first | exact Sp.here | exact Sp.sn | exact Sp.s0 | exact Fr.here | apply Sp.s2 | apply Sp.sx | apply Fr.fc | apply Fr.al | apply Fr.fa | apply Sp.sc | apply Sp.al | apply Sp.sa))
                    · refine WO.h rfl (Wt.yes (dj := 142) rfl rfl) rfl (Hd.load1 (v := .string S1[k].name) (b := xb) (o := xf + (k : Int).toNat * 2 + 0) (cs := xs) (by kernel_rfl) rfl (Gr.get (by repeat (first | exact Gr.refl | exact Gr.left Gr.refl | exact Gr.left (Gr.left Gr.refl) | exact Gr.left (Gr.app Gr.refl) | exact Gr.left (Gr.left (Gr.left Gr.refl)) | exact Gr.nil | exact Gr.app (Gr.left Gr.refl) | refine Gr.cons ?_ | refine Gr.app ?_ | refine Gr.both ?_ ?_ | refine Gr.put (by repeat (first | exact List.mem_cons_self | apply List.mem_cons_of_mem | apply List.mem_append_right)) ?_)) hxm) (cell_at2 (L := S1) cellsG_len hxs (by omega) (by omega)) ⟨_, rfl, ?_⟩)
                      refine WA.one (i := 20) (by kernel_rfl) ?_
                      refine WO.h rfl (Wt.yes (dj := 142) rfl rfl) rfl (Hd.load1 (v := .string S5[k].name) (b := ub) (o := uf + (k : Int).toNat * 2 + 0) (cs := us) (by kernel_rfl) rfl (Gr.get (by repeat (first | exact Gr.refl | exact Gr.left Gr.refl | exact Gr.left (Gr.left Gr.refl) | exact Gr.left (Gr.app Gr.refl) | exact Gr.left (Gr.left (Gr.left Gr.refl)) | exact Gr.nil | exact Gr.app (Gr.left Gr.refl) | refine Gr.cons ?_ | refine Gr.app ?_ | refine Gr.both ?_ ?_ | refine Gr.put (by repeat (first | exact List.mem_cons_self | apply List.mem_cons_of_mem | apply List.mem_append_right)) ?_)) hum) (cell_at2 (L := S5) cellsG_len hus (by omega) (by omega)) ⟨_, rfl, ?_⟩)
                      refine WA.gy (i := 26) (dj := 142) (NoPanic.then (NoPanic.block (NoPanic.then (NoPanic.then (NoPanic.block (NoPanic.block (NoPanic.then (NoPanic.then (NoPanic.block (NoPanic.then (NoPanic.body))))))))))) rfl (by kernel_rfl) (by kernel_rfl) (by kernel_rfl) rfl rfl rfl (Yd.neqS rfl rfl) ?_
                      refine WA.renamed (t := 153) (v := .bool false) rfl (congrArg Value.bool (decide_eq_false (fun h => h hn5))) ?_
                      refine WA.y (i := 27) (NoPanic.then (NoPanic.block (NoPanic.then (NoPanic.then (NoPanic.block (NoPanic.block (NoPanic.then (NoPanic.then (NoPanic.block (NoPanic.then (NoPanic.body))))))))))) rfl (by kernel_rfl) (by kernel_rfl) (by kernel_rfl) rfl (Yd.pickF rfl rfl) ?_
                      refine WA.done (by kernel_rfl) ?_
                      refine DN.then_normal ?_
                      refine WC.no rfl ?_
                      refine WC.skip ?_
                      refine DN.block_normal ?_
                      refine DN.then_normal ?_
                      refine WC.region ?_
                      refine WL.y rfl (Yd.move rfl) ?_
                      refine WL.y rfl (Yd.add rfl rfl (by omega) (by omega)) ?_
                      refine WL.y rfl (Yd.assign rfl) ?_
                      refine WL.nil ?_
                      exact DN.againS (k + 1) (show (k + 1) ≤ S5.length from (by omega)) (show S5.length - (k + 1) < S5.length - k by omega) (Sx.put rfl ((by repeat (first | exact Sx.refl | refine Sx.skip rfl ?_)))) (by repeat (first | exact Sp.here | exact Sp.sn | exact Sp.s0 | exact Fr.here | apply Sp.s2 | apply Sp.sx | apply Fr.fc | apply Fr.al | apply Fr.fa | apply Sp.sc | apply Sp.al | apply Sp.sa))
            · refine WC.exit ?_
              refine DN.then_exit ?_
              refine DN.then_exit ?_
              refine DN.block_exit ?_
              refine DN.block_normal ?_
              refine DN.then_normal ?_
              refine WC.region ?_
              refine WL.y rfl (Yd.move rfl) ?_
              refine WL.y rfl (Yd.add rfl rfl (by omega) (by omega)) ?_
              refine WL.y rfl (Yd.assign rfl) ?_
              refine WL.nil ?_
              exact DN.againS (⟨i + 1, K3, L3, C3⟩) (show (i + 1) ≤ acts.length ∧ StAt 57 p K3 L3 C3 ∧ SInv gs K3 L3 from ⟨by omega, h3, inv3⟩) (show acts.length - (i + 1) < acts.length - i by omega) (Sx.put rfl ((by repeat (first | exact Sx.refl | refine Sx.skip rfl ?_)))) (by repeat (first | exact Sp.here | exact Sp.sn | exact Sp.s0 | exact Fr.here | apply Sp.s2 | apply Sp.sx | apply Fr.fc | apply Fr.al | apply Fr.fa | apply Sp.sc | apply Sp.al | apply Sp.sa))
        · refine WC.exit ?_
          refine DN.then_exit ?_
          refine DN.then_exit ?_
          refine DN.block_exit ?_
          refine DN.then_normal ?_
          refine WC.seq ?_
          refine WC.region ?_
          refine WL.r rfl (Ent.func Try.call10 rfl) (known09 _) ?_
          refine WL.y rfl (Yd.assign rfl) ?_
          refine WL.nil ?_
          refine DN.then_normal ?_
          refine WC.ret ?_
          refine DN.fit (C := H) (by repeat (first | exact Sp.here | exact Sp.sn | exact Sp.s0 | exact Fr.here | apply Sp.s2 | apply Sp.sx | apply Fr.fc | apply Fr.al | apply Fr.fa | apply Sp.sc | apply Sp.al | apply Sp.sa)) ?_
          refine DN.ret1 Try.results5 rfl ?_
          exact ⟨rfl, rfl⟩
      · refine WL.gn (dj := 39) rfl rfl rfl rfl ?_
        refine WL.gn (dj := 39) rfl rfl rfl rfl ?_
        refine WL.y rfl (Yd.pickF rfl rfl) ?_
        refine WL.nil ?_
        refine DN.then_normal ?_
        refine WC.no rfl ?_
        refine WC.exit ?_
        refine DN.then_exit ?_
        refine DN.then_exit ?_
        refine DN.block_exit ?_
        refine DN.then_normal ?_
        refine WC.seq ?_
        refine WC.region ?_
        refine WL.r rfl (Ent.func Try.call10 rfl) (known09 _) ?_
        refine WL.y rfl (Yd.assign rfl) ?_
        refine WL.nil ?_
        refine DN.then_normal ?_
        refine WC.ret ?_
        refine DN.fit (C := H) (by repeat (first | exact Sp.here | exact Sp.sn | exact Sp.s0 | exact Fr.here | apply Sp.s2 | apply Sp.sx | apply Fr.fc | apply Fr.al | apply Fr.fa | apply Sp.sc | apply Sp.al | apply Sp.sa)) ?_
        refine DN.ret1 Try.results5 rfl ?_
        exact ⟨rfl, rfl⟩
    · refine WC.region ?_
      refine WL.y rfl (Yd.move rfl) ?_
      refine WL.ca rfl (Ent.func Try.call11 rfl) (new_tells _ gs hg H hv hl) ?_
      rintro q H1 hq
      first | (obtain ⟨p, C1, rfl, h1, rfl⟩ := new_in hq hA; have inv1 := hA.inv hg) | (obtain ⟨rfl, hHq⟩ := new_out hq hA; rw [hHq])
      refine WL.y rfl (Yd.move rfl) ?_
      refine WL.y rfl (Yd.extract rfl rfl) ?_
      refine WL.y rfl (Yd.extract rfl rfl) ?_
      refine WL.y rfl (Yd.assign rfl) ?_
      refine WL.y rfl (Yd.assign rfl) ?_
      refine WL.nil ?_
      refine DN.then_normal ?_
      refine WC.seq ?_
      refine WC.seq ?_
      refine WC.region ?_
      refine WL.y rfl (Yd.move rfl) ?_
      refine WL.y rfl (Yd.neq rfl rfl) ?_
      refine WL.renamed (t := 27) (v := .bool true) rfl (congrArg Value.bool (by decide)) ?_
      refine WL.nil ?_
      refine DN.then_normal ?_
      refine WC.yes rfl ?_
      refine WC.seq ?_
      refine WC.region ?_
      refine WL.y rfl (Yd.move rfl) ?_
      refine WL.y rfl (Yd.eqlNil Try.underlying26 rfl rfl) ?_
      refine WL.renamed (t := 29) (v := .bool true) rfl (congrArg Value.bool (rfl)) ?_
      refine WL.y rfl (Yd.move rfl) ?_
      refine WL.gr (dj := 30) rfl rfl rfl (Ent.func Try.call10 rfl) (known09 _) ?_
      refine WL.y rfl (Yd.pickT rfl rfl) ?_
      refine WL.y rfl (Yd.assign rfl) ?_
      refine WL.nil ?_
      refine DN.then_normal ?_
      refine WC.ret ?_
      refine DN.then_ret ?_
      refine DN.fit (C := H) (by repeat (first | exact Sp.here | exact Sp.sn | exact Sp.s0 | exact Fr.here | apply Sp.s2 | apply Sp.sx | apply Fr.fc | apply Fr.al | apply Fr.fa | apply Sp.sc | apply Sp.al | apply Sp.sa)) ?_
      refine DN.ret1 Try.results5 rfl ?_
      exact ⟨rfl, rfl⟩

end Go.Proofs.Ytdbbkodjhmfjfaa
