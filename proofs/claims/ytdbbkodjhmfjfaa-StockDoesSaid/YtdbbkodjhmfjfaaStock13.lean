/-
  The walk of StockDoes.
-/
import Derived.Test.YtdbbkodjhmfjfaaStock12
set_option linter.unusedVariables false
set_option linter.unusedSimpArgs false
set_option maxHeartbeats 4000000
namespace Go.Proofs.Ytdbbkodjhmfjfaa
open Go.SL


/-- drayage/drayagelaw09.StockDoes -/
theorem law_StockDoes (H : List Ck) (v : Value) (gs : List Gd) (hg : ∀ g ∈ gs, g.gone = 0) (hv : Rs v gs.length (gs.flatMap cellsG) H) (hl : gs.length ≤ 9223372036854775807) (va : Value) (acts : List Ac9) (hva : Rs va acts.length (acts.flatMap cellsA) H) (hla : acts.length ≤ 9223372036854775807) (nm : ByteArray) : Reads Try.prog 4 [v, va, .string nm] H (.bool true) := by
  refine Tells.enter Try.func4 rfl Try.ntmps4 rfl ?_
  intro w0 R
  obtain ⟨vo, vc, rfl, hvc⟩ := hv.form
  obtain ⟨ao, ac, rfl, hac⟩ := hva.form
  refine WC.seq ?_
  refine WC.region ?_
  refine WL.y rfl (Yd.assign rfl) ?_
  refine WL.nil ?_
  refine DN.then_normal ?_
  refine WC.seq ?_
  refine WC.seq ?_
  refine WC.region ?_
  refine WL.y rfl (Yd.move rfl) ?_
  refine WL.y rfl (Yd.move rfl) ?_
  refine WL.rf rfl (Ent.func Try.call9 rfl) (long_reads _ _ gs acts H hv hva hl hla) (by repeat (first | exact Sp.here | exact Sp.sn | exact Sp.s0 | exact Fr.here | apply Sp.s2 | apply Sp.sx | apply Fr.fc | apply Fr.al | apply Fr.fa | apply Sp.sc | apply Sp.al | apply Sp.sa)) ?_
  refine WL.nil ?_
  refine DN.then_normal ?_
  refine WC.cond rfl (fun h21 => ?_) (fun h21 => ?_)
  · refine WC.seq ?_
    refine WC.region ?_
    refine WL.r rfl (Ent.func Try.call10 rfl) (known09 _) ?_
    refine WL.y rfl (Yd.assign rfl) ?_
    refine WL.nil ?_
    refine DN.then_normal ?_
    refine WC.ret ?_
    refine DN.then_ret ?_
    refine DN.fit (C := H) (by repeat (first | exact Sp.here | exact Sp.sn | exact Sp.s0 | exact Fr.here | apply Sp.s2 | apply Sp.sx | apply Fr.fc | apply Fr.al | apply Fr.fa | apply Sp.sc | apply Sp.al | apply Sp.sa)) ?_
    refine DN.ret1 Try.results4 rfl ?_
    exact ⟨rfl, rfl⟩
  · refine WC.skip ?_
    refine DN.then_normal ?_
    refine WC.seq ?_
    rcases Classical.em (GoodL gs) with hA | hA
    · refine WC.region ?_
      refine WL.y rfl (Yd.move rfl) ?_
      refine WL.ca rfl (Ent.func Try.call11 rfl) (new_tells _ gs hg H hv hl) ?_
      rintro q H1 hq
      first | (obtain ⟨p, C1, rfl, h1, rfl⟩ := new_in hq hA; have inv1 := hA.inv hg) | (obtain ⟨rfl, hHq⟩ := new_out hq hA; rw [hHq])
      refine WL.y rfl (Yd.move rfl) ?_
      refine WL.y rfl (Yd.extract rfl rfl) ?_
      refine WL.y rfl (Yd.extract rfl rfl) ?_
      refine WL.y rfl (Yd.assign rfl) ?_
      refine WL.y rfl (Yd.assign rfl) ?_
      refine WL.nil ?_
      refine DN.then_normal ?_
      refine WC.seq ?_
      refine WC.region ?_
      refine WL.y rfl (Yd.move rfl) ?_
      refine WL.ca rfl (Ent.func Try.call14 rfl) (rnew_tells _ gs _ (hv.mono (by repeat (first | exact Gr.refl | exact Gr.left Gr.refl | exact Gr.left (Gr.left Gr.refl) | exact Gr.left (Gr.app Gr.refl) | exact Gr.left (Gr.left (Gr.left Gr.refl)) | exact Gr.nil | exact Gr.app (Gr.left Gr.refl) | refine Gr.cons ?_ | refine Gr.app ?_ | refine Gr.both ?_ ?_ | refine Gr.put (by repeat (first | exact List.mem_cons_self | apply List.mem_cons_of_mem | apply List.mem_append_right)) ?_))) hl) ?_
      rintro qq H2 hq2
      first | (have inv7 := hA.inv hg; obtain ⟨q, C2, F, rfl, h2, hT2, rfl⟩ := new_in hq2 hA) | (obtain ⟨rfl, hHq2⟩ := new_out hq2 hA; rw [hHq2])
      refine WL.y rfl (Yd.move rfl) ?_
      refine WL.y rfl (Yd.extract rfl rfl) ?_
      refine WL.y rfl (Yd.extract rfl rfl) ?_
      refine WL.y rfl (Yd.assign rfl) ?_
      refine WL.y rfl (Yd.assign rfl) ?_
      refine WL.nil ?_
      refine DN.then_normal ?_
      refine WC.seq ?_
      refine WC.seq ?_
      refine WC.region ?_
      refine WL.y rfl (Yd.move rfl) ?_
      refine WL.y rfl (Yd.neq rfl rfl) ?_
      refine WL.renamed (t := 34) (v := .bool false) rfl (congrArg Value.bool (by decide)) ?_
      refine WL.nil ?_
      refine DN.then_normal ?_
      refine WC.no rfl ?_
      refine WC.skip ?_
      refine DN.then_normal ?_
      refine WC.seq ?_
      refine WC.seq ?_
      refine WC.region ?_
      refine WL.y rfl (Yd.move rfl) ?_
      refine WL.y rfl (Yd.eqlNil Try.underlying26 rfl rfl) ?_
      refine WL.renamed (t := 46) (v := .bool false) rfl (congrArg Value.bool (rfl)) ?_
      refine WL.y rfl (Yd.move rfl) ?_
      refine WL.gy (dj := 47) rfl rfl rfl (Yd.move rfl) ?_
      refine WL.gy (dj := 47) rfl rfl rfl (Yd.neq rfl rfl) ?_
      refine WL.renamed (t := 49) (v := .bool false) rfl (congrArg Value.bool (by decide)) ?_
      refine WL.y rfl (Yd.pickF rfl rfl) ?_
      refine WL.nil ?_
      refine DN.then_normal ?_
      refine WC.no rfl ?_
      refine WC.skip ?_
      refine DN.then_normal ?_
      refine WC.seq ?_
      refine WC.seq ?_
      refine WC.region ?_
      refine WL.y rfl (Yd.assign rfl) ?_
      refine WL.nil ?_
      refine DN.then_normal ?_
      refine WC.block ?_
      refine WC.loopS (fun z : Nat × List Gd × List Ho × List Ho × List Ck × List Ck => z.1 ≤ acts.length ∧ StAt 57 p z.2.1 z.2.2.1 z.2.2.2.2.1 ∧ RsAt 66 32 50 q F z.2.2.1 z.2.2.2.1 z.2.2.2.2.2 ∧ SInv gs z.2.1 z.2.2.1 ∧ RInv gs z.2.1 z.2.2.1 F z.2.2.2.1) (fun z : Nat × List Gd × List Ho × List Ho × List Ck × List Ck => [(11, .int .i64 (z.1 : Int))]) (fun z : Nat × List Gd × List Ho × List Ho × List Ck × List Ck => z.2.2.2.2.1 ++ (z.2.2.2.2.2 ++ H)) (fun z : Nat × List Gd × List Ho × List Ho × List Ck × List Ck => acts.length - z.1) (⟨0, gs, [], [], C1, C2⟩) (show 0 ≤ acts.length ∧ StAt 57 p gs [] C1 ∧ RsAt 66 32 50 q F [] [] C2 ∧ SInv gs gs [] ∧ RInv gs gs [] F [] from ⟨Nat.zero_le _, h1, h2, inv1, RInv.start hg hA.2.1 hT2⟩) (Sx.put rfl ((by repeat (first | exact Sx.refl | refine Sx.skip rfl ?_)))) (by repeat (first | exact Sp.here | exact Sp.sn | exact Sp.s0 | exact Fr.here | apply Sp.s2 | apply Sp.sx | apply Fr.fc | apply Fr.al | apply Fr.fa | apply Sp.sc | apply Sp.al | apply Sp.sa)) ?_
      rintro ⟨i, K1, L1, A1, C3, C4⟩ hI
      replace hI : i ≤ acts.length ∧ StAt 57 p K1 L1 C3 ∧ RsAt 66 32 50 q F L1 A1 C4 ∧ SInv gs K1 L1 ∧ RInv gs K1 L1 F A1 := hI
      obtain ⟨hi, h3, h4, inv, hR⟩ := hI
      change WC _ _ _ _ _ _ ([(11, .int .i64 (i : Int))] ++ _) (C3 ++ (C4 ++ H))
      refine WC.seq ?_
      refine WC.seq ?_
      refine WC.region ?_
      refine WL.y rfl (Yd.move rfl) ?_
      refine WL.y rfl (Yd.move rfl) ?_
      refine WL.y rfl (Yd.len (e := 41) (by kernel_rfl) rfl) ?_
      refine WL.y rfl (Yd.lss rfl rfl) ?_
      refine WL.y rfl (Yd.move rfl) ?_
      refine WL.partP (t := 55) rfl (fun hg55 => ?_) (fun hg55 => ?_)
      · refine WL.gy (dj := 55) rfl rfl rfl (Yd.move rfl) ?_
        refine WL.gy (dj := 55) rfl rfl rfl (Yd.lss rfl rfl) ?_
        refine WL.y rfl (Yd.pickT rfl rfl) ?_
        refine WL.nil ?_
        refine DN.then_normal ?_
        refine WC.ite rfl (fun h58 => ?_) (fun h58 => ?_)
        · have hlt : i < acts.length := by omega
          have hmany := inv.many
          refine WC.skip ?_
          refine DN.then_normal ?_
          refine WC.seq ?_
          refine WC.block ?_
          refine WC.seq ?_
          refine WC.region ?_
          refine WL.y rfl (Yd.move rfl) ?_
          refine WL.y rfl (Yd.move rfl) ?_
          refine WL.elemA (e := 41) (s := 4) (by kernel_rfl) (by kernel_rfl) (by kernel_rfl) rfl rfl (rfl) (hva.mono (by repeat (first | exact Gr.refl | exact Gr.left Gr.refl | exact Gr.left (Gr.left Gr.refl) | exact Gr.left (Gr.app Gr.refl) | exact Gr.left (Gr.left (Gr.left Gr.refl)) | exact Gr.nil | exact Gr.app (Gr.left Gr.refl) | refine Gr.cons ?_ | refine Gr.app ?_ | refine Gr.both ?_ ?_ | refine Gr.put (by repeat (first | exact List.mem_cons_self | apply List.mem_cons_of_mem | apply List.mem_append_right)) ?_))) (flat_row cellsA 4 cellsA_len acts i hlt) (by rfl) (by omega) (hlt) rfl rfl ?_
          intro p63
          refine WL.h rfl (Hd.alloc (zs := [.int .i64 0, .int .u32 0, .string ⟨#[]⟩, .int .i64 0]) (by kernel_rfl) fun b12 => ⟨_, rfl, ?_⟩)
          refine WL.s (Hd.storeAll (n := 4) (by kernel_rfl) rfl rfl (by rfl) (by repeat (first | exact fun _ h => absurd h List.not_mem_nil | refine List.forall_mem_cons.2 ⟨by first | rfl | assumption, ?_⟩)) (by repeat (first | exact Fr.here | apply Fr.fc | apply Fr.al | apply Fr.fa)) (by rfl) ⟨rfl, ?_⟩)
          refine WL.nil ?_
          refine DN.then_normal ?_
          refine WC.seq ?_
          refine WC.region ?_
          refine WL.y rfl (Yd.move rfl) ?_
          refine WL.h rfl (Hd.loadAll (n := 4) (by kernel_rfl) rfl (by repeat (first | exact List.mem_cons_self | apply List.mem_cons_of_mem | apply List.mem_append_right)) (by rfl) ⟨_, rfl, ?_⟩)
          refine WL.c rfl (Ent.func Try.call15 rfl) (act_tells p gs K1 L1 C3 h3 inv acts[i]) (Sp.p (by repeat (first | exact Sp.here | exact Sp.sn | exact Sp.s0 | exact Fr.here | apply Sp.s2 | apply Sp.sx | apply Fr.fc | apply Fr.al | apply Fr.fa | apply Sp.sc | apply Sp.al | apply Sp.sa))) ?_
          rintro qq C6 ⟨rfl, h6⟩
          have inv3 := inv.act acts[i]
          have hR3 := hR.act inv acts[i]
          have hyes : isHold acts[i] = true → actV K1 L1 acts[i] = vd (holdB K1 L1 acts[i].o acts[i].name acts[i].n) ∧ actLs K1 L1 acts[i] = holdLs K1 L1 acts[i].o acts[i].name acts[i].n ∧ actAs L1 A1 acts[i] = A1 := fun e => by simp only [actV, actLs, actAs, e, if_true]; exact ⟨trivial, trivial, trivial⟩
          have hnot2 : isHold acts[i] = false → acts[i].k = 2 → actV K1 L1 acts[i] = vd (findK Ho.o L1 acts[i].o).isSome ∧ actLs K1 L1 acts[i] = delK Ho.o L1 acts[i].o ∧ actAs L1 A1 acts[i] = awayL L1 A1 acts[i].o false := fun e e2 => by simp only [actV, actLs, actAs, e, e2, Bool.false_eq_true, if_false, if_true]; exact ⟨trivial, trivial, trivial⟩
          have hnot : isHold acts[i] = false → ¬ acts[i].k = 2 → actV K1 L1 acts[i] = vd (findK Ho.o L1 acts[i].o).isSome ∧ actLs K1 L1 acts[i] = delK Ho.o L1 acts[i].o ∧ actAs L1 A1 acts[i] = awayL L1 A1 acts[i].o true := fun e e2 => by simp only [actV, actLs, actAs, e, e2, Bool.false_eq_true, if_false]; exact ⟨trivial, trivial, trivial⟩
          generalize actV K1 L1 acts[i] = v3 at *
          generalize actKs K1 L1 acts[i] = K3 at *
          generalize actLs K1 L1 acts[i] = L3 at *
          generalize actAs L1 A1 acts[i] = A3 at *
          refine WL.y rfl (Yd.assign rfl) ?_
          refine WL.nil ?_
          refine DN.then_normal ?_
          refine WC.seq ?_
          refine WC.region ?_
          refine WL.y rfl (Yd.assign rfl) ?_
          refine WL.nil ?_
          refine DN.then_normal ?_
          refine WC.cutK (fun z : List Ck => RsAt 66 32 50 q F L3 A3 z) (fun z : List Ck => [(14, .int .i64 v3)]) (fun z : List Ck => row b12 (cellsA acts[i]) 41 :: (C6 ++ (z ++ H))) ?_ ?_
          · refine WC.seq ?_
            refine WC.region ?_
            refine WL.y rfl (Yd.fieldAddr (k := 0) (by kernel_rfl) rfl) ?_
            refine WL.h rfl (Hd.load1 (by kernel_rfl) rfl (by repeat (first | exact List.mem_cons_self | apply List.mem_cons_of_mem | apply List.mem_append_right)) (by rfl) ⟨_, rfl, ?_⟩)
            refine WL.nil ?_
            refine DN.then_normal ?_
            refine WC.block ?_
            refine WC.cutK (fun z74 : Bool => z74 = isHold acts[i]) (fun z74 : Bool => [(74, .bool z74)]) (fun z74 : Bool => row b12 (cellsA acts[i]) 41 :: (C6 ++ (C4 ++ H))) ?_ ?_
            · refine WC.seq ?_
              refine WC.region ?_
              refine WL.y rfl (Yd.eql rfl rfl) ?_
              refine WL.y rfl (Yd.assign rfl) ?_
              refine WL.nil ?_
              refine DN.then_normal ?_
              refine WC.cond rfl (fun h74 => ?_) (fun h74 => ?_)
              · refine WC.skip ?_
                exact DN.reachK (_) (by unfold isHold; rw [h74]; rfl) (Sx.put rfl ((by repeat (first | exact Sx.refl | refine Sx.skip rfl ?_)))) (Sp.all (by repeat (first | exact Sp.here | exact Sp.sn | exact Sp.s0 | exact Fr.here | apply Sp.s2 | apply Sp.sx | apply Fr.fc | apply Fr.al | apply Fr.fa | apply Sp.sc | apply Sp.al | apply Sp.sa)))
              · refine WC.region ?_
                refine WL.y rfl (Yd.eql rfl rfl) ?_
                refine WL.y rfl (Yd.assign rfl) ?_
                refine WL.nil ?_
                exact DN.reachK (_) (by unfold isHold; rw [h74]; rfl) (Sx.put rfl ((by repeat (first | exact Sx.refl | refine Sx.skip rfl ?_)))) (Sp.all (by repeat (first | exact Sp.here | exact Sp.sn | exact Sp.s0 | exact Fr.here | apply Sp.s2 | apply Sp.sx | apply Fr.fc | apply Fr.al | apply Fr.fa | apply Sp.sc | apply Sp.al | apply Sp.sa)))
            · intro z74 hz74
              refine WC.cond rfl (fun h74 => ?_) (fun h74 => ?_)
              · obtain ⟨rfl, rfl, rfl⟩ := hyes (by rw [← hz74]; exact h74)
                refine WC.region ?_
                refine WL.y rfl (Yd.move rfl) ?_
                refine WL.y rfl (Yd.fieldAddr (k := 1) (by kernel_rfl) rfl) ?_
                refine WL.h rfl (Hd.load1 (by kernel_rfl) rfl (by repeat (first | exact List.mem_cons_self | apply List.mem_cons_of_mem | apply List.mem_append_right)) (by rfl) ⟨_, rfl, ?_⟩)
                refine WL.y rfl (Yd.fieldAddr (k := 2) (by kernel_rfl) rfl) ?_
                refine WL.h rfl (Hd.load1 (by kernel_rfl) rfl (by repeat (first | exact List.mem_cons_self | apply List.mem_cons_of_mem | apply List.mem_append_right)) (by rfl) ⟨_, rfl, ?_⟩)
                refine WL.y rfl (Yd.fieldAddr (k := 3) (by kernel_rfl) rfl) ?_
                refine WL.h rfl (Hd.load1 (by kernel_rfl) rfl (by repeat (first | exact List.mem_cons_self | apply List.mem_cons_of_mem | apply List.mem_append_right)) (by rfl) ⟨_, rfl, ?_⟩)
                refine WL.c rfl (Ent.func Try.call16 rfl) (rhold_tells q gs K1 F L1 _ C4 h4 inv hR acts[i].o acts[i].name acts[i].n) (Sp.p (by repeat (first | exact Sp.here | exact Sp.sn | exact Sp.s0 | exact Fr.here | apply Sp.s2 | apply Sp.sx | apply Fr.fc | apply Fr.al | apply Fr.fa | apply Sp.sc | apply Sp.al | apply Sp.sa))) ?_
                rintro qq C7 ⟨rfl, h7⟩
                refine WL.y rfl (Yd.assign rfl) ?_
                refine WL.nil ?_
                refine DN.block_normal ?_
                exact DN.reachK (C7) (h7) (Sx.put rfl ((by repeat (first | exact Sx.refl | refine Sx.skip rfl ?_)))) (Sp.all (by repeat (first | exact Sp.here | exact Sp.sn | exact Sp.s0 | exact Fr.here | apply Sp.s2 | apply Sp.sx | apply Fr.fc | apply Fr.al | apply Fr.fa | apply Sp.sc | apply Sp.al | apply Sp.sa)))
              · refine WC.seq ?_
                refine WC.region ?_
                refine WL.y rfl (Yd.eql rfl rfl) ?_
                refine WL.y rfl (Yd.assign rfl) ?_
                refine WL.nil ?_
                refine DN.then_normal ?_
                refine WC.ite rfl (fun h85 => ?_) (fun h85 => ?_)
                · obtain ⟨rfl, rfl, rfl⟩ := hnot2 (by rw [← hz74]; exact h74) h85
                  refine WC.region ?_
                  refine WL.y rfl (Yd.move rfl) ?_
                  refine WL.y rfl (Yd.fieldAddr (k := 1) (by kernel_rfl) rfl) ?_
                  refine WL.h rfl (Hd.load1 (by kernel_rfl) rfl (by repeat (first | exact List.mem_cons_self | apply List.mem_cons_of_mem | apply List.mem_append_right)) (by rfl) ⟨_, rfl, ?_⟩)
                  refine WL.c rfl (Ent.func Try.call17 rfl) (rleave_tells q gs K1 F L1 A1 C4 h4 inv hR acts[i].o false) (Sp.p (by repeat (first | exact Sp.here | exact Sp.sn | exact Sp.s0 | exact Fr.here | apply Sp.s2 | apply Sp.sx | apply Fr.fc | apply Fr.al | apply Fr.fa | apply Sp.sc | apply Sp.al | apply Sp.sa))) ?_
                  rintro qq C7 ⟨rfl, h7⟩
                  refine WL.y rfl (Yd.assign rfl) ?_
                  refine WL.nil ?_
                  refine DN.block_normal ?_
                  exact DN.reachK (C7) (h7) (Sx.put rfl ((by repeat (first | exact Sx.refl | refine Sx.skip rfl ?_)))) (Sp.all (by repeat (first | exact Sp.here | exact Sp.sn | exact Sp.s0 | exact Fr.here | apply Sp.s2 | apply Sp.sx | apply Fr.fc | apply Fr.al | apply Fr.fa | apply Sp.sc | apply Sp.al | apply Sp.sa)))
                · obtain ⟨rfl, rfl, rfl⟩ := hnot (by rw [← hz74]; exact h74) h85
                  refine WC.region ?_
                  refine WL.y rfl (Yd.move rfl) ?_
                  refine WL.y rfl (Yd.fieldAddr (k := 1) (by kernel_rfl) rfl) ?_
                  refine WL.h rfl (Hd.load1 (by kernel_rfl) rfl (by repeat (first | exact List.mem_cons_self | apply List.mem_cons_of_mem | apply List.mem_append_right)) (by rfl) ⟨_, rfl, ?_⟩)
                  refine WL.c rfl (Ent.func Try.call17 rfl) (rleave_tells q gs K1 F L1 A1 C4 h4 inv hR acts[i].o true) (Sp.p (by repeat (first | exact Sp.here | exact Sp.sn | exact Sp.s0 | exact Fr.here | apply Sp.s2 | apply Sp.sx | apply Fr.fc | apply Fr.al | apply Fr.fa | apply Sp.sc | apply Sp.al | apply Sp.sa))) ?_
                  rintro qq C7 ⟨rfl, h7⟩
                  refine WL.y rfl (Yd.assign rfl) ?_
                  refine WL.nil ?_
                  refine DN.block_normal ?_
                  exact DN.reachK (C7) (h7) (Sx.put rfl ((by repeat (first | exact Sx.refl | refine Sx.skip rfl ?_)))) (Sp.all (by repeat (first | exact Sp.here | exact Sp.sn | exact Sp.s0 | exact Fr.here | apply Sp.s2 | apply Sp.sx | apply Fr.fc | apply Fr.al | apply Fr.fa | apply Sp.sc | apply Sp.al | apply Sp.sa)))
          · intro C7 h7
            have hmany3 := inv3.many
            refine WC.seq ?_
            refine WC.region ?_
            refine WL.y rfl (Yd.move rfl) ?_
            refine WL.c rfl (Ent.func Try.call12 rfl) (goods_tells p K3 L3 C6 h6 (by omega)) (Sp.p (by repeat (first | exact Sp.here | exact Sp.sn | exact Sp.s0 | exact Fr.here | apply Sp.s2 | apply Sp.sx | apply Fr.fc | apply Fr.al | apply Fr.fa | apply Sp.sc | apply Sp.al | apply Sp.sa))) ?_
            rintro qq C8 ⟨S, Cs, hT, ho, rfl⟩
            have hSl := hT.perm.length_eq
            have hvw := hR3.vw inv3 hT
            have hvl := congrArg List.length hvw
            obtain ⟨so, sc, rfl, _⟩ := ho.form
            refine WL.y rfl (Yd.assign rfl) ?_
            refine WL.nil ?_
            refine DN.then_normal ?_
            refine WC.seq ?_
            refine WC.region ?_
            refine WL.y rfl (Yd.move rfl) ?_
            refine WL.c rfl (Ent.func Try.call18 rfl) (holds_tells p K3 L3 C6 h6 (by omega)) (Sp.p (by repeat (first | exact Sp.here | exact Sp.sn | exact Sp.s0 | exact Fr.here | apply Sp.s2 | apply Sp.sx | apply Fr.fc | apply Fr.al | apply Fr.fa | apply Sp.sc | apply Sp.al | apply Sp.sa))) ?_
            rintro qq C8 ⟨T, Ds, hU, hq, rfl⟩
            have hTl := hU.perm.length_eq
            obtain ⟨to_, tc_, rfl, _⟩ := hq.form
            refine WL.y rfl (Yd.assign rfl) ?_
            refine WL.nil ?_
            refine DN.then_normal ?_
            refine WC.seq ?_
            refine WC.cutK (fun _z : Unit => True) (fun _z : Unit => [(131, .bool false)]) (fun _z : Unit => Cs ++ (Ds ++ (C6 ++ (C7 ++ H)))) ?_ ?_
            · refine WC.draw 37 (by kernel_rfl) rfl ?_
              refine WA.y (i := 0) (NoPanic.then (NoPanic.then (NoPanic.block (NoPanic.then (NoPanic.then (NoPanic.block (NoPanic.then (NoPanic.body)))))))) rfl (by kernel_rfl) (by kernel_rfl) (by kernel_rfl) rfl (Yd.move rfl) ?_
              refine WA.y (i := 1) (NoPanic.then (NoPanic.then (NoPanic.block (NoPanic.then (NoPanic.then (NoPanic.block (NoPanic.then (NoPanic.body)))))))) rfl (by kernel_rfl) (by kernel_rfl) (by kernel_rfl) rfl (Yd.move rfl) ?_
              refine WA.y (i := 2) (NoPanic.then (NoPanic.then (NoPanic.block (NoPanic.then (NoPanic.then (NoPanic.block (NoPanic.then (NoPanic.body)))))))) rfl (by kernel_rfl) (by kernel_rfl) (by kernel_rfl) rfl (Yd.neq rfl rfl) ?_
              refine WA.renamed (t := 97) (v := .bool false) rfl (congrArg Value.bool (decide_eq_false (by simp))) ?_
              refine WA.y (i := 3) (NoPanic.then (NoPanic.then (NoPanic.block (NoPanic.then (NoPanic.then (NoPanic.block (NoPanic.then (NoPanic.body)))))))) rfl (by kernel_rfl) (by kernel_rfl) (by kernel_rfl) rfl (Yd.move rfl) ?_
              refine WA.gy (i := 4) (dj := 98) (NoPanic.then (NoPanic.then (NoPanic.block (NoPanic.then (NoPanic.then (NoPanic.block (NoPanic.then (NoPanic.body)))))))) rfl (by kernel_rfl) (by kernel_rfl) (by kernel_rfl) rfl rfl rfl (Yd.move rfl) ?_
              refine WA.gy (i := 5) (dj := 98) (NoPanic.then (NoPanic.then (NoPanic.block (NoPanic.then (NoPanic.then (NoPanic.block (NoPanic.then (NoPanic.body)))))))) rfl (by kernel_rfl) (by kernel_rfl) (by kernel_rfl) rfl rfl rfl (Yd.move rfl) ?_
              refine WA.one (i := 6) (by kernel_rfl) ?_
              refine WO.c rfl (Wt.yes (dj := 98) rfl rfl) rfl (Ent.func Try.call20 rfl) (rgoods_tells q gs K3 F L3 A3 C7 h7 inv3 hR3) (Sp.p (by repeat (first | exact Sp.here | exact Sp.sn | exact Sp.s0 | exact Fr.here | apply Sp.s2 | apply Sp.sx | apply Fr.fc | apply Fr.al | apply Fr.fa | apply Sp.sc | apply Sp.al | apply Sp.sa))) ?_
              rintro qq C9 ⟨Cs9, ho9, rfl⟩
              obtain ⟨so9, sc9, rfl, _⟩ := ho9.form
              refine WA.one (i := 7) (by kernel_rfl) ?_
              refine WO.rf rfl (Wt.yes (dj := 98) rfl rfl) rfl (Ent.func Try.call19 rfl) (sameGoods_reads _ _ S (vw K3 F) (Cs ++ Cs9) (ho.rs.mono (by repeat (first | exact Gr.refl | exact Gr.left Gr.refl | exact Gr.left (Gr.left Gr.refl) | exact Gr.left (Gr.app Gr.refl) | exact Gr.left (Gr.left (Gr.left Gr.refl)) | exact Gr.nil | exact Gr.app (Gr.left Gr.refl) | refine Gr.cons ?_ | refine Gr.app ?_ | refine Gr.both ?_ ?_ | refine Gr.put (by repeat (first | exact List.mem_cons_self | apply List.mem_cons_of_mem | apply List.mem_append_right)) ?_))) (ho9.rs.mono (by repeat (first | exact Gr.refl | exact Gr.left Gr.refl | exact Gr.left (Gr.left Gr.refl) | exact Gr.left (Gr.app Gr.refl) | exact Gr.left (Gr.left (Gr.left Gr.refl)) | exact Gr.nil | exact Gr.app (Gr.left Gr.refl) | refine Gr.cons ?_ | refine Gr.app ?_ | refine Gr.both ?_ ?_ | refine Gr.put (by repeat (first | exact List.mem_cons_self | apply List.mem_cons_of_mem | apply List.mem_append_right)) ?_))) (by omega) (by omega)) (by repeat (first | exact Sp.here | exact Sp.sn | exact Sp.s0 | exact Fr.here | apply Sp.s2 | apply Sp.sx | apply Fr.fc | apply Fr.al | apply Fr.fa | apply Sp.sc | apply Sp.al | apply Sp.sa)) ?_
              refine WA.renamed (t := 102) (v := .bool true) rfl (congrArg Value.bool (decide_eq_true (by rw [hvw]))) ?_
              refine WA.gy (i := 8) (dj := 98) (NoPanic.then (NoPanic.then (NoPanic.block (NoPanic.then (NoPanic.then (NoPanic.block (NoPanic.then (NoPanic.body)))))))) rfl (by kernel_rfl) (by kernel_rfl) (by kernel_rfl) rfl rfl rfl (Yd.notB rfl) ?_
              refine WA.y (i := 9) (NoPanic.then (NoPanic.then (NoPanic.block (NoPanic.then (NoPanic.then (NoPanic.block (NoPanic.then (NoPanic.body)))))))) rfl (by kernel_rfl) (by kernel_rfl) (by kernel_rfl) rfl (Yd.pickF rfl rfl) ?_
              refine WA.y (i := 10) (NoPanic.then (NoPanic.then (NoPanic.block (NoPanic.then (NoPanic.then (NoPanic.block (NoPanic.then (NoPanic.body)))))))) rfl (by kernel_rfl) (by kernel_rfl) (by kernel_rfl) rfl (Yd.move rfl) ?_
              refine WA.gy (i := 11) (dj := 105) (NoPanic.then (NoPanic.then (NoPanic.block (NoPanic.then (NoPanic.then (NoPanic.block (NoPanic.then (NoPanic.body)))))))) rfl (by kernel_rfl) (by kernel_rfl) (by kernel_rfl) rfl rfl rfl (Yd.move rfl) ?_
              refine WA.gy (i := 12) (dj := 105) (NoPanic.then (NoPanic.then (NoPanic.block (NoPanic.then (NoPanic.then (NoPanic.block (NoPanic.then (NoPanic.body)))))))) rfl (by kernel_rfl) (by kernel_rfl) (by kernel_rfl) rfl rfl rfl (Yd.move rfl) ?_
              refine WA.one (i := 13) (by kernel_rfl) ?_
              refine WO.c rfl (Wt.yes (dj := 105) rfl rfl) rfl (Ent.func Try.call22 rfl) (rholds_tells q gs K3 F L3 A3 C7 h7 inv3 hR3 T hU) (Sp.p (by repeat (first | exact Sp.here | exact Sp.sn | exact Sp.s0 | exact Fr.here | apply Sp.s2 | apply Sp.sx | apply Fr.fc | apply Fr.al | apply Fr.fa | apply Sp.sc | apply Sp.al | apply Sp.sa))) ?_
              rintro qq C9 ⟨Ds9, hq9, rfl⟩
              obtain ⟨to9, tc9, rfl, _⟩ := hq9.form
              refine WA.one (i := 14) (by kernel_rfl) ?_
              refine WO.rf rfl (Wt.yes (dj := 105) rfl rfl) rfl (Ent.func Try.call21 rfl) (sameHolds_reads _ _ T T (Ds ++ Ds9) (hq.rs.mono (by repeat (first | exact Gr.refl | exact Gr.left Gr.refl | exact Gr.left (Gr.left Gr.refl) | exact Gr.left (Gr.app Gr.refl) | exact Gr.left (Gr.left (Gr.left Gr.refl)) | exact Gr.nil | exact Gr.app (Gr.left Gr.refl) | refine Gr.cons ?_ | refine Gr.app ?_ | refine Gr.both ?_ ?_ | refine Gr.put (by repeat (first | exact List.mem_cons_self | apply List.mem_cons_of_mem | apply List.mem_append_right)) ?_))) (hq9.rs.mono (by repeat (first | exact Gr.refl | exact Gr.left Gr.refl | exact Gr.left (Gr.left Gr.refl) | exact Gr.left (Gr.app Gr.refl) | exact Gr.left (Gr.left (Gr.left Gr.refl)) | exact Gr.nil | exact Gr.app (Gr.left Gr.refl) | refine Gr.cons ?_ | refine Gr.app ?_ | refine Gr.both ?_ ?_ | refine Gr.put (by repeat (first | exact List.mem_cons_self | apply List.mem_cons_of_mem | apply List.mem_append_right)) ?_))) (by omega) (by omega)) (by repeat (first | exact Sp.here | exact Sp.sn | exact Sp.s0 | exact Fr.here | apply Sp.s2 | apply Sp.sx | apply Fr.fc | apply Fr.al | apply Fr.fa | apply Sp.sc | apply Sp.al | apply Sp.sa)) ?_
              refine WA.renamed (t := 109) (v := .bool true) rfl (congrArg Value.bool (decide_eq_true rfl)) ?_
              refine WA.gy (i := 15) (dj := 105) (NoPanic.then (NoPanic.then (NoPanic.block (NoPanic.then (NoPanic.then (NoPanic.block (NoPanic.then (NoPanic.body)))))))) rfl (by kernel_rfl) (by kernel_rfl) (by kernel_rfl) rfl rfl rfl (Yd.notB rfl) ?_
              refine WA.y (i := 16) (NoPanic.then (NoPanic.then (NoPanic.block (NoPanic.then (NoPanic.then (NoPanic.block (NoPanic.then (NoPanic.body)))))))) rfl (by kernel_rfl) (by kernel_rfl) (by kernel_rfl) rfl (Yd.pickF rfl rfl) ?_
              refine WA.y (i := 17) (NoPanic.then (NoPanic.then (NoPanic.block (NoPanic.then (NoPanic.then (NoPanic.block (NoPanic.then (NoPanic.body)))))))) rfl (by kernel_rfl) (by kernel_rfl) (by kernel_rfl) rfl (Yd.move rfl) ?_
              refine WA.gy (i := 18) (dj := 112) (NoPanic.then (NoPanic.then (NoPanic.block (NoPanic.then (NoPanic.then (NoPanic.block (NoPanic.then (NoPanic.body)))))))) rfl (by kernel_rfl) (by kernel_rfl) (by kernel_rfl) rfl rfl rfl (Yd.move rfl) ?_
              refine WA.gy (i := 19) (dj := 112) (NoPanic.then (NoPanic.then (NoPanic.block (NoPanic.then (NoPanic.then (NoPanic.block (NoPanic.then (NoPanic.body)))))))) rfl (by kernel_rfl) (by kernel_rfl) (by kernel_rfl) rfl rfl rfl (Yd.move rfl) ?_
              refine WA.gy (i := 21) (dj := 112) (NoPanic.then (NoPanic.then (NoPanic.block (NoPanic.then (NoPanic.then (NoPanic.block (NoPanic.then (NoPanic.body)))))))) rfl (by kernel_rfl) (by kernel_rfl) (by kernel_rfl) rfl rfl rfl (Yd.move rfl) ?_
              refine WA.gy (i := 22) (dj := 112) (NoPanic.then (NoPanic.then (NoPanic.block (NoPanic.then (NoPanic.then (NoPanic.block (NoPanic.then (NoPanic.body)))))))) rfl (by kernel_rfl) (by kernel_rfl) (by kernel_rfl) rfl rfl rfl (Yd.move rfl) ?_
              refine WA.one (i := 20) (by kernel_rfl) ?_
              refine WO.rf rfl (Wt.yes (dj := 112) rfl rfl) rfl (Ent.func Try.call23 rfl) (gone_reads p K3 L3 C6 h6 nm) (by repeat (first | exact Sp.here | exact Sp.sn | exact Sp.s0 | exact Fr.here | apply Sp.s2 | apply Sp.sx | apply Fr.fc | apply Fr.al | apply Fr.fa | apply Sp.sc | apply Sp.al | apply Sp.sa)) ?_
              refine WA.one (i := 23) (by kernel_rfl) ?_
              refine WO.rf rfl (Wt.yes (dj := 112) rfl rfl) rfl (Ent.func Try.call24 rfl) (rgone_reads q gs K3 F L3 A3 C7 h7 inv3 hR3 nm) (by repeat (first | exact Sp.here | exact Sp.sn | exact Sp.s0 | exact Fr.here | apply Sp.s2 | apply Sp.sx | apply Fr.fc | apply Fr.al | apply Fr.fa | apply Sp.sc | apply Sp.al | apply Sp.sa)) ?_
              refine WA.gy (i := 24) (dj := 112) (NoPanic.then (NoPanic.then (NoPanic.block (NoPanic.then (NoPanic.then (NoPanic.block (NoPanic.then (NoPanic.body)))))))) rfl (by kernel_rfl) (by kernel_rfl) (by kernel_rfl) rfl rfl rfl (Yd.neq rfl rfl) ?_
              refine WA.renamed (t := 119) (v := .bool false) rfl (congrArg Value.bool (decide_eq_false (by simp))) ?_
              refine WA.y (i := 25) (NoPanic.then (NoPanic.then (NoPanic.block (NoPanic.then (NoPanic.then (NoPanic.block (NoPanic.then (NoPanic.body)))))))) rfl (by kernel_rfl) (by kernel_rfl) (by kernel_rfl) rfl (Yd.pickF rfl rfl) ?_
              refine WA.y (i := 26) (NoPanic.then (NoPanic.then (NoPanic.block (NoPanic.then (NoPanic.then (NoPanic.block (NoPanic.then (NoPanic.body)))))))) rfl (by kernel_rfl) (by kernel_rfl) (by kernel_rfl) rfl (Yd.move rfl) ?_
              refine WA.gy (i := 27) (dj := 121) (NoPanic.then (NoPanic.then (NoPanic.block (NoPanic.then (NoPanic.then (NoPanic.block (NoPanic.then (NoPanic.body)))))))) rfl (by kernel_rfl) (by kernel_rfl) (by kernel_rfl) rfl rfl rfl (Yd.move rfl) ?_
              refine WA.gy (i := 28) (dj := 121) (NoPanic.then (NoPanic.then (NoPanic.block (NoPanic.then (NoPanic.then (NoPanic.block (NoPanic.then (NoPanic.body)))))))) rfl (by kernel_rfl) (by kernel_rfl) (by kernel_rfl) rfl rfl rfl (Yd.fieldAddr (k := 2) (by kernel_rfl) rfl) ?_
              refine WA.gy (i := 31) (dj := 121) (NoPanic.then (NoPanic.then (NoPanic.block (NoPanic.then (NoPanic.then (NoPanic.block (NoPanic.then (NoPanic.body)))))))) rfl (by kernel_rfl) (by kernel_rfl) (by kernel_rfl) rfl rfl rfl (Yd.move rfl) ?_
              refine WA.gy (i := 32) (dj := 121) (NoPanic.then (NoPanic.then (NoPanic.block (NoPanic.then (NoPanic.then (NoPanic.block (NoPanic.then (NoPanic.body)))))))) rfl (by kernel_rfl) (by kernel_rfl) (by kernel_rfl) rfl rfl rfl (Yd.fieldAddr (k := 2) (by kernel_rfl) rfl) ?_
              refine WA.two (i := 29) (j := 33) (by kernel_rfl) ?_ ?_
              · refine WO.h rfl (Wt.yes (dj := 121) rfl rfl) rfl (Hd.load1 (by kernel_rfl) rfl (by repeat (first | exact List.mem_cons_self | apply List.mem_cons_of_mem | apply List.mem_append_right)) (by rfl) ⟨_, rfl, ?_⟩)
                refine WA.two (i := 30) (j := 33) (by kernel_rfl) ?_ ?_
                · refine WO.rf rfl (Wt.yes (dj := 121) rfl rfl) rfl (Ent.func Try.call23 rfl) (gone_reads p K3 L3 C6 h6 acts[i].name) (by repeat (first | exact Sp.here | exact Sp.sn | exact Sp.s0 | exact Fr.here | apply Sp.s2 | apply Sp.sx | apply Fr.fc | apply Fr.al | apply Fr.fa | apply Sp.sc | apply Sp.al | apply Sp.sa)) ?_
                  refine WA.one (i := 33) (by kernel_rfl) ?_
                  refine WO.h rfl (Wt.yes (dj := 121) rfl rfl) rfl (Hd.load1 (by kernel_rfl) rfl (by repeat (first | exact List.mem_cons_self | apply List.mem_cons_of_mem | apply List.mem_append_right)) (by rfl) ⟨_, rfl, ?_⟩)
                  refine WA.one (i := 34) (by kernel_rfl) ?_
                  refine WO.rf rfl (Wt.yes (dj := 121) rfl rfl) rfl (Ent.func Try.call24 rfl) (rgone_reads q gs K3 F L3 A3 C7 h7 inv3 hR3 acts[i].name) (by repeat (first | exact Sp.here | exact Sp.sn | exact Sp.s0 | exact Fr.here | apply Sp.s2 | apply Sp.sx | apply Fr.fc | apply Fr.al | apply Fr.fa | apply Sp.sc | apply Sp.al | apply Sp.sa)) ?_
                  refine WA.gy (i := 35) (dj := 121) (NoPanic.then (NoPanic.then (NoPanic.block (NoPanic.then (NoPanic.then (NoPanic.block (NoPanic.then (NoPanic.body)))))))) rfl (by kernel_rfl) (by kernel_rfl) (by kernel_rfl) rfl rfl rfl (Yd.neq rfl rfl) ?_
                  refine WA.renamed (t := 130) (v := .bool false) rfl (congrArg Value.bool (decide_eq_false (by simp))) ?_
                  refine WA.y (i := 36) (NoPanic.then (NoPanic.then (NoPanic.block (NoPanic.then (NoPanic.then (NoPanic.block (NoPanic.then (NoPanic.body)))))))) rfl (by kernel_rfl) (by kernel_rfl) (by kernel_rfl) rfl (Yd.pickF rfl rfl) ?_
                  refine WA.done (by kernel_rfl) ?_
                  refine DN.fit (C := Cs ++ (Ds ++ (C6 ++ (C7 ++ H)))) (by repeat (first | exact Sp.here | exact Sp.sn | exact Sp.s0 | exact Fr.here | apply Sp.s2 | apply Sp.sx | apply Fr.fc | apply Fr.al | apply Fr.fa | apply Sp.sc | apply Sp.al | apply Sp.sa)) ?_
                  exact DN.reachK (()) (trivial) (Sx.put rfl ((by repeat (first | exact Sx.refl | refine Sx.skip rfl ?_)))) (Sp.all (by repeat (first | exact Sp.here | exact Sp.sn | exact Sp.s0 | exact Fr.here | apply Sp.s2 | apply Sp.sx | apply Fr.fc | apply Fr.al | apply Fr.fa | apply Sp.sc | apply Sp.al | apply Sp.sa)))
                · refine WO.h rfl (Wt.yes (dj := 121) rfl rfl) rfl (Hd.load1 (by kernel_rfl) rfl (by repeat (first | exact List.mem_cons_self | apply List.mem_cons_of_mem | apply List.mem_append_right)) (by rfl) ⟨_, rfl, ?_⟩)
                  refine WA.one (i := 30) (by kernel_rfl) ?_
                  refine WO.rf rfl (Wt.yes (dj := 121) rfl rfl) rfl (Ent.func Try.call23 rfl) (gone_reads p K3 L3 C6 h6 acts[i].name) (by repeat (first | exact Sp.here | exact Sp.sn | exact Sp.s0 | exact Fr.here | apply Sp.s2 | apply Sp.sx | apply Fr.fc | apply Fr.al | apply Fr.fa | apply Sp.sc | apply Sp.al | apply Sp.sa)) ?_
                  refine WA.one (i := 34) (by kernel_rfl) ?_
                  refine WO.rf rfl (Wt.yes (dj := 121) rfl rfl) rfl (Ent.func Try.call24 rfl) (rgone_reads q gs K3 F L3 A3 C7 h7 inv3 hR3 acts[i].name) (by repeat (first | exact Sp.here | exact Sp.sn | exact Sp.s0 | exact Fr.here | apply Sp.s2 | apply Sp.sx | apply Fr.fc | apply Fr.al | apply Fr.fa | apply Sp.sc | apply Sp.al | apply Sp.sa)) ?_
                  refine WA.gy (i := 35) (dj := 121) (NoPanic.then (NoPanic.then (NoPanic.block (NoPanic.then (NoPanic.then (NoPanic.block (NoPanic.then (NoPanic.body)))))))) rfl (by kernel_rfl) (by kernel_rfl) (by kernel_rfl) rfl rfl rfl (Yd.neq rfl rfl) ?_
                  refine WA.renamed (t := 130) (v := .bool false) rfl (congrArg Value.bool (decide_eq_false (by simp))) ?_
                  refine WA.y (i := 36) (NoPanic.then (NoPanic.then (NoPanic.block (NoPanic.then (NoPanic.then (NoPanic.block (NoPanic.then (NoPanic.body)))))))) rfl (by kernel_rfl) (by kernel_rfl) (by kernel_rfl) rfl (Yd.pickF rfl rfl) ?_
                  refine WA.done (by kernel_rfl) ?_
                  refine DN.fit (C := Cs ++ (Ds ++ (C6 ++ (C7 ++ H)))) (by repeat (first | exact Sp.here | exact Sp.sn | exact Sp.s0 | exact Fr.here | apply Sp.s2 | apply Sp.sx | apply Fr.fc | apply Fr.al | apply Fr.fa | apply Sp.sc | apply Sp.al | apply Sp.sa)) ?_
                  exact DN.reachK (()) (trivial) (Sx.put rfl ((by repeat (first | exact Sx.refl | refine Sx.skip rfl ?_)))) (Sp.all (by repeat (first | exact Sp.here | exact Sp.sn | exact Sp.s0 | exact Fr.here | apply Sp.s2 | apply Sp.sx | apply Fr.fc | apply Fr.al | apply Fr.fa | apply Sp.sc | apply Sp.al | apply Sp.sa)))
              · refine WO.h rfl (Wt.yes (dj := 121) rfl rfl) rfl (Hd.load1 (by kernel_rfl) rfl (by repeat (first | exact List.mem_cons_self | apply List.mem_cons_of_mem | apply List.mem_append_right)) (by rfl) ⟨_, rfl, ?_⟩)
                refine WA.one (i := 29) (by kernel_rfl) ?_
                refine WO.h rfl (Wt.yes (dj := 121) rfl rfl) rfl (Hd.load1 (by kernel_rfl) rfl (by repeat (first | exact List.mem_cons_self | apply List.mem_cons_of_mem | apply List.mem_append_right)) (by rfl) ⟨_, rfl, ?_⟩)
                refine WA.one (i := 30) (by kernel_rfl) ?_
                refine WO.rf rfl (Wt.yes (dj := 121) rfl rfl) rfl (Ent.func Try.call23 rfl) (gone_reads p K3 L3 C6 h6 acts[i].name) (by repeat (first | exact Sp.here | exact Sp.sn | exact Sp.s0 | exact Fr.here | apply Sp.s2 | apply Sp.sx | apply Fr.fc | apply Fr.al | apply Fr.fa | apply Sp.sc | apply Sp.al | apply Sp.sa)) ?_
                refine WA.one (i := 34) (by kernel_rfl) ?_
                refine WO.rf rfl (Wt.yes (dj := 121) rfl rfl) rfl (Ent.func Try.call24 rfl) (rgone_reads q gs K3 F L3 A3 C7 h7 inv3 hR3 acts[i].name) (by repeat (first | exact Sp.here | exact Sp.sn | exact Sp.s0 | exact Fr.here | apply Sp.s2 | apply Sp.sx | apply Fr.fc | apply Fr.al | apply Fr.fa | apply Sp.sc | apply Sp.al | apply Sp.sa)) ?_
                refine WA.gy (i := 35) (dj := 121) (NoPanic.then (NoPanic.then (NoPanic.block (NoPanic.then (NoPanic.then (NoPanic.block (NoPanic.then (NoPanic.body)))))))) rfl (by kernel_rfl) (by kernel_rfl) (by kernel_rfl) rfl rfl rfl (Yd.neq rfl rfl) ?_
                refine WA.renamed (t := 130) (v := .bool false) rfl (congrArg Value.bool (decide_eq_false (by simp))) ?_
                refine WA.y (i := 36) (NoPanic.then (NoPanic.then (NoPanic.block (NoPanic.then (NoPanic.then (NoPanic.block (NoPanic.then (NoPanic.body)))))))) rfl (by kernel_rfl) (by kernel_rfl) (by kernel_rfl) rfl (Yd.pickF rfl rfl) ?_
                refine WA.done (by kernel_rfl) ?_
                refine DN.fit (C := Cs ++ (Ds ++ (C6 ++ (C7 ++ H)))) (by repeat (first | exact Sp.here | exact Sp.sn | exact Sp.s0 | exact Fr.here | apply Sp.s2 | apply Sp.sx | apply Fr.fc | apply Fr.al | apply Fr.fa | apply Sp.sc | apply Sp.al | apply Sp.sa)) ?_
                exact DN.reachK (()) (trivial) (Sx.put rfl ((by repeat (first | exact Sx.refl | refine Sx.skip rfl ?_)))) (Sp.all (by repeat (first | exact Sp.here | exact Sp.sn | exact Sp.s0 | exact Fr.here | apply Sp.s2 | apply Sp.sx | apply Fr.fc | apply Fr.al | apply Fr.fa | apply Sp.sc | apply Sp.al | apply Sp.sa)))
            · intro _ _
              refine WC.no rfl ?_
              refine WC.skip ?_
              refine DN.then_normal ?_
              refine WC.seq ?_
              refine WC.seq ?_
              refine WC.region ?_
              refine WL.y rfl (Yd.assign rfl) ?_
              refine WL.nil ?_
              refine DN.then_normal ?_
              refine WC.block ?_
              refine WC.loopS (fun z : Nat × List Value × List Ck => z.1 ≤ S.length ∧ Own (.slice so S.length sc) S.length z.2.1 32 2 z.2.2) (fun z : Nat × List Value × List Ck => [(17, .int .i64 (z.1 : Int))]) (fun z : Nat × List Value × List Ck => z.2.2 ++ (Ds ++ (C6 ++ (C7 ++ H)))) (fun z : Nat × List Value × List Ck => S.length - z.1) (⟨0, S.flatMap cellsG, Cs⟩) (show 0 ≤ S.length ∧ Own (.slice so S.length sc) S.length (S.flatMap cellsG) 32 2 Cs from ⟨Nat.zero_le _, ho⟩) (Sx.put rfl ((by repeat (first | exact Sx.refl | refine Sx.skip rfl ?_)))) (by repeat (first | exact Sp.here | exact Sp.sn | exact Sp.s0 | exact Fr.here | apply Sp.s2 | apply Sp.sx | apply Fr.fc | apply Fr.al | apply Fr.fa | apply Sp.sc | apply Sp.al | apply Sp.sa)) ?_
              rintro ⟨k, xs, C9⟩ hI
              replace hI : k ≤ S.length ∧ Own (.slice so S.length sc) S.length xs 32 2 C9 := hI
              obtain ⟨hk, ho9⟩ := hI
              change WC _ _ _ _ _ _ ([(17, .int .i64 (k : Int))] ++ _) (C9 ++ (Ds ++ (C6 ++ (C7 ++ H))))
              refine WC.seq ?_
              refine WC.seq ?_
              refine WC.region ?_
              refine WL.y rfl (Yd.move rfl) ?_
              refine WL.y rfl (Yd.move rfl) ?_
              refine WL.y rfl (Yd.len (e := 32) (by kernel_rfl) rfl) ?_
              refine WL.y rfl (Yd.lss rfl rfl) ?_
              refine WL.nil ?_
              refine DN.then_normal ?_
              refine WC.ite rfl (fun h135 => ?_) (fun h135 => ?_)
              · have hkl : k < S.length := by omega
                have hxl := ho9.len
                obtain ⟨bo, extra, eso, rfl, hset, ho2⟩ := ho9.set1 (by omega) ((k : Int).toNat * 2 + 1) (by omega) (.int .i64 (-7))
                refine WC.skip ?_
                refine DN.then_normal ?_
                refine WC.seq ?_
                refine WC.block ?_
                refine WC.region ?_
                refine WL.y rfl (Yd.move rfl) ?_
                refine WL.y rfl (Yd.move rfl) ?_
                refine WL.y rfl (Yd.indexAddr (e := 32) (s := 2) (b := bo) (o := 0) (n := S.length) (c := sc) (by kernel_rfl) (by kernel_rfl) (congrArg (fun z => some (Value.slice z S.length sc)) eso) rfl (by omega) (by omega)) ?_
                refine WL.y rfl (Yd.fieldAddr (k := 1) (by kernel_rfl) rfl) ?_
                refine WL.s (Hd.store1q (b := bo) (cs := xs ++ extra) (T' := 32) (by kernel_rfl) rfl rfl rfl (by repeat (first | exact Fr.here | apply Fr.fc | apply Fr.al | apply Fr.fa)) (by rw [List.length_append]; omega) ((congrArg (fun z => (xs ++ extra).set z (Value.int .i64 (-7))) (Nat.add_assoc 0 _ 1)).trans hset) ⟨rfl, ?_⟩)
                refine WL.nil ?_
                refine DN.block_normal ?_
                refine DN.then_normal ?_
                refine WC.region ?_
                refine WL.y rfl (Yd.move rfl) ?_
                refine WL.y rfl (Yd.add rfl rfl (by omega) (by omega)) ?_
                refine WL.y rfl (Yd.assign rfl) ?_
                refine WL.nil ?_
                exact DN.againS (⟨k + 1, xs.set ((k : Int).toNat * 2 + 1) (.int .i64 (-7)), [row bo (xs.set ((k : Int).toNat * 2 + 1) (.int .i64 (-7)) ++ extra) 32]⟩) (show (k + 1) ≤ S.length ∧ Own (.slice so S.length sc) S.length (xs.set ((k : Int).toNat * 2 + 1) (.int .i64 (-7))) 32 2 ([row bo (xs.set ((k : Int).toNat * 2 + 1) (.int .i64 (-7)) ++ extra) 32]) from ⟨by omega, ho2⟩) (show S.length - (k + 1) < S.length - k by omega) (Sx.put rfl ((by repeat (first | exact Sx.refl | refine Sx.skip rfl ?_)))) (by repeat (first | exact Sp.here | exact Sp.sn | exact Sp.s0 | exact Fr.here | apply Sp.s2 | apply Sp.sx | apply Fr.fc | apply Fr.al | apply Fr.fa | apply Sp.sc | apply Sp.al | apply Sp.sa))
              · refine WC.exit ?_
                refine DN.then_exit ?_
                refine DN.then_exit ?_
                refine DN.block_exit ?_
                refine DN.then_normal ?_
                refine WC.seq ?_
                refine WC.region ?_
                refine WL.y rfl (Yd.assign rfl) ?_
                refine WL.nil ?_
                refine DN.then_normal ?_
                refine WC.block ?_
                refine WC.loopS (fun z : Nat × List Value × List Ck => z.1 ≤ T.length ∧ Own (.slice to_ T.length tc_) T.length z.2.1 50 3 z.2.2) (fun z : Nat × List Value × List Ck => [(18, .int .i64 (z.1 : Int))]) (fun z : Nat × List Value × List Ck => z.2.2 ++ ((C6 ++ (C7 ++ H)))) (fun z : Nat × List Value × List Ck => T.length - z.1) (⟨0, T.flatMap cellsH, Ds⟩) (show 0 ≤ T.length ∧ Own (.slice to_ T.length tc_) T.length (T.flatMap cellsH) 50 3 Ds from ⟨Nat.zero_le _, hq⟩) (Sx.put rfl ((by repeat (first | exact Sx.refl | refine Sx.skip rfl ?_)))) (by repeat (first | exact Sp.here | exact Sp.sn | exact Sp.s0 | exact Fr.here | apply Sp.s2 | apply Sp.sx | apply Fr.fc | apply Fr.al | apply Fr.fa | apply Sp.sc | apply Sp.al | apply Sp.sa)) ?_
                rintro ⟨k, xs, C9⟩ hI
                replace hI : k ≤ T.length ∧ Own (.slice to_ T.length tc_) T.length xs 50 3 C9 := hI
                obtain ⟨hk, ho9⟩ := hI
                change WC _ _ _ _ _ _ ([(18, .int .i64 (k : Int))] ++ _) (C9 ++ ((C6 ++ (C7 ++ H))))
                refine WC.seq ?_
                refine WC.seq ?_
                refine WC.region ?_
                refine WL.y rfl (Yd.move rfl) ?_
                refine WL.y rfl (Yd.move rfl) ?_
                refine WL.y rfl (Yd.len (e := 50) (by kernel_rfl) rfl) ?_
                refine WL.y rfl (Yd.lss rfl rfl) ?_
                refine WL.nil ?_
                refine DN.then_normal ?_
                refine WC.ite rfl (fun h145 => ?_) (fun h145 => ?_)
                · have hkl : k < T.length := by omega
                  have hxl := ho9.len
                  obtain ⟨bo, extra, eso, rfl, hset, ho2⟩ := ho9.set1 (by omega) ((k : Int).toNat * 3 + 2) (by omega) (.int .i64 (-7))
                  refine WC.skip ?_
                  refine DN.then_normal ?_
                  refine WC.seq ?_
                  refine WC.block ?_
                  refine WC.region ?_
                  refine WL.y rfl (Yd.move rfl) ?_
                  refine WL.y rfl (Yd.move rfl) ?_
                  refine WL.y rfl (Yd.indexAddr (e := 50) (s := 3) (b := bo) (o := 0) (n := T.length) (c := tc_) (by kernel_rfl) (by kernel_rfl) (congrArg (fun z => some (Value.slice z T.length tc_)) eso) rfl (by omega) (by omega)) ?_
                  refine WL.y rfl (Yd.fieldAddr (k := 2) (by kernel_rfl) rfl) ?_
                  refine WL.s (Hd.store1q (b := bo) (cs := xs ++ extra) (T' := 50) (by kernel_rfl) rfl rfl rfl (by repeat (first | exact Fr.here | apply Fr.fc | apply Fr.al | apply Fr.fa)) (by rw [List.length_append]; omega) ((congrArg (fun z => (xs ++ extra).set z (Value.int .i64 (-7))) (Nat.add_assoc 0 _ 2)).trans hset) ⟨rfl, ?_⟩)
                  refine WL.nil ?_
                  refine DN.block_normal ?_
                  refine DN.then_normal ?_
                  refine WC.region ?_
                  refine WL.y rfl (Yd.move rfl) ?_
                  refine WL.y rfl (Yd.add rfl rfl (by omega) (by omega)) ?_
                  refine WL.y rfl (Yd.assign rfl) ?_
                  refine WL.nil ?_
                  exact DN.againS (⟨k + 1, xs.set ((k : Int).toNat * 3 + 2) (.int .i64 (-7)), [row bo (xs.set ((k : Int).toNat * 3 + 2) (.int .i64 (-7)) ++ extra) 50]⟩) (show (k + 1) ≤ T.length ∧ Own (.slice to_ T.length tc_) T.length (xs.set ((k : Int).toNat * 3 + 2) (.int .i64 (-7))) 50 3 ([row bo (xs.set ((k : Int).toNat * 3 + 2) (.int .i64 (-7)) ++ extra) 50]) from ⟨by omega, ho2⟩) (show T.length - (k + 1) < T.length - k by omega) (Sx.put rfl ((by repeat (first | exact Sx.refl | refine Sx.skip rfl ?_)))) (by repeat (first | exact Sp.here | exact Sp.sn | exact Sp.s0 | exact Fr.here | apply Sp.s2 | apply Sp.sx | apply Fr.fc | apply Fr.al | apply Fr.fa | apply Sp.sc | apply Sp.al | apply Sp.sa))
                · refine WC.exit ?_
                  refine DN.then_exit ?_
                  refine DN.then_exit ?_
                  refine DN.block_exit ?_
                  refine DN.block_normal ?_
                  refine DN.then_normal ?_
                  refine WC.region ?_
                  refine WL.y rfl (Yd.move rfl) ?_
                  refine WL.y rfl (Yd.add rfl rfl (by omega) (by omega)) ?_
                  refine WL.y rfl (Yd.assign rfl) ?_
                  refine WL.nil ?_
                  exact DN.againS (⟨i + 1, K3, L3, A3, C6, C7⟩) (show (i + 1) ≤ acts.length ∧ StAt 57 p K3 L3 C6 ∧ RsAt 66 32 50 q F L3 A3 C7 ∧ SInv gs K3 L3 ∧ RInv gs K3 L3 F A3 from ⟨by omega, h6, h7, inv3, hR3⟩) (show acts.length - (i + 1) < acts.length - i by omega) (Sx.put rfl ((by repeat (first | exact Sx.refl | refine Sx.skip rfl ?_)))) (by repeat (first | exact Sp.here | exact Sp.sn | exact Sp.s0 | exact Fr.here | apply Sp.s2 | apply Sp.sx | apply Fr.fc | apply Fr.al | apply Fr.fa | apply Sp.sc | apply Sp.al | apply Sp.sa))
        · refine WC.exit ?_
          refine DN.then_exit ?_
          refine DN.then_exit ?_
          refine DN.block_exit ?_
          refine DN.then_normal ?_
          refine WC.seq ?_
          refine WC.region ?_
          refine WL.r rfl (Ent.func Try.call10 rfl) (known09 _) ?_
          refine WL.y rfl (Yd.assign rfl) ?_
          refine WL.nil ?_
          refine DN.then_normal ?_
          refine WC.ret ?_
          refine DN.fit (C := H) (by repeat (first | exact Sp.here | exact Sp.sn | exact Sp.s0 | exact Fr.here | apply Sp.s2 | apply Sp.sx | apply Fr.fc | apply Fr.al | apply Fr.fa | apply Sp.sc | apply Sp.al | apply Sp.sa)) ?_
          refine DN.ret1 Try.results4 rfl ?_
          exact ⟨rfl, rfl⟩
      · refine WL.gn (dj := 55) rfl rfl rfl rfl ?_
        refine WL.gn (dj := 55) rfl rfl rfl rfl ?_
        refine WL.y rfl (Yd.pickF rfl rfl) ?_
        refine WL.nil ?_
        refine DN.then_normal ?_
        refine WC.no rfl ?_
        refine WC.exit ?_
        refine DN.then_exit ?_
        refine DN.then_exit ?_
        refine DN.block_exit ?_
        refine DN.then_normal ?_
        refine WC.seq ?_
        refine WC.region ?_
        refine WL.r rfl (Ent.func Try.call10 rfl) (known09 _) ?_
        refine WL.y rfl (Yd.assign rfl) ?_
        refine WL.nil ?_
        refine DN.then_normal ?_
        refine WC.ret ?_
        refine DN.fit (C := H) (by repeat (first | exact Sp.here | exact Sp.sn | exact Sp.s0 | exact Fr.here | apply Sp.s2 | apply Sp.sx | apply Fr.fc | apply Fr.al | apply Fr.fa | apply Sp.sc | apply Sp.al | apply Sp.sa)) ?_
        refine DN.ret1 Try.results4 rfl ?_
        exact ⟨rfl, rfl⟩
    · refine WC.region ?_
      refine WL.y rfl (Yd.move rfl) ?_
      refine WL.ca rfl (Ent.func Try.call11 rfl) (new_tells _ gs hg H hv hl) ?_
      rintro q H1 hq
      first | (obtain ⟨p, C1, rfl, h1, rfl⟩ := new_in hq hA; have inv1 := hA.inv hg) | (obtain ⟨rfl, hHq⟩ := new_out hq hA; rw [hHq])
      refine WL.y rfl (Yd.move rfl) ?_
      refine WL.y rfl (Yd.extract rfl rfl) ?_
      refine WL.y rfl (Yd.extract rfl rfl) ?_
      refine WL.y rfl (Yd.assign rfl) ?_
      refine WL.y rfl (Yd.assign rfl) ?_
      refine WL.nil ?_
      refine DN.then_normal ?_
      refine WC.seq ?_
      refine WC.region ?_
      refine WL.y rfl (Yd.move rfl) ?_
      refine WL.ca rfl (Ent.func Try.call14 rfl) (rnew_tells _ gs _ (hv.mono (by repeat (first | exact Gr.refl | exact Gr.left Gr.refl | exact Gr.left (Gr.left Gr.refl) | exact Gr.left (Gr.app Gr.refl) | exact Gr.left (Gr.left (Gr.left Gr.refl)) | exact Gr.nil | exact Gr.app (Gr.left Gr.refl) | refine Gr.cons ?_ | refine Gr.app ?_ | refine Gr.both ?_ ?_ | refine Gr.put (by repeat (first | exact List.mem_cons_self | apply List.mem_cons_of_mem | apply List.mem_append_right)) ?_))) hl) ?_
      rintro qq H2 hq2
      first | (have inv7 := hA.inv hg; obtain ⟨q, C2, F, rfl, h2, hT2, rfl⟩ := new_in hq2 hA) | (obtain ⟨rfl, hHq2⟩ := new_out hq2 hA; rw [hHq2])
      refine WL.y rfl (Yd.move rfl) ?_
      refine WL.y rfl (Yd.extract rfl rfl) ?_
      refine WL.y rfl (Yd.extract rfl rfl) ?_
      refine WL.y rfl (Yd.assign rfl) ?_
      refine WL.y rfl (Yd.assign rfl) ?_
      refine WL.nil ?_
      refine DN.then_normal ?_
      refine WC.seq ?_
      refine WC.seq ?_
      refine WC.region ?_
      refine WL.y rfl (Yd.move rfl) ?_
      refine WL.y rfl (Yd.neq rfl rfl) ?_
      refine WL.renamed (t := 34) (v := .bool true) rfl (congrArg Value.bool (by decide)) ?_
      refine WL.nil ?_
      refine DN.then_normal ?_
      refine WC.yes rfl ?_
      refine WC.seq ?_
      refine WC.region ?_
      refine WL.y rfl (Yd.move rfl) ?_
      refine WL.y rfl (Yd.eqlNil Try.underlying26 rfl rfl) ?_
      refine WL.renamed (t := 36) (v := .bool true) rfl (congrArg Value.bool (rfl)) ?_
      refine WL.y rfl (Yd.move rfl) ?_
      refine WL.gy (dj := 37) rfl rfl rfl (Yd.move rfl) ?_
      refine WL.gy (dj := 37) rfl rfl rfl (Yd.move rfl) ?_
      refine WL.gy (dj := 37) rfl rfl rfl (Yd.eql rfl rfl) ?_
      refine WL.renamed (t := 40) (v := .bool true) rfl (congrArg Value.bool (by decide)) ?_
      refine WL.y rfl (Yd.pickT rfl rfl) ?_
      refine WL.y rfl (Yd.move rfl) ?_
      refine WL.gr (dj := 42) rfl rfl rfl (Ent.func Try.call10 rfl) (known09 _) ?_
      refine WL.y rfl (Yd.pickT rfl rfl) ?_
      refine WL.y rfl (Yd.assign rfl) ?_
      refine WL.nil ?_
      refine DN.then_normal ?_
      refine WC.ret ?_
      refine DN.then_ret ?_
      refine DN.fit (C := H) (by repeat (first | exact Sp.here | exact Sp.sn | exact Sp.s0 | exact Fr.here | apply Sp.s2 | apply Sp.sx | apply Fr.fc | apply Fr.al | apply Fr.fa | apply Sp.sc | apply Sp.al | apply Sp.sa)) ?_
      refine DN.ret1 Try.results4 rfl ?_
      exact ⟨rfl, rfl⟩

end Go.Proofs.Ytdbbkodjhmfjfaa
