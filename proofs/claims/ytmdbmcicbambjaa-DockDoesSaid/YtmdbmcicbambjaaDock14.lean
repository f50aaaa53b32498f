/-
  The walk of DockDoes.
-/
import Derived.Test.YtmdbmcicbambjaaDock13
set_option linter.unusedVariables false
set_option linter.unusedSimpArgs false
set_option maxHeartbeats 4000000
namespace Go.Proofs.Ytmdbmcicbambjaa
open Go.SL


/-- drayage/drayagelaw11.DockDoes -/
theorem law_DockDoes (v va : Value) (rs : List Int) (acts : List Ac) (H : List Ck) (hv : Rs v rs.length (ic rs) H) (hl : rs.length ≤ 9223372036854775807) (hva : Rs va acts.length (acs acts) H) (hla : acts.length ≤ 9223372036854775807) : Reads Try.prog 5 [v, va] H (.bool true) := by
  refine Tells.enter Try.func5 rfl Try.ntmps5 rfl ?_
  intro w0 R
  obtain ⟨vo, vc, rfl, hvc⟩ := hv.form
  obtain ⟨ao, ac, rfl, hac⟩ := hva.form
  refine WC.seq ?_
  refine WC.region ?_
  refine WL.y rfl (Yd.assign rfl) ?_
  refine WL.nil ?_
  refine DN.then_normal ?_
  refine WC.seq ?_
  refine WC.seq ?_
  refine WC.region ?_
  refine WL.y rfl (Yd.move rfl) ?_
  refine WL.y rfl (Yd.len (e := 3) (by kernel_rfl) rfl) ?_
  refine WL.y rfl (Yd.gtr rfl rfl) ?_
  refine WL.nil ?_
  refine DN.then_normal ?_
  refine WC.ite rfl (fun h22 => ?_) (fun h22 => ?_)
  · refine WC.seq ?_
    refine WC.region ?_
    refine WL.r rfl (Ent.func Try.call9 rfl) (known11 _) ?_
    refine WL.y rfl (Yd.assign rfl) ?_
    refine WL.nil ?_
    refine DN.then_normal ?_
    refine WC.ret ?_
    refine DN.then_ret ?_
    refine DN.fit (C := H) (by repeat (first | exact Sp.here | exact Sp.sn | exact Sp.s0 | exact Fr.here | apply Sp.s2 | apply Sp.sx | apply Fr.fc | apply Fr.al | apply Fr.fa | apply Sp.sc | apply Sp.al | apply Sp.sa)) ?_
    refine DN.ret1 Try.results5 rfl ?_
    exact ⟨rfl, rfl⟩
  · refine WC.skip ?_
    refine DN.then_normal ?_
    refine WC.seq ?_
    refine WC.region ?_
    refine WL.y rfl (Yd.assign rfl) ?_
    refine WL.nil ?_
    refine DN.then_normal ?_
    refine WC.seq ?_
    refine WC.region ?_
    refine WL.y rfl (Yd.move rfl) ?_
    refine WL.y rfl (Yd.move rfl) ?_
    refine WL.h rfl (Hd.appendF (e := 3) (sz := 1) (bytes := 8) (zs := [.int .i64 0]) (n := 0) (xs := []) (m := rs.length) (news := ic rs) (by kernel_rfl) (by kernel_rfl) rfl (by omega) rfl rfl (Own.nil _ _) Sp.s0 (hv.mono (by repeat (first | exact Gr.refl | exact Gr.left Gr.refl | exact Gr.nil | exact Gr.app (Gr.left Gr.refl) | refine Gr.cons ?_ | refine Gr.app ?_ | refine Gr.both ?_ ?_ | refine Gr.put (by repeat (first | exact List.mem_cons_self | apply List.mem_cons_of_mem | apply List.mem_append_right)) ?_))) (by rw [ic_length]; omega) (ic_one _) (by simp only [maxLen]; omega) (by omega) fun v0 C0 h0 => ⟨_, rfl, ?_⟩)
    refine WL.y rfl (Yd.assign rfl) ?_
    refine WL.nil ?_
    refine DN.then_normal ?_
    refine WC.seq ?_
    rcases Classical.em ((rs.findIdx? badRoom).isSome = false ∧ rs.length ≤ 60) with hA | hA
    · refine WC.region ?_
      simp only [Nat.zero_add, List.nil_append] at h0
      obtain ⟨wo, wc, rfl, hwc⟩ := h0.form
      refine WL.y rfl (Yd.move rfl) ?_
      refine WL.ca rfl (Ent.func Try.call10 rfl) (new_tells _ rs (C0 ++ H) (h0.rs.mono (by repeat (first | exact Gr.refl | exact Gr.left Gr.refl | exact Gr.nil | exact Gr.app (Gr.left Gr.refl) | refine Gr.cons ?_ | refine Gr.app ?_ | refine Gr.both ?_ ?_ | refine Gr.put (by repeat (first | exact List.mem_cons_self | apply List.mem_cons_of_mem | apply List.mem_append_right)) ?_))) hl) ?_
      rintro qq H1 hq
      first | (rw [if_pos hA] at hq; obtain ⟨p, C1, rfl, h1, rfl⟩ := hq) | (rw [if_neg hA] at hq; obtain ⟨rfl, hHq⟩ := hq; rw [hHq])
      refine WL.y rfl (Yd.move rfl) ?_
      refine WL.y rfl (Yd.extract rfl rfl) ?_
      refine WL.y rfl (Yd.extract rfl rfl) ?_
      refine WL.y rfl (Yd.assign rfl) ?_
      refine WL.y rfl (Yd.assign rfl) ?_
      refine WL.nil ?_
      refine DN.then_normal ?_
      refine WC.seq ?_
      refine WC.region ?_
      refine WL.y rfl (Yd.move rfl) ?_
      refine WL.ca rfl (Ent.func Try.call16 rfl) (rnew_tells _ rs _ (hv.mono (by repeat (first | exact Gr.refl | exact Gr.left Gr.refl | exact Gr.nil | exact Gr.app (Gr.left Gr.refl) | refine Gr.cons ?_ | refine Gr.app ?_ | refine Gr.both ?_ ?_ | refine Gr.put (by repeat (first | exact List.mem_cons_self | apply List.mem_cons_of_mem | apply List.mem_append_right)) ?_))) hl) ?_
      rintro qq H2 hq2
      first | (rw [if_pos hA] at hq2; obtain ⟨q, C2, rfl, h2, rfl⟩ := hq2) | (rw [if_neg hA] at hq2; obtain ⟨rfl, hHq2⟩ := hq2; rw [hHq2])
      refine WL.y rfl (Yd.move rfl) ?_
      refine WL.y rfl (Yd.extract rfl rfl) ?_
      refine WL.y rfl (Yd.extract rfl rfl) ?_
      refine WL.y rfl (Yd.assign rfl) ?_
      refine WL.y rfl (Yd.assign rfl) ?_
      refine WL.nil ?_
      refine DN.then_normal ?_
      refine WC.seq ?_
      refine WC.seq ?_
      refine WC.region ?_
      refine WL.y rfl (Yd.move rfl) ?_
      refine WL.y rfl (Yd.neq rfl rfl) ?_
      refine WL.renamed (t := 38) (v := .bool false) rfl (congrArg Value.bool (by decide)) ?_
      refine WL.nil ?_
      refine DN.then_normal ?_
      refine WC.no rfl ?_
      refine WC.skip ?_
      refine DN.then_normal ?_
      refine WC.seq ?_
      refine WC.seq ?_
      refine WC.region ?_
      refine WL.y rfl (Yd.move rfl) ?_
      refine WL.y rfl (Yd.eqlNil Try.underlying26 rfl rfl) ?_
      refine WL.renamed (t := 50) (v := .bool false) rfl (congrArg Value.bool (rfl)) ?_
      refine WL.y rfl (Yd.move rfl) ?_
      refine WL.gy (dj := 51) rfl rfl rfl (Yd.move rfl) ?_
      refine WL.gy (dj := 51) rfl rfl rfl (Yd.neq rfl rfl) ?_
      refine WL.renamed (t := 53) (v := .bool false) rfl (congrArg Value.bool (by decide)) ?_
      refine WL.y rfl (Yd.pickF rfl rfl) ?_
      refine WL.nil ?_
      refine DN.then_normal ?_
      refine WC.no rfl ?_
      refine WC.skip ?_
      refine DN.then_normal ?_
      refine WC.seq ?_
      refine WC.seq ?_
      refine WC.region ?_
      refine WL.y rfl (Yd.assign rfl) ?_
      refine WL.nil ?_
      refine DN.then_normal ?_
      refine WC.block ?_
      refine WC.loopS (fun z : Nat × List Value × List Ck => z.1 ≤ rs.length ∧ Own (.slice wo rs.length wc) rs.length z.2.1 3 1 z.2.2) (fun z : Nat × List Value × List Ck => [(10, .int .i64 (z.1 : Int))]) (fun z : Nat × List Value × List Ck => z.2.2 ++ (C2 ++ (C1 ++ H))) (fun z : Nat × List Value × List Ck => rs.length - z.1) (⟨0, ic rs, C0⟩) (show 0 ≤ rs.length ∧ Own (.slice wo rs.length wc) rs.length (ic rs) 3 1 C0 from ⟨Nat.zero_le _, h0⟩) (Sx.put rfl ((by repeat (first | exact Sx.refl | refine Sx.skip rfl ?_)))) (by repeat (first | exact Sp.here | exact Sp.sn | exact Sp.s0 | exact Fr.here | apply Sp.s2 | apply Sp.sx | apply Fr.fc | apply Fr.al | apply Fr.fa | apply Sp.sc | apply Sp.al | apply Sp.sa)) ?_
      rintro ⟨i, xs, Co⟩ hI
      replace hI : i ≤ rs.length ∧ Own (.slice wo rs.length wc) rs.length xs 3 1 Co := hI
      obtain ⟨hi, ho⟩ := hI
      change WC _ _ _ _ _ _ ([(10, .int .i64 (i : Int))] ++ _) (Co ++ (C2 ++ (C1 ++ H)))
      refine WC.seq ?_
      refine WC.seq ?_
      refine WC.region ?_
      refine WL.y rfl (Yd.move rfl) ?_
      refine WL.y rfl (Yd.move rfl) ?_
      refine WL.y rfl (Yd.len (e := 3) (by kernel_rfl) rfl) ?_
      refine WL.y rfl (Yd.lss rfl rfl) ?_
      refine WL.nil ?_
      refine DN.then_normal ?_
      refine WC.ite rfl (fun h58 => ?_) (fun h58 => ?_)
      · have hlt : i < rs.length := by omega
        have hxl := ho.len
        obtain ⟨bo, extra, ewo, rfl, hset, ho2⟩ := ho.set1 (by omega) ((i : Int).toNat * 1) (by omega) (.int .i64 (-7))
        refine WC.skip ?_
        refine DN.then_normal ?_
        refine WC.seq ?_
        refine WC.block ?_
        refine WC.region ?_
        refine WL.y rfl (Yd.move rfl) ?_
        refine WL.y rfl (Yd.move rfl) ?_
        refine WL.y rfl (Yd.indexAddr (e := 3) (s := 1) (b := bo) (o := 0) (n := rs.length) (c := wc) (by kernel_rfl) (by kernel_rfl) (congrArg (fun z => some (Value.slice z rs.length wc)) ewo) rfl (by omega) (by omega)) ?_
        refine WL.s (Hd.store1q (b := bo) (cs := xs ++ extra) (T' := 3) (by kernel_rfl) rfl rfl rfl (by repeat (first | exact Fr.here | apply Fr.fc | apply Fr.al | apply Fr.fa)) (by rw [List.length_append]; omega) hset ⟨rfl, ?_⟩)
        refine WL.nil ?_
        refine DN.block_normal ?_
        refine DN.then_normal ?_
        refine WC.region ?_
        refine WL.y rfl (Yd.move rfl) ?_
        refine WL.y rfl (Yd.add rfl rfl (by omega) (by omega)) ?_
        refine WL.y rfl (Yd.assign rfl) ?_
        refine WL.nil ?_
        exact DN.againS (⟨i + 1, xs.set ((i : Int).toNat * 1) (.int .i64 (-7)), [row bo (xs.set ((i : Int).toNat * 1) (.int .i64 (-7)) ++ extra) 3]⟩) (show (i + 1) ≤ rs.length ∧ Own (.slice wo rs.length wc) rs.length (xs.set ((i : Int).toNat * 1) (.int .i64 (-7))) 3 1 ([row bo (xs.set ((i : Int).toNat * 1) (.int .i64 (-7)) ++ extra) 3]) from ⟨by omega, ho2⟩) (show rs.length - (i + 1) < rs.length - i by omega) (Sx.put rfl ((by repeat (first | exact Sx.refl | refine Sx.skip rfl ?_)))) (by repeat (first | exact Sp.here | exact Sp.sn | exact Sp.s0 | exact Fr.here | apply Sp.s2 | apply Sp.sx | apply Fr.fc | apply Fr.al | apply Fr.fa | apply Sp.sc | apply Sp.al | apply Sp.sa))
      · refine WC.exit ?_
        refine DN.then_exit ?_
        refine DN.then_exit ?_
        refine DN.block_exit ?_
        refine DN.then_normal ?_
        refine WC.seq ?_
        refine WC.seq ?_
        refine WC.region ?_
        refine WL.y rfl (Yd.assign rfl) ?_
        refine WL.nil ?_
        refine DN.then_normal ?_
        refine WC.block ?_
        refine WC.loopS (fun z : Nat × List Int × List Bk × List Ck × List Ck => z.1 ≤ acts.length ∧ DockAt 55 3 p z.2.1 z.2.2.1 z.2.2.2.1 ∧ RfAt 58 3 47 q rs z.2.2.1 z.2.2.2.2 ∧ DInv rs z.2.1 z.2.2.1) (fun z : Nat × List Int × List Bk × List Ck × List Ck => [(11, .int .i64 (z.1 : Int))]) (fun z : Nat × List Int × List Bk × List Ck × List Ck => z.2.2.2.1 ++ (z.2.2.2.2 ++ H)) (fun z : Nat × List Int × List Bk × List Ck × List Ck => acts.length - z.1) (⟨0, rs, [], C1, C2⟩) (show 0 ≤ acts.length ∧ DockAt 55 3 p rs [] C1 ∧ RfAt 58 3 47 q rs [] C2 ∧ DInv rs rs [] from ⟨Nat.zero_le _, h1, h2, DInv.start (goodOk hA.1) hA.2⟩) (Sx.put rfl ((by repeat (first | exact Sx.refl | refine Sx.skip rfl ?_)))) (by repeat (first | exact Sp.here | exact Sp.sn | exact Sp.s0 | exact Fr.here | apply Sp.s2 | apply Sp.sx | apply Fr.fc | apply Fr.al | apply Fr.fa | apply Sp.sc | apply Sp.al | apply Sp.sa)) ?_
        rintro ⟨i, rs1, L1, C3, C4⟩ hI
        replace hI : i ≤ acts.length ∧ DockAt 55 3 p rs1 L1 C3 ∧ RfAt 58 3 47 q rs L1 C4 ∧ DInv rs rs1 L1 := hI
        obtain ⟨hi, h3, h4, inv⟩ := hI
        change WC _ _ _ _ _ _ ([(11, .int .i64 (i : Int))] ++ _) (C3 ++ (C4 ++ H))
        refine WC.seq ?_
        refine WC.seq ?_
        refine WC.region ?_
        refine WL.y rfl (Yd.move rfl) ?_
        refine WL.y rfl (Yd.move rfl) ?_
        refine WL.y rfl (Yd.len (e := 33) (by kernel_rfl) rfl) ?_
        refine WL.y rfl (Yd.lss rfl rfl) ?_
        refine WL.y rfl (Yd.move rfl) ?_
        refine WL.partP (t := 68) rfl (fun hg68 => ?_) (fun hg68 => ?_)
        · refine WL.gy (dj := 68) rfl rfl rfl (Yd.move rfl) ?_
          refine WL.gy (dj := 68) rfl rfl rfl (Yd.lss rfl rfl) ?_
          refine WL.y rfl (Yd.pickT rfl rfl) ?_
          refine WL.nil ?_
          refine DN.then_normal ?_
          refine WC.ite rfl (fun h71 => ?_) (fun h71 => ?_)
          · have hlt : i < acts.length := by omega
            obtain ⟨ak, ak2, ak3, ak4, hak⟩ := acs_ex acts i hlt
            have hlen := inv.len
            have hfew := inv.few
            have hmany := inv.many
            refine WC.skip ?_
            refine DN.then_normal ?_
            refine WC.seq ?_
            refine WC.block ?_
            refine WC.seq ?_
            refine WC.region ?_
            refine WL.y rfl (Yd.move rfl) ?_
            refine WL.y rfl (Yd.move rfl) ?_
            refine WL.elemA (e := 33) (s := 4) (by kernel_rfl) (by kernel_rfl) (by kernel_rfl) rfl rfl (rfl) (hva.mono (by repeat (first | exact Gr.refl | exact Gr.left Gr.refl | exact Gr.nil | exact Gr.app (Gr.left Gr.refl) | refine Gr.cons ?_ | refine Gr.app ?_ | refine Gr.both ?_ ?_ | refine Gr.put (by repeat (first | exact List.mem_cons_self | apply List.mem_cons_of_mem | apply List.mem_append_right)) ?_))) (hak) (by rfl) (by omega) (hlt) rfl rfl ?_
            intro p76
            refine WL.h rfl (Hd.alloc (zs := [.int .i64 0, .int .u32 0, .int .i64 0, .int .i64 0]) (by kernel_rfl) fun b12 => ⟨_, rfl, ?_⟩)
            refine WL.s (Hd.storeAll (n := 4) (by kernel_rfl) rfl rfl (by rfl) (by repeat (first | exact fun _ h => absurd h List.not_mem_nil | refine List.forall_mem_cons.2 ⟨by first | rfl | assumption, ?_⟩)) (by repeat (first | exact Fr.here | apply Fr.fc | apply Fr.al | apply Fr.fa)) (by rfl) ⟨rfl, ?_⟩)
            refine WL.nil ?_
            refine DN.then_normal ?_
            refine WC.seq ?_
            refine WC.region ?_
            refine WL.y rfl (Yd.move rfl) ?_
            refine WL.h rfl (Hd.loadAll (n := 4) (by kernel_rfl) rfl (by repeat (first | exact List.mem_cons_self | apply List.mem_cons_of_mem | apply List.mem_append_right)) (by rfl) ⟨_, rfl, ?_⟩)
            refine WL.c rfl (Ent.func Try.call11 rfl) (act3_tells p rs rs1 L1 C3 h3 inv ak ak2 ak3 ak4) (Sp.p (by repeat (first | exact Sp.here | exact Sp.sn | exact Sp.s0 | exact Fr.here | apply Sp.s2 | apply Sp.sx | apply Fr.fc | apply Fr.al | apply Fr.fa | apply Sp.sc | apply Sp.al | apply Sp.sa))) ?_
            rintro qq C6 ⟨rfl, h6⟩
            have inv3 := inv.act ak ak2 ak3 ak4
            have hyes : isBook ak = true → (actR rs1 L1 ak ak2 ak3 ak4).1 = (resOf (bookOf rs1 L1 ak2 ak3 ak4)).1 ∧ (actR rs1 L1 ak ak2 ak3 ak4).2 = (resOf (bookOf rs1 L1 ak2 ak3 ak4)).2 ∧ actL rs1 L1 ak ak2 ak3 ak4 = listB L1 (bookOf rs1 L1 ak2 ak3 ak4) ak2 ak4 := fun e => by simp only [actR, actL, e, if_true]; exact ⟨trivial, trivial, trivial⟩
            have hnot : isBook ak = false → (actR rs1 L1 ak ak2 ak3 ak4).1 = 0 ∧ (actR rs1 L1 ak ak2 ak3 ak4).2 = resC (findB L1 ak2) ∧ actL rs1 L1 ak ak2 ak3 ak4 = listC L1 (findB L1 ak2) ak2 := fun e => by simp only [actR, actL, e, Bool.false_eq_true, if_false]; exact ⟨trivial, trivial, trivial⟩
            generalize (actR rs1 L1 ak ak2 ak3 ak4).1 = x3 at *
            generalize (actR rs1 L1 ak ak2 ak3 ak4).2 = v3 at *
            generalize actRs rs1 L1 ak ak2 ak3 ak4 = rs3 at *
            generalize actL rs1 L1 ak ak2 ak3 ak4 = L3 at *
            refine WL.y rfl (Yd.move rfl) ?_
            refine WL.y rfl (Yd.extract rfl rfl) ?_
            refine WL.y rfl (Yd.extract rfl rfl) ?_
            refine WL.y rfl (Yd.assign rfl) ?_
            refine WL.y rfl (Yd.assign rfl) ?_
            refine WL.nil ?_
            refine DN.then_normal ?_
            refine WC.seq ?_
            refine WC.region ?_
            refine WL.y rfl (Yd.assign rfl) ?_
            refine WL.nil ?_
            refine DN.then_normal ?_
            refine WC.seq ?_
            refine WC.region ?_
            refine WL.y rfl (Yd.assign rfl) ?_
            refine WL.nil ?_
            refine DN.then_normal ?_
            refine WC.cutK (fun z : List Ck => RfAt 58 3 47 q rs L3 z) (fun z : List Ck => [(15, .int .i64 x3), (16, .int .i64 v3)]) (fun z : List Ck => C6 ++ (z ++ H)) ?_ ?_
            · refine WC.seq ?_
              refine WC.region ?_
              refine WL.y rfl (Yd.fieldAddr (k := 0) (by kernel_rfl) rfl) ?_
              refine WL.h rfl (Hd.load1 (by kernel_rfl) rfl (by repeat (first | exact List.mem_cons_self | apply List.mem_cons_of_mem | apply List.mem_append_right)) (by rfl) ⟨_, rfl, ?_⟩)
              refine WL.y rfl (Yd.geq rfl rfl) ?_
              refine WL.y rfl (Yd.move rfl) ?_
              refine WL.partP (t := 87) rfl (fun hg87 => ?_) (fun hg87 => ?_)
              · refine WL.gy (dj := 87) rfl rfl rfl (Yd.fieldAddr (k := 0) (by kernel_rfl) rfl) ?_
                refine WL.gh (dj := 87) rfl rfl rfl (Hd.load1 (by kernel_rfl) rfl (by repeat (first | exact List.mem_cons_self | apply List.mem_cons_of_mem | apply List.mem_append_right)) (by rfl) ⟨_, rfl, ?_⟩)
                refine WL.gy (dj := 87) rfl rfl rfl (Yd.leq rfl rfl) ?_
                refine WL.y rfl (Yd.pickT rfl rfl) ?_
                refine WL.nil ?_
                refine DN.then_normal ?_
                refine WC.ite rfl (fun h91 => ?_) (fun h91 => ?_)
                · obtain ⟨rfl, rfl, rfl⟩ := hyes (by unfold isBook; rw [Bool.and_eq_true, decide_eq_true_eq, decide_eq_true_eq]; omega)
                  refine WC.region ?_
                  refine WL.y rfl (Yd.move rfl) ?_
                  refine WL.y rfl (Yd.fieldAddr (k := 1) (by kernel_rfl) rfl) ?_
                  refine WL.h rfl (Hd.load1 (by kernel_rfl) rfl (by repeat (first | exact List.mem_cons_self | apply List.mem_cons_of_mem | apply List.mem_append_right)) (by rfl) ⟨_, rfl, ?_⟩)
                  refine WL.y rfl (Yd.fieldAddr (k := 2) (by kernel_rfl) rfl) ?_
                  refine WL.h rfl (Hd.load1 (by kernel_rfl) rfl (by repeat (first | exact List.mem_cons_self | apply List.mem_cons_of_mem | apply List.mem_append_right)) (by rfl) ⟨_, rfl, ?_⟩)
                  refine WL.y rfl (Yd.fieldAddr (k := 3) (by kernel_rfl) rfl) ?_
                  refine WL.h rfl (Hd.load1 (by kernel_rfl) rfl (by repeat (first | exact List.mem_cons_self | apply List.mem_cons_of_mem | apply List.mem_append_right)) (by rfl) ⟨_, rfl, ?_⟩)
                  refine WL.c rfl (Ent.func Try.call17 rfl) (rbook_tells q rs rs1 L1 C4 h4 inv ak2 ak3 ak4) (Sp.p (by repeat (first | exact Sp.here | exact Sp.sn | exact Sp.s0 | exact Fr.here | apply Sp.s2 | apply Sp.sx | apply Fr.fc | apply Fr.al | apply Fr.fa | apply Sp.sc | apply Sp.al | apply Sp.sa))) ?_
                  rintro qq C7 ⟨rfl, h7⟩
                  refine WL.y rfl (Yd.move rfl) ?_
                  refine WL.y rfl (Yd.extract rfl rfl) ?_
                  refine WL.y rfl (Yd.extract rfl rfl) ?_
                  refine WL.y rfl (Yd.assign rfl) ?_
                  refine WL.y rfl (Yd.assign rfl) ?_
                  refine WL.nil ?_
                  refine DN.fit (C := C6 ++ (C7 ++ H)) (by repeat (first | exact Sp.here | exact Sp.sn | exact Sp.s0 | exact Fr.here | apply Sp.s2 | apply Sp.sx | apply Fr.fc | apply Fr.al | apply Fr.fa | apply Sp.sc | apply Sp.al | apply Sp.sa)) ?_
                  exact DN.reachK (C7) (h7) (Sx.put rfl (Sx.put rfl ((by repeat (first | exact Sx.refl | refine Sx.skip rfl ?_))))) (Sp.all (by repeat (first | exact Sp.here | exact Sp.sn | exact Sp.s0 | exact Fr.here | apply Sp.s2 | apply Sp.sx | apply Fr.fc | apply Fr.al | apply Fr.fa | apply Sp.sc | apply Sp.al | apply Sp.sa)))
                · obtain ⟨rfl, rfl, rfl⟩ := hnot (by unfold isBook; rw [Bool.and_eq_false_iff, decide_eq_false_iff_not, decide_eq_false_iff_not]; omega)
                  refine WC.region ?_
                  refine WL.y rfl (Yd.move rfl) ?_
                  refine WL.y rfl (Yd.fieldAddr (k := 1) (by kernel_rfl) rfl) ?_
                  refine WL.h rfl (Hd.load1 (by kernel_rfl) rfl (by repeat (first | exact List.mem_cons_self | apply List.mem_cons_of_mem | apply List.mem_append_right)) (by rfl) ⟨_, rfl, ?_⟩)
                  refine WL.c rfl (Ent.func Try.call18 rfl) (rcancel_tells q rs L1 C4 h4 inv.many inv.keys ak2) (Sp.p (by repeat (first | exact Sp.here | exact Sp.sn | exact Sp.s0 | exact Fr.here | apply Sp.s2 | apply Sp.sx | apply Fr.fc | apply Fr.al | apply Fr.fa | apply Sp.sc | apply Sp.al | apply Sp.sa))) ?_
                  rintro qq C7 ⟨rfl, h7⟩
                  refine WL.y rfl (Yd.assign rfl) ?_
                  refine WL.nil ?_
                  refine DN.fit (C := C6 ++ (C7 ++ H)) (by repeat (first | exact Sp.here | exact Sp.sn | exact Sp.s0 | exact Fr.here | apply Sp.s2 | apply Sp.sx | apply Fr.fc | apply Fr.al | apply Fr.fa | apply Sp.sc | apply Sp.al | apply Sp.sa)) ?_
                  exact DN.reachK (C7) (h7) (Sx.put rfl (Sx.put rfl ((by repeat (first | exact Sx.refl | refine Sx.skip rfl ?_))))) (Sp.all (by repeat (first | exact Sp.here | exact Sp.sn | exact Sp.s0 | exact Fr.here | apply Sp.s2 | apply Sp.sx | apply Fr.fc | apply Fr.al | apply Fr.fa | apply Sp.sc | apply Sp.al | apply Sp.sa)))
              · refine WL.gn (dj := 87) rfl rfl rfl rfl ?_
                refine WL.gn (dj := 87) rfl rfl rfl rfl ?_
                refine WL.gn (dj := 87) rfl rfl rfl rfl ?_
                refine WL.y rfl (Yd.pickF rfl rfl) ?_
                refine WL.nil ?_
                refine DN.then_normal ?_
                refine WC.no rfl ?_
                obtain ⟨rfl, rfl, rfl⟩ := hnot (by unfold isBook; rw [Bool.and_eq_false_iff, decide_eq_false_iff_not, decide_eq_false_iff_not]; omega)
                refine WC.region ?_
                refine WL.y rfl (Yd.move rfl) ?_
                refine WL.y rfl (Yd.fieldAddr (k := 1) (by kernel_rfl) rfl) ?_
                refine WL.h rfl (Hd.load1 (by kernel_rfl) rfl (by repeat (first | exact List.mem_cons_self | apply List.mem_cons_of_mem | apply List.mem_append_right)) (by rfl) ⟨_, rfl, ?_⟩)
                refine WL.c rfl (Ent.func Try.call18 rfl) (rcancel_tells q rs L1 C4 h4 inv.many inv.keys ak2) (Sp.p (by repeat (first | exact Sp.here | exact Sp.sn | exact Sp.s0 | exact Fr.here | apply Sp.s2 | apply Sp.sx | apply Fr.fc | apply Fr.al | apply Fr.fa | apply Sp.sc | apply Sp.al | apply Sp.sa))) ?_
                rintro qq C7 ⟨rfl, h7⟩
                refine WL.y rfl (Yd.assign rfl) ?_
                refine WL.nil ?_
                refine DN.fit (C := C6 ++ (C7 ++ H)) (by repeat (first | exact Sp.here | exact Sp.sn | exact Sp.s0 | exact Fr.here | apply Sp.s2 | apply Sp.sx | apply Fr.fc | apply Fr.al | apply Fr.fa | apply Sp.sc | apply Sp.al | apply Sp.sa)) ?_
                exact DN.reachK (C7) (h7) (Sx.put rfl (Sx.put rfl ((by repeat (first | exact Sx.refl | refine Sx.skip rfl ?_))))) (Sp.all (by repeat (first | exact Sp.here | exact Sp.sn | exact Sp.s0 | exact Fr.here | apply Sp.s2 | apply Sp.sx | apply Fr.fc | apply Fr.al | apply Fr.fa | apply Sp.sc | apply Sp.al | apply Sp.sa)))
            · intro C7 h7
              refine WC.seq ?_
              refine WC.region ?_
              refine WL.y rfl (Yd.move rfl) ?_
              refine WL.c rfl (Ent.func Try.call19 rfl) (bookings_tells p rs3 L3 C6 h6 inv3.many) (Sp.p (by repeat (first | exact Sp.here | exact Sp.sn | exact Sp.s0 | exact Fr.here | apply Sp.s2 | apply Sp.sx | apply Fr.fc | apply Fr.al | apply Fr.fa | apply Sp.sc | apply Sp.al | apply Sp.sa))) ?_
              rintro qq C8 ⟨S, Cs, hT, ho, rfl⟩
              have hSl := hT.perm.length_eq
              have hmany3 := inv3.many
              obtain ⟨so, sc, rfl, hsc⟩ := ho.form
              refine WL.y rfl (Yd.assign rfl) ?_
              refine WL.nil ?_
              refine DN.then_normal ?_
              refine WC.seq ?_
              refine WC.cutK (fun _z : Unit => True) (fun _z : Unit => [(123, .bool false)]) (fun _z : Unit => Cs ++ (C6 ++ (C7 ++ H))) ?_ ?_
              · refine WC.region ?_
                refine WL.y rfl (Yd.move rfl) ?_
                refine WL.y rfl (Yd.move rfl) ?_
                refine WL.y rfl (Yd.neq rfl rfl) ?_
                refine WL.renamed (t := 111) (v := .bool false) rfl (congrArg Value.bool (decide_eq_false (by simp))) ?_
                refine WL.y rfl (Yd.move rfl) ?_
                refine WL.gy (dj := 112) rfl rfl rfl (Yd.move rfl) ?_
                refine WL.gy (dj := 112) rfl rfl rfl (Yd.move rfl) ?_
                refine WL.gy (dj := 112) rfl rfl rfl (Yd.neq rfl rfl) ?_
                refine WL.renamed (t := 115) (v := .bool false) rfl (congrArg Value.bool (decide_eq_false (by simp))) ?_
                refine WL.y rfl (Yd.pickF rfl rfl) ?_
                refine WL.y rfl (Yd.move rfl) ?_
                refine WL.gy (dj := 117) rfl rfl rfl (Yd.move rfl) ?_
                refine WL.gy (dj := 117) rfl rfl rfl (Yd.move rfl) ?_
                refine WL.gc (dj := 117) rfl rfl rfl (Ent.func Try.call21 rfl) (rbookings_tells q rs rs3 L3 C7 h7 inv3) (Sp.p (by repeat (first | exact Sp.here | exact Sp.sn | exact Sp.s0 | exact Fr.here | apply Sp.s2 | apply Sp.sx | apply Fr.fc | apply Fr.al | apply Fr.fa | apply Sp.sc | apply Sp.al | apply Sp.sa))) ?_
                rintro qq C9 ⟨S9, Cs9, hT9, ho9, rfl⟩
                have hSl9 := hT9.perm.length_eq
                obtain ⟨so9, sc9, rfl, hsc9⟩ := ho9.form
                refine WL.grf (dj := 117) rfl rfl rfl (Ent.func Try.call20 rfl) (same_reads _ _ S S9 (Cs ++ Cs9) (ho.rs.mono (by repeat (first | exact Gr.refl | exact Gr.left Gr.refl | exact Gr.nil | exact Gr.app (Gr.left Gr.refl) | refine Gr.cons ?_ | refine Gr.app ?_ | refine Gr.both ?_ ?_ | refine Gr.put (by repeat (first | exact List.mem_cons_self | apply List.mem_cons_of_mem | apply List.mem_append_right)) ?_))) (ho9.rs.mono (by repeat (first | exact Gr.refl | exact Gr.left Gr.refl | exact Gr.nil | exact Gr.app (Gr.left Gr.refl) | refine Gr.cons ?_ | refine Gr.app ?_ | refine Gr.both ?_ ?_ | refine Gr.put (by repeat (first | exact List.mem_cons_self | apply List.mem_cons_of_mem | apply List.mem_append_right)) ?_))) (by omega) (by omega)) (by repeat (first | exact Sp.here | exact Sp.sn | exact Sp.s0 | exact Fr.here | apply Sp.s2 | apply Sp.sx | apply Fr.fc | apply Fr.al | apply Fr.fa | apply Sp.sc | apply Sp.al | apply Sp.sa)) ?_
                refine WL.renamed (t := 121) (v := .bool true) rfl (congrArg Value.bool (decide_eq_true (hT.unique inv3.keys hT9))) ?_
                refine WL.gy (dj := 117) rfl rfl rfl (Yd.notB rfl) ?_
                refine WL.y rfl (Yd.pickF rfl rfl) ?_
                refine WL.nil ?_
                refine DN.fit (C := Cs ++ (C6 ++ (C7 ++ H))) (by repeat (first | exact Sp.here | exact Sp.sn | exact Sp.s0 | exact Fr.here | apply Sp.s2 | apply Sp.sx | apply Fr.fc | apply Fr.al | apply Fr.fa | apply Sp.sc | apply Sp.al | apply Sp.sa)) ?_
                exact DN.reachK (()) (trivial) (Sx.put rfl ((by repeat (first | exact Sx.refl | refine Sx.skip rfl ?_)))) (Sp.all (by repeat (first | exact Sp.here | exact Sp.sn | exact Sp.s0 | exact Fr.here | apply Sp.s2 | apply Sp.sx | apply Fr.fc | apply Fr.al | apply Fr.fa | apply Sp.sc | apply Sp.al | apply Sp.sa)))
              · intro _ _
                refine WC.no rfl ?_
                refine WC.skip ?_
                refine DN.then_normal ?_
                refine WC.seq ?_
                refine WC.seq ?_
                refine WC.region ?_
                refine WL.y rfl (Yd.assign rfl) ?_
                refine WL.nil ?_
                refine DN.then_normal ?_
                refine WC.block ?_
                refine WC.loopS (fun z : Nat => z ≤ rs.length + 2) (fun z : Nat => [(18, .int .i64 ((z : Int) - 1))]) (fun z : Nat => Cs ++ (C6 ++ (C7 ++ H))) (fun z : Nat => rs.length + 2 - z) (0) (show 0 ≤ rs.length + 2 from Nat.zero_le _) (Sx.put rfl ((by repeat (first | exact Sx.refl | refine Sx.skip rfl ?_)))) (by repeat (first | exact Sp.here | exact Sp.sn | exact Sp.s0 | exact Fr.here | apply Sp.s2 | apply Sp.sx | apply Fr.fc | apply Fr.al | apply Fr.fa | apply Sp.sc | apply Sp.al | apply Sp.sa)) ?_
                rintro k hI
                replace hI : k ≤ rs.length + 2 := hI
                obtain hk := hI
                change WC _ _ _ _ _ _ ([(18, .int .i64 ((k : Int) - 1))] ++ _) (Cs ++ (C6 ++ (C7 ++ H)))
                refine WC.seq ?_
                refine WC.seq ?_
                refine WC.region ?_
                refine WL.y rfl (Yd.move rfl) ?_
                refine WL.y rfl (Yd.move rfl) ?_
                refine WL.y rfl (Yd.len (e := 3) (by kernel_rfl) rfl) ?_
                refine WL.y rfl (Yd.leq rfl rfl) ?_
                refine WL.nil ?_
                refine DN.then_normal ?_
                refine WC.ite rfl (fun h127 => ?_) (fun h127 => ?_)
                · have hkl : k < rs.length + 2 := by omega
                  refine WC.skip ?_
                  refine DN.then_normal ?_
                  refine WC.seq ?_
                  refine WC.block ?_
                  refine WC.seq ?_
                  refine WC.region ?_
                  refine WL.y rfl (Yd.move rfl) ?_
                  refine WL.y rfl (Yd.move rfl) ?_
                  refine WL.rf rfl (Ent.func Try.call15 rfl) (room_reads p rs3 L3 C6 h6 ((k : Int) - 1)) (by repeat (first | exact Sp.here | exact Sp.sn | exact Sp.s0 | exact Fr.here | apply Sp.s2 | apply Sp.sx | apply Fr.fc | apply Fr.al | apply Fr.fa | apply Sp.sc | apply Sp.al | apply Sp.sa)) ?_
                  refine WL.y rfl (Yd.move rfl) ?_
                  refine WL.y rfl (Yd.move rfl) ?_
                  refine WL.rf rfl (Ent.func Try.call22 rfl) (rroom_reads q rs rs3 L3 C7 h7 inv3 ((k : Int) - 1)) (by repeat (first | exact Sp.here | exact Sp.sn | exact Sp.s0 | exact Fr.here | apply Sp.s2 | apply Sp.sx | apply Fr.fc | apply Fr.al | apply Fr.fa | apply Sp.sc | apply Sp.al | apply Sp.sa)) ?_
                  refine WL.y rfl (Yd.neq rfl rfl) ?_
                  refine WL.renamed (t := 136) (v := .bool false) rfl (congrArg Value.bool (decide_eq_false (by simp))) ?_
                  refine WL.nil ?_
                  refine DN.then_normal ?_
                  refine WC.no rfl ?_
                  refine WC.skip ?_
                  refine DN.block_normal ?_
                  refine DN.then_normal ?_
                  refine WC.region ?_
                  refine WL.y rfl (Yd.move rfl) ?_
                  refine WL.y rfl (Yd.add rfl rfl (by omega) (by omega)) ?_
                  refine WL.y rfl (Yd.assign rfl) ?_
                  refine WL.nil ?_
                  have e18 : (k : Int) - 1 + 1 = ((k + 1 : Nat) : Int) - 1 := by omega
                  rw [e18]
                  exact DN.againS (k + 1) (show (k + 1) ≤ rs.length + 2 from (by omega)) (show rs.length + 2 - (k + 1) < rs.length + 2 - k by omega) (Sx.put rfl ((by repeat (first | exact Sx.refl | refine Sx.skip rfl ?_)))) (by repeat (first | exact Sp.here | exact Sp.sn | exact Sp.s0 | exact Fr.here | apply Sp.s2 | apply Sp.sx | apply Fr.fc | apply Fr.al | apply Fr.fa | apply Sp.sc | apply Sp.al | apply Sp.sa))
                · refine WC.exit ?_
                  refine DN.then_exit ?_
                  refine DN.then_exit ?_
                  refine DN.block_exit ?_
                  refine DN.then_normal ?_
                  refine WC.seq ?_
                  refine WC.region ?_
                  refine WL.y rfl (Yd.assign rfl) ?_
                  refine WL.nil ?_
                  refine DN.then_normal ?_
                  refine WC.block ?_
                  refine WC.loopS (fun z : Nat × List Value × List Ck => z.1 ≤ S.length ∧ Own (.slice so S.length sc) S.length z.2.1 47 3 z.2.2) (fun z : Nat × List Value × List Ck => [(19, .int .i64 (z.1 : Int))]) (fun z : Nat × List Value × List Ck => z.2.2 ++ (C6 ++ (C7 ++ H))) (fun z : Nat × List Value × List Ck => S.length - z.1) (⟨0, S.flatMap encB, Cs⟩) (show 0 ≤ S.length ∧ Own (.slice so S.length sc) S.length (S.flatMap encB) 47 3 Cs from ⟨Nat.zero_le _, ho⟩) (Sx.put rfl ((by repeat (first | exact Sx.refl | refine Sx.skip rfl ?_)))) (by repeat (first | exact Sp.here | exact Sp.sn | exact Sp.s0 | exact Fr.here | apply Sp.s2 | apply Sp.sx | apply Fr.fc | apply Fr.al | apply Fr.fa | apply Sp.sc | apply Sp.al | apply Sp.sa)) ?_
                  rintro ⟨k, xs, C9⟩ hI
                  replace hI : k ≤ S.length ∧ Own (.slice so S.length sc) S.length xs 47 3 C9 := hI
                  obtain ⟨hk, ho9⟩ := hI
                  change WC _ _ _ _ _ _ ([(19, .int .i64 (k : Int))] ++ _) (C9 ++ (C6 ++ (C7 ++ H)))
                  refine WC.seq ?_
                  refine WC.seq ?_
                  refine WC.region ?_
                  refine WL.y rfl (Yd.move rfl) ?_
                  refine WL.y rfl (Yd.move rfl) ?_
                  refine WL.y rfl (Yd.len (e := 47) (by kernel_rfl) rfl) ?_
                  refine WL.y rfl (Yd.lss rfl rfl) ?_
                  refine WL.nil ?_
                  refine DN.then_normal ?_
                  refine WC.ite rfl (fun h140 => ?_) (fun h140 => ?_)
                  · have hkl : k < S.length := by omega
                    have hxl := ho9.len
                    obtain ⟨bo, extra, eso, rfl, hset, ho2⟩ := ho9.set1 (by omega) ((k : Int).toNat * 3 + 2) (by omega) (.int .i64 (-7))
                    refine WC.skip ?_
                    refine DN.then_normal ?_
                    refine WC.seq ?_
                    refine WC.block ?_
                    refine WC.region ?_
                    refine WL.y rfl (Yd.move rfl) ?_
                    refine WL.y rfl (Yd.move rfl) ?_
                    refine WL.y rfl (Yd.indexAddr (e := 47) (s := 3) (b := bo) (o := 0) (n := S.length) (c := sc) (by kernel_rfl) (by kernel_rfl) (congrArg (fun z => some (Value.slice z S.length sc)) eso) rfl (by omega) (by omega)) ?_
                    refine WL.y rfl (Yd.fieldAddr (k := 2) (by kernel_rfl) rfl) ?_
                    refine WL.s (Hd.store1q (b := bo) (cs := xs ++ extra) (T' := 47) (by kernel_rfl) rfl rfl rfl (by repeat (first | exact Fr.here | apply Fr.fc | apply Fr.al | apply Fr.fa)) (by rw [List.length_append]; omega) ((congrArg (fun z => (xs ++ extra).set z (Value.int .i64 (-7))) (Nat.add_assoc 0 _ 2)).trans hset) ⟨rfl, ?_⟩)
                    refine WL.nil ?_
                    refine DN.block_normal ?_
                    refine DN.then_normal ?_
                    refine WC.region ?_
                    refine WL.y rfl (Yd.move rfl) ?_
                    refine WL.y rfl (Yd.add rfl rfl (by omega) (by omega)) ?_
                    refine WL.y rfl (Yd.assign rfl) ?_
                    refine WL.nil ?_
                    exact DN.againS (⟨k + 1, xs.set ((k : Int).toNat * 3 + 2) (.int .i64 (-7)), [row bo (xs.set ((k : Int).toNat * 3 + 2) (.int .i64 (-7)) ++ extra) 47]⟩) (show (k + 1) ≤ S.length ∧ Own (.slice so S.length sc) S.length (xs.set ((k : Int).toNat * 3 + 2) (.int .i64 (-7))) 47 3 ([row bo (xs.set ((k : Int).toNat * 3 + 2) (.int .i64 (-7)) ++ extra) 47]) from ⟨by omega, ho2⟩) (show S.length - (k + 1) < S.length - k by omega) (Sx.put rfl ((by repeat (first | exact Sx.refl | refine Sx.skip rfl ?_)))) (by repeat (first | exact Sp.here | exact Sp.sn | exact Sp.s0 | exact Fr.here | apply Sp.s2 | apply Sp.sx | apply Fr.fc | apply Fr.al | apply Fr.fa | apply Sp.sc | apply Sp.al | apply Sp.sa))
                  · refine WC.exit ?_
                    refine DN.then_exit ?_
                    refine DN.then_exit ?_
                    refine DN.block_exit ?_
                    refine DN.block_normal ?_
                    refine DN.then_normal ?_
                    refine WC.region ?_
                    refine WL.y rfl (Yd.move rfl) ?_
                    refine WL.y rfl (Yd.add rfl rfl (by omega) (by omega)) ?_
                    refine WL.y rfl (Yd.assign rfl) ?_
                    refine WL.nil ?_
                    exact DN.againS (⟨i + 1, rs3, L3, C6, C7⟩) (show (i + 1) ≤ acts.length ∧ DockAt 55 3 p rs3 L3 C6 ∧ RfAt 58 3 47 q rs L3 C7 ∧ DInv rs rs3 L3 from ⟨by omega, h6, h7, inv3⟩) (show acts.length - (i + 1) < acts.length - i by omega) (Sx.put rfl ((by repeat (first | exact Sx.refl | refine Sx.skip rfl ?_)))) (by repeat (first | exact Sp.here | exact Sp.sn | exact Sp.s0 | exact Fr.here | apply Sp.s2 | apply Sp.sx | apply Fr.fc | apply Fr.al | apply Fr.fa | apply Sp.sc | apply Sp.al | apply Sp.sa))
          · refine WC.exit ?_
            refine DN.then_exit ?_
            refine DN.then_exit ?_
            refine DN.block_exit ?_
            refine DN.then_normal ?_
            refine WC.seq ?_
            refine WC.region ?_
            refine WL.r rfl (Ent.func Try.call9 rfl) (known11 _) ?_
            refine WL.y rfl (Yd.assign rfl) ?_
            refine WL.nil ?_
            refine DN.then_normal ?_
            refine WC.ret ?_
            refine DN.fit (C := H) (by repeat (first | exact Sp.here | exact Sp.sn | exact Sp.s0 | exact Fr.here | apply Sp.s2 | apply Sp.sx | apply Fr.fc | apply Fr.al | apply Fr.fa | apply Sp.sc | apply Sp.al | apply Sp.sa)) ?_
            refine DN.ret1 Try.results5 rfl ?_
            exact ⟨rfl, rfl⟩
        · refine WL.gn (dj := 68) rfl rfl rfl rfl ?_
          refine WL.gn (dj := 68) rfl rfl rfl rfl ?_
          refine WL.y rfl (Yd.pickF rfl rfl) ?_
          refine WL.nil ?_
          refine DN.then_normal ?_
          refine WC.no rfl ?_
          refine WC.exit ?_
          refine DN.then_exit ?_
          refine DN.then_exit ?_
          refine DN.block_exit ?_
          refine DN.then_normal ?_
          refine WC.seq ?_
          refine WC.region ?_
          refine WL.r rfl (Ent.func Try.call9 rfl) (known11 _) ?_
          refine WL.y rfl (Yd.assign rfl) ?_
          refine WL.nil ?_
          refine DN.then_normal ?_
          refine WC.ret ?_
          refine DN.fit (C := H) (by repeat (first | exact Sp.here | exact Sp.sn | exact Sp.s0 | exact Fr.here | apply Sp.s2 | apply Sp.sx | apply Fr.fc | apply Fr.al | apply Fr.fa | apply Sp.sc | apply Sp.al | apply Sp.sa)) ?_
          refine DN.ret1 Try.results5 rfl ?_
          exact ⟨rfl, rfl⟩
    · refine WC.region ?_
      simp only [Nat.zero_add, List.nil_append] at h0
      obtain ⟨wo, wc, rfl, hwc⟩ := h0.form
      refine WL.y rfl (Yd.move rfl) ?_
      refine WL.ca rfl (Ent.func Try.call10 rfl) (new_tells _ rs (C0 ++ H) (h0.rs.mono (by repeat (first | exact Gr.refl | exact Gr.left Gr.refl | exact Gr.nil | exact Gr.app (Gr.left Gr.refl) | refine Gr.cons ?_ | refine Gr.app ?_ | refine Gr.both ?_ ?_ | refine Gr.put (by repeat (first | exact List.mem_cons_self | apply List.mem_cons_of_mem | apply List.mem_append_right)) ?_))) hl) ?_
      rintro qq H1 hq
      first | (rw [if_pos hA] at hq; obtain ⟨p, C1, rfl, h1, rfl⟩ := hq) | (rw [if_neg hA] at hq; obtain ⟨rfl, hHq⟩ := hq; rw [hHq])
      refine WL.y rfl (Yd.move rfl) ?_
      refine WL.y rfl (Yd.extract rfl rfl) ?_
      refine WL.y rfl (Yd.extract rfl rfl) ?_
      refine WL.y rfl (Yd.assign rfl) ?_
      refine WL.y rfl (Yd.assign rfl) ?_
      refine WL.nil ?_
      refine DN.then_normal ?_
      refine WC.seq ?_
      refine WC.region ?_
      refine WL.y rfl (Yd.move rfl) ?_
      refine WL.ca rfl (Ent.func Try.call16 rfl) (rnew_tells _ rs _ (hv.mono (by repeat (first | exact Gr.refl | exact Gr.left Gr.refl | exact Gr.nil | exact Gr.app (Gr.left Gr.refl) | refine Gr.cons ?_ | refine Gr.app ?_ | refine Gr.both ?_ ?_ | refine Gr.put (by repeat (first | exact List.mem_cons_self | apply List.mem_cons_of_mem | apply List.mem_append_right)) ?_))) hl) ?_
      rintro qq H2 hq2
      first | (rw [if_pos hA] at hq2; obtain ⟨q, C2, rfl, h2, rfl⟩ := hq2) | (rw [if_neg hA] at hq2; obtain ⟨rfl, hHq2⟩ := hq2; rw [hHq2])
      refine WL.y rfl (Yd.move rfl) ?_
      refine WL.y rfl (Yd.extract rfl rfl) ?_
      refine WL.y rfl (Yd.extract rfl rfl) ?_
      refine WL.y rfl (Yd.assign rfl) ?_
      refine WL.y rfl (Yd.assign rfl) ?_
      refine WL.nil ?_
      refine DN.then_normal ?_
      refine WC.seq ?_
      refine WC.seq ?_
      refine WC.region ?_
      refine WL.y rfl (Yd.move rfl) ?_
      refine WL.y rfl (Yd.neq rfl rfl) ?_
      refine WL.renamed (t := 38) (v := .bool true) rfl (congrArg Value.bool (by decide)) ?_
      refine WL.nil ?_
      refine DN.then_normal ?_
      refine WC.yes rfl ?_
      refine WC.seq ?_
      refine WC.region ?_
      refine WL.y rfl (Yd.move rfl) ?_
      refine WL.y rfl (Yd.eqlNil Try.underlying26 rfl rfl) ?_
      refine WL.renamed (t := 40) (v := .bool true) rfl (congrArg Value.bool (rfl)) ?_
      refine WL.y rfl (Yd.move rfl) ?_
      refine WL.gy (dj := 41) rfl rfl rfl (Yd.move rfl) ?_
      refine WL.gy (dj := 41) rfl rfl rfl (Yd.move rfl) ?_
      refine WL.gy (dj := 41) rfl rfl rfl (Yd.eql rfl rfl) ?_
      refine WL.renamed (t := 44) (v := .bool true) rfl (congrArg Value.bool (by decide)) ?_
      refine WL.y rfl (Yd.pickT rfl rfl) ?_
      refine WL.y rfl (Yd.move rfl) ?_
      refine WL.gr (dj := 46) rfl rfl rfl (Ent.func Try.call9 rfl) (known11 _) ?_
      refine WL.y rfl (Yd.pickT rfl rfl) ?_
      refine WL.y rfl (Yd.assign rfl) ?_
      refine WL.nil ?_
      refine DN.then_normal ?_
      refine WC.ret ?_
      refine DN.then_ret ?_
      refine DN.fit (C := H) (by repeat (first | exact Sp.here | exact Sp.sn | exact Sp.s0 | exact Fr.here | apply Sp.s2 | apply Sp.sx | apply Fr.fc | apply Fr.al | apply Fr.fa | apply Sp.sc | apply Sp.al | apply Sp.sa)) ?_
      refine DN.ret1 Try.results5 rfl ?_
      exact ⟨rfl, rfl⟩

end Go.Proofs.Ytmdbmcicbambjaa
