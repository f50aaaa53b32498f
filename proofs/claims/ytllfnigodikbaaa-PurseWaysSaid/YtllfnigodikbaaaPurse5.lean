/-
  The walks of PurseWays and PurseApart.
-/
import Derived.Test.YtllfnigodikbaaaPurse4
set_option linter.unusedVariables false
set_option linter.unusedSimpArgs false
set_option maxHeartbeats 4000000
namespace Go.Proofs.Ytllfnigodikbaaa
open Go.SL


/-- drayage/drayagelaw10.PurseWays -/
theorem law_PurseWays (H : List Ck) (v : Value) (gs : List Au) (hv : Rs v gs.length (gs.flatMap cellsU) H) (hl : gs.length ≤ 9223372036854775807) (va : Value) (acts : List Aq) (hva : Rs va acts.length (acts.flatMap cellsQ) H) (hla : acts.length ≤ 9223372036854775807) (o : BitVec 32) (nm : ByteArray) (n : Int) (c : Bool) : Reads Try.prog 6 [v, va, .int .u32 o.toNat, .string nm, .int .i64 n, .bool c] H (.bool true) := by
  refine Tells.enter Try.func6 rfl Try.ntmps6 rfl ?_
  intro w0 R
  obtain ⟨vo, vc, rfl, hvc⟩ := hv.form
  obtain ⟨ao, ac, rfl, hac⟩ := hva.form
  refine WC.seq ?_
  refine WC.region ?_
  refine WL.y rfl (Yd.assign rfl) ?_
  refine WL.nil ?_
  refine DN.then_normal ?_
  refine WC.seq ?_
  refine WC.seq ?_
  refine WC.region ?_
  refine WL.y rfl (Yd.move rfl) ?_
  refine WL.y rfl (Yd.move rfl) ?_
  refine WL.rf rfl (Ent.func Try.call9 rfl) (long_reads _ _ gs acts H hv hva hl hla) (by repeat (first | exact Sp.here | exact Sp.sn | exact Sp.s0 | exact Fr.here | apply Sp.s2 | apply Sp.sx | apply Fr.fc | apply Fr.al | apply Fr.fa | apply Sp.sc | apply Sp.al | apply Sp.sa)) ?_
  refine WL.y rfl (Yd.move rfl) ?_
  refine WL.part (t := 22) rfl (fun hg22 => ?_) (fun hg22 => ?_)
  · refine WL.gn (dj := 22) rfl rfl rfl rfl ?_
    refine WL.gn (dj := 22) rfl rfl rfl rfl ?_
    refine WL.gn (dj := 22) rfl rfl rfl rfl ?_
    refine WL.y rfl (Yd.pickT rfl rfl) ?_
    refine WL.nil ?_
    refine DN.then_normal ?_
    refine WC.yes rfl ?_
    refine WC.seq ?_
    refine WC.region ?_
    refine WL.r rfl (Ent.func Try.call10 rfl) (known10 _) ?_
    refine WL.y rfl (Yd.assign rfl) ?_
    refine WL.nil ?_
    refine DN.then_normal ?_
    refine WC.ret ?_
    refine DN.then_ret ?_
    refine DN.fit (C := H) (by repeat (first | exact Sp.here | exact Sp.sn | exact Sp.s0 | exact Fr.here | apply Sp.s2 | apply Sp.sx | apply Fr.fc | apply Fr.al | apply Fr.fa | apply Sp.sc | apply Sp.al | apply Sp.sa)) ?_
    refine DN.ret1 Try.results6 rfl ?_
    exact ⟨rfl, rfl⟩
  · refine WL.gy (dj := 22) rfl rfl rfl (Yd.move rfl) ?_
    refine WL.gy (dj := 22) rfl rfl rfl (Yd.lenS Try.underlying9 rfl) ?_
    refine WL.gy (dj := 22) rfl rfl rfl (Yd.gtr rfl rfl) ?_
    refine WL.y rfl (Yd.pickF rfl rfl) ?_
    refine WL.nil ?_
    refine DN.then_normal ?_
    refine WC.cond rfl (fun h26 => ?_) (fun h26 => ?_)
    · refine WC.seq ?_
      refine WC.region ?_
      refine WL.r rfl (Ent.func Try.call10 rfl) (known10 _) ?_
      refine WL.y rfl (Yd.assign rfl) ?_
      refine WL.nil ?_
      refine DN.then_normal ?_
      refine WC.ret ?_
      refine DN.then_ret ?_
      refine DN.fit (C := H) (by repeat (first | exact Sp.here | exact Sp.sn | exact Sp.s0 | exact Fr.here | apply Sp.s2 | apply Sp.sx | apply Fr.fc | apply Fr.al | apply Fr.fa | apply Sp.sc | apply Sp.al | apply Sp.sa)) ?_
      refine DN.ret1 Try.results6 rfl ?_
      exact ⟨rfl, rfl⟩
    · refine WC.skip ?_
      refine DN.then_normal ?_
      refine WC.seq ?_
      rcases Classical.em (AccL gs) with hA | hA
      · refine WC.region ?_
        refine WL.y rfl (Yd.move rfl) ?_
        refine WL.ca rfl (Ent.func Try.call11 rfl) (new_tells _ gs H hv hl) ?_
        rintro q H1 hq
        first | (have inv1 := PInv.start hA; obtain ⟨p, C1, rfl, h1, rfl⟩ := new_inP hq hA) | (obtain ⟨rfl, hHq⟩ := new_outP hq hA; rw [hHq])
        refine WL.y rfl (Yd.move rfl) ?_
        refine WL.y rfl (Yd.extract rfl rfl) ?_
        refine WL.y rfl (Yd.extract rfl rfl) ?_
        refine WL.y rfl (Yd.assign rfl) ?_
        refine WL.y rfl (Yd.assign rfl) ?_
        refine WL.nil ?_
        refine DN.then_normal ?_
        refine WC.seq ?_
        refine WC.seq ?_
        refine WC.region ?_
        refine WL.y rfl (Yd.move rfl) ?_
        refine WL.y rfl (Yd.neq rfl rfl) ?_
        refine WL.renamed (t := 34) (v := .bool false) rfl (congrArg Value.bool (by decide)) ?_
        refine WL.nil ?_
        refine DN.then_normal ?_
        refine WC.no rfl ?_
        refine WC.skip ?_
        refine DN.then_normal ?_
        refine WC.seq ?_
        refine WC.seq ?_
        refine WC.region ?_
        refine WL.y rfl (Yd.assign rfl) ?_
        refine WL.nil ?_
        refine DN.then_normal ?_
        refine WC.block ?_
        refine WC.loopS (fun z : Nat × List Au × List Py × List Ck => z.1 ≤ acts.length ∧ z.1 ≤ 60 ∧ z.2.2.1.length ≤ z.1 ∧ PsAt 57 p z.2.1 z.2.2.1 z.2.2.2 ∧ PInv gs z.2.1 z.2.2.1) (fun z : Nat × List Au × List Py × List Ck => [(15, .int .i64 (z.1 : Int))]) (fun z : Nat × List Au × List Py × List Ck => z.2.2.2 ++ H) (fun z : Nat × List Au × List Py × List Ck => acts.length - z.1) (⟨0, gs, [], C1⟩) (show 0 ≤ acts.length ∧ 0 ≤ 60 ∧ [].length ≤ 0 ∧ PsAt 57 p gs [] C1 ∧ PInv gs gs [] from ⟨Nat.zero_le _, Nat.zero_le _, Nat.zero_le _, h1, inv1⟩) (Sx.put rfl ((by repeat (first | exact Sx.refl | refine Sx.skip rfl ?_)))) (by repeat (first | exact Sp.here | exact Sp.sn | exact Sp.s0 | exact Fr.here | apply Sp.s2 | apply Sp.sx | apply Fr.fc | apply Fr.al | apply Fr.fa | apply Sp.sc | apply Sp.al | apply Sp.sa)) ?_
        rintro ⟨i, K1, L1, C2⟩ hI
        replace hI : i ≤ acts.length ∧ i ≤ 60 ∧ L1.length ≤ i ∧ PsAt 57 p K1 L1 C2 ∧ PInv gs K1 L1 := hI
        obtain ⟨hi, hi60, hcnt, h2, inv⟩ := hI
        change WC _ _ _ _ _ _ ([(15, .int .i64 (i : Int))] ++ _) (C2 ++ H)
        have hmany := inv.few2
        refine WC.seq ?_
        refine WC.seq ?_
        refine WC.region ?_
        refine WL.y rfl (Yd.move rfl) ?_
        refine WL.y rfl (Yd.move rfl) ?_
        refine WL.y rfl (Yd.len (e := 35) (by kernel_rfl) rfl) ?_
        refine WL.y rfl (Yd.lss rfl rfl) ?_
        refine WL.y rfl (Yd.move rfl) ?_
        refine WL.partP (t := 44) rfl (fun hg44 => ?_) (fun hg44 => ?_)
        · refine WL.gy (dj := 44) rfl rfl rfl (Yd.move rfl) ?_
          refine WL.gy (dj := 44) rfl rfl rfl (Yd.lss rfl rfl) ?_
          refine WL.y rfl (Yd.pickT rfl rfl) ?_
          refine WL.nil ?_
          refine DN.then_normal ?_
          refine WC.ite rfl (fun h47 => ?_) (fun h47 => ?_)
          · have hlt : i < acts.length := by omega
            refine WC.skip ?_
            refine DN.then_normal ?_
            refine WC.seq ?_
            refine WC.block ?_
            refine WC.region ?_
            refine WL.y rfl (Yd.move rfl) ?_
            refine WL.y rfl (Yd.move rfl) ?_
            refine WL.y rfl (Yd.move rfl) ?_
            refine WL.elemA (e := 35) (s := 4) (by kernel_rfl) (by kernel_rfl) (by kernel_rfl) rfl rfl (rfl) (hva.mono (by repeat (first | exact Gr.refl | exact Gr.left Gr.refl | exact Gr.left (Gr.left Gr.refl) | exact Gr.left (Gr.app Gr.refl) | exact Gr.left (Gr.left (Gr.left Gr.refl)) | exact Gr.nil | exact Gr.app (Gr.left Gr.refl) | refine Gr.cons ?_ | refine Gr.app ?_ | refine Gr.both ?_ ?_ | refine Gr.put (by repeat (first | exact List.mem_cons_self | apply List.mem_cons_of_mem | apply List.mem_append_right)) ?_))) (flat_row cellsQ 4 cellsQ_len acts i hlt) (by rfl) (by omega) (hlt) rfl rfl ?_
            intro p53
            refine WL.c rfl (Ent.func Try.call13 rfl) (act_tells p gs K1 L1 C2 h2 inv acts[i]) (Sp.p (by repeat (first | exact Sp.here | exact Sp.sn | exact Sp.s0 | exact Fr.here | apply Sp.s2 | apply Sp.sx | apply Fr.fc | apply Fr.al | apply Fr.fa | apply Sp.sc | apply Sp.al | apply Sp.sa))) ?_
            rintro q C3 ⟨rfl, h3⟩
            obtain ⟨inv3, hcnt3⟩ := inv.act acts[i]
            obtain ⟨K3, hK3⟩ : ∃ x, x = actKP K1 L1 acts[i] := ⟨_, rfl⟩
            obtain ⟨L3, hL3⟩ : ∃ x, x = actLP K1 L1 acts[i] := ⟨_, rfl⟩
            rw [← hK3, ← hL3] at h3 inv3
            rw [← hL3] at hcnt3
            have hmany3 := inv3.few2
            refine WL.nil ?_
            refine DN.block_normal ?_
            refine DN.then_normal ?_
            refine WC.region ?_
            refine WL.y rfl (Yd.move rfl) ?_
            refine WL.y rfl (Yd.add rfl rfl (by omega) (by omega)) ?_
            refine WL.y rfl (Yd.assign rfl) ?_
            refine WL.nil ?_
            exact DN.againS (⟨i + 1, K3, L3, C3⟩) (show (i + 1) ≤ acts.length ∧ (i + 1) ≤ 60 ∧ L3.length ≤ (i + 1) ∧ PsAt 57 p K3 L3 C3 ∧ PInv gs K3 L3 from ⟨by omega, by omega, by omega, h3, inv3⟩) (show acts.length - (i + 1) < acts.length - i by omega) (Sx.put rfl ((by repeat (first | exact Sx.refl | refine Sx.skip rfl ?_)))) (by repeat (first | exact Sp.here | exact Sp.sn | exact Sp.s0 | exact Fr.here | apply Sp.s2 | apply Sp.sx | apply Fr.fc | apply Fr.al | apply Fr.fa | apply Sp.sc | apply Sp.al | apply Sp.sa))
          · refine WC.exit ?_
            refine DN.then_exit ?_
            refine DN.then_exit ?_
            refine DN.block_exit ?_
            refine DN.then_normal ?_
            refine WC.seq ?_
            refine WC.region ?_
            refine WL.y rfl (Yd.move rfl) ?_
            refine WL.c rfl (Ent.func Try.call16 rfl) (accs_tells p K1 L1 C2 h2 (by omega)) (Sp.p (by repeat (first | exact Sp.here | exact Sp.sn | exact Sp.s0 | exact Fr.here | apply Sp.s2 | apply Sp.sx | apply Fr.fc | apply Fr.al | apply Fr.fa | apply Sp.sc | apply Sp.al | apply Sp.sa))) ?_
            rintro q C5 ⟨S5, Cs5, hT5, ho5, rfl⟩
            have hl5 := hT5.perm.length_eq
            obtain ⟨so5, sc5, rfl, _⟩ := ho5.form
            refine WL.y rfl (Yd.assign rfl) ?_
            refine WL.nil ?_
            refine DN.then_normal ?_
            refine WC.seq ?_
            refine WC.region ?_
            refine WL.y rfl (Yd.move rfl) ?_
            refine WL.rf rfl (Ent.func Try.call22 rfl) (taken_reads p gs K1 L1 C2 h2 inv (by omega)) (by repeat (first | exact Sp.here | exact Sp.sn | exact Sp.s0 | exact Fr.here | apply Sp.s2 | apply Sp.sx | apply Fr.fc | apply Fr.al | apply Fr.fa | apply Sp.sc | apply Sp.al | apply Sp.sa)) ?_
            refine WL.y rfl (Yd.assign rfl) ?_
            refine WL.nil ?_
            refine DN.then_normal ?_
            refine WC.seq ?_
            refine WC.seq ?_
            refine WC.region ?_
            refine WL.y rfl (Yd.move rfl) ?_
            refine WL.y rfl (Yd.move rfl) ?_
            refine WL.y rfl (Yd.move rfl) ?_
            refine WL.y rfl (Yd.move rfl) ?_
            refine WL.c rfl (Ent.func Try.call24 rfl) (auth_tells p gs K1 L1 C2 h2 inv o nm n) (Sp.p (by repeat (first | exact Sp.here | exact Sp.sn | exact Sp.s0 | exact Fr.here | apply Sp.s2 | apply Sp.sx | apply Fr.fc | apply Fr.al | apply Fr.fa | apply Sp.sc | apply Sp.al | apply Sp.sa))) ?_
            rintro q C4 ⟨rfl, h4⟩
            have inv4 := inv.auth o nm n
            refine WL.y rfl (Yd.neq rfl rfl) ?_
            refine WL.nil ?_
            refine DN.then_normal ?_
            refine WC.cond rfl (fun h65 => ?_) (fun h65 => ?_)
            · have hb : authB K1 L1 o nm n = false := by cases hb : authB K1 L1 o nm n <;> simp_all [vdP]
              rw [(auth_no hb).1, (auth_no hb).2] at h4 inv4
              refine WC.seq ?_
              refine WC.region ?_
              refine WL.y rfl (Yd.move rfl) ?_
              refine WL.c rfl (Ent.func Try.call16 rfl) (accs_tells p K1 L1 C4 h4 (by omega)) (Sp.p (by repeat (first | exact Sp.here | exact Sp.sn | exact Sp.s0 | exact Fr.here | apply Sp.s2 | apply Sp.sx | apply Fr.fc | apply Fr.al | apply Fr.fa | apply Sp.sc | apply Sp.al | apply Sp.sa))) ?_
              rintro q C9 ⟨S6, Cs6, hT6, ho6, rfl⟩
              have hl6 := hT6.perm.length_eq
              obtain ⟨so6, sc6, rfl, _⟩ := ho6.form
              have he6 := told_sameU inv.knd hT6 hT5
              refine WL.y rfl (Yd.move rfl) ?_
              refine WL.rf rfl (Ent.func Try.call18 rfl) (sameAccs_reads _ _ S6 S5 (Cs6 ++ Cs5) (ho6.rs.mono (by repeat (first | exact Gr.refl | exact Gr.left Gr.refl | exact Gr.left (Gr.left Gr.refl) | exact Gr.left (Gr.app Gr.refl) | exact Gr.left (Gr.left (Gr.left Gr.refl)) | exact Gr.nil | exact Gr.app (Gr.left Gr.refl) | refine Gr.cons ?_ | refine Gr.app ?_ | refine Gr.both ?_ ?_ | refine Gr.put (by repeat (first | exact List.mem_cons_self | apply List.mem_cons_of_mem | apply List.mem_append_right)) ?_))) (ho5.rs.mono (by repeat (first | exact Gr.refl | exact Gr.left Gr.refl | exact Gr.left (Gr.left Gr.refl) | exact Gr.left (Gr.app Gr.refl) | exact Gr.left (Gr.left (Gr.left Gr.refl)) | exact Gr.nil | exact Gr.app (Gr.left Gr.refl) | refine Gr.cons ?_ | refine Gr.app ?_ | refine Gr.both ?_ ?_ | refine Gr.put (by repeat (first | exact List.mem_cons_self | apply List.mem_cons_of_mem | apply List.mem_append_right)) ?_))) (by omega) (by omega)) (by repeat (first | exact Sp.here | exact Sp.sn | exact Sp.s0 | exact Fr.here | apply Sp.s2 | apply Sp.sx | apply Fr.fc | apply Fr.al | apply Fr.fa | apply Sp.sc | apply Sp.al | apply Sp.sa)) ?_
              refine WL.renamed (t := 69) (v := .bool true) rfl (congrArg Value.bool (decide_eq_true he6)) ?_
              refine WL.y rfl (Yd.move rfl) ?_
              refine WL.gr (dj := 70) rfl rfl rfl (Ent.func Try.call10 rfl) (known10 _) ?_
              refine WL.y rfl (Yd.pickT rfl rfl) ?_
              refine WL.y rfl (Yd.assign rfl) ?_
              refine WL.nil ?_
              refine DN.then_normal ?_
              refine WC.ret ?_
              refine DN.then_ret ?_
              refine DN.fit (C := H) (by repeat (first | exact Sp.here | exact Sp.sn | exact Sp.s0 | exact Fr.here | apply Sp.s2 | apply Sp.sx | apply Fr.fc | apply Fr.al | apply Fr.fa | apply Sp.sc | apply Sp.al | apply Sp.sa)) ?_
              refine DN.ret1 Try.results6 rfl ?_
              exact ⟨rfl, rfl⟩
            · have hb : authB K1 L1 o nm n = true := by cases hb : authB K1 L1 o nm n <;> simp_all [vdP]
              obtain ⟨ho0, hn1, hf, hle, hin⟩ := authB_parts hb
              rw [(auth_yes hb).1, (auth_yes hb).2] at h4 inv4
              obtain ⟨KA, hKA⟩ : ∃ x, x = adjU K1 nm 0 n := ⟨_, rfl⟩
              rw [← hKA] at h4 inv4
              have hlen1 : ∀ s : Int, (L1 ++ [(⟨o, nm, n, s⟩ : Py)]).length = L1.length + 1 := fun s => by simp
              have hl1 := hlen1 1
              have hl2 := hlen1 2
              have hl3 := hlen1 3
              have ht1 : takenL (L1 ++ [⟨o, nm, n, 1⟩]) = takenL L1 := by rw [ways_taken]; simp
              have ht2 : takenL (L1 ++ [⟨o, nm, n, 2⟩]) = takenL L1 + n := by rw [ways_taken]; simp
              have ht3 : takenL (L1 ++ [⟨o, nm, n, 3⟩]) = takenL L1 := by rw [ways_taken]; simp
              have htk := inv.taken
              have hnle : n ≤ 1000000000 := by have := inv.mid nm; omega
              refine WC.skip ?_
              refine DN.then_normal ?_
              refine WC.seq ?_
              refine WC.seq ?_
              refine WC.region ?_
              refine WL.y rfl (Yd.move rfl) ?_
              refine WL.y rfl (Yd.move rfl) ?_
              refine WL.y rfl (Yd.move rfl) ?_
              refine WL.y rfl (Yd.move rfl) ?_
              refine WL.c rfl (Ent.func Try.call24 rfl) (auth_tells p gs KA (L1 ++ [⟨o, nm, n, 1⟩]) C4 h4 inv4 o nm n) (Sp.p (by repeat (first | exact Sp.here | exact Sp.sn | exact Sp.s0 | exact Fr.here | apply Sp.s2 | apply Sp.sx | apply Fr.fc | apply Fr.al | apply Fr.fa | apply Sp.sc | apply Sp.al | apply Sp.sa))) ?_
              rintro q C5 ⟨rfl, h5⟩
              rw [(auth_no (ways_auth hf KA 1 nm n)).1, (auth_no (ways_auth hf KA 1 nm n)).2] at h5
              rw [ways_auth hf KA 1 nm n]
              refine WL.y rfl (Yd.neq rfl rfl) ?_
              refine WL.renamed (t := 78) (v := .bool false) rfl (congrArg Value.bool (by decide)) ?_
              refine WL.y rfl (Yd.move rfl) ?_
              refine WL.gy (dj := 79) rfl rfl rfl (Yd.move rfl) ?_
              refine WL.gy (dj := 79) rfl rfl rfl (Yd.move rfl) ?_
              refine WL.gc (dj := 79) rfl rfl rfl (Ent.func Try.call25 rfl) (refund_tells p gs KA (L1 ++ [⟨o, nm, n, 1⟩]) C5 h5 inv4 o) (Sp.p (by repeat (first | exact Sp.here | exact Sp.sn | exact Sp.s0 | exact Fr.here | apply Sp.s2 | apply Sp.sx | apply Fr.fc | apply Fr.al | apply Fr.fa | apply Sp.sc | apply Sp.al | apply Sp.sa))) ?_
              rintro q C6 ⟨rfl, h6⟩
              have hb6 : turnB (L1 ++ [⟨o, nm, n, 1⟩]) o 2 = false := by rw [ways_turnB hf]; decide
              rw [(turn_no 3 1 0 hb6).1, (turn_no (K := KA) 3 1 0 hb6).2] at h6
              rw [hb6]
              refine WL.gy (dj := 79) rfl rfl rfl (Yd.neq rfl rfl) ?_
              refine WL.renamed (t := 83) (v := .bool false) rfl (congrArg Value.bool (by decide)) ?_
              refine WL.y rfl (Yd.pickF rfl rfl) ?_
              refine WL.y rfl (Yd.move rfl) ?_
              refine WL.gy (dj := 85) rfl rfl rfl (Yd.move rfl) ?_
              refine WL.grf (dj := 85) rfl rfl rfl (Ent.func Try.call22 rfl) (taken_reads p gs KA (L1 ++ [⟨o, nm, n, 1⟩]) C6 h6 inv4 (by omega)) (by repeat (first | exact Sp.here | exact Sp.sn | exact Sp.s0 | exact Fr.here | apply Sp.s2 | apply Sp.sx | apply Fr.fc | apply Fr.al | apply Fr.fa | apply Sp.sc | apply Sp.al | apply Sp.sa)) ?_
              refine WL.gy (dj := 85) rfl rfl rfl (Yd.move rfl) ?_
              refine WL.gy (dj := 85) rfl rfl rfl (Yd.neq rfl rfl) ?_
              refine WL.renamed (t := 89) (v := .bool false) rfl (congrArg Value.bool (decide_eq_false (by omega))) ?_
              refine WL.y rfl (Yd.pickF rfl rfl) ?_
              refine WL.nil ?_
              refine DN.then_normal ?_
              refine WC.no rfl ?_
              refine WC.skip ?_
              refine DN.then_normal ?_
              refine WC.seq ?_
              refine WC.seq ?_
              refine WC.region ?_
              refine WL.y rfl (Yd.move rfl) ?_
              refine WL.nil ?_
              refine DN.then_normal ?_
              refine WC.cond rfl (fun h91 => ?_) (fun h91 => ?_)
              · refine WC.seq ?_
                refine WC.region ?_
                refine WL.y rfl (Yd.move rfl) ?_
                refine WL.y rfl (Yd.move rfl) ?_
                refine WL.c rfl (Ent.func Try.call26 rfl) (capture_tells p gs KA (L1 ++ [⟨o, nm, n, 1⟩]) C6 h6 inv4 o) (Sp.p (by repeat (first | exact Sp.here | exact Sp.sn | exact Sp.s0 | exact Fr.here | apply Sp.s2 | apply Sp.sx | apply Fr.fc | apply Fr.al | apply Fr.fa | apply Sp.sc | apply Sp.al | apply Sp.sa))) ?_
                rintro q C7 ⟨rfl, h7⟩
                have hb7 : turnB (L1 ++ [⟨o, nm, n, 1⟩]) o 1 = true := by rw [ways_turnB hf]; decide
                have inv7 := inv4.turn o 1 2 (-1) (-1) (by unfold turnOk; decide)
                obtain ⟨KB, hKB⟩ : ∃ x, x = turnKs KA (L1 ++ [⟨o, nm, n, 1⟩]) o 1 (-1) (-1) := ⟨_, rfl⟩
                rw [← hKB, ways_turnL hf] at h7 inv7
                rw [ways_turnK hf] at hKB
                rw [hb7]
                refine WL.y rfl (Yd.neq rfl rfl) ?_
                refine WL.renamed (t := 95) (v := .bool false) rfl (congrArg Value.bool (by decide)) ?_
                refine WL.y rfl (Yd.move rfl) ?_
                refine WL.gy (dj := 96) rfl rfl rfl (Yd.move rfl) ?_
                refine WL.grf (dj := 96) rfl rfl rfl (Ent.func Try.call22 rfl) (taken_reads p gs KB (L1 ++ [⟨o, nm, n, 2⟩]) C7 h7 inv7 (by omega)) (by repeat (first | exact Sp.here | exact Sp.sn | exact Sp.s0 | exact Fr.here | apply Sp.s2 | apply Sp.sx | apply Fr.fc | apply Fr.al | apply Fr.fa | apply Sp.sc | apply Sp.al | apply Sp.sa)) ?_
                refine WL.gy (dj := 96) rfl rfl rfl (Yd.move rfl) ?_
                refine WL.gy (dj := 96) rfl rfl rfl (Yd.move rfl) ?_
                refine WL.gy (dj := 96) rfl rfl rfl (Yd.add rfl rfl (by omega) (by omega)) ?_
                refine WL.gy (dj := 96) rfl rfl rfl (Yd.neq rfl rfl) ?_
                refine WL.renamed (t := 102) (v := .bool false) rfl (congrArg Value.bool (decide_eq_false (by omega))) ?_
                refine WL.y rfl (Yd.pickF rfl rfl) ?_
                refine WL.y rfl (Yd.move rfl) ?_
                refine WL.gy (dj := 104) rfl rfl rfl (Yd.move rfl) ?_
                refine WL.gy (dj := 104) rfl rfl rfl (Yd.move rfl) ?_
                refine WL.gc (dj := 104) rfl rfl rfl (Ent.func Try.call26 rfl) (capture_tells p gs KB (L1 ++ [⟨o, nm, n, 2⟩]) C7 h7 inv7 o) (Sp.p (by repeat (first | exact Sp.here | exact Sp.sn | exact Sp.s0 | exact Fr.here | apply Sp.s2 | apply Sp.sx | apply Fr.fc | apply Fr.al | apply Fr.fa | apply Sp.sc | apply Sp.al | apply Sp.sa))) ?_
                rintro q C8 ⟨rfl, h8⟩
                have hb8 : turnB (L1 ++ [⟨o, nm, n, 2⟩]) o 1 = false := by rw [ways_turnB hf]; decide
                rw [(turn_no 2 (-1) (-1) hb8).1, (turn_no (K := KB) 2 (-1) (-1) hb8).2] at h8
                rw [hb8]
                refine WL.gy (dj := 104) rfl rfl rfl (Yd.neq rfl rfl) ?_
                refine WL.renamed (t := 108) (v := .bool false) rfl (congrArg Value.bool (by decide)) ?_
                refine WL.y rfl (Yd.pickF rfl rfl) ?_
                refine WL.y rfl (Yd.move rfl) ?_
                refine WL.gy (dj := 110) rfl rfl rfl (Yd.move rfl) ?_
                refine WL.gy (dj := 110) rfl rfl rfl (Yd.move rfl) ?_
                refine WL.gc (dj := 110) rfl rfl rfl (Ent.func Try.call27 rfl) (void_tells p gs KB (L1 ++ [⟨o, nm, n, 2⟩]) C8 h8 inv7 o) (Sp.p (by repeat (first | exact Sp.here | exact Sp.sn | exact Sp.s0 | exact Fr.here | apply Sp.s2 | apply Sp.sx | apply Fr.fc | apply Fr.al | apply Fr.fa | apply Sp.sc | apply Sp.al | apply Sp.sa))) ?_
                rintro q C9 ⟨rfl, h9⟩
                have hb9 : turnB (L1 ++ [⟨o, nm, n, 2⟩]) o 1 = false := by rw [ways_turnB hf]; decide
                rw [(turn_no 3 0 (-1) hb9).1, (turn_no (K := KB) 3 0 (-1) hb9).2] at h9
                rw [hb9]
                refine WL.gy (dj := 110) rfl rfl rfl (Yd.neq rfl rfl) ?_
                refine WL.renamed (t := 114) (v := .bool false) rfl (congrArg Value.bool (by decide)) ?_
                refine WL.y rfl (Yd.pickF rfl rfl) ?_
                refine WL.y rfl (Yd.move rfl) ?_
                refine WL.gy (dj := 116) rfl rfl rfl (Yd.move rfl) ?_
                refine WL.gy (dj := 116) rfl rfl rfl (Yd.move rfl) ?_
                refine WL.gc (dj := 116) rfl rfl rfl (Ent.func Try.call25 rfl) (refund_tells p gs KB (L1 ++ [⟨o, nm, n, 2⟩]) C9 h9 inv7 o) (Sp.p (by repeat (first | exact Sp.here | exact Sp.sn | exact Sp.s0 | exact Fr.here | apply Sp.s2 | apply Sp.sx | apply Fr.fc | apply Fr.al | apply Fr.fa | apply Sp.sc | apply Sp.al | apply Sp.sa))) ?_
                rintro q C10 ⟨rfl, h10⟩
                have hb10 : turnB (L1 ++ [⟨o, nm, n, 2⟩]) o 2 = true := by rw [ways_turnB hf]; decide
                have inv10 := inv7.turn o 2 3 1 0 (by unfold turnOk; decide)
                rw [ways_turnL hf, ways_turnK hf, hKB, hKA, ways_refund inv.knd hin] at h10 inv10
                rw [hb10]
                refine WL.gy (dj := 116) rfl rfl rfl (Yd.neq rfl rfl) ?_
                refine WL.renamed (t := 120) (v := .bool false) rfl (congrArg Value.bool (by decide)) ?_
                refine WL.y rfl (Yd.pickF rfl rfl) ?_
                refine WL.nil ?_
                refine DN.then_normal ?_
                refine WC.no rfl ?_
                refine WC.skip ?_
                refine DN.then_normal ?_
                refine WC.seq ?_
                refine WC.region ?_
                refine WL.y rfl (Yd.move rfl) ?_
                refine WL.y rfl (Yd.move rfl) ?_
                refine WL.c rfl (Ent.func Try.call26 rfl) (capture_tells p gs K1 (L1 ++ [⟨o, nm, n, 3⟩]) C10 h10 inv10 o) (Sp.p (by repeat (first | exact Sp.here | exact Sp.sn | exact Sp.s0 | exact Fr.here | apply Sp.s2 | apply Sp.sx | apply Fr.fc | apply Fr.al | apply Fr.fa | apply Sp.sc | apply Sp.al | apply Sp.sa))) ?_
                rintro q C11 ⟨rfl, h11⟩
                have hb11 : turnB (L1 ++ [⟨o, nm, n, 3⟩]) o 1 = false := by rw [ways_turnB hf]; decide
                have hb12 : turnB (L1 ++ [⟨o, nm, n, 3⟩]) o 2 = false := by rw [ways_turnB hf]; decide
                rw [(turn_no 2 (-1) (-1) hb11).1, (turn_no (K := K1) 2 (-1) (-1) hb11).2] at h11
                rw [hb11]
                refine WL.y rfl (Yd.eql rfl rfl) ?_
                refine WL.renamed (t := 129) (v := .bool true) rfl (congrArg Value.bool (by decide)) ?_
                refine WL.y rfl (Yd.move rfl) ?_
                refine WL.gy (dj := 130) rfl rfl rfl (Yd.move rfl) ?_
                refine WL.gy (dj := 130) rfl rfl rfl (Yd.move rfl) ?_
                refine WL.gc (dj := 130) rfl rfl rfl (Ent.func Try.call27 rfl) (void_tells p gs K1 (L1 ++ [⟨o, nm, n, 3⟩]) C11 h11 inv10 o) (Sp.p (by repeat (first | exact Sp.here | exact Sp.sn | exact Sp.s0 | exact Fr.here | apply Sp.s2 | apply Sp.sx | apply Fr.fc | apply Fr.al | apply Fr.fa | apply Sp.sc | apply Sp.al | apply Sp.sa))) ?_
                rintro q C12 ⟨rfl, h12⟩
                rw [(turn_no 3 0 (-1) hb11).1, (turn_no (K := K1) 3 0 (-1) hb11).2] at h12
                rw [hb11]
                refine WL.gy (dj := 130) rfl rfl rfl (Yd.eql rfl rfl) ?_
                refine WL.renamed (t := 134) (v := .bool true) rfl (congrArg Value.bool (by decide)) ?_
                refine WL.y rfl (Yd.pickT rfl rfl) ?_
                refine WL.y rfl (Yd.move rfl) ?_
                refine WL.gy (dj := 136) rfl rfl rfl (Yd.move rfl) ?_
                refine WL.gy (dj := 136) rfl rfl rfl (Yd.move rfl) ?_
                refine WL.gc (dj := 136) rfl rfl rfl (Ent.func Try.call25 rfl) (refund_tells p gs K1 (L1 ++ [⟨o, nm, n, 3⟩]) C12 h12 inv10 o) (Sp.p (by repeat (first | exact Sp.here | exact Sp.sn | exact Sp.s0 | exact Fr.here | apply Sp.s2 | apply Sp.sx | apply Fr.fc | apply Fr.al | apply Fr.fa | apply Sp.sc | apply Sp.al | apply Sp.sa))) ?_
                rintro q C13 ⟨rfl, h13⟩
                rw [(turn_no 3 1 0 hb12).1, (turn_no (K := K1) 3 1 0 hb12).2] at h13
                rw [hb12]
                refine WL.gy (dj := 136) rfl rfl rfl (Yd.eql rfl rfl) ?_
                refine WL.renamed (t := 140) (v := .bool true) rfl (congrArg Value.bool (by decide)) ?_
                refine WL.y rfl (Yd.pickT rfl rfl) ?_
                refine WL.y rfl (Yd.move rfl) ?_
                refine WL.gy (dj := 142) rfl rfl rfl (Yd.move rfl) ?_
                refine WL.gy (dj := 142) rfl rfl rfl (Yd.move rfl) ?_
                refine WL.gy (dj := 142) rfl rfl rfl (Yd.move rfl) ?_
                refine WL.gy (dj := 142) rfl rfl rfl (Yd.move rfl) ?_
                refine WL.gc (dj := 142) rfl rfl rfl (Ent.func Try.call24 rfl) (auth_tells p gs K1 (L1 ++ [⟨o, nm, n, 3⟩]) C13 h13 inv10 o nm n) (Sp.p (by repeat (first | exact Sp.here | exact Sp.sn | exact Sp.s0 | exact Fr.here | apply Sp.s2 | apply Sp.sx | apply Fr.fc | apply Fr.al | apply Fr.fa | apply Sp.sc | apply Sp.al | apply Sp.sa))) ?_
                rintro q C14 ⟨rfl, h14⟩
                rw [(auth_no (ways_auth hf K1 3 nm n)).1, (auth_no (ways_auth hf K1 3 nm n)).2] at h14
                rw [ways_auth hf K1 3 nm n]
                refine WL.gy (dj := 142) rfl rfl rfl (Yd.eql rfl rfl) ?_
                refine WL.renamed (t := 148) (v := .bool true) rfl (congrArg Value.bool (by decide)) ?_
                refine WL.y rfl (Yd.pickT rfl rfl) ?_
                refine WL.y rfl (Yd.assign rfl) ?_
                refine WL.nil ?_
                refine DN.then_normal ?_
                refine WC.seq ?_
                refine WC.region ?_
                refine WL.y rfl (Yd.move rfl) ?_
                refine WL.y rfl (Yd.move rfl) ?_
                refine WL.gy (dj := 151) rfl rfl rfl (Yd.move rfl) ?_
                refine WL.gc (dj := 151) rfl rfl rfl (Ent.func Try.call16 rfl) (accs_tells p K1 (L1 ++ [⟨o, nm, n, 3⟩]) C14 h14 (by omega)) (Sp.p (by repeat (first | exact Sp.here | exact Sp.sn | exact Sp.s0 | exact Fr.here | apply Sp.s2 | apply Sp.sx | apply Fr.fc | apply Fr.al | apply Fr.fa | apply Sp.sc | apply Sp.al | apply Sp.sa))) ?_
                rintro q C15 ⟨S7, Cs7, hT7, ho7, rfl⟩
                have hl7 := hT7.perm.length_eq
                obtain ⟨so7, sc7, rfl, _⟩ := ho7.form
                have he7 := told_sameU inv.knd hT7 hT5
                refine WL.gy (dj := 151) rfl rfl rfl (Yd.move rfl) ?_
                refine WL.grf (dj := 151) rfl rfl rfl (Ent.func Try.call18 rfl) (sameAccs_reads _ _ S7 S5 (Cs7 ++ Cs5) (ho7.rs.mono (by repeat (first | exact Gr.refl | exact Gr.left Gr.refl | exact Gr.left (Gr.left Gr.refl) | exact Gr.left (Gr.app Gr.refl) | exact Gr.left (Gr.left (Gr.left Gr.refl)) | exact Gr.nil | exact Gr.app (Gr.left Gr.refl) | refine Gr.cons ?_ | refine Gr.app ?_ | refine Gr.both ?_ ?_ | refine Gr.put (by repeat (first | exact List.mem_cons_self | apply List.mem_cons_of_mem | apply List.mem_append_right)) ?_))) (ho5.rs.mono (by repeat (first | exact Gr.refl | exact Gr.left Gr.refl | exact Gr.left (Gr.left Gr.refl) | exact Gr.left (Gr.app Gr.refl) | exact Gr.left (Gr.left (Gr.left Gr.refl)) | exact Gr.nil | exact Gr.app (Gr.left Gr.refl) | refine Gr.cons ?_ | refine Gr.app ?_ | refine Gr.both ?_ ?_ | refine Gr.put (by repeat (first | exact List.mem_cons_self | apply List.mem_cons_of_mem | apply List.mem_append_right)) ?_))) (by omega) (by omega)) (by repeat (first | exact Sp.here | exact Sp.sn | exact Sp.s0 | exact Fr.here | apply Sp.s2 | apply Sp.sx | apply Fr.fc | apply Fr.al | apply Fr.fa | apply Sp.sc | apply Sp.al | apply Sp.sa)) ?_
                refine WL.renamed (t := 155) (v := .bool true) rfl (congrArg Value.bool (decide_eq_true he7)) ?_
                refine WL.y rfl (Yd.pickT rfl rfl) ?_
                refine WL.y rfl (Yd.move rfl) ?_
                refine WL.gy (dj := 157) rfl rfl rfl (Yd.move rfl) ?_
                refine WL.grf (dj := 157) rfl rfl rfl (Ent.func Try.call22 rfl) (taken_reads p gs K1 (L1 ++ [⟨o, nm, n, 3⟩]) C14 h14 inv10 (by omega)) (by repeat (first | exact Sp.here | exact Sp.sn | exact Sp.s0 | exact Fr.here | apply Sp.s2 | apply Sp.sx | apply Fr.fc | apply Fr.al | apply Fr.fa | apply Sp.sc | apply Sp.al | apply Sp.sa)) ?_
                refine WL.gy (dj := 157) rfl rfl rfl (Yd.move rfl) ?_
                refine WL.gy (dj := 157) rfl rfl rfl (Yd.eql rfl rfl) ?_
                refine WL.renamed (t := 161) (v := .bool true) rfl (congrArg Value.bool (decide_eq_true (by omega))) ?_
                refine WL.y rfl (Yd.pickT rfl rfl) ?_
                refine WL.y rfl (Yd.move rfl) ?_
                refine WL.gr (dj := 163) rfl rfl rfl (Ent.func Try.call10 rfl) (known10 _) ?_
                refine WL.y rfl (Yd.pickT rfl rfl) ?_
                refine WL.y rfl (Yd.assign rfl) ?_
                refine WL.nil ?_
                refine DN.then_normal ?_
                refine WC.ret ?_
                refine DN.fit (C := H) (by repeat (first | exact Sp.here | exact Sp.sn | exact Sp.s0 | exact Fr.here | apply Sp.s2 | apply Sp.sx | apply Fr.fc | apply Fr.al | apply Fr.fa | apply Sp.sc | apply Sp.al | apply Sp.sa)) ?_
                refine DN.ret1 Try.results6 rfl ?_
                exact ⟨rfl, rfl⟩
              · refine WC.seq ?_
                refine WC.region ?_
                refine WL.y rfl (Yd.move rfl) ?_
                refine WL.y rfl (Yd.move rfl) ?_
                refine WL.c rfl (Ent.func Try.call27 rfl) (void_tells p gs KA (L1 ++ [⟨o, nm, n, 1⟩]) C6 h6 inv4 o) (Sp.p (by repeat (first | exact Sp.here | exact Sp.sn | exact Sp.s0 | exact Fr.here | apply Sp.s2 | apply Sp.sx | apply Fr.fc | apply Fr.al | apply Fr.fa | apply Sp.sc | apply Sp.al | apply Sp.sa))) ?_
                rintro q C10 ⟨rfl, h10⟩
                have hb10 : turnB (L1 ++ [⟨o, nm, n, 1⟩]) o 1 = true := by rw [ways_turnB hf]; decide
                have inv10 := inv4.turn o 1 3 0 (-1) (by unfold turnOk; decide)
                rw [ways_turnL hf, ways_turnK hf, hKA, ways_void inv.knd hin] at h10 inv10
                rw [hb10]
                refine WL.y rfl (Yd.neq rfl rfl) ?_
                refine WL.renamed (t := 125) (v := .bool false) rfl (congrArg Value.bool (by decide)) ?_
                refine WL.nil ?_
                refine DN.then_normal ?_
                refine WC.no rfl ?_
                refine WC.skip ?_
                refine DN.then_normal ?_
                refine WC.seq ?_
                refine WC.region ?_
                refine WL.y rfl (Yd.move rfl) ?_
                refine WL.y rfl (Yd.move rfl) ?_
                refine WL.c rfl (Ent.func Try.call26 rfl) (capture_tells p gs K1 (L1 ++ [⟨o, nm, n, 3⟩]) C10 h10 inv10 o) (Sp.p (by repeat (first | exact Sp.here | exact Sp.sn | exact Sp.s0 | exact Fr.here | apply Sp.s2 | apply Sp.sx | apply Fr.fc | apply Fr.al | apply Fr.fa | apply Sp.sc | apply Sp.al | apply Sp.sa))) ?_
                rintro q C11 ⟨rfl, h11⟩
                have hb11 : turnB (L1 ++ [⟨o, nm, n, 3⟩]) o 1 = false := by rw [ways_turnB hf]; decide
                have hb12 : turnB (L1 ++ [⟨o, nm, n, 3⟩]) o 2 = false := by rw [ways_turnB hf]; decide
                rw [(turn_no 2 (-1) (-1) hb11).1, (turn_no (K := K1) 2 (-1) (-1) hb11).2] at h11
                rw [hb11]
                refine WL.y rfl (Yd.eql rfl rfl) ?_
                refine WL.renamed (t := 129) (v := .bool true) rfl (congrArg Value.bool (by decide)) ?_
                refine WL.y rfl (Yd.move rfl) ?_
                refine WL.gy (dj := 130) rfl rfl rfl (Yd.move rfl) ?_
                refine WL.gy (dj := 130) rfl rfl rfl (Yd.move rfl) ?_
                refine WL.gc (dj := 130) rfl rfl rfl (Ent.func Try.call27 rfl) (void_tells p gs K1 (L1 ++ [⟨o, nm, n, 3⟩]) C11 h11 inv10 o) (Sp.p (by repeat (first | exact Sp.here | exact Sp.sn | exact Sp.s0 | exact Fr.here | apply Sp.s2 | apply Sp.sx | apply Fr.fc | apply Fr.al | apply Fr.fa | apply Sp.sc | apply Sp.al | apply Sp.sa))) ?_
                rintro q C12 ⟨rfl, h12⟩
                rw [(turn_no 3 0 (-1) hb11).1, (turn_no (K := K1) 3 0 (-1) hb11).2] at h12
                rw [hb11]
                refine WL.gy (dj := 130) rfl rfl rfl (Yd.eql rfl rfl) ?_
                refine WL.renamed (t := 134) (v := .bool true) rfl (congrArg Value.bool (by decide)) ?_
                refine WL.y rfl (Yd.pickT rfl rfl) ?_
                refine WL.y rfl (Yd.move rfl) ?_
                refine WL.gy (dj := 136) rfl rfl rfl (Yd.move rfl) ?_
                refine WL.gy (dj := 136) rfl rfl rfl (Yd.move rfl) ?_
                refine WL.gc (dj := 136) rfl rfl rfl (Ent.func Try.call25 rfl) (refund_tells p gs K1 (L1 ++ [⟨o, nm, n, 3⟩]) C12 h12 inv10 o) (Sp.p (by repeat (first | exact Sp.here | exact Sp.sn | exact Sp.s0 | exact Fr.here | apply Sp.s2 | apply Sp.sx | apply Fr.fc | apply Fr.al | apply Fr.fa | apply Sp.sc | apply Sp.al | apply Sp.sa))) ?_
                rintro q C13 ⟨rfl, h13⟩
                rw [(turn_no 3 1 0 hb12).1, (turn_no (K := K1) 3 1 0 hb12).2] at h13
                rw [hb12]
                refine WL.gy (dj := 136) rfl rfl rfl (Yd.eql rfl rfl) ?_
                refine WL.renamed (t := 140) (v := .bool true) rfl (congrArg Value.bool (by decide)) ?_
                refine WL.y rfl (Yd.pickT rfl rfl) ?_
                refine WL.y rfl (Yd.move rfl) ?_
                refine WL.gy (dj := 142) rfl rfl rfl (Yd.move rfl) ?_
                refine WL.gy (dj := 142) rfl rfl rfl (Yd.move rfl) ?_
                refine WL.gy (dj := 142) rfl rfl rfl (Yd.move rfl) ?_
                refine WL.gy (dj := 142) rfl rfl rfl (Yd.move rfl) ?_
                refine WL.gc (dj := 142) rfl rfl rfl (Ent.func Try.call24 rfl) (auth_tells p gs K1 (L1 ++ [⟨o, nm, n, 3⟩]) C13 h13 inv10 o nm n) (Sp.p (by repeat (first | exact Sp.here | exact Sp.sn | exact Sp.s0 | exact Fr.here | apply Sp.s2 | apply Sp.sx | apply Fr.fc | apply Fr.al | apply Fr.fa | apply Sp.sc | apply Sp.al | apply Sp.sa))) ?_
                rintro q C14 ⟨rfl, h14⟩
                rw [(auth_no (ways_auth hf K1 3 nm n)).1, (auth_no (ways_auth hf K1 3 nm n)).2] at h14
                rw [ways_auth hf K1 3 nm n]
                refine WL.gy (dj := 142) rfl rfl rfl (Yd.eql rfl rfl) ?_
                refine WL.renamed (t := 148) (v := .bool true) rfl (congrArg Value.bool (by decide)) ?_
                refine WL.y rfl (Yd.pickT rfl rfl) ?_
                refine WL.y rfl (Yd.assign rfl) ?_
                refine WL.nil ?_
                refine DN.then_normal ?_
                refine WC.seq ?_
                refine WC.region ?_
                refine WL.y rfl (Yd.move rfl) ?_
                refine WL.y rfl (Yd.move rfl) ?_
                refine WL.gy (dj := 151) rfl rfl rfl (Yd.move rfl) ?_
                refine WL.gc (dj := 151) rfl rfl rfl (Ent.func Try.call16 rfl) (accs_tells p K1 (L1 ++ [⟨o, nm, n, 3⟩]) C14 h14 (by omega)) (Sp.p (by repeat (first | exact Sp.here | exact Sp.sn | exact Sp.s0 | exact Fr.here | apply Sp.s2 | apply Sp.sx | apply Fr.fc | apply Fr.al | apply Fr.fa | apply Sp.sc | apply Sp.al | apply Sp.sa))) ?_
                rintro q C15 ⟨S7, Cs7, hT7, ho7, rfl⟩
                have hl7 := hT7.perm.length_eq
                obtain ⟨so7, sc7, rfl, _⟩ := ho7.form
                have he7 := told_sameU inv.knd hT7 hT5
                refine WL.gy (dj := 151) rfl rfl rfl (Yd.move rfl) ?_
                refine WL.grf (dj := 151) rfl rfl rfl (Ent.func Try.call18 rfl) (sameAccs_reads _ _ S7 S5 (Cs7 ++ Cs5) (ho7.rs.mono (by repeat (first | exact Gr.refl | exact Gr.left Gr.refl | exact Gr.left (Gr.left Gr.refl) | exact Gr.left (Gr.app Gr.refl) | exact Gr.left (Gr.left (Gr.left Gr.refl)) | exact Gr.nil | exact Gr.app (Gr.left Gr.refl) | refine Gr.cons ?_ | refine Gr.app ?_ | refine Gr.both ?_ ?_ | refine Gr.put (by repeat (first | exact List.mem_cons_self | apply List.mem_cons_of_mem | apply List.mem_append_right)) ?_))) (ho5.rs.mono (by repeat (first | exact Gr.refl | exact Gr.left Gr.refl | exact Gr.left (Gr.left Gr.refl) | exact Gr.left (Gr.app Gr.refl) | exact Gr.left (Gr.left (Gr.left Gr.refl)) | exact Gr.nil | exact Gr.app (Gr.left Gr.refl) | refine Gr.cons ?_ | refine Gr.app ?_ | refine Gr.both ?_ ?_ | refine Gr.put (by repeat (first | exact List.mem_cons_self | apply List.mem_cons_of_mem | apply List.mem_append_right)) ?_))) (by omega) (by omega)) (by repeat (first | exact Sp.here | exact Sp.sn | exact Sp.s0 | exact Fr.here | apply Sp.s2 | apply Sp.sx | apply Fr.fc | apply Fr.al | apply Fr.fa | apply Sp.sc | apply Sp.al | apply Sp.sa)) ?_
                refine WL.renamed (t := 155) (v := .bool true) rfl (congrArg Value.bool (decide_eq_true he7)) ?_
                refine WL.y rfl (Yd.pickT rfl rfl) ?_
                refine WL.y rfl (Yd.move rfl) ?_
                refine WL.gy (dj := 157) rfl rfl rfl (Yd.move rfl) ?_
                refine WL.grf (dj := 157) rfl rfl rfl (Ent.func Try.call22 rfl) (taken_reads p gs K1 (L1 ++ [⟨o, nm, n, 3⟩]) C14 h14 inv10 (by omega)) (by repeat (first | exact Sp.here | exact Sp.sn | exact Sp.s0 | exact Fr.here | apply Sp.s2 | apply Sp.sx | apply Fr.fc | apply Fr.al | apply Fr.fa | apply Sp.sc | apply Sp.al | apply Sp.sa)) ?_
                refine WL.gy (dj := 157) rfl rfl rfl (Yd.move rfl) ?_
                refine WL.gy (dj := 157) rfl rfl rfl (Yd.eql rfl rfl) ?_
                refine WL.renamed (t := 161) (v := .bool true) rfl (congrArg Value.bool (decide_eq_true (by omega))) ?_
                refine WL.y rfl (Yd.pickT rfl rfl) ?_
                refine WL.y rfl (Yd.move rfl) ?_
                refine WL.gr (dj := 163) rfl rfl rfl (Ent.func Try.call10 rfl) (known10 _) ?_
                refine WL.y rfl (Yd.pickT rfl rfl) ?_
                refine WL.y rfl (Yd.assign rfl) ?_
                refine WL.nil ?_
                refine DN.then_normal ?_
                refine WC.ret ?_
                refine DN.fit (C := H) (by repeat (first | exact Sp.here | exact Sp.sn | exact Sp.s0 | exact Fr.here | apply Sp.s2 | apply Sp.sx | apply Fr.fc | apply Fr.al | apply Fr.fa | apply Sp.sc | apply Sp.al | apply Sp.sa)) ?_
                refine DN.ret1 Try.results6 rfl ?_
                exact ⟨rfl, rfl⟩
        · refine WL.gn (dj := 44) rfl rfl rfl rfl ?_
          refine WL.gn (dj := 44) rfl rfl rfl rfl ?_
          refine WL.y rfl (Yd.pickF rfl rfl) ?_
          refine WL.nil ?_
          refine DN.then_normal ?_
          refine WC.no rfl ?_
          refine WC.exit ?_
          refine DN.then_exit ?_
          refine DN.then_exit ?_
          refine DN.block_exit ?_
          refine DN.then_normal ?_
          refine WC.seq ?_
          refine WC.region ?_
          refine WL.y rfl (Yd.move rfl) ?_
          refine WL.c rfl (Ent.func Try.call16 rfl) (accs_tells p K1 L1 C2 h2 (by omega)) (Sp.p (by repeat (first | exact Sp.here | exact Sp.sn | exact Sp.s0 | exact Fr.here | apply Sp.s2 | apply Sp.sx | apply Fr.fc | apply Fr.al | apply Fr.fa | apply Sp.sc | apply Sp.al | apply Sp.sa))) ?_
          rintro q C5 ⟨S5, Cs5, hT5, ho5, rfl⟩
          have hl5 := hT5.perm.length_eq
          obtain ⟨so5, sc5, rfl, _⟩ := ho5.form
          refine WL.y rfl (Yd.assign rfl) ?_
          refine WL.nil ?_
          refine DN.then_normal ?_
          refine WC.seq ?_
          refine WC.region ?_
          refine WL.y rfl (Yd.move rfl) ?_
          refine WL.rf rfl (Ent.func Try.call22 rfl) (taken_reads p gs K1 L1 C2 h2 inv (by omega)) (by repeat (first | exact Sp.here | exact Sp.sn | exact Sp.s0 | exact Fr.here | apply Sp.s2 | apply Sp.sx | apply Fr.fc | apply Fr.al | apply Fr.fa | apply Sp.sc | apply Sp.al | apply Sp.sa)) ?_
          refine WL.y rfl (Yd.assign rfl) ?_
          refine WL.nil ?_
          refine DN.then_normal ?_
          refine WC.seq ?_
          refine WC.seq ?_
          refine WC.region ?_
          refine WL.y rfl (Yd.move rfl) ?_
          refine WL.y rfl (Yd.move rfl) ?_
          refine WL.y rfl (Yd.move rfl) ?_
          refine WL.y rfl (Yd.move rfl) ?_
          refine WL.c rfl (Ent.func Try.call24 rfl) (auth_tells p gs K1 L1 C2 h2 inv o nm n) (Sp.p (by repeat (first | exact Sp.here | exact Sp.sn | exact Sp.s0 | exact Fr.here | apply Sp.s2 | apply Sp.sx | apply Fr.fc | apply Fr.al | apply Fr.fa | apply Sp.sc | apply Sp.al | apply Sp.sa))) ?_
          rintro q C4 ⟨rfl, h4⟩
          have inv4 := inv.auth o nm n
          refine WL.y rfl (Yd.neq rfl rfl) ?_
          refine WL.nil ?_
          refine DN.then_normal ?_
          refine WC.cond rfl (fun h65 => ?_) (fun h65 => ?_)
          · have hb : authB K1 L1 o nm n = false := by cases hb : authB K1 L1 o nm n <;> simp_all [vdP]
            rw [(auth_no hb).1, (auth_no hb).2] at h4 inv4
            refine WC.seq ?_
            refine WC.region ?_
            refine WL.y rfl (Yd.move rfl) ?_
            refine WL.c rfl (Ent.func Try.call16 rfl) (accs_tells p K1 L1 C4 h4 (by omega)) (Sp.p (by repeat (first | exact Sp.here | exact Sp.sn | exact Sp.s0 | exact Fr.here | apply Sp.s2 | apply Sp.sx | apply Fr.fc | apply Fr.al | apply Fr.fa | apply Sp.sc | apply Sp.al | apply Sp.sa))) ?_
            rintro q C9 ⟨S6, Cs6, hT6, ho6, rfl⟩
            have hl6 := hT6.perm.length_eq
            obtain ⟨so6, sc6, rfl, _⟩ := ho6.form
            have he6 := told_sameU inv.knd hT6 hT5
            refine WL.y rfl (Yd.move rfl) ?_
            refine WL.rf rfl (Ent.func Try.call18 rfl) (sameAccs_reads _ _ S6 S5 (Cs6 ++ Cs5) (ho6.rs.mono (by repeat (first | exact Gr.refl | exact Gr.left Gr.refl | exact Gr.left (Gr.left Gr.refl) | exact Gr.left (Gr.app Gr.refl) | exact Gr.left (Gr.left (Gr.left Gr.refl)) | exact Gr.nil | exact Gr.app (Gr.left Gr.refl) | refine Gr.cons ?_ | refine Gr.app ?_ | refine Gr.both ?_ ?_ | refine Gr.put (by repeat (first | exact List.mem_cons_self | apply List.mem_cons_of_mem | apply List.mem_append_right)) ?_))) (ho5.rs.mono (by repeat (first | exact Gr.refl | exact Gr.left Gr.refl | exact Gr.left (Gr.left Gr.refl) | exact Gr.left (Gr.app Gr.refl) | exact Gr.left (Gr.left (Gr.left Gr.refl)) | exact Gr.nil | exact Gr.app (Gr.left Gr.refl) | refine Gr.cons ?_ | refine Gr.app ?_ | refine Gr.both ?_ ?_ | refine Gr.put (by repeat (first | exact List.mem_cons_self | apply List.mem_cons_of_mem | apply List.mem_append_right)) ?_))) (by omega) (by omega)) (by repeat (first | exact Sp.here | exact Sp.sn | exact Sp.s0 | exact Fr.here | apply Sp.s2 | apply Sp.sx | apply Fr.fc | apply Fr.al | apply Fr.fa | apply Sp.sc | apply Sp.al | apply Sp.sa)) ?_
            refine WL.renamed (t := 69) (v := .bool true) rfl (congrArg Value.bool (decide_eq_true he6)) ?_
            refine WL.y rfl (Yd.move rfl) ?_
            refine WL.gr (dj := 70) rfl rfl rfl (Ent.func Try.call10 rfl) (known10 _) ?_
            refine WL.y rfl (Yd.pickT rfl rfl) ?_
            refine WL.y rfl (Yd.assign rfl) ?_
            refine WL.nil ?_
            refine DN.then_normal ?_
            refine WC.ret ?_
            refine DN.then_ret ?_
            refine DN.fit (C := H) (by repeat (first | exact Sp.here | exact Sp.sn | exact Sp.s0 | exact Fr.here | apply Sp.s2 | apply Sp.sx | apply Fr.fc | apply Fr.al | apply Fr.fa | apply Sp.sc | apply Sp.al | apply Sp.sa)) ?_
            refine DN.ret1 Try.results6 rfl ?_
            exact ⟨rfl, rfl⟩
          · have hb : authB K1 L1 o nm n = true := by cases hb : authB K1 L1 o nm n <;> simp_all [vdP]
            obtain ⟨ho0, hn1, hf, hle, hin⟩ := authB_parts hb
            rw [(auth_yes hb).1, (auth_yes hb).2] at h4 inv4
            obtain ⟨KA, hKA⟩ : ∃ x, x = adjU K1 nm 0 n := ⟨_, rfl⟩
            rw [← hKA] at h4 inv4
            have hlen1 : ∀ s : Int, (L1 ++ [(⟨o, nm, n, s⟩ : Py)]).length = L1.length + 1 := fun s => by simp
            have hl1 := hlen1 1
            have hl2 := hlen1 2
            have hl3 := hlen1 3
            have ht1 : takenL (L1 ++ [⟨o, nm, n, 1⟩]) = takenL L1 := by rw [ways_taken]; simp
            have ht2 : takenL (L1 ++ [⟨o, nm, n, 2⟩]) = takenL L1 + n := by rw [ways_taken]; simp
            have ht3 : takenL (L1 ++ [⟨o, nm, n, 3⟩]) = takenL L1 := by rw [ways_taken]; simp
            have htk := inv.taken
            have hnle : n ≤ 1000000000 := by have := inv.mid nm; omega
            refine WC.skip ?_
            refine DN.then_normal ?_
            refine WC.seq ?_
            refine WC.seq ?_
            refine WC.region ?_
            refine WL.y rfl (Yd.move rfl) ?_
            refine WL.y rfl (Yd.move rfl) ?_
            refine WL.y rfl (Yd.move rfl) ?_
            refine WL.y rfl (Yd.move rfl) ?_
            refine WL.c rfl (Ent.func Try.call24 rfl) (auth_tells p gs KA (L1 ++ [⟨o, nm, n, 1⟩]) C4 h4 inv4 o nm n) (Sp.p (by repeat (first | exact Sp.here | exact Sp.sn | exact Sp.s0 | exact Fr.here | apply Sp.s2 | apply Sp.sx | apply Fr.fc | apply Fr.al | apply Fr.fa | apply Sp.sc | apply Sp.al | apply Sp.sa))) ?_
            rintro q C5 ⟨rfl, h5⟩
            rw [(auth_no (ways_auth hf KA 1 nm n)).1, (auth_no (ways_auth hf KA 1 nm n)).2] at h5
            rw [ways_auth hf KA 1 nm n]
            refine WL.y rfl (Yd.neq rfl rfl) ?_
            refine WL.renamed (t := 78) (v := .bool false) rfl (congrArg Value.bool (by decide)) ?_
            refine WL.y rfl (Yd.move rfl) ?_
            refine WL.gy (dj := 79) rfl rfl rfl (Yd.move rfl) ?_
            refine WL.gy (dj := 79) rfl rfl rfl (Yd.move rfl) ?_
            refine WL.gc (dj := 79) rfl rfl rfl (Ent.func Try.call25 rfl) (refund_tells p gs KA (L1 ++ [⟨o, nm, n, 1⟩]) C5 h5 inv4 o) (Sp.p (by repeat (first | exact Sp.here | exact Sp.sn | exact Sp.s0 | exact Fr.here | apply Sp.s2 | apply Sp.sx | apply Fr.fc | apply Fr.al | apply Fr.fa | apply Sp.sc | apply Sp.al | apply Sp.sa))) ?_
            rintro q C6 ⟨rfl, h6⟩
            have hb6 : turnB (L1 ++ [⟨o, nm, n, 1⟩]) o 2 = false := by rw [ways_turnB hf]; decide
            rw [(turn_no 3 1 0 hb6).1, (turn_no (K := KA) 3 1 0 hb6).2] at h6
            rw [hb6]
            refine WL.gy (dj := 79) rfl rfl rfl (Yd.neq rfl rfl) ?_
            refine WL.renamed (t := 83) (v := .bool false) rfl (congrArg Value.bool (by decide)) ?_
            refine WL.y rfl (Yd.pickF rfl rfl) ?_
            refine WL.y rfl (Yd.move rfl) ?_
            refine WL.gy (dj := 85) rfl rfl rfl (Yd.move rfl) ?_
            refine WL.grf (dj := 85) rfl rfl rfl (Ent.func Try.call22 rfl) (taken_reads p gs KA (L1 ++ [⟨o, nm, n, 1⟩]) C6 h6 inv4 (by omega)) (by repeat (first | exact Sp.here | exact Sp.sn | exact Sp.s0 | exact Fr.here | apply Sp.s2 | apply Sp.sx | apply Fr.fc | apply Fr.al | apply Fr.fa | apply Sp.sc | apply Sp.al | apply Sp.sa)) ?_
            refine WL.gy (dj := 85) rfl rfl rfl (Yd.move rfl) ?_
            refine WL.gy (dj := 85) rfl rfl rfl (Yd.neq rfl rfl) ?_
            refine WL.renamed (t := 89) (v := .bool false) rfl (congrArg Value.bool (decide_eq_false (by omega))) ?_
            refine WL.y rfl (Yd.pickF rfl rfl) ?_
            refine WL.nil ?_
            refine DN.then_normal ?_
            refine WC.no rfl ?_
            refine WC.skip ?_
            refine DN.then_normal ?_
            refine WC.seq ?_
            refine WC.seq ?_
            refine WC.region ?_
            refine WL.y rfl (Yd.move rfl) ?_
            refine WL.nil ?_
            refine DN.then_normal ?_
            refine WC.cond rfl (fun h91 => ?_) (fun h91 => ?_)
            · refine WC.seq ?_
              refine WC.region ?_
              refine WL.y rfl (Yd.move rfl) ?_
              refine WL.y rfl (Yd.move rfl) ?_
              refine WL.c rfl (Ent.func Try.call26 rfl) (capture_tells p gs KA (L1 ++ [⟨o, nm, n, 1⟩]) C6 h6 inv4 o) (Sp.p (by repeat (first | exact Sp.here | exact Sp.sn | exact Sp.s0 | exact Fr.here | apply Sp.s2 | apply Sp.sx | apply Fr.fc | apply Fr.al | apply Fr.fa | apply Sp.sc | apply Sp.al | apply Sp.sa))) ?_
              rintro q C7 ⟨rfl, h7⟩
              have hb7 : turnB (L1 ++ [⟨o, nm, n, 1⟩]) o 1 = true := by rw [ways_turnB hf]; decide
              have inv7 := inv4.turn o 1 2 (-1) (-1) (by unfold turnOk; decide)
              obtain ⟨KB, hKB⟩ : ∃ x, x = turnKs KA (L1 ++ [⟨o, nm, n, 1⟩]) o 1 (-1) (-1) := ⟨_, rfl⟩
              rw [← hKB, ways_turnL hf] at h7 inv7
              rw [ways_turnK hf] at hKB
              rw [hb7]
              refine WL.y rfl (Yd.neq rfl rfl) ?_
              refine WL.renamed (t := 95) (v := .bool false) rfl (congrArg Value.bool (by decide)) ?_
              refine WL.y rfl (Yd.move rfl) ?_
              refine WL.gy (dj := 96) rfl rfl rfl (Yd.move rfl) ?_
              refine WL.grf (dj := 96) rfl rfl rfl (Ent.func Try.call22 rfl) (taken_reads p gs KB (L1 ++ [⟨o, nm, n, 2⟩]) C7 h7 inv7 (by omega)) (by repeat (first | exact Sp.here | exact Sp.sn | exact Sp.s0 | exact Fr.here | apply Sp.s2 | apply Sp.sx | apply Fr.fc | apply Fr.al | apply Fr.fa | apply Sp.sc | apply Sp.al | apply Sp.sa)) ?_
              refine WL.gy (dj := 96) rfl rfl rfl (Yd.move rfl) ?_
              refine WL.gy (dj := 96) rfl rfl rfl (Yd.move rfl) ?_
              refine WL.gy (dj := 96) rfl rfl rfl (Yd.add rfl rfl (by omega) (by omega)) ?_
              refine WL.gy (dj := 96) rfl rfl rfl (Yd.neq rfl rfl) ?_
              refine WL.renamed (t := 102) (v := .bool false) rfl (congrArg Value.bool (decide_eq_false (by omega))) ?_
              refine WL.y rfl (Yd.pickF rfl rfl) ?_
              refine WL.y rfl (Yd.move rfl) ?_
              refine WL.gy (dj := 104) rfl rfl rfl (Yd.move rfl) ?_
              refine WL.gy (dj := 104) rfl rfl rfl (Yd.move rfl) ?_
              refine WL.gc (dj := 104) rfl rfl rfl (Ent.func Try.call26 rfl) (capture_tells p gs KB (L1 ++ [⟨o, nm, n, 2⟩]) C7 h7 inv7 o) (Sp.p (by repeat (first | exact Sp.here | exact Sp.sn | exact Sp.s0 | exact Fr.here | apply Sp.s2 | apply Sp.sx | apply Fr.fc | apply Fr.al | apply Fr.fa | apply Sp.sc | apply Sp.al | apply Sp.sa))) ?_
              rintro q C8 ⟨rfl, h8⟩
              have hb8 : turnB (L1 ++ [⟨o, nm, n, 2⟩]) o 1 = false := by rw [ways_turnB hf]; decide
              rw [(turn_no 2 (-1) (-1) hb8).1, (turn_no (K := KB) 2 (-1) (-1) hb8).2] at h8
              rw [hb8]
              refine WL.gy (dj := 104) rfl rfl rfl (Yd.neq rfl rfl) ?_
              refine WL.renamed (t := 108) (v := .bool false) rfl (congrArg Value.bool (by decide)) ?_
              refine WL.y rfl (Yd.pickF rfl rfl) ?_
              refine WL.y rfl (Yd.move rfl) ?_
              refine WL.gy (dj := 110) rfl rfl rfl (Yd.move rfl) ?_
              refine WL.gy (dj := 110) rfl rfl rfl (Yd.move rfl) ?_
              refine WL.gc (dj := 110) rfl rfl rfl (Ent.func Try.call27 rfl) (void_tells p gs KB (L1 ++ [⟨o, nm, n, 2⟩]) C8 h8 inv7 o) (Sp.p (by repeat (first | exact Sp.here | exact Sp.sn | exact Sp.s0 | exact Fr.here | apply Sp.s2 | apply Sp.sx | apply Fr.fc | apply Fr.al | apply Fr.fa | apply Sp.sc | apply Sp.al | apply Sp.sa))) ?_
              rintro q C9 ⟨rfl, h9⟩
              have hb9 : turnB (L1 ++ [⟨o, nm, n, 2⟩]) o 1 = false := by rw [ways_turnB hf]; decide
              rw [(turn_no 3 0 (-1) hb9).1, (turn_no (K := KB) 3 0 (-1) hb9).2] at h9
              rw [hb9]
              refine WL.gy (dj := 110) rfl rfl rfl (Yd.neq rfl rfl) ?_
              refine WL.renamed (t := 114) (v := .bool false) rfl (congrArg Value.bool (by decide)) ?_
              refine WL.y rfl (Yd.pickF rfl rfl) ?_
              refine WL.y rfl (Yd.move rfl) ?_
              refine WL.gy (dj := 116) rfl rfl rfl (Yd.move rfl) ?_
              refine WL.gy (dj := 116) rfl rfl rfl (Yd.move rfl) ?_
              refine WL.gc (dj := 116) rfl rfl rfl (Ent.func Try.call25 rfl) (refund_tells p gs KB (L1 ++ [⟨o, nm, n, 2⟩]) C9 h9 inv7 o) (Sp.p (by repeat (first | exact Sp.here | exact Sp.sn | exact Sp.s0 | exact Fr.here | apply Sp.s2 | apply Sp.sx | apply Fr.fc | apply Fr.al | apply Fr.fa | apply Sp.sc | apply Sp.al | apply Sp.sa))) ?_
              rintro q C10 ⟨rfl, h10⟩
              have hb10 : turnB (L1 ++ [⟨o, nm, n, 2⟩]) o 2 = true := by rw [ways_turnB hf]; decide
              have inv10 := inv7.turn o 2 3 1 0 (by unfold turnOk; decide)
              rw [ways_turnL hf, ways_turnK hf, hKB, hKA, ways_refund inv.knd hin] at h10 inv10
              rw [hb10]
              refine WL.gy (dj := 116) rfl rfl rfl (Yd.neq rfl rfl) ?_
              refine WL.renamed (t := 120) (v := .bool false) rfl (congrArg Value.bool (by decide)) ?_
              refine WL.y rfl (Yd.pickF rfl rfl) ?_
              refine WL.nil ?_
              refine DN.then_normal ?_
              refine WC.no rfl ?_
              refine WC.skip ?_
              refine DN.then_normal ?_
              refine WC.seq ?_
              refine WC.region ?_
              refine WL.y rfl (Yd.move rfl) ?_
              refine WL.y rfl (Yd.move rfl) ?_
              refine WL.c rfl (Ent.func Try.call26 rfl) (capture_tells p gs K1 (L1 ++ [⟨o, nm, n, 3⟩]) C10 h10 inv10 o) (Sp.p (by repeat (first | exact Sp.here | exact Sp.sn | exact Sp.s0 | exact Fr.here | apply Sp.s2 | apply Sp.sx | apply Fr.fc | apply Fr.al | apply Fr.fa | apply Sp.sc | apply Sp.al | apply Sp.sa))) ?_
              rintro q C11 ⟨rfl, h11⟩
              have hb11 : turnB (L1 ++ [⟨o, nm, n, 3⟩]) o 1 = false := by rw [ways_turnB hf]; decide
              have hb12 : turnB (L1 ++ [⟨o, nm, n, 3⟩]) o 2 = false := by rw [ways_turnB hf]; decide
              rw [(turn_no 2 (-1) (-1) hb11).1, (turn_no (K := K1) 2 (-1) (-1) hb11).2] at h11
              rw [hb11]
              refine WL.y rfl (Yd.eql rfl rfl) ?_
              refine WL.renamed (t := 129) (v := .bool true) rfl (congrArg Value.bool (by decide)) ?_
              refine WL.y rfl (Yd.move rfl) ?_
              refine WL.gy (dj := 130) rfl rfl rfl (Yd.move rfl) ?_
              refine WL.gy (dj := 130) rfl rfl rfl (Yd.move rfl) ?_
              refine WL.gc (dj := 130) rfl rfl rfl (Ent.func Try.call27 rfl) (void_tells p gs K1 (L1 ++ [⟨o, nm, n, 3⟩]) C11 h11 inv10 o) (Sp.p (by repeat (first | exact Sp.here | exact Sp.sn | exact Sp.s0 | exact Fr.here | apply Sp.s2 | apply Sp.sx | apply Fr.fc | apply Fr.al | apply Fr.fa | apply Sp.sc | apply Sp.al | apply Sp.sa))) ?_
              rintro q C12 ⟨rfl, h12⟩
              rw [(turn_no 3 0 (-1) hb11).1, (turn_no (K := K1) 3 0 (-1) hb11).2] at h12
              rw [hb11]
              refine WL.gy (dj := 130) rfl rfl rfl (Yd.eql rfl rfl) ?_
              refine WL.renamed (t := 134) (v := .bool true) rfl (congrArg Value.bool (by decide)) ?_
              refine WL.y rfl (Yd.pickT rfl rfl) ?_
              refine WL.y rfl (Yd.move rfl) ?_
              refine WL.gy (dj := 136) rfl rfl rfl (Yd.move rfl) ?_
              refine WL.gy (dj := 136) rfl rfl rfl (Yd.move rfl) ?_
              refine WL.gc (dj := 136) rfl rfl rfl (Ent.func Try.call25 rfl) (refund_tells p gs K1 (L1 ++ [⟨o, nm, n, 3⟩]) C12 h12 inv10 o) (Sp.p (by repeat (first | exact Sp.here | exact Sp.sn | exact Sp.s0 | exact Fr.here | apply Sp.s2 | apply Sp.sx | apply Fr.fc | apply Fr.al | apply Fr.fa | apply Sp.sc | apply Sp.al | apply Sp.sa))) ?_
              rintro q C13 ⟨rfl, h13⟩
              rw [(turn_no 3 1 0 hb12).1, (turn_no (K := K1) 3 1 0 hb12).2] at h13
              rw [hb12]
              refine WL.gy (dj := 136) rfl rfl rfl (Yd.eql rfl rfl) ?_
              refine WL.renamed (t := 140) (v := .bool true) rfl (congrArg Value.bool (by decide)) ?_
              refine WL.y rfl (Yd.pickT rfl rfl) ?_
              refine WL.y rfl (Yd.move rfl) ?_
              refine WL.gy (dj := 142) rfl rfl rfl (Yd.move rfl) ?_
              refine WL.gy (dj := 142) rfl rfl rfl (Yd.move rfl) ?_
              refine WL.gy (dj := 142) rfl rfl rfl (Yd.move rfl) ?_
              refine WL.gy (dj := 142) rfl rfl rfl (Yd.move rfl) ?_
              refine WL.gc (dj := 142) rfl rfl rfl (Ent.func Try.call24 rfl) (auth_tells p gs K1 (L1 ++ [⟨o, nm, n, 3⟩]) C13 h13 inv10 o nm n) (Sp.p (by repeat (first | exact Sp.here | exact Sp.sn | exact Sp.s0 | exact Fr.here | apply Sp.s2 | apply Sp.sx | apply Fr.fc | apply Fr.al | apply Fr.fa | apply Sp.sc | apply Sp.al | apply Sp.sa))) ?_
              rintro q C14 ⟨rfl, h14⟩
              rw [(auth_no (ways_auth hf K1 3 nm n)).1, (auth_no (ways_auth hf K1 3 nm n)).2] at h14
              rw [ways_auth hf K1 3 nm n]
              refine WL.gy (dj := 142) rfl rfl rfl (Yd.eql rfl rfl) ?_
              refine WL.renamed (t := 148) (v := .bool true) rfl (congrArg Value.bool (by decide)) ?_
              refine WL.y rfl (Yd.pickT rfl rfl) ?_
              refine WL.y rfl (Yd.assign rfl) ?_
              refine WL.nil ?_
              refine DN.then_normal ?_
              refine WC.seq ?_
              refine WC.region ?_
              refine WL.y rfl (Yd.move rfl) ?_
              refine WL.y rfl (Yd.move rfl) ?_
              refine WL.gy (dj := 151) rfl rfl rfl (Yd.move rfl) ?_
              refine WL.gc (dj := 151) rfl rfl rfl (Ent.func Try.call16 rfl) (accs_tells p K1 (L1 ++ [⟨o, nm, n, 3⟩]) C14 h14 (by omega)) (Sp.p (by repeat (first | exact Sp.here | exact Sp.sn | exact Sp.s0 | exact Fr.here | apply Sp.s2 | apply Sp.sx | apply Fr.fc | apply Fr.al | apply Fr.fa | apply Sp.sc | apply Sp.al | apply Sp.sa))) ?_
              rintro q C15 ⟨S7, Cs7, hT7, ho7, rfl⟩
              have hl7 := hT7.perm.length_eq
              obtain ⟨so7, sc7, rfl, _⟩ := ho7.form
              have he7 := told_sameU inv.knd hT7 hT5
              refine WL.gy (dj := 151) rfl rfl rfl (Yd.move rfl) ?_
              refine WL.grf (dj := 151) rfl rfl rfl (Ent.func Try.call18 rfl) (sameAccs_reads _ _ S7 S5 (Cs7 ++ Cs5) (ho7.rs.mono (by repeat (first | exact Gr.refl | exact Gr.left Gr.refl | exact Gr.left (Gr.left Gr.refl) | exact Gr.left (Gr.app Gr.refl) | exact Gr.left (Gr.left (Gr.left Gr.refl)) | exact Gr.nil | exact Gr.app (Gr.left Gr.refl) | refine Gr.cons ?_ | refine Gr.app ?_ | refine Gr.both ?_ ?_ | refine Gr.put (by repeat (first | exact List.mem_cons_self | apply List.mem_cons_of_mem | apply List.mem_append_right)) ?_))) (ho5.rs.mono (by repeat (first | exact Gr.refl | exact Gr.left Gr.refl | exact Gr.left (Gr.left Gr.refl) | exact Gr.left (Gr.app Gr.refl) | exact Gr.left (Gr.left (Gr.left Gr.refl)) | exact Gr.nil | exact Gr.app (Gr.left Gr.refl) | refine Gr.cons ?_ | refine Gr.app ?_ | refine Gr.both ?_ ?_ | refine Gr.put (by repeat (first | exact List.mem_cons_self | apply List.mem_cons_of_mem | apply List.mem_append_right)) ?_))) (by omega) (by omega)) (by repeat (first | exact Sp.here | exact Sp.sn | exact Sp.s0 | exact Fr.here | apply Sp.s2 | apply Sp.sx | apply Fr.fc | apply Fr.al | apply Fr.fa | apply Sp.sc | apply Sp.al | apply Sp.sa)) ?_
              refine WL.renamed (t := 155) (v := .bool true) rfl (congrArg Value.bool (decide_eq_true he7)) ?_
              refine WL.y rfl (Yd.pickT rfl rfl) ?_
              refine WL.y rfl (Yd.move rfl) ?_
              refine WL.gy (dj := 157) rfl rfl rfl (Yd.move rfl) ?_
              refine WL.grf (dj := 157) rfl rfl rfl (Ent.func Try.call22 rfl) (taken_reads p gs K1 (L1 ++ [⟨o, nm, n, 3⟩]) C14 h14 inv10 (by omega)) (by repeat (first | exact Sp.here | exact Sp.sn | exact Sp.s0 | exact Fr.here | apply Sp.s2 | apply Sp.sx | apply Fr.fc | apply Fr.al | apply Fr.fa | apply Sp.sc | apply Sp.al | apply Sp.sa)) ?_
              refine WL.gy (dj := 157) rfl rfl rfl (Yd.move rfl) ?_
              refine WL.gy (dj := 157) rfl rfl rfl (Yd.eql rfl rfl) ?_
              refine WL.renamed (t := 161) (v := .bool true) rfl (congrArg Value.bool (decide_eq_true (by omega))) ?_
              refine WL.y rfl (Yd.pickT rfl rfl) ?_
              refine WL.y rfl (Yd.move rfl) ?_
              refine WL.gr (dj := 163) rfl rfl rfl (Ent.func Try.call10 rfl) (known10 _) ?_
              refine WL.y rfl (Yd.pickT rfl rfl) ?_
              refine WL.y rfl (Yd.assign rfl) ?_
              refine WL.nil ?_
              refine DN.then_normal ?_
              refine WC.ret ?_
              refine DN.fit (C := H) (by repeat (first | exact Sp.here | exact Sp.sn | exact Sp.s0 | exact Fr.here | apply Sp.s2 | apply Sp.sx | apply Fr.fc | apply Fr.al | apply Fr.fa | apply Sp.sc | apply Sp.al | apply Sp.sa)) ?_
              refine DN.ret1 Try.results6 rfl ?_
              exact ⟨rfl, rfl⟩
            · refine WC.seq ?_
              refine WC.region ?_
              refine WL.y rfl (Yd.move rfl) ?_
              refine WL.y rfl (Yd.move rfl) ?_
              refine WL.c rfl (Ent.func Try.call27 rfl) (void_tells p gs KA (L1 ++ [⟨o, nm, n, 1⟩]) C6 h6 inv4 o) (Sp.p (by repeat (first | exact Sp.here | exact Sp.sn | exact Sp.s0 | exact Fr.here | apply Sp.s2 | apply Sp.sx | apply Fr.fc | apply Fr.al | apply Fr.fa | apply Sp.sc | apply Sp.al | apply Sp.sa))) ?_
              rintro q C10 ⟨rfl, h10⟩
              have hb10 : turnB (L1 ++ [⟨o, nm, n, 1⟩]) o 1 = true := by rw [ways_turnB hf]; decide
              have inv10 := inv4.turn o 1 3 0 (-1) (by unfold turnOk; decide)
              rw [ways_turnL hf, ways_turnK hf, hKA, ways_void inv.knd hin] at h10 inv10
              rw [hb10]
              refine WL.y rfl (Yd.neq rfl rfl) ?_
              refine WL.renamed (t := 125) (v := .bool false) rfl (congrArg Value.bool (by decide)) ?_
              refine WL.nil ?_
              refine DN.then_normal ?_
              refine WC.no rfl ?_
              refine WC.skip ?_
              refine DN.then_normal ?_
              refine WC.seq ?_
              refine WC.region ?_
              refine WL.y rfl (Yd.move rfl) ?_
              refine WL.y rfl (Yd.move rfl) ?_
              refine WL.c rfl (Ent.func Try.call26 rfl) (capture_tells p gs K1 (L1 ++ [⟨o, nm, n, 3⟩]) C10 h10 inv10 o) (Sp.p (by repeat (first | exact Sp.here | exact Sp.sn | exact Sp.s0 | exact Fr.here | apply Sp.s2 | apply Sp.sx | apply Fr.fc | apply Fr.al | apply Fr.fa | apply Sp.sc | apply Sp.al | apply Sp.sa))) ?_
              rintro q C11 ⟨rfl, h11⟩
              have hb11 : turnB (L1 ++ [⟨o, nm, n, 3⟩]) o 1 = false := by rw [ways_turnB hf]; decide
              have hb12 : turnB (L1 ++ [⟨o, nm, n, 3⟩]) o 2 = false := by rw [ways_turnB hf]; decide
              rw [(turn_no 2 (-1) (-1) hb11).1, (turn_no (K := K1) 2 (-1) (-1) hb11).2] at h11
              rw [hb11]
              refine WL.y rfl (Yd.eql rfl rfl) ?_
              refine WL.renamed (t := 129) (v := .bool true) rfl (congrArg Value.bool (by decide)) ?_
              refine WL.y rfl (Yd.move rfl) ?_
              refine WL.gy (dj := 130) rfl rfl rfl (Yd.move rfl) ?_
              refine WL.gy (dj := 130) rfl rfl rfl (Yd.move rfl) ?_
              refine WL.gc (dj := 130) rfl rfl rfl (Ent.func Try.call27 rfl) (void_tells p gs K1 (L1 ++ [⟨o, nm, n, 3⟩]) C11 h11 inv10 o) (Sp.p (by repeat (first | exact Sp.here | exact Sp.sn | exact Sp.s0 | exact Fr.here | apply Sp.s2 | apply Sp.sx | apply Fr.fc | apply Fr.al | apply Fr.fa | apply Sp.sc | apply Sp.al | apply Sp.sa))) ?_
              rintro q C12 ⟨rfl, h12⟩
              rw [(turn_no 3 0 (-1) hb11).1, (turn_no (K := K1) 3 0 (-1) hb11).2] at h12
              rw [hb11]
              refine WL.gy (dj := 130) rfl rfl rfl (Yd.eql rfl rfl) ?_
              refine WL.renamed (t := 134) (v := .bool true) rfl (congrArg Value.bool (by decide)) ?_
              refine WL.y rfl (Yd.pickT rfl rfl) ?_
              refine WL.y rfl (Yd.move rfl) ?_
              refine WL.gy (dj := 136) rfl rfl rfl (Yd.move rfl) ?_
              refine WL.gy (dj := 136) rfl rfl rfl (Yd.move rfl) ?_
              refine WL.gc (dj := 136) rfl rfl rfl (Ent.func Try.call25 rfl) (refund_tells p gs K1 (L1 ++ [⟨o, nm, n, 3⟩]) C12 h12 inv10 o) (Sp.p (by repeat (first | exact Sp.here | exact Sp.sn | exact Sp.s0 | exact Fr.here | apply Sp.s2 | apply Sp.sx | apply Fr.fc | apply Fr.al | apply Fr.fa | apply Sp.sc | apply Sp.al | apply Sp.sa))) ?_
              rintro q C13 ⟨rfl, h13⟩
              rw [(turn_no 3 1 0 hb12).1, (turn_no (K := K1) 3 1 0 hb12).2] at h13
              rw [hb12]
              refine WL.gy (dj := 136) rfl rfl rfl (Yd.eql rfl rfl) ?_
              refine WL.renamed (t := 140) (v := .bool true) rfl (congrArg Value.bool (by decide)) ?_
              refine WL.y rfl (Yd.pickT rfl rfl) ?_
              refine WL.y rfl (Yd.move rfl) ?_
              refine WL.gy (dj := 142) rfl rfl rfl (Yd.move rfl) ?_
              refine WL.gy (dj := 142) rfl rfl rfl (Yd.move rfl) ?_
              refine WL.gy (dj := 142) rfl rfl rfl (Yd.move rfl) ?_
              refine WL.gy (dj := 142) rfl rfl rfl (Yd.move rfl) ?_
              refine WL.gc (dj := 142) rfl rfl rfl (Ent.func Try.call24 rfl) (auth_tells p gs K1 (L1 ++ [⟨o, nm, n, 3⟩]) C13 h13 inv10 o nm n) (Sp.p (by repeat (first | exact Sp.here | exact Sp.sn | exact Sp.s0 | exact Fr.here | apply Sp.s2 | apply Sp.sx | apply Fr.fc | apply Fr.al | apply Fr.fa | apply Sp.sc | apply Sp.al | apply Sp.sa))) ?_
              rintro q C14 ⟨rfl, h14⟩
              rw [(auth_no (ways_auth hf K1 3 nm n)).1, (auth_no (ways_auth hf K1 3 nm n)).2] at h14
              rw [ways_auth hf K1 3 nm n]
              refine WL.gy (dj := 142) rfl rfl rfl (Yd.eql rfl rfl) ?_
              refine WL.renamed (t := 148) (v := .bool true) rfl (congrArg Value.bool (by decide)) ?_
              refine WL.y rfl (Yd.pickT rfl rfl) ?_
              refine WL.y rfl (Yd.assign rfl) ?_
              refine WL.nil ?_
              refine DN.then_normal ?_
              refine WC.seq ?_
              refine WC.region ?_
              refine WL.y rfl (Yd.move rfl) ?_
              refine WL.y rfl (Yd.move rfl) ?_
              refine WL.gy (dj := 151) rfl rfl rfl (Yd.move rfl) ?_
              refine WL.gc (dj := 151) rfl rfl rfl (Ent.func Try.call16 rfl) (accs_tells p K1 (L1 ++ [⟨o, nm, n, 3⟩]) C14 h14 (by omega)) (Sp.p (by repeat (first | exact Sp.here | exact Sp.sn | exact Sp.s0 | exact Fr.here | apply Sp.s2 | apply Sp.sx | apply Fr.fc | apply Fr.al | apply Fr.fa | apply Sp.sc | apply Sp.al | apply Sp.sa))) ?_
              rintro q C15 ⟨S7, Cs7, hT7, ho7, rfl⟩
              have hl7 := hT7.perm.length_eq
              obtain ⟨so7, sc7, rfl, _⟩ := ho7.form
              have he7 := told_sameU inv.knd hT7 hT5
              refine WL.gy (dj := 151) rfl rfl rfl (Yd.move rfl) ?_
              refine WL.grf (dj := 151) rfl rfl rfl (Ent.func Try.call18 rfl) (sameAccs_reads _ _ S7 S5 (Cs7 ++ Cs5) (ho7.rs.mono (by repeat (first | exact Gr.refl | exact Gr.left Gr.refl | exact Gr.left (Gr.left Gr.refl) | exact Gr.left (Gr.app Gr.refl) | exact Gr.left (Gr.left (Gr.left Gr.refl)) | exact Gr.nil | exact Gr.app (Gr.left Gr.refl) | refine Gr.cons ?_ | refine Gr.app ?_ | refine Gr.both ?_ ?_ | refine Gr.put (by repeat (first | exact List.mem_cons_self | apply List.mem_cons_of_mem | apply List.mem_append_right)) ?_))) (ho5.rs.mono (by repeat (first | exact Gr.refl | exact Gr.left Gr.refl | exact Gr.left (Gr.left Gr.refl) | exact Gr.left (Gr.app Gr.refl) | exact Gr.left (Gr.left (Gr.left Gr.refl)) | exact Gr.nil | exact Gr.app (Gr.left Gr.refl) | refine Gr.cons ?_ | refine Gr.app ?_ | refine Gr.both ?_ ?_ | refine Gr.put (by repeat (first | exact List.mem_cons_self | apply List.mem_cons_of_mem | apply List.mem_append_right)) ?_))) (by omega) (by omega)) (by repeat (first | exact Sp.here | exact Sp.sn | exact Sp.s0 | exact Fr.here | apply Sp.s2 | apply Sp.sx | apply Fr.fc | apply Fr.al | apply Fr.fa | apply Sp.sc | apply Sp.al | apply Sp.sa)) ?_
              refine WL.renamed (t := 155) (v := .bool true) rfl (congrArg Value.bool (decide_eq_true he7)) ?_
              refine WL.y rfl (Yd.pickT rfl rfl) ?_
              refine WL.y rfl (Yd.move rfl) ?_
              refine WL.gy (dj := 157) rfl rfl rfl (Yd.move rfl) ?_
              refine WL.grf (dj := 157) rfl rfl rfl (Ent.func Try.call22 rfl) (taken_reads p gs K1 (L1 ++ [⟨o, nm, n, 3⟩]) C14 h14 inv10 (by omega)) (by repeat (first | exact Sp.here | exact Sp.sn | exact Sp.s0 | exact Fr.here | apply Sp.s2 | apply Sp.sx | apply Fr.fc | apply Fr.al | apply Fr.fa | apply Sp.sc | apply Sp.al | apply Sp.sa)) ?_
              refine WL.gy (dj := 157) rfl rfl rfl (Yd.move rfl) ?_
              refine WL.gy (dj := 157) rfl rfl rfl (Yd.eql rfl rfl) ?_
              refine WL.renamed (t := 161) (v := .bool true) rfl (congrArg Value.bool (decide_eq_true (by omega))) ?_
              refine WL.y rfl (Yd.pickT rfl rfl) ?_
              refine WL.y rfl (Yd.move rfl) ?_
              refine WL.gr (dj := 163) rfl rfl rfl (Ent.func Try.call10 rfl) (known10 _) ?_
              refine WL.y rfl (Yd.pickT rfl rfl) ?_
              refine WL.y rfl (Yd.assign rfl) ?_
              refine WL.nil ?_
              refine DN.then_normal ?_
              refine WC.ret ?_
              refine DN.fit (C := H) (by repeat (first | exact Sp.here | exact Sp.sn | exact Sp.s0 | exact Fr.here | apply Sp.s2 | apply Sp.sx | apply Fr.fc | apply Fr.al | apply Fr.fa | apply Sp.sc | apply Sp.al | apply Sp.sa)) ?_
              refine DN.ret1 Try.results6 rfl ?_
              exact ⟨rfl, rfl⟩
      · refine WC.region ?_
        refine WL.y rfl (Yd.move rfl) ?_
        refine WL.ca rfl (Ent.func Try.call11 rfl) (new_tells _ gs H hv hl) ?_
        rintro q H1 hq
        first | (have inv1 := PInv.start hA; obtain ⟨p, C1, rfl, h1, rfl⟩ := new_inP hq hA) | (obtain ⟨rfl, hHq⟩ := new_outP hq hA; rw [hHq])
        refine WL.y rfl (Yd.move rfl) ?_
        refine WL.y rfl (Yd.extract rfl rfl) ?_
        refine WL.y rfl (Yd.extract rfl rfl) ?_
        refine WL.y rfl (Yd.assign rfl) ?_
        refine WL.y rfl (Yd.assign rfl) ?_
        refine WL.nil ?_
        refine DN.then_normal ?_
        refine WC.seq ?_
        refine WC.seq ?_
        refine WC.region ?_
        refine WL.y rfl (Yd.move rfl) ?_
        refine WL.y rfl (Yd.neq rfl rfl) ?_
        refine WL.renamed (t := 34) (v := .bool true) rfl (congrArg Value.bool (by decide)) ?_
        refine WL.nil ?_
        refine DN.then_normal ?_
        refine WC.yes rfl ?_
        refine WC.seq ?_
        refine WC.region ?_
        refine WL.y rfl (Yd.move rfl) ?_
        refine WL.y rfl (Yd.eqlNil Try.underlying26 rfl rfl) ?_
        refine WL.renamed (t := 36) (v := .bool true) rfl (congrArg Value.bool (rfl)) ?_
        refine WL.y rfl (Yd.move rfl) ?_
        refine WL.gr (dj := 37) rfl rfl rfl (Ent.func Try.call10 rfl) (known10 _) ?_
        refine WL.y rfl (Yd.pickT rfl rfl) ?_
        refine WL.y rfl (Yd.assign rfl) ?_
        refine WL.nil ?_
        refine DN.then_normal ?_
        refine WC.ret ?_
        refine DN.then_ret ?_
        refine DN.fit (C := H) (by repeat (first | exact Sp.here | exact Sp.sn | exact Sp.s0 | exact Fr.here | apply Sp.s2 | apply Sp.sx | apply Fr.fc | apply Fr.al | apply Fr.fa | apply Sp.sc | apply Sp.al | apply Sp.sa)) ?_
        refine DN.ret1 Try.results6 rfl ?_
        exact ⟨rfl, rfl⟩

end Go.Proofs.Ytllfnigodikbaaa
