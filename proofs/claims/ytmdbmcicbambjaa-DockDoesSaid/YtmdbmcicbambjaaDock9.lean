/-
  The walks of a call, with its outcome, and of DockSum.
-/
import Derived.Test.YtmdbmcicbambjaaDock7
import Derived.Test.YtmdbmcicbambjaaDockAct
set_option linter.unusedVariables false
set_option linter.unusedSimpArgs false
set_option maxHeartbeats 4000000
namespace Go.Proofs.Ytmdbmcicbambjaa
open Go.SL


/-- drayage/drayagelaw11.act -/
theorem act3_tells (p : Nat) (first rs : List Int) (L : List Bk) (C : List Ck) (h : DockAt 55 3 p rs L C) (inv : DInv first rs L) (k : Int) (o : BitVec 32) (from_ n : Int) : Tells Try.prog 11 [.pointer (some ⟨p, 0, none⟩), .agg #[.int .i64 k, .int .u32 o.toNat, .int .i64 from_, .int .i64 n]] C fun r H' => r = .tuple #[.int .i64 (actR rs L k o from_ n).1, .int .i64 (actR rs L k o from_ n).2] ∧ DockAt 55 3 p (actRs rs L k o from_ n) (actL rs L k o from_ n) H' := by
  refine Tells.enter Try.func11 rfl Try.ntmps11 rfl ?_
  intro w0 R
  refine WC.seq ?_
  refine WC.region ?_
  refine WL.h rfl (Hd.box rfl fun b3 => ⟨_, rfl, WL.blocks (row b3 [.int .i64 k, .int .u32 o.toNat, .int .i64 from_, .int .i64 n] 33 :: C) (List.Perm.refl _) ?_⟩)
  refine WL.y rfl (Yd.assign rfl) ?_
  refine WL.y rfl (Yd.assign rfl) ?_
  refine WL.nil ?_
  refine DN.then_normal ?_
  refine WC.seq ?_
  refine WC.seq ?_
  refine WC.region ?_
  refine WL.y rfl (Yd.fieldAddr (k := 0) (by kernel_rfl) rfl) ?_
  refine WL.h rfl (Hd.load1 (v := .int .i64 k) (b := b3) (cs := [.int .i64 k, .int .u32 o.toNat, .int .i64 from_, .int .i64 n]) (by kernel_rfl) rfl List.mem_cons_self rfl ⟨_, rfl, ?_⟩)
  refine WL.y rfl (Yd.geq rfl rfl) ?_
  refine WL.y rfl (Yd.move rfl) ?_
  refine WL.partP (t := 9) rfl (fun hg9 => ?_) (fun hg9 => ?_)
  · refine WL.gy (dj := 9) rfl rfl rfl (Yd.fieldAddr (k := 0) (by kernel_rfl) rfl) ?_
    refine WL.gh (dj := 9) rfl rfl rfl (Hd.load1 (v := .int .i64 k) (b := b3) (cs := [.int .i64 k, .int .u32 o.toNat, .int .i64 from_, .int .i64 n]) (by kernel_rfl) rfl List.mem_cons_self rfl ⟨_, rfl, ?_⟩)
    refine WL.gy (dj := 9) rfl rfl rfl (Yd.leq rfl rfl) ?_
    refine WL.y rfl (Yd.pickT rfl rfl) ?_
    refine WL.nil ?_
    refine DN.then_normal ?_
    refine WC.ite rfl (fun h13 => ?_) (fun h13 => ?_)
    · refine WC.seq ?_
      refine WC.region ?_
      refine WL.y rfl (Yd.move rfl) ?_
      refine WL.y rfl (Yd.fieldAddr (k := 1) (by kernel_rfl) rfl) ?_
      refine WL.h rfl (Hd.load1 (v := .int .u32 o.toNat) (b := b3) (cs := [.int .i64 k, .int .u32 o.toNat, .int .i64 from_, .int .i64 n]) (by kernel_rfl) rfl List.mem_cons_self rfl ⟨_, rfl, ?_⟩)
      refine WL.y rfl (Yd.fieldAddr (k := 2) (by kernel_rfl) rfl) ?_
      refine WL.h rfl (Hd.load1 (v := .int .i64 from_) (b := b3) (cs := [.int .i64 k, .int .u32 o.toNat, .int .i64 from_, .int .i64 n]) (by kernel_rfl) rfl List.mem_cons_self rfl ⟨_, rfl, ?_⟩)
      refine WL.y rfl (Yd.fieldAddr (k := 3) (by kernel_rfl) rfl) ?_
      refine WL.h rfl (Hd.load1 (v := .int .i64 n) (b := b3) (cs := [.int .i64 k, .int .u32 o.toNat, .int .i64 from_, .int .i64 n]) (by kernel_rfl) rfl List.mem_cons_self rfl ⟨_, rfl, ?_⟩)
      refine WL.c (D := [row b3 [.int .i64 k, .int .u32 o.toNat, .int .i64 from_, .int .i64 n] 33]) rfl (Ent.func Try.call14 rfl) (book2_tells p rs L C h inv.rooms (by have := inv.len; have := inv.few; omega) o from_ n) (by classical exact List.perm_iff_count.2 fun q => by simp only [List.count_append, List.count_cons, List.count_nil]; omega) ?_
      rintro q C2 ⟨rfl, h2⟩
      refine WL.y rfl (Yd.extract rfl rfl) ?_
      refine WL.y rfl (Yd.extract rfl rfl) ?_
      refine WL.y rfl (Yd.assign rfl) ?_
      refine WL.y rfl (Yd.assign rfl) ?_
      refine WL.nil ?_
      refine DN.then_normal ?_
      refine WC.ret ?_
      refine DN.then_ret ?_
      refine DN.forget C2 (List.sublist_append_left _ _) ?_
      refine DN.ret2 Try.results11 rfl rfl ?_
      first
        | (have e : isBook k = true := by simp [isBook]; omega
           simp only [actR, actRs, actL, e, if_true]
           exact ⟨by first | rfl | trivial, h2⟩)
        | (have e : isBook k = false := by simp [isBook]; omega
           simp only [actR, actRs, actL, e, Bool.false_eq_true, if_false]
           exact ⟨by first | rfl | trivial, h2⟩)
    · refine WC.skip ?_
      refine DN.then_normal ?_
      refine WC.seq ?_
      refine WC.region ?_
      refine WL.y rfl (Yd.move rfl) ?_
      refine WL.y rfl (Yd.fieldAddr (k := 1) (by kernel_rfl) rfl) ?_
      refine WL.h rfl (Hd.load1 (v := .int .u32 o.toNat) (b := b3) (cs := [.int .i64 k, .int .u32 o.toNat, .int .i64 from_, .int .i64 n]) (by kernel_rfl) rfl List.mem_cons_self rfl ⟨_, rfl, ?_⟩)
      refine WL.c (D := [row b3 [.int .i64 k, .int .u32 o.toNat, .int .i64 from_, .int .i64 n] 33]) rfl (Ent.func Try.call12 rfl) (cancel2_tells p rs L C h o (inv.cancelOk o)) (by classical exact List.perm_iff_count.2 fun q => by simp only [List.count_append, List.count_cons, List.count_nil]; omega) ?_
      rintro q C2 ⟨rfl, h2⟩
      refine WL.y rfl (Yd.assign rfl) ?_
      refine WL.y rfl (Yd.assign rfl) ?_
      refine WL.nil ?_
      refine DN.then_normal ?_
      refine WC.ret ?_
      refine DN.forget C2 (List.sublist_append_left _ _) ?_
      refine DN.ret2 Try.results11 rfl rfl ?_
      first
        | (have e : isBook k = true := by simp [isBook]; omega
           simp only [actR, actRs, actL, e, if_true]
           exact ⟨by first | rfl | trivial, h2⟩)
        | (have e : isBook k = false := by simp [isBook]; omega
           simp only [actR, actRs, actL, e, Bool.false_eq_true, if_false]
           exact ⟨by first | rfl | trivial, h2⟩)
  · refine WL.gn (dj := 9) rfl rfl rfl rfl ?_
    refine WL.gn (dj := 9) rfl rfl rfl rfl ?_
    refine WL.gn (dj := 9) rfl rfl rfl rfl ?_
    refine WL.y rfl (Yd.pickF rfl rfl) ?_
    refine WL.nil ?_
    refine DN.then_normal ?_
    refine WC.no rfl ?_
    refine WC.skip ?_
    refine DN.then_normal ?_
    refine WC.seq ?_
    refine WC.region ?_
    refine WL.y rfl (Yd.move rfl) ?_
    refine WL.y rfl (Yd.fieldAddr (k := 1) (by kernel_rfl) rfl) ?_
    refine WL.h rfl (Hd.load1 (v := .int .u32 o.toNat) (b := b3) (cs := [.int .i64 k, .int .u32 o.toNat, .int .i64 from_, .int .i64 n]) (by kernel_rfl) rfl List.mem_cons_self rfl ⟨_, rfl, ?_⟩)
    refine WL.c (D := [row b3 [.int .i64 k, .int .u32 o.toNat, .int .i64 from_, .int .i64 n] 33]) rfl (Ent.func Try.call12 rfl) (cancel2_tells p rs L C h o (inv.cancelOk o)) (by classical exact List.perm_iff_count.2 fun q => by simp only [List.count_append, List.count_cons, List.count_nil]; omega) ?_
    rintro q C2 ⟨rfl, h2⟩
    refine WL.y rfl (Yd.assign rfl) ?_
    refine WL.y rfl (Yd.assign rfl) ?_
    refine WL.nil ?_
    refine DN.then_normal ?_
    refine WC.ret ?_
    refine DN.forget C2 (List.sublist_append_left _ _) ?_
    refine DN.ret2 Try.results11 rfl rfl ?_
    first
      | (have e : isBook k = true := by simp [isBook]; omega
         simp only [actR, actRs, actL, e, if_true]
         exact ⟨by first | rfl | trivial, h2⟩)
      | (have e : isBook k = false := by simp [isBook]; omega
         simp only [actR, actRs, actL, e, Bool.false_eq_true, if_false]
         exact ⟨by first | rfl | trivial, h2⟩)

/-- drayage/drayagelaw11.DockSum -/
theorem law_DockSum (v va : Value) (rs : List Int) (acts : List Ac) (H : List Ck) (hv : Rs v rs.length (ic rs) H) (hl : rs.length ≤ 9223372036854775807) (hva : Rs va acts.length (acs acts) H) (hla : acts.length ≤ 9223372036854775807) : Reads Try.prog 6 [v, va] H (.bool true) := by
  refine Tells.enter Try.func6 rfl Try.ntmps6 rfl ?_
  intro w0 R
  obtain ⟨vo, vc, rfl, hvc⟩ := hv.form
  obtain ⟨ao, ac, rfl, hac⟩ := hva.form
  refine WC.seq ?_
  refine WC.region ?_
  refine WL.y rfl (Yd.assign rfl) ?_
  refine WL.nil ?_
  refine DN.then_normal ?_
  refine WC.seq ?_
  refine WC.seq ?_
  refine WC.region ?_
  refine WL.y rfl (Yd.move rfl) ?_
  refine WL.y rfl (Yd.len (e := 3) (by kernel_rfl) rfl) ?_
  refine WL.y rfl (Yd.gtr rfl rfl) ?_
  refine WL.nil ?_
  refine DN.then_normal ?_
  refine WC.ite rfl (fun h18 => ?_) (fun h18 => ?_)
  · refine WC.seq ?_
    refine WC.region ?_
    refine WL.r rfl (Ent.func Try.call9 rfl) (known11 _) ?_
    refine WL.y rfl (Yd.assign rfl) ?_
    refine WL.nil ?_
    refine DN.then_normal ?_
    refine WC.ret ?_
    refine DN.then_ret ?_
    refine DN.forget H (by (repeat (first | exact List.Sublist.refl _ | exact List.nil_sublist _ | apply List.Sublist.cons_cons | apply List.Sublist.cons | apply List.sublist_append_of_sublist_right))) ?_
    refine DN.ret1 Try.results6 rfl ?_
    exact ⟨rfl, rfl⟩
  · refine WC.skip ?_
    refine DN.then_normal ?_
    refine WC.seq ?_
    rcases Classical.em ((rs.findIdx? badRoom).isSome = false ∧ rs.length ≤ 60) with hA | hA
    · refine WC.region ?_
      refine WL.y rfl (Yd.move rfl) ?_
      refine WL.ca rfl (Ent.func Try.call10 rfl) (new_tells _ rs H hv hl) ?_
      rintro q H1 hq
      first | (rw [if_pos hA] at hq; obtain ⟨p, C1, rfl, h1, rfl⟩ := hq) | (rw [if_neg hA] at hq; obtain ⟨rfl, hHq⟩ := hq; rw [hHq])
      refine WL.y rfl (Yd.move rfl) ?_
      refine WL.y rfl (Yd.extract rfl rfl) ?_
      refine WL.y rfl (Yd.extract rfl rfl) ?_
      refine WL.y rfl (Yd.assign rfl) ?_
      refine WL.y rfl (Yd.assign rfl) ?_
      refine WL.nil ?_
      refine DN.then_normal ?_
      refine WC.seq ?_
      refine WC.seq ?_
      refine WC.region ?_
      refine WL.y rfl (Yd.move rfl) ?_
      refine WL.y rfl (Yd.neq rfl rfl) ?_
      refine WL.renamed (t := 26) (v := .bool false) rfl (congrArg Value.bool (by decide)) ?_
      refine WL.nil ?_
      refine DN.then_normal ?_
      refine WC.no rfl ?_
      refine WC.skip ?_
      refine DN.then_normal ?_
      refine WC.seq ?_
      refine WC.seq ?_
      refine WC.region ?_
      refine WL.y rfl (Yd.assign rfl) ?_
      refine WL.nil ?_
      refine DN.then_normal ?_
      refine WC.block ?_
      refine WC.loopS (fun z : Nat × List Int × List Bk × List Ck => z.1 ≤ acts.length ∧ DockAt 55 3 p z.2.1 z.2.2.1 z.2.2.2 ∧ DInv rs z.2.1 z.2.2.1) (fun z : Nat × List Int × List Bk × List Ck => [(7, .int .i64 (z.1 : Int))]) (fun z : Nat × List Int × List Bk × List Ck => z.2.2.2 ++ H) (fun z : Nat × List Int × List Bk × List Ck => acts.length - z.1) (⟨0, rs, [], C1⟩) (show 0 ≤ acts.length ∧ DockAt 55 3 p rs [] C1 ∧ DInv rs rs [] from ⟨Nat.zero_le _, h1, DInv.start (goodOk hA.1) hA.2⟩) (Sx.put rfl ((by repeat (first | exact Sx.refl | refine Sx.skip rfl ?_)))) (by repeat (first | exact Sp.here | exact Sp.sn | exact Sp.s0 | exact Fr.here | apply Sp.s2 | apply Sp.sx | apply Fr.fc | apply Fr.al | apply Fr.fa | apply Sp.sc | apply Sp.al | apply Sp.sa)) ?_
      rintro ⟨i, rs1, L1, C2⟩ hI
      replace hI : i ≤ acts.length ∧ DockAt 55 3 p rs1 L1 C2 ∧ DInv rs rs1 L1 := hI
      obtain ⟨hi, h2, inv⟩ := hI
      change WC _ _ _ _ _ _ ([(7, .int .i64 (i : Int))] ++ _) (C2 ++ H)
      refine WC.seq ?_
      refine WC.seq ?_
      refine WC.region ?_
      refine WL.y rfl (Yd.move rfl) ?_
      refine WL.y rfl (Yd.move rfl) ?_
      refine WL.y rfl (Yd.len (e := 33) (by kernel_rfl) rfl) ?_
      refine WL.y rfl (Yd.lss rfl rfl) ?_
      refine WL.y rfl (Yd.move rfl) ?_
      refine WL.partP (t := 36) rfl (fun hg36 => ?_) (fun hg36 => ?_)
      · refine WL.gy (dj := 36) rfl rfl rfl (Yd.move rfl) ?_
        refine WL.gy (dj := 36) rfl rfl rfl (Yd.lss rfl rfl) ?_
        refine WL.y rfl (Yd.pickT rfl rfl) ?_
        refine WL.nil ?_
        refine DN.then_normal ?_
        refine WC.ite rfl (fun h39 => ?_) (fun h39 => ?_)
        · have hlt : i < acts.length := by omega
          obtain ⟨ak, ak2, ak3, ak4, hak⟩ := acs_ex acts i hlt
          have hmany := inv.many
          refine WC.skip ?_
          refine DN.then_normal ?_
          refine WC.seq ?_
          refine WC.block ?_
          refine WC.seq ?_
          refine WC.region ?_
          refine WL.y rfl (Yd.move rfl) ?_
          refine WL.c rfl (Ent.func Try.call19 rfl) (bookings_tells p rs1 L1 C2 h2 inv.many) (Sp.p (by repeat (first | exact Sp.here | exact Sp.sn | exact Sp.s0 | exact Fr.here | apply Sp.s2 | apply Sp.sx | apply Fr.fc | apply Fr.al | apply Fr.fa | apply Sp.sc | apply Sp.al | apply Sp.sa))) ?_
          rintro q C4 ⟨S, Cs, hT, ho, rfl⟩
          have hSl := hT.perm.length_eq
          obtain ⟨so, sc, rfl, hsc⟩ := ho.form
          refine WL.y rfl (Yd.assign rfl) ?_
          refine WL.nil ?_
          refine DN.then_normal ?_
          refine WC.seq ?_
          refine WC.region ?_
          refine WL.y rfl (Yd.move rfl) ?_
          refine WL.y rfl (Yd.move rfl) ?_
          refine WL.y rfl (Yd.len (e := 3) (by kernel_rfl) rfl) ?_
          refine WL.c rfl (Ent.func Try.call13 rfl) (rooms_tells p rs1 L1 C2 h2 rs.length (by omega)) (Sp.p (by repeat (first | exact Sp.here | exact Sp.sn | exact Sp.s0 | exact Fr.here | apply Sp.s2 | apply Sp.sx | apply Fr.fc | apply Fr.al | apply Fr.fa | apply Sp.sc | apply Sp.al | apply Sp.sa))) ?_
          rintro q C5 ⟨D5, h5, rfl⟩
          obtain ⟨qo, qc, rfl, hqc⟩ := h5.form
          refine WL.y rfl (Yd.assign rfl) ?_
          refine WL.nil ?_
          refine DN.then_normal ?_
          refine WC.seq ?_
          refine WC.region ?_
          refine WL.y rfl (Yd.move rfl) ?_
          refine WL.y rfl (Yd.move rfl) ?_
          refine WL.y rfl (Yd.move rfl) ?_
          refine WL.elemA (e := 33) (s := 4) (by kernel_rfl) (by kernel_rfl) (by kernel_rfl) rfl rfl (rfl) (hva.mono (by repeat (first | exact Gr.refl | exact Gr.left Gr.refl | exact Gr.nil | exact Gr.app (Gr.left Gr.refl) | refine Gr.cons ?_ | refine Gr.app ?_ | refine Gr.both ?_ ?_ | refine Gr.put (by repeat (first | exact List.mem_cons_self | apply List.mem_cons_of_mem | apply List.mem_append_right)) ?_))) (hak) (by rfl) (by omega) (hlt) rfl rfl ?_
          intro p52
          refine WL.c rfl (Ent.func Try.call11 rfl) (act3_tells p rs rs1 L1 C2 h2 inv ak ak2 ak3 ak4) (Sp.p (by repeat (first | exact Sp.here | exact Sp.sn | exact Sp.s0 | exact Fr.here | apply Sp.s2 | apply Sp.sx | apply Fr.fc | apply Fr.al | apply Fr.fa | apply Sp.sc | apply Sp.al | apply Sp.sa))) ?_
          rintro q C3 ⟨rfl, h3⟩
          have hv3 := act_v rs1 L1 ak ak2 ak3 ak4
          have inv3 := inv.act ak ak2 ak3 ak4
          generalize (actR rs1 L1 ak ak2 ak3 ak4).1 = x3 at *
          generalize (actR rs1 L1 ak ak2 ak3 ak4).2 = v3 at *
          generalize actRs rs1 L1 ak ak2 ak3 ak4 = rs3 at *
          generalize actL rs1 L1 ak ak2 ak3 ak4 = L3 at *
          have hmany3 := inv3.many
          refine WL.y rfl (Yd.move rfl) ?_
          refine WL.y rfl (Yd.extract rfl rfl) ?_
          refine WL.y rfl (Yd.extract rfl rfl) ?_
          refine WL.y rfl (Yd.assign rfl) ?_
          refine WL.y rfl (Yd.assign rfl) ?_
          refine WL.nil ?_
          refine DN.then_normal ?_
          refine WC.seq ?_
          refine WC.region ?_
          refine WL.y rfl (Yd.move rfl) ?_
          refine WL.c rfl (Ent.func Try.call19 rfl) (bookings_tells p rs3 L3 C3 h3 inv3.many) (Sp.p (by repeat (first | exact Sp.here | exact Sp.sn | exact Sp.s0 | exact Fr.here | apply Sp.s2 | apply Sp.sx | apply Fr.fc | apply Fr.al | apply Fr.fa | apply Sp.sc | apply Sp.al | apply Sp.sa))) ?_
          rintro q C6 ⟨S2, Cs2, hT2, ho2, rfl⟩
          have hSl2 := hT2.perm.length_eq
          obtain ⟨so2, sc2, rfl, hsc2⟩ := ho2.form
          refine WL.y rfl (Yd.assign rfl) ?_
          refine WL.nil ?_
          refine DN.then_normal ?_
          refine WC.seq ?_
          refine WC.cutK (fun _z : Unit => True) (fun _z : Unit => [(79, .bool false)]) (fun _z : Unit => Cs2 ++ (C3 ++ H)) ?_ ?_
          · refine WC.region ?_
            refine WL.y rfl (Yd.move rfl) ?_
            refine WL.y rfl (Yd.neq rfl rfl) ?_
            refine WL.y rfl (Yd.move rfl) ?_
            refine WL.partP (t := 61) rfl (fun hg61 => ?_) (fun hg61 => ?_)
            · refine WL.gy (dj := 61) rfl rfl rfl (Yd.move rfl) ?_
              refine WL.gy (dj := 61) rfl rfl rfl (Yd.neq rfl rfl) ?_
              refine WL.renamed (t := 63) (v := .bool false) rfl (congrArg Value.bool (decide_eq_false (by omega))) ?_
              refine WL.gy (dj := 61) rfl rfl rfl (Yd.move rfl) ?_
              refine WL.gy (dj := 64) rfl rfl rfl (Yd.move rfl) ?_
              refine WL.gy (dj := 64) rfl rfl rfl (Yd.move rfl) ?_
              refine WL.grf (dj := 64) rfl rfl rfl (Ent.func Try.call20 rfl) (same_reads _ _ S S2 (Cs ++ Cs2) (ho.rs.mono (by repeat (first | exact Gr.refl | exact Gr.left Gr.refl | exact Gr.nil | exact Gr.app (Gr.left Gr.refl) | refine Gr.cons ?_ | refine Gr.app ?_ | refine Gr.both ?_ ?_ | refine Gr.put (by repeat (first | exact List.mem_cons_self | apply List.mem_cons_of_mem | apply List.mem_append_right)) ?_))) (ho2.rs.mono (by repeat (first | exact Gr.refl | exact Gr.left Gr.refl | exact Gr.nil | exact Gr.app (Gr.left Gr.refl) | refine Gr.cons ?_ | refine Gr.app ?_ | refine Gr.both ?_ ?_ | refine Gr.put (by repeat (first | exact List.mem_cons_self | apply List.mem_cons_of_mem | apply List.mem_append_right)) ?_))) (by omega) (by omega)) (by repeat (first | exact Sp.here | exact Sp.sn | exact Sp.s0 | exact Fr.here | apply Sp.s2 | apply Sp.sx | apply Fr.fc | apply Fr.al | apply Fr.fa | apply Sp.sc | apply Sp.al | apply Sp.sa)) ?_
              refine WL.renamed (t := 67) (v := .bool true) rfl (congrArg Value.bool (decide_eq_true (by obtain ⟨_, e1, e2⟩ : v3 = 2 ∧ rs3 = rs1 ∧ L3 = L1 := (by rcases hv3 with h | h; exact absurd h (by omega); exact h); rw [e2] at hT2; exact hT.unique inv.keys hT2))) ?_
              refine WL.gy (dj := 64) rfl rfl rfl (Yd.notB rfl) ?_
              refine WL.gy (dj := 61) rfl rfl rfl (Yd.pickF rfl rfl) ?_
              refine WL.gy (dj := 61) rfl rfl rfl (Yd.move rfl) ?_
              refine WL.gy (dj := 70) rfl rfl rfl (Yd.move rfl) ?_
              refine WL.gy (dj := 70) rfl rfl rfl (Yd.move rfl) ?_
              refine WL.gy (dj := 70) rfl rfl rfl (Yd.move rfl) ?_
              refine WL.gy (dj := 70) rfl rfl rfl (Yd.len (e := 3) (by kernel_rfl) rfl) ?_
              refine WL.gc (dj := 70) rfl rfl rfl (Ent.func Try.call13 rfl) (rooms_tells p rs3 L3 C3 h3 rs.length (by omega)) (Sp.p (by repeat (first | exact Sp.here | exact Sp.sn | exact Sp.s0 | exact Fr.here | apply Sp.s2 | apply Sp.sx | apply Fr.fc | apply Fr.al | apply Fr.fa | apply Sp.sc | apply Sp.al | apply Sp.sa))) ?_
              rintro q C7 ⟨D7, h7, rfl⟩
              obtain ⟨yo, yc, rfl, hyc⟩ := h7.form
              refine WL.grf (dj := 70) rfl rfl rfl (Ent.func Try.call23 rfl) (sameInts_reads _ _ (told rs1 (rs.length + 2)) (told rs3 (rs.length + 2)) (D5 ++ D7) (by rw [told_length]; exact h5.rs.mono (by repeat (first | exact Gr.refl | exact Gr.left Gr.refl | exact Gr.nil | exact Gr.app (Gr.left Gr.refl) | refine Gr.cons ?_ | refine Gr.app ?_ | refine Gr.both ?_ ?_ | refine Gr.put (by repeat (first | exact List.mem_cons_self | apply List.mem_cons_of_mem | apply List.mem_append_right)) ?_))) (by rw [told_length]; exact h7.rs.mono (by repeat (first | exact Gr.refl | exact Gr.left Gr.refl | exact Gr.nil | exact Gr.app (Gr.left Gr.refl) | refine Gr.cons ?_ | refine Gr.app ?_ | refine Gr.both ?_ ?_ | refine Gr.put (by repeat (first | exact List.mem_cons_self | apply List.mem_cons_of_mem | apply List.mem_append_right)) ?_))) (by rw [told_length]; omega) (by rw [told_length]; omega)) (by repeat (first | exact Sp.here | exact Sp.sn | exact Sp.s0 | exact Fr.here | apply Sp.s2 | apply Sp.sx | apply Fr.fc | apply Fr.al | apply Fr.fa | apply Sp.sc | apply Sp.al | apply Sp.sa)) ?_
              refine WL.renamed (t := 76) (v := .bool true) rfl (congrArg Value.bool (decide_eq_true (by obtain ⟨_, e1, e2⟩ : v3 = 2 ∧ rs3 = rs1 ∧ L3 = L1 := (by rcases hv3 with h | h; exact absurd h (by omega); exact h); rw [e1]))) ?_
              refine WL.gy (dj := 70) rfl rfl rfl (Yd.notB rfl) ?_
              refine WL.gy (dj := 61) rfl rfl rfl (Yd.pickF rfl rfl) ?_
              refine WL.y rfl (Yd.pickT rfl rfl) ?_
              refine WL.nil ?_
              refine DN.fit (C := Cs2 ++ (C3 ++ H)) (by repeat (first | exact Sp.here | exact Sp.sn | exact Sp.s0 | exact Fr.here | apply Sp.s2 | apply Sp.sx | apply Fr.fc | apply Fr.al | apply Fr.fa | apply Sp.sc | apply Sp.al | apply Sp.sa)) ?_
              exact DN.reachK (()) (trivial) (Sx.put rfl ((by repeat (first | exact Sx.refl | refine Sx.skip rfl ?_)))) (Sp.all (by repeat (first | exact Sp.here | exact Sp.sn | exact Sp.s0 | exact Fr.here | apply Sp.s2 | apply Sp.sx | apply Fr.fc | apply Fr.al | apply Fr.fa | apply Sp.sc | apply Sp.al | apply Sp.sa)))
            · refine WL.gn (dj := 61) rfl rfl rfl rfl ?_
              refine WL.gn (dj := 61) rfl rfl rfl rfl ?_
              refine WL.gn (dj := 61) rfl rfl rfl rfl ?_
              refine WL.gu (dj := 64) rfl rfl rfl ?_
              refine WL.gu (dj := 64) rfl rfl rfl ?_
              refine WL.gu (dj := 64) rfl rfl rfl ?_
              refine WL.gu (dj := 64) rfl rfl rfl ?_
              refine WL.gn (dj := 61) rfl rfl rfl rfl ?_
              refine WL.gn (dj := 61) rfl rfl rfl rfl ?_
              refine WL.gu (dj := 70) rfl rfl rfl ?_
              refine WL.gu (dj := 70) rfl rfl rfl ?_
              refine WL.gu (dj := 70) rfl rfl rfl ?_
              refine WL.gu (dj := 70) rfl rfl rfl ?_
              refine WL.gu (dj := 70) rfl rfl rfl ?_
              refine WL.gu (dj := 70) rfl rfl rfl ?_
              refine WL.gu (dj := 70) rfl rfl rfl ?_
              refine WL.gn (dj := 61) rfl rfl rfl rfl ?_
              refine WL.y rfl (Yd.pickF rfl rfl) ?_
              refine WL.nil ?_
              refine DN.fit (C := Cs2 ++ (C3 ++ H)) (by repeat (first | exact Sp.here | exact Sp.sn | exact Sp.s0 | exact Fr.here | apply Sp.s2 | apply Sp.sx | apply Fr.fc | apply Fr.al | apply Fr.fa | apply Sp.sc | apply Sp.al | apply Sp.sa)) ?_
              exact DN.reachK (()) (trivial) (Sx.put rfl ((by repeat (first | exact Sx.refl | refine Sx.skip rfl ?_)))) (Sp.all (by repeat (first | exact Sp.here | exact Sp.sn | exact Sp.s0 | exact Fr.here | apply Sp.s2 | apply Sp.sx | apply Fr.fc | apply Fr.al | apply Fr.fa | apply Sp.sc | apply Sp.al | apply Sp.sa)))
          · intro _ _
            refine WC.no rfl ?_
            refine WC.skip ?_
            refine DN.then_normal ?_
            refine WC.seq ?_
            refine WC.region ?_
            refine WL.y rfl (Yd.assign rfl) ?_
            refine WL.nil ?_
            refine DN.then_normal ?_
            refine WC.block ?_
            refine WC.loopS (fun z : Nat => z ≤ rs.length) (fun z : Nat => [(13, .int .i64 (z : Int))]) (fun z : Nat => Cs2 ++ (C3 ++ H)) (fun z : Nat => rs.length - z) (0) (show 0 ≤ rs.length from Nat.zero_le _) (Sx.put rfl ((by repeat (first | exact Sx.refl | refine Sx.skip rfl ?_)))) (by repeat (first | exact Sp.here | exact Sp.sn | exact Sp.s0 | exact Fr.here | apply Sp.s2 | apply Sp.sx | apply Fr.fc | apply Fr.al | apply Fr.fa | apply Sp.sc | apply Sp.al | apply Sp.sa)) ?_
            rintro day hI
            replace hI : day ≤ rs.length := hI
            obtain hday := hI
            change WC _ _ _ _ _ _ ([(13, .int .i64 (day : Int))] ++ _) (Cs2 ++ (C3 ++ H))
            refine WC.seq ?_
            refine WC.seq ?_
            refine WC.region ?_
            refine WL.y rfl (Yd.move rfl) ?_
            refine WL.y rfl (Yd.move rfl) ?_
            refine WL.y rfl (Yd.len (e := 3) (by kernel_rfl) rfl) ?_
            refine WL.y rfl (Yd.lss rfl rfl) ?_
            refine WL.nil ?_
            refine DN.then_normal ?_
            refine WC.ite rfl (fun h83 => ?_) (fun h83 => ?_)
            · have hdlt : day < rs.length := by omega
              have hsum := inv3.sums day
              have hok := inv3.ok day
              have hlen := inv3.len
              have hn2 : ∀ b ∈ S2, 1 ≤ b.n := fun b hb => (inv3.bks b (hT2.mem hb)).2.1
              have hs3 := sumDay_perm hT2.perm day
              have hrd := inv3.rooms day
              refine WC.skip ?_
              refine DN.then_normal ?_
              refine WC.seq ?_
              refine WC.block ?_
              refine WC.seq ?_
              refine WC.region ?_
              refine WL.y rfl (Yd.move rfl) ?_
              refine WL.y rfl (Yd.move rfl) ?_
              refine WL.rf rfl (Ent.func Try.call15 rfl) (room_reads p rs3 L3 C3 h3 (day : Int)) (by repeat (first | exact Sp.here | exact Sp.sn | exact Sp.s0 | exact Fr.here | apply Sp.s2 | apply Sp.sx | apply Fr.fc | apply Fr.al | apply Fr.fa | apply Sp.sc | apply Sp.al | apply Sp.sa)) ?_
              refine WL.renamed (t := 88) (v := .int .i64 (rs3.getD day 0)) rfl (congrArg (Value.int .i64) (by simp [roomOf, show day < rs3.length by omega])) ?_
              refine WL.y rfl (Yd.assign rfl) ?_
              refine WL.nil ?_
              refine DN.then_normal ?_
              refine WC.seq ?_
              refine WC.seq ?_
              refine WC.region ?_
              refine WL.y rfl (Yd.move rfl) ?_
              refine WL.y rfl (Yd.lss rfl rfl) ?_
              refine WL.renamed (t := 90) (v := .bool false) rfl (congrArg Value.bool (decide_eq_false (by omega))) ?_
              refine WL.nil ?_
              refine DN.then_normal ?_
              refine WC.no rfl ?_
              refine WC.skip ?_
              refine DN.then_normal ?_
              refine WC.seq ?_
              refine WC.seq ?_
              refine WC.region ?_
              refine WL.y rfl (Yd.assign rfl) ?_
              refine WL.nil ?_
              refine DN.then_normal ?_
              refine WC.block ?_
              refine WC.loopS (fun z : Nat × Int => z.1 ≤ S2.length ∧ z.2 = rs3.getD day 0 + sumDay (S2.take z.1) day) (fun z : Nat × Int => [(15, .int .i64 (z.1 : Int)), (14, .int .i64 z.2)]) (fun z : Nat × Int => Cs2 ++ (C3 ++ H)) (fun z : Nat × Int => S2.length - z.1) (⟨0, rs3.getD day 0⟩) (show 0 ≤ S2.length ∧ (rs3.getD day 0) = rs3.getD day 0 + sumDay (S2.take 0) day from ⟨Nat.zero_le _, by simp [sumDay]⟩) (Sx.put rfl (Sx.put rfl ((by repeat (first | exact Sx.refl | refine Sx.skip rfl ?_))))) (by repeat (first | exact Sp.here | exact Sp.sn | exact Sp.s0 | exact Fr.here | apply Sp.s2 | apply Sp.sx | apply Fr.fc | apply Fr.al | apply Fr.fa | apply Sp.sc | apply Sp.al | apply Sp.sa)) ?_
              rintro ⟨k, z⟩ hI
              replace hI : k ≤ S2.length ∧ z = rs3.getD day 0 + sumDay (S2.take k) day := hI
              obtain ⟨hk, hz⟩ := hI
              change WC _ _ _ _ _ _ ([(15, .int .i64 (k : Int)), (14, .int .i64 z)] ++ _) (Cs2 ++ (C3 ++ H))
              refine WC.seq ?_
              refine WC.seq ?_
              refine WC.region ?_
              refine WL.y rfl (Yd.move rfl) ?_
              refine WL.y rfl (Yd.move rfl) ?_
              refine WL.y rfl (Yd.len (e := 47) (by kernel_rfl) rfl) ?_
              refine WL.y rfl (Yd.lss rfl rfl) ?_
              refine WL.nil ?_
              refine DN.then_normal ?_
              refine WC.ite rfl (fun h94 => ?_) (fun h94 => ?_)
              · have hklt : k < S2.length := by omega
                rcases ho2 with ⟨_, h0, _⟩ | ⟨bs, cap, extra, he, hc1, hc2, hx1, hx2, hCs⟩
                · omega
                simp only [Value.slice.injEq] at he
                obtain ⟨rfl, _, rfl⟩ := he
                subst hCs
                have hs1 := sumDay_take S2 k hklt day
                have hs2 := sumDay_part hn2 (k + 1) day
                have hs4 := sumDay_part hn2 k day
                have hb1 := hn2 S2[k] (List.getElem_mem hklt)
                refine WC.skip ?_
                refine DN.then_normal ?_
                refine WC.seq ?_
                refine WC.block ?_
                refine WC.seq ?_
                refine WC.region ?_
                refine WL.y rfl (Yd.move rfl) ?_
                refine WL.y rfl (Yd.move rfl) ?_
                refine WL.y rfl (Yd.indexAddr (e := 47) (s := 3) (by kernel_rfl) (by kernel_rfl) rfl rfl (by omega) (by omega)) ?_
                refine WL.y rfl (Yd.fieldAddr (k := 1) (by kernel_rfl) rfl) ?_
                refine WL.h rfl (Hd.load1 (v := .int .i64 S2[k].day) (by kernel_rfl) rfl (by repeat (first | exact List.mem_cons_self | apply List.mem_cons_of_mem | apply List.mem_append_right)) (bk_at S2 _ k 1 (by omega) (by omega)) ⟨_, rfl, ?_⟩)
                refine WL.y rfl (Yd.move rfl) ?_
                refine WL.y rfl (Yd.eql rfl rfl) ?_
                refine WL.nil ?_
                refine DN.then_normal ?_
                refine WC.ite rfl (fun h103 => ?_) (fun h103 => ?_)
                · rw [if_pos (by omega)] at hs1
                  refine WC.region ?_
                  refine WL.y rfl (Yd.move rfl) ?_
                  refine WL.y rfl (Yd.move rfl) ?_
                  refine WL.y rfl (Yd.move rfl) ?_
                  refine WL.y rfl (Yd.indexAddr (e := 47) (s := 3) (by kernel_rfl) (by kernel_rfl) rfl rfl (by omega) (by omega)) ?_
                  refine WL.y rfl (Yd.fieldAddr (k := 2) (by kernel_rfl) rfl) ?_
                  refine WL.h rfl (Hd.load1 (v := .int .i64 S2[k].n) (by kernel_rfl) rfl (by repeat (first | exact List.mem_cons_self | apply List.mem_cons_of_mem | apply List.mem_append_right)) (bk_at S2 _ k 2 (by omega) (by omega)) ⟨_, rfl, ?_⟩)
                  refine WL.y rfl (Yd.add rfl rfl (by omega) (by omega)) ?_
                  refine WL.y rfl (Yd.assign rfl) ?_
                  refine WL.nil ?_
                  refine DN.block_normal ?_
                  refine DN.then_normal ?_
                  refine WC.region ?_
                  refine WL.y rfl (Yd.move rfl) ?_
                  refine WL.y rfl (Yd.add rfl rfl (by omega) (by omega)) ?_
                  refine WL.y rfl (Yd.assign rfl) ?_
                  refine WL.nil ?_
                  exact DN.againS (⟨k + 1, z + S2[k].n⟩) (show (k + 1) ≤ S2.length ∧ (z + S2[k].n) = rs3.getD day 0 + sumDay (S2.take (k + 1)) day from ⟨by omega, by rw [hs1]; omega⟩) (show S2.length - (k + 1) < S2.length - k by omega) (Sx.put rfl (Sx.put rfl ((by repeat (first | exact Sx.refl | refine Sx.skip rfl ?_))))) (by repeat (first | exact Sp.here | exact Sp.sn | exact Sp.s0 | exact Fr.here | apply Sp.s2 | apply Sp.sx | apply Fr.fc | apply Fr.al | apply Fr.fa | apply Sp.sc | apply Sp.al | apply Sp.sa))
                · refine WC.skip ?_
                  refine DN.block_normal ?_
                  refine DN.then_normal ?_
                  refine WC.region ?_
                  refine WL.y rfl (Yd.move rfl) ?_
                  refine WL.y rfl (Yd.add rfl rfl (by omega) (by omega)) ?_
                  refine WL.y rfl (Yd.assign rfl) ?_
                  refine WL.nil ?_
                  exact DN.againS (⟨k + 1, z⟩) (show (k + 1) ≤ S2.length ∧ z = rs3.getD day 0 + sumDay (S2.take (k + 1)) day from ⟨by omega, by rw [hs1, if_neg (by omega)]; omega⟩) (show S2.length - (k + 1) < S2.length - k by omega) (Sx.put rfl (Sx.put rfl ((by repeat (first | exact Sx.refl | refine Sx.skip rfl ?_))))) (by repeat (first | exact Sp.here | exact Sp.sn | exact Sp.s0 | exact Fr.here | apply Sp.s2 | apply Sp.sx | apply Fr.fc | apply Fr.al | apply Fr.fa | apply Sp.sc | apply Sp.al | apply Sp.sa))
              · obtain rfl : k = S2.length := by omega
                rw [List.take_length] at hz
                refine WC.exit ?_
                refine DN.then_exit ?_
                refine DN.then_exit ?_
                refine DN.block_exit ?_
                refine DN.then_normal ?_
                refine WC.seq ?_
                refine WC.region ?_
                refine WL.y rfl (Yd.move rfl) ?_
                refine WL.y rfl (Yd.move rfl) ?_
                refine WL.y rfl (Yd.move rfl) ?_
                refine WL.elem (e := 3) (by kernel_rfl) (by kernel_rfl) (by kernel_rfl) rfl rfl (rfl) (hv.mono (by repeat (first | exact Gr.refl | exact Gr.left Gr.refl | exact Gr.nil | exact Gr.app (Gr.left Gr.refl) | refine Gr.cons ?_ | refine Gr.app ?_ | refine Gr.both ?_ ?_ | refine Gr.put (by repeat (first | exact List.mem_cons_self | apply List.mem_cons_of_mem | apply List.mem_append_right)) ?_))) (ic_getD hdlt) (hdlt) rfl rfl ?_
                intro _
                refine WL.y rfl (Yd.neq rfl rfl) ?_
                refine WL.renamed (t := 116) (v := .bool false) rfl (congrArg Value.bool (decide_eq_false (by omega))) ?_
                refine WL.nil ?_
                refine DN.then_normal ?_
                refine WC.no rfl ?_
                refine WC.skip ?_
                refine DN.block_normal ?_
                refine DN.then_normal ?_
                refine WC.region ?_
                refine WL.y rfl (Yd.move rfl) ?_
                refine WL.y rfl (Yd.add rfl rfl (by omega) (by omega)) ?_
                refine WL.y rfl (Yd.assign rfl) ?_
                refine WL.nil ?_
                exact DN.againS (day + 1) (show (day + 1) ≤ rs.length from (by omega)) (show rs.length - (day + 1) < rs.length - day by omega) (Sx.put rfl ((by repeat (first | exact Sx.refl | refine Sx.skip rfl ?_)))) (by repeat (first | exact Sp.here | exact Sp.sn | exact Sp.s0 | exact Fr.here | apply Sp.s2 | apply Sp.sx | apply Fr.fc | apply Fr.al | apply Fr.fa | apply Sp.sc | apply Sp.al | apply Sp.sa))
            · refine WC.exit ?_
              refine DN.then_exit ?_
              refine DN.then_exit ?_
              refine DN.block_exit ?_
              refine DN.block_normal ?_
              refine DN.then_normal ?_
              refine WC.region ?_
              refine WL.y rfl (Yd.move rfl) ?_
              refine WL.y rfl (Yd.add rfl rfl (by omega) (by omega)) ?_
              refine WL.y rfl (Yd.assign rfl) ?_
              refine WL.nil ?_
              exact DN.againS (⟨i + 1, rs3, L3, C3⟩) (show (i + 1) ≤ acts.length ∧ DockAt 55 3 p rs3 L3 C3 ∧ DInv rs rs3 L3 from ⟨by omega, h3, inv3⟩) (show acts.length - (i + 1) < acts.length - i by omega) (Sx.put rfl ((by repeat (first | exact Sx.refl | refine Sx.skip rfl ?_)))) (by repeat (first | exact Sp.here | exact Sp.sn | exact Sp.s0 | exact Fr.here | apply Sp.s2 | apply Sp.sx | apply Fr.fc | apply Fr.al | apply Fr.fa | apply Sp.sc | apply Sp.al | apply Sp.sa))
        · refine WC.exit ?_
          refine DN.then_exit ?_
          refine DN.then_exit ?_
          refine DN.block_exit ?_
          refine DN.then_normal ?_
          refine WC.seq ?_
          refine WC.region ?_
          refine WL.r rfl (Ent.func Try.call9 rfl) (known11 _) ?_
          refine WL.y rfl (Yd.assign rfl) ?_
          refine WL.nil ?_
          refine DN.then_normal ?_
          refine WC.ret ?_
          refine DN.forget H (by (repeat (first | exact List.Sublist.refl _ | exact List.nil_sublist _ | apply List.Sublist.cons_cons | apply List.Sublist.cons | apply List.sublist_append_of_sublist_right))) ?_
          refine DN.ret1 Try.results6 rfl ?_
          exact ⟨rfl, rfl⟩
      · refine WL.gn (dj := 36) rfl rfl rfl rfl ?_
        refine WL.gn (dj := 36) rfl rfl rfl rfl ?_
        refine WL.y rfl (Yd.pickF rfl rfl) ?_
        refine WL.nil ?_
        refine DN.then_normal ?_
        refine WC.no rfl ?_
        refine WC.exit ?_
        refine DN.then_exit ?_
        refine DN.then_exit ?_
        refine DN.block_exit ?_
        refine DN.then_normal ?_
        refine WC.seq ?_
        refine WC.region ?_
        refine WL.r rfl (Ent.func Try.call9 rfl) (known11 _) ?_
        refine WL.y rfl (Yd.assign rfl) ?_
        refine WL.nil ?_
        refine DN.then_normal ?_
        refine WC.ret ?_
        refine DN.forget H (by (repeat (first | exact List.Sublist.refl _ | exact List.nil_sublist _ | apply List.Sublist.cons_cons | apply List.Sublist.cons | apply List.sublist_append_of_sublist_right))) ?_
        refine DN.ret1 Try.results6 rfl ?_
        exact ⟨rfl, rfl⟩
    · refine WC.region ?_
      refine WL.y rfl (Yd.move rfl) ?_
      refine WL.ca rfl (Ent.func Try.call10 rfl) (new_tells _ rs H hv hl) ?_
      rintro q H1 hq
      first | (rw [if_pos hA] at hq; obtain ⟨p, C1, rfl, h1, rfl⟩ := hq) | (rw [if_neg hA] at hq; obtain ⟨rfl, hHq⟩ := hq; rw [hHq])
      refine WL.y rfl (Yd.move rfl) ?_
      refine WL.y rfl (Yd.extract rfl rfl) ?_
      refine WL.y rfl (Yd.extract rfl rfl) ?_
      refine WL.y rfl (Yd.assign rfl) ?_
      refine WL.y rfl (Yd.assign rfl) ?_
      refine WL.nil ?_
      refine DN.then_normal ?_
      refine WC.seq ?_
      refine WC.seq ?_
      refine WC.region ?_
      refine WL.y rfl (Yd.move rfl) ?_
      refine WL.y rfl (Yd.neq rfl rfl) ?_
      refine WL.renamed (t := 26) (v := .bool true) rfl (congrArg Value.bool (by decide)) ?_
      refine WL.nil ?_
      refine DN.then_normal ?_
      refine WC.yes rfl ?_
      refine WC.seq ?_
      refine WC.region ?_
      refine WL.y rfl (Yd.move rfl) ?_
      refine WL.y rfl (Yd.eqlNil Try.underlying26 rfl rfl) ?_
      refine WL.renamed (t := 28) (v := .bool true) rfl (congrArg Value.bool (rfl)) ?_
      refine WL.y rfl (Yd.move rfl) ?_
      refine WL.gr (dj := 29) rfl rfl rfl (Ent.func Try.call9 rfl) (known11 _) ?_
      refine WL.y rfl (Yd.pickT rfl rfl) ?_
      refine WL.y rfl (Yd.assign rfl) ?_
      refine WL.nil ?_
      refine DN.then_normal ?_
      refine WC.ret ?_
      refine DN.then_ret ?_
      refine DN.forget H (by (repeat (first | exact List.Sublist.refl _ | exact List.nil_sublist _ | apply List.Sublist.cons_cons | apply List.Sublist.cons | apply List.sublist_append_of_sublist_right))) ?_
      refine DN.ret1 Try.results6 rfl ?_
      exact ⟨rfl, rfl⟩

end Go.Proofs.Ytmdbmcicbambjaa
