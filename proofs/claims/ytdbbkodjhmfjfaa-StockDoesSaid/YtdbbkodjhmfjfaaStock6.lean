/-
  The walks of StockMost and StockOnce.
-/
import Derived.Test.YtdbbkodjhmfjfaaStock5
set_option linter.unusedVariables false
set_option linter.unusedSimpArgs false
set_option maxHeartbeats 4000000
namespace Go.Proofs.Ytdbbkodjhmfjfaa
open Go.SL


/-- drayage/drayagelaw09.StockMost -/
theorem law_StockMost (H : List Ck) (v : Value) (gs : List Gd) (hg : ∀ g ∈ gs, g.gone = 0) (hv : Rs v gs.length (gs.flatMap cellsG) H) (hl : gs.length ≤ 9223372036854775807) (w : Int) (o : BitVec 32) : Reads Try.prog 3 [v, .int .i64 w, .int .u32 o.toNat] H (.bool true) := by
  refine Tells.enter Try.func3 rfl Try.ntmps3 rfl ?_
  intro w0 R
  obtain ⟨vo, vc, rfl, hvc⟩ := hv.form
  refine WC.seq ?_
  refine WC.region ?_
  refine WL.y rfl (Yd.assign rfl) ?_
  refine WL.nil ?_
  refine DN.then_normal ?_
  refine WC.seq ?_
  refine WC.seq ?_
  refine WC.region ?_
  refine WL.y rfl (Yd.move rfl) ?_
  refine WL.rf rfl (Ent.func Try.call9 rfl) (long_reads _ (.slice none 0 0) gs [] H hv (.inl ⟨none, 0, rfl, rfl, rfl⟩) hl (by decide)) (by repeat (first | exact Sp.here | exact Sp.sn | exact Sp.s0 | exact Fr.here | apply Sp.s2 | apply Sp.sx | apply Fr.fc | apply Fr.al | apply Fr.fa | apply Sp.sc | apply Sp.al | apply Sp.sa)) ?_
  refine WL.nil ?_
  refine DN.then_normal ?_
  refine WC.cond rfl (fun h15 => ?_) (fun h15 => ?_)
  · refine WC.seq ?_
    refine WC.region ?_
    refine WL.r rfl (Ent.func Try.call10 rfl) (known09 _) ?_
    refine WL.y rfl (Yd.assign rfl) ?_
    refine WL.nil ?_
    refine DN.then_normal ?_
    refine WC.ret ?_
    refine DN.then_ret ?_
    refine DN.fit (C := H) (by repeat (first | exact Sp.here | exact Sp.sn | exact Sp.s0 | exact Fr.here | apply Sp.s2 | apply Sp.sx | apply Fr.fc | apply Fr.al | apply Fr.fa | apply Sp.sc | apply Sp.al | apply Sp.sa)) ?_
    refine DN.ret1 Try.results3 rfl ?_
    exact ⟨rfl, rfl⟩
  · refine WC.skip ?_
    refine DN.then_normal ?_
    refine WC.seq ?_
    rcases Classical.em (GoodL gs) with hA | hA
    · refine WC.region ?_
      refine WL.y rfl (Yd.move rfl) ?_
      refine WL.ca rfl (Ent.func Try.call11 rfl) (new_tells _ gs hg H hv hl) ?_
      rintro q H1 hq
      first | (obtain ⟨p, C1, rfl, h1, rfl⟩ := new_in hq hA; have inv1 := hA.inv hg) | (obtain ⟨rfl, hHq⟩ := new_out hq hA; rw [hHq])
      refine WL.y rfl (Yd.move rfl) ?_
      refine WL.y rfl (Yd.extract rfl rfl) ?_
      refine WL.y rfl (Yd.extract rfl rfl) ?_
      refine WL.y rfl (Yd.assign rfl) ?_
      refine WL.y rfl (Yd.assign rfl) ?_
      refine WL.nil ?_
      refine DN.then_normal ?_
      refine WC.seq ?_
      refine WC.seq ?_
      refine WC.region ?_
      refine WL.y rfl (Yd.move rfl) ?_
      refine WL.y rfl (Yd.neq rfl rfl) ?_
      refine WL.renamed (t := 23) (v := .bool false) rfl (congrArg Value.bool (by decide)) ?_
      refine WL.y rfl (Yd.move rfl) ?_
      refine WL.gy (dj := 24) rfl rfl rfl (Yd.move rfl) ?_
      refine WL.gy (dj := 24) rfl rfl rfl (Yd.len (e := 32) (by kernel_rfl) rfl) ?_
      refine WL.gy (dj := 24) rfl rfl rfl (Yd.eql rfl rfl) ?_
      refine WL.y rfl (Yd.pickF rfl rfl) ?_
      refine WL.y rfl (Yd.move rfl) ?_
      refine WL.partP (t := 29) rfl (fun hg29 => ?_) (fun hg29 => ?_)
      · refine WL.gn (dj := 29) rfl rfl rfl rfl ?_
        refine WL.gn (dj := 29) rfl rfl rfl rfl ?_
        refine WL.y rfl (Yd.pickT rfl rfl) ?_
        refine WL.nil ?_
        refine DN.then_normal ?_
        refine WC.yes rfl ?_
        refine WC.seq ?_
        refine WC.region ?_
        refine WL.y rfl (Yd.move rfl) ?_
        refine WL.y rfl (Yd.eql rfl rfl) ?_
        refine WL.renamed (t := 34) (v := .bool true) rfl (congrArg Value.bool (by decide)) ?_
        refine WL.y rfl (Yd.move rfl) ?_
        refine WL.y rfl (Yd.neqNil Try.underlying26 rfl rfl) ?_
        refine WL.renamed (t := 36) (v := .bool true) rfl (congrArg Value.bool (rfl)) ?_
        refine WL.y rfl (Yd.eqlB Try.underlying4 rfl rfl) ?_
        refine WL.renamed (t := 37) (v := .bool true) rfl (congrArg Value.bool (by decide)) ?_
        refine WL.y rfl (Yd.move rfl) ?_
        refine WL.gr (dj := 38) rfl rfl rfl (Ent.func Try.call10 rfl) (known09 _) ?_
        refine WL.y rfl (Yd.pickT rfl rfl) ?_
        refine WL.y rfl (Yd.assign rfl) ?_
        refine WL.nil ?_
        refine DN.then_normal ?_
        refine WC.ret ?_
        refine DN.then_ret ?_
        refine DN.fit (C := H) (by repeat (first | exact Sp.here | exact Sp.sn | exact Sp.s0 | exact Fr.here | apply Sp.s2 | apply Sp.sx | apply Fr.fc | apply Fr.al | apply Fr.fa | apply Sp.sc | apply Sp.al | apply Sp.sa)) ?_
        refine DN.ret1 Try.results3 rfl ?_
        exact ⟨rfl, rfl⟩
      · refine WL.gy (dj := 29) rfl rfl rfl (Yd.move rfl) ?_
        refine WL.gy (dj := 29) rfl rfl rfl (Yd.eql32 _ (0#32) rfl rfl rfl rfl) ?_
        refine WL.y rfl (Yd.pickF rfl rfl) ?_
        refine WL.nil ?_
        refine DN.then_normal ?_
        refine WC.ite rfl (fun h32 => ?_) (fun h32 => ?_)
        · refine WC.seq ?_
          refine WC.region ?_
          refine WL.y rfl (Yd.move rfl) ?_
          refine WL.y rfl (Yd.eql rfl rfl) ?_
          refine WL.renamed (t := 34) (v := .bool true) rfl (congrArg Value.bool (by decide)) ?_
          refine WL.y rfl (Yd.move rfl) ?_
          refine WL.y rfl (Yd.neqNil Try.underlying26 rfl rfl) ?_
          refine WL.renamed (t := 36) (v := .bool true) rfl (congrArg Value.bool (rfl)) ?_
          refine WL.y rfl (Yd.eqlB Try.underlying4 rfl rfl) ?_
          refine WL.renamed (t := 37) (v := .bool true) rfl (congrArg Value.bool (by decide)) ?_
          refine WL.y rfl (Yd.move rfl) ?_
          refine WL.gr (dj := 38) rfl rfl rfl (Ent.func Try.call10 rfl) (known09 _) ?_
          refine WL.y rfl (Yd.pickT rfl rfl) ?_
          refine WL.y rfl (Yd.assign rfl) ?_
          refine WL.nil ?_
          refine DN.then_normal ?_
          refine WC.ret ?_
          refine DN.then_ret ?_
          refine DN.fit (C := H) (by repeat (first | exact Sp.here | exact Sp.sn | exact Sp.s0 | exact Fr.here | apply Sp.s2 | apply Sp.sx | apply Fr.fc | apply Fr.al | apply Fr.fa | apply Sp.sc | apply Sp.al | apply Sp.sa)) ?_
          refine DN.ret1 Try.results3 rfl ?_
          exact ⟨rfl, rfl⟩
        · refine WC.skip ?_
          refine DN.then_normal ?_
          refine WC.seq ?_
          refine WC.region ?_
          refine WL.y rfl (Yd.move rfl) ?_
          refine WL.c rfl (Ent.func Try.call12 rfl) (goods_tells p gs [] C1 h1 (by have := hA.1; omega)) (Sp.p (by repeat (first | exact Sp.here | exact Sp.sn | exact Sp.s0 | exact Fr.here | apply Sp.s2 | apply Sp.sx | apply Fr.fc | apply Fr.al | apply Fr.fa | apply Sp.sc | apply Sp.al | apply Sp.sa))) ?_
          rintro q C2 ⟨S2, Cs2, hT2, ho2, rfl⟩
          have hl2 := hT2.perm.length_eq
          obtain ⟨so2, sc2, rfl, _⟩ := ho2.form
          obtain ⟨ub, uf, us, uT, ufr, uex, rfl, _, hum, hus⟩ := ho2.rs.lies (by omega)
          obtain ⟨hne, i, hi, hix⟩ := idx_of w S2.length (by omega) (by have := hA.1; omega)
          obtain ⟨x, hx⟩ : ∃ x, x = S2[i] := ⟨_, rfl⟩
          have hxm : x ∈ S2 := hx ▸ List.getElem_mem hi
          have hfr := told_free hA.2.1 hT2 hxm
          have hgx := hA.2.2 x (hT2.perm.mem_iff.1 hxm)
          have hgx2 := hgx.2.2
          have hb1 : holdB gs [] o x.name (x.free + 1) = false := by
            rw [Bool.eq_false_iff]
            intro hb
            have := (holdB_parts hb).2.2.2.1
            omega
          refine WL.y rfl (Yd.assign rfl) ?_
          refine WL.nil ?_
          refine DN.then_normal ?_
          refine WC.seq ?_
          refine WC.seq ?_
          refine WC.region ?_
          refine WL.y rfl (Yd.move rfl) ?_
          refine WL.y rfl (Yd.len (e := 32) (by kernel_rfl) rfl) ?_
          refine WL.y rfl (Yd.eql rfl rfl) ?_
          refine WL.renamed (t := 45) (v := .bool false) rfl (congrArg Value.bool (decide_eq_false (by omega))) ?_
          refine WL.nil ?_
          refine DN.then_normal ?_
          refine WC.no rfl ?_
          refine WC.skip ?_
          refine DN.then_normal ?_
          refine WC.seq ?_
          refine WC.region ?_
          refine WL.y rfl (Yd.move rfl) ?_
          refine WL.y rfl (Yd.move rfl) ?_
          refine WL.y rfl (Yd.to64 _ (by kernel_rfl) (by kernel_rfl) rfl rfl) ?_
          refine WL.y rfl (Yd.move rfl) ?_
          refine WL.y rfl (Yd.len (e := 32) (by kernel_rfl) rfl) ?_
          refine WL.y rfl (Yd.to64 _ (by kernel_rfl) (by kernel_rfl) rfl rfl) ?_
          refine WL.y rfl (Yd.rem64 _ _ rfl rfl rfl rfl hne) ?_
          refine WL.renamed (t := 52) (v := .int .u64 (i : Int)) rfl (congrArg (Value.int .u64) hix) ?_
          refine WL.y rfl (Yd.toInt (by kernel_rfl) (by kernel_rfl) rfl (by omega) (by omega)) ?_
          refine WL.y rfl (Yd.indexAddr (e := 32) (s := 2) (by kernel_rfl) (by kernel_rfl) rfl rfl (by omega) (by omega)) ?_
          refine WL.h rfl (Hd.loadA (n := 2) (b := ub) (o := uf + (i : Int).toNat * 2) (cs := us) (vs := cellsG x) (by kernel_rfl) rfl (Gr.get (by repeat (first | exact Gr.refl | exact Gr.left Gr.refl | exact Gr.left (Gr.left Gr.refl) | exact Gr.left (Gr.app Gr.refl) | exact Gr.left (Gr.left (Gr.left Gr.refl)) | exact Gr.nil | exact Gr.app (Gr.left Gr.refl) | refine Gr.cons ?_ | refine Gr.app ?_ | refine Gr.both ?_ ?_ | refine Gr.put (by repeat (first | exact List.mem_cons_self | apply List.mem_cons_of_mem | apply List.mem_append_right)) ?_)) hum) (cellsG_len _) (rs_cell hus (by rw [flat_len cellsG 2 cellsG_len]; omega) (by rw [hx]; exact flat_row cellsG 2 cellsG_len S2 i (by omega))) ⟨_, rfl, ?_⟩)
          refine WL.h rfl (Hd.alloc (zs := [.string ⟨#[]⟩, .int .i64 0]) (by kernel_rfl) fun b10 => ⟨_, rfl, ?_⟩)
          refine WL.s (Hd.storeAll (n := 2) (by kernel_rfl) rfl rfl (by rfl) (by repeat (first | exact fun _ h => absurd h List.not_mem_nil | refine List.forall_mem_cons.2 ⟨by first | rfl | assumption, ?_⟩)) (by repeat (first | exact Fr.here | apply Fr.fc | apply Fr.al | apply Fr.fa)) (by rfl) ⟨rfl, ?_⟩)
          refine WL.nil ?_
          refine DN.then_normal ?_
          refine WC.seq ?_
          refine WC.region ?_
          refine WL.y rfl (Yd.move rfl) ?_
          refine WL.y rfl (Yd.move rfl) ?_
          refine WL.y rfl (Yd.fieldAddr (k := 0) (by kernel_rfl) rfl) ?_
          refine WL.h rfl (Hd.load1 (by kernel_rfl) rfl (by repeat (first | exact List.mem_cons_self | apply List.mem_cons_of_mem | apply List.mem_append_right)) (by rfl) ⟨_, rfl, ?_⟩)
          refine WL.y rfl (Yd.fieldAddr (k := 1) (by kernel_rfl) rfl) ?_
          refine WL.h rfl (Hd.load1 (by kernel_rfl) rfl (by repeat (first | exact List.mem_cons_self | apply List.mem_cons_of_mem | apply List.mem_append_right)) (by rfl) ⟨_, rfl, ?_⟩)
          refine WL.y rfl (Yd.add rfl rfl (by omega) (by omega)) ?_
          refine WL.c rfl (Ent.func Try.call13 rfl) (hold_tells p gs gs [] C1 h1 inv1 o x.name (x.free + 1)) (Sp.p (by repeat (first | exact Sp.here | exact Sp.sn | exact Sp.s0 | exact Fr.here | apply Sp.s2 | apply Sp.sx | apply Fr.fc | apply Fr.al | apply Fr.fa | apply Sp.sc | apply Sp.al | apply Sp.sa))) ?_
          rintro q C3 ⟨rfl, h3⟩
          rw [(hold_no hb1).1, (hold_no hb1).2] at h3
          rw [hb1]
          refine WL.y rfl (Yd.assign rfl) ?_
          refine WL.nil ?_
          refine DN.then_normal ?_
          refine WC.seq ?_
          refine WC.region ?_
          refine WL.y rfl (Yd.move rfl) ?_
          refine WL.y rfl (Yd.move rfl) ?_
          refine WL.y rfl (Yd.fieldAddr (k := 0) (by kernel_rfl) rfl) ?_
          refine WL.h rfl (Hd.load1 (by kernel_rfl) rfl (by repeat (first | exact List.mem_cons_self | apply List.mem_cons_of_mem | apply List.mem_append_right)) (by rfl) ⟨_, rfl, ?_⟩)
          refine WL.y rfl (Yd.fieldAddr (k := 1) (by kernel_rfl) rfl) ?_
          refine WL.h rfl (Hd.load1 (by kernel_rfl) rfl (by repeat (first | exact List.mem_cons_self | apply List.mem_cons_of_mem | apply List.mem_append_right)) (by rfl) ⟨_, rfl, ?_⟩)
          refine WL.c rfl (Ent.func Try.call13 rfl) (hold_tells p gs gs [] C3 h3 inv1 o x.name x.free) (Sp.p (by repeat (first | exact Sp.here | exact Sp.sn | exact Sp.s0 | exact Fr.here | apply Sp.s2 | apply Sp.sx | apply Fr.fc | apply Fr.al | apply Fr.fa | apply Sp.sc | apply Sp.al | apply Sp.sa))) ?_
          rintro q C4 ⟨rfl, h4⟩
          have inv4 := inv1.hold o x.name x.free
          have hK4 := inv4.many
          have hb2 : holdB gs [] o x.name x.free = decide (0 < x.free) := by
            rw [Bool.eq_iff_iff]
            constructor
            · intro hb
              have := (holdB_parts hb).2.1
              simp only [decide_eq_true_eq]; omega
            · intro hb
              simp only [decide_eq_true_eq] at hb
              unfold holdB
              simp only [Bool.and_eq_true, decide_eq_true_eq, Bool.not_eq_true']
              exact ⟨fun e => h32 e, by omega, rfl, by omega⟩
          have hfree : freeOf (holdKs gs [] o x.name x.free) x.name = 0 := by
            unfold holdKs
            rw [hb2]
            by_cases h0 : 0 < x.free
            · rw [if_pos (by simpa using h0), adj_free, if_pos rfl]; omega
            · rw [if_neg (by simpa using h0)]; omega
          refine WL.y rfl (Yd.assign rfl) ?_
          refine WL.nil ?_
          refine DN.then_normal ?_
          refine WC.seq ?_
          refine WC.seq ?_
          refine WC.region ?_
          refine WL.y rfl (Yd.move rfl) ?_
          refine WL.y rfl (Yd.neq rfl rfl) ?_
          refine WL.renamed (t := 72) (v := .bool false) rfl (congrArg Value.bool (by decide)) ?_
          refine WL.y rfl (Yd.move rfl) ?_
          refine WL.gy (dj := 73) rfl rfl rfl (Yd.move rfl) ?_
          refine WL.gy (dj := 73) rfl rfl rfl (Yd.eql rfl rfl) ?_
          refine WL.gy (dj := 73) rfl rfl rfl (Yd.fieldAddr (k := 1) (by kernel_rfl) rfl) ?_
          refine WL.gh (dj := 73) rfl rfl rfl (Hd.load1 (by kernel_rfl) rfl (by repeat (first | exact List.mem_cons_self | apply List.mem_cons_of_mem | apply List.mem_append_right)) (by rfl) ⟨_, rfl, ?_⟩)
          refine WL.gy (dj := 73) rfl rfl rfl (Yd.gtr rfl rfl) ?_
          refine WL.gy (dj := 73) rfl rfl rfl (Yd.neqB Try.underlying4 rfl rfl) ?_
          refine WL.renamed (t := 79) (v := .bool false) rfl (congrArg Value.bool (by rw [hb2]; by_cases h0 : 0 < x.free <;> simp [h0, vd])) ?_
          refine WL.y rfl (Yd.pickF rfl rfl) ?_
          refine WL.nil ?_
          refine DN.then_normal ?_
          refine WC.no rfl ?_
          refine WC.skip ?_
          refine DN.then_normal ?_
          refine WC.seq ?_
          refine WC.draw 13 (by kernel_rfl) rfl ?_
          refine WA.y (i := 0) (NoPanic.then (NoPanic.body)) rfl (by kernel_rfl) (by kernel_rfl) (by kernel_rfl) rfl (Yd.move rfl) ?_
          refine WA.y (i := 2) (NoPanic.then (NoPanic.body)) rfl (by kernel_rfl) (by kernel_rfl) (by kernel_rfl) rfl (Yd.move rfl) ?_
          refine WA.y (i := 3) (NoPanic.then (NoPanic.body)) rfl (by kernel_rfl) (by kernel_rfl) (by kernel_rfl) rfl (Yd.to64 _ (by kernel_rfl) (by kernel_rfl) rfl rfl) ?_
          refine WA.y (i := 4) (NoPanic.then (NoPanic.body)) rfl (by kernel_rfl) (by kernel_rfl) (by kernel_rfl) rfl (Yd.move rfl) ?_
          refine WA.y (i := 5) (NoPanic.then (NoPanic.body)) rfl (by kernel_rfl) (by kernel_rfl) (by kernel_rfl) rfl (Yd.len (e := 32) (by kernel_rfl) rfl) ?_
          refine WA.y (i := 6) (NoPanic.then (NoPanic.body)) rfl (by kernel_rfl) (by kernel_rfl) (by kernel_rfl) rfl (Yd.to64 _ (by kernel_rfl) (by kernel_rfl) rfl rfl) ?_
          refine WA.y (i := 7) (NoPanic.then (NoPanic.body)) rfl (by kernel_rfl) (by kernel_rfl) (by kernel_rfl) rfl (Yd.rem64 _ _ rfl rfl rfl rfl hne) ?_
          refine WA.renamed (t := 88) (v := .int .u64 (i : Int)) rfl (congrArg (Value.int .u64) hix) ?_
          refine WA.y (i := 8) (NoPanic.then (NoPanic.body)) rfl (by kernel_rfl) (by kernel_rfl) (by kernel_rfl) rfl (Yd.toInt (by kernel_rfl) (by kernel_rfl) rfl (by omega) (by omega)) ?_
          refine WA.two (i := 1) (j := 11) (by kernel_rfl) ?_ ?_
          · refine WO.c rfl Wt.none rfl (Ent.func Try.call12 rfl) (goods_tells p _ _ C4 h4 (by omega)) (Sp.p (by repeat (first | exact Sp.here | exact Sp.sn | exact Sp.s0 | exact Fr.here | apply Sp.s2 | apply Sp.sx | apply Fr.fc | apply Fr.al | apply Fr.fa | apply Sp.sc | apply Sp.al | apply Sp.sa))) ?_
            rintro q C5 ⟨S5, Cs5, hT5, ho5, rfl⟩
            have hl5 := hT5.perm.length_eq
            obtain ⟨so5, sc5, rfl, _⟩ := ho5.form
            have hnm := told_names hA.2.1 inv4.names hT2 hT5
            obtain ⟨wb, wf, ws, wT, wfr, wex, rfl, _, hwm, hws⟩ := ho5.rs.lies (by omega)
            have hi5 : i < S5.length := by omega
            have hn5 := hnm.2 i hi5 hi
            have hf5 := (told_free inv4.knd hT5 (List.getElem_mem hi5)).1
            rw [hn5, ← hx, hfree] at hf5
            refine WA.y (i := 9) (NoPanic.then (NoPanic.body)) rfl (by kernel_rfl) (by kernel_rfl) (by kernel_rfl) rfl (Yd.indexAddr (e := 32) (s := 2) (by kernel_rfl) (by kernel_rfl) rfl rfl (by omega) (by omega)) ?_
            refine WA.two (i := 10) (j := 11) (by kernel_rfl) ?_ ?_
            · refine WO.h rfl Wt.none rfl (Hd.loadA (n := 2) (b := wb) (o := wf + (i : Int).toNat * 2) (cs := ws) (vs := cellsG S5[i]) (by kernel_rfl) rfl (Gr.get (by repeat (first | exact Gr.refl | exact Gr.left Gr.refl | exact Gr.left (Gr.left Gr.refl) | exact Gr.left (Gr.app Gr.refl) | exact Gr.left (Gr.left (Gr.left Gr.refl)) | exact Gr.nil | exact Gr.app (Gr.left Gr.refl) | refine Gr.cons ?_ | refine Gr.app ?_ | refine Gr.both ?_ ?_ | refine Gr.put (by repeat (first | exact List.mem_cons_self | apply List.mem_cons_of_mem | apply List.mem_append_right)) ?_)) hwm) (cellsG_len _) (rs_cell hws (by rw [flat_len cellsG 2 cellsG_len]; omega) (flat_row cellsG 2 cellsG_len S5 i (by omega))) ⟨_, rfl, ?_⟩)
              refine WA.one (i := 11) (by kernel_rfl) ?_
              refine WO.h rfl Wt.none rfl (Hd.alloc (zs := [.string ⟨#[]⟩, .int .i64 0]) (by kernel_rfl) fun b13 => ⟨_, rfl, ?_⟩)
              refine WA.one (i := 12) (by kernel_rfl) ?_
              refine WO.s rfl Wt.none (Hd.storeAll (n := 2) (by kernel_rfl) rfl rfl (by rfl) (by repeat (first | exact fun _ h => absurd h List.not_mem_nil | refine List.forall_mem_cons.2 ⟨by first | rfl | assumption, ?_⟩)) (by repeat (first | exact Fr.here | apply Fr.fc | apply Fr.al | apply Fr.fa)) (by rfl) ⟨rfl, ?_⟩)
              refine WA.done (by kernel_rfl) ?_
              refine DN.then_normal ?_
              refine WC.seq ?_
              refine WC.region ?_
              refine WL.y rfl (Yd.fieldAddr (k := 0) (by kernel_rfl) rfl) ?_
              refine WL.h rfl (Hd.load1 (by kernel_rfl) rfl (by repeat (first | exact List.mem_cons_self | apply List.mem_cons_of_mem | apply List.mem_append_right)) (by rfl) ⟨_, rfl, ?_⟩)
              refine WL.y rfl (Yd.fieldAddr (k := 0) (by kernel_rfl) rfl) ?_
              refine WL.h rfl (Hd.load1 (by kernel_rfl) rfl (by repeat (first | exact List.mem_cons_self | apply List.mem_cons_of_mem | apply List.mem_append_right)) (by rfl) ⟨_, rfl, ?_⟩)
              refine WL.y rfl (Yd.eqlS rfl rfl) ?_
              refine WL.renamed (t := 96) (v := .bool true) rfl (congrArg Value.bool (decide_eq_true (by rw [hn5, hx]))) ?_
              refine WL.y rfl (Yd.move rfl) ?_
              refine WL.gy (dj := 97) rfl rfl rfl (Yd.fieldAddr (k := 1) (by kernel_rfl) rfl) ?_
              refine WL.gh (dj := 97) rfl rfl rfl (Hd.load1 (by kernel_rfl) rfl (by repeat (first | exact List.mem_cons_self | apply List.mem_cons_of_mem | apply List.mem_append_right)) (by rfl) ⟨_, rfl, ?_⟩)
              refine WL.gy (dj := 97) rfl rfl rfl (Yd.eql rfl rfl) ?_
              refine WL.renamed (t := 100) (v := .bool true) rfl (congrArg Value.bool (decide_eq_true (by omega))) ?_
              refine WL.y rfl (Yd.pickT rfl rfl) ?_
              refine WL.y rfl (Yd.move rfl) ?_
              refine WL.gr (dj := 102) rfl rfl rfl (Ent.func Try.call10 rfl) (known09 _) ?_
              refine WL.y rfl (Yd.pickT rfl rfl) ?_
              refine WL.y rfl (Yd.assign rfl) ?_
              refine WL.nil ?_
              refine DN.then_normal ?_
              refine WC.ret ?_
              refine DN.fit (C := H) (by repeat (first | exact Sp.here | exact Sp.sn | exact Sp.s0 | exact Fr.here | apply Sp.s2 | apply Sp.sx | apply Fr.fc | apply Fr.al | apply Fr.fa | apply Sp.sc | apply Sp.al | apply Sp.sa)) ?_
              refine DN.ret1 Try.results3 rfl ?_
              exact ⟨rfl, rfl⟩
            · refine WO.h rfl Wt.none rfl (Hd.alloc (zs := [.string ⟨#[]⟩, .int .i64 0]) (by kernel_rfl) fun b13 => ⟨_, rfl, ?_⟩)
              refine WA.one (i := 10) (by kernel_rfl) ?_
              refine WO.h rfl Wt.none rfl (Hd.loadA (n := 2) (b := wb) (o := wf + (i : Int).toNat * 2) (cs := ws) (vs := cellsG S5[i]) (by kernel_rfl) rfl (Gr.get (by repeat (first | exact Gr.refl | exact Gr.left Gr.refl | exact Gr.left (Gr.left Gr.refl) | exact Gr.left (Gr.app Gr.refl) | exact Gr.left (Gr.left (Gr.left Gr.refl)) | exact Gr.nil | exact Gr.app (Gr.left Gr.refl) | refine Gr.cons ?_ | refine Gr.app ?_ | refine Gr.both ?_ ?_ | refine Gr.put (by repeat (first | exact List.mem_cons_self | apply List.mem_cons_of_mem | apply List.mem_append_right)) ?_)) hwm) (cellsG_len _) (rs_cell hws (by rw [flat_len cellsG 2 cellsG_len]; omega) (flat_row cellsG 2 cellsG_len S5 i (by omega))) ⟨_, rfl, ?_⟩)
              refine WA.one (i := 12) (by kernel_rfl) ?_
              refine WO.s rfl Wt.none (Hd.storeAll (n := 2) (by kernel_rfl) rfl rfl (by rfl) (by repeat (first | exact fun _ h => absurd h List.not_mem_nil | refine List.forall_mem_cons.2 ⟨by first | rfl | assumption, ?_⟩)) (by repeat (first | exact Fr.here | apply Fr.fc | apply Fr.al | apply Fr.fa)) (by rfl) ⟨rfl, ?_⟩)
              refine WA.done (by kernel_rfl) ?_
              refine DN.then_normal ?_
              refine WC.seq ?_
              refine WC.region ?_
              refine WL.y rfl (Yd.fieldAddr (k := 0) (by kernel_rfl) rfl) ?_
              refine WL.h rfl (Hd.load1 (by kernel_rfl) rfl (by repeat (first | exact List.mem_cons_self | apply List.mem_cons_of_mem | apply List.mem_append_right)) (by rfl) ⟨_, rfl, ?_⟩)
              refine WL.y rfl (Yd.fieldAddr (k := 0) (by kernel_rfl) rfl) ?_
              refine WL.h rfl (Hd.load1 (by kernel_rfl) rfl (by repeat (first | exact List.mem_cons_self | apply List.mem_cons_of_mem | apply List.mem_append_right)) (by rfl) ⟨_, rfl, ?_⟩)
              refine WL.y rfl (Yd.eqlS rfl rfl) ?_
              refine WL.renamed (t := 96) (v := .bool true) rfl (congrArg Value.bool (decide_eq_true (by rw [hn5, hx]))) ?_
              refine WL.y rfl (Yd.move rfl) ?_
              refine WL.gy (dj := 97) rfl rfl rfl (Yd.fieldAddr (k := 1) (by kernel_rfl) rfl) ?_
              refine WL.gh (dj := 97) rfl rfl rfl (Hd.load1 (by kernel_rfl) rfl (by repeat (first | exact List.mem_cons_self | apply List.mem_cons_of_mem | apply List.mem_append_right)) (by rfl) ⟨_, rfl, ?_⟩)
              refine WL.gy (dj := 97) rfl rfl rfl (Yd.eql rfl rfl) ?_
              refine WL.renamed (t := 100) (v := .bool true) rfl (congrArg Value.bool (decide_eq_true (by omega))) ?_
              refine WL.y rfl (Yd.pickT rfl rfl) ?_
              refine WL.y rfl (Yd.move rfl) ?_
              refine WL.gr (dj := 102) rfl rfl rfl (Ent.func Try.call10 rfl) (known09 _) ?_
              refine WL.y rfl (Yd.pickT rfl rfl) ?_
              refine WL.y rfl (Yd.assign rfl) ?_
              refine WL.nil ?_
              refine DN.then_normal ?_
              refine WC.ret ?_
              refine DN.fit (C := H) (by repeat (first | exact Sp.here | exact Sp.sn | exact Sp.s0 | exact Fr.here | apply Sp.s2 | apply Sp.sx | apply Fr.fc | apply Fr.al | apply Fr.fa | apply Sp.sc | apply Sp.al | apply Sp.sa)) ?_
              refine DN.ret1 Try.results3 rfl ?_
              exact ⟨rfl, rfl⟩
          · refine WO.h rfl Wt.none rfl (Hd.alloc (zs := [.string ⟨#[]⟩, .int .i64 0]) (by kernel_rfl) fun b13 => ⟨_, rfl, ?_⟩)
            refine WA.one (i := 1) (by kernel_rfl) ?_
            refine WO.c rfl Wt.none rfl (Ent.func Try.call12 rfl) (goods_tells p _ _ C4 h4 (by omega)) (Sp.p (by repeat (first | exact Sp.here | exact Sp.sn | exact Sp.s0 | exact Fr.here | apply Sp.s2 | apply Sp.sx | apply Fr.fc | apply Fr.al | apply Fr.fa | apply Sp.sc | apply Sp.al | apply Sp.sa))) ?_
            rintro q C5 ⟨S5, Cs5, hT5, ho5, rfl⟩
            have hl5 := hT5.perm.length_eq
            obtain ⟨so5, sc5, rfl, _⟩ := ho5.form
            have hnm := told_names hA.2.1 inv4.names hT2 hT5
            obtain ⟨wb, wf, ws, wT, wfr, wex, rfl, _, hwm, hws⟩ := ho5.rs.lies (by omega)
            have hi5 : i < S5.length := by omega
            have hn5 := hnm.2 i hi5 hi
            have hf5 := (told_free inv4.knd hT5 (List.getElem_mem hi5)).1
            rw [hn5, ← hx, hfree] at hf5
            refine WA.y (i := 9) (NoPanic.then (NoPanic.body)) rfl (by kernel_rfl) (by kernel_rfl) (by kernel_rfl) rfl (Yd.indexAddr (e := 32) (s := 2) (by kernel_rfl) (by kernel_rfl) rfl rfl (by omega) (by omega)) ?_
            refine WA.one (i := 10) (by kernel_rfl) ?_
            refine WO.h rfl Wt.none rfl (Hd.loadA (n := 2) (b := wb) (o := wf + (i : Int).toNat * 2) (cs := ws) (vs := cellsG S5[i]) (by kernel_rfl) rfl (Gr.get (by repeat (first | exact Gr.refl | exact Gr.left Gr.refl | exact Gr.left (Gr.left Gr.refl) | exact Gr.left (Gr.app Gr.refl) | exact Gr.left (Gr.left (Gr.left Gr.refl)) | exact Gr.nil | exact Gr.app (Gr.left Gr.refl) | refine Gr.cons ?_ | refine Gr.app ?_ | refine Gr.both ?_ ?_ | refine Gr.put (by repeat (first | exact List.mem_cons_self | apply List.mem_cons_of_mem | apply List.mem_append_right)) ?_)) hwm) (cellsG_len _) (rs_cell hws (by rw [flat_len cellsG 2 cellsG_len]; omega) (flat_row cellsG 2 cellsG_len S5 i (by omega))) ⟨_, rfl, ?_⟩)
            refine WA.one (i := 12) (by kernel_rfl) ?_
            refine WO.s rfl Wt.none (Hd.storeAll (n := 2) (by kernel_rfl) rfl rfl (by rfl) (by repeat (first | exact fun _ h => absurd h List.not_mem_nil | refine List.forall_mem_cons.2 ⟨by first | rfl | assumption, ?_⟩)) (by repeat (first | exact Fr.here | apply Fr.fc | apply Fr.al | apply Fr.fa)) (by rfl) ⟨rfl, ?_⟩)
            refine WA.done (by kernel_rfl) ?_
            refine DN.then_normal ?_
            refine WC.seq ?_
            refine WC.region ?_
            refine WL.y rfl (Yd.fieldAddr (k := 0) (by kernel_rfl) rfl) ?_
            refine WL.h rfl (Hd.load1 (by kernel_rfl) rfl (by repeat (first | exact List.mem_cons_self | apply List.mem_cons_of_mem | apply List.mem_append_right)) (by rfl) ⟨_, rfl, ?_⟩)
            refine WL.y rfl (Yd.fieldAddr (k := 0) (by kernel_rfl) rfl) ?_
            refine WL.h rfl (Hd.load1 (by kernel_rfl) rfl (by repeat (first | exact List.mem_cons_self | apply List.mem_cons_of_mem | apply List.mem_append_right)) (by rfl) ⟨_, rfl, ?_⟩)
            refine WL.y rfl (Yd.eqlS rfl rfl) ?_
            refine WL.renamed (t := 96) (v := .bool true) rfl (congrArg Value.bool (decide_eq_true (by rw [hn5, hx]))) ?_
            refine WL.y rfl (Yd.move rfl) ?_
            refine WL.gy (dj := 97) rfl rfl rfl (Yd.fieldAddr (k := 1) (by kernel_rfl) rfl) ?_
            refine WL.gh (dj := 97) rfl rfl rfl (Hd.load1 (by kernel_rfl) rfl (by repeat (first | exact List.mem_cons_self | apply List.mem_cons_of_mem | apply List.mem_append_right)) (by rfl) ⟨_, rfl, ?_⟩)
            refine WL.gy (dj := 97) rfl rfl rfl (Yd.eql rfl rfl) ?_
            refine WL.renamed (t := 100) (v := .bool true) rfl (congrArg Value.bool (decide_eq_true (by omega))) ?_
            refine WL.y rfl (Yd.pickT rfl rfl) ?_
            refine WL.y rfl (Yd.move rfl) ?_
            refine WL.gr (dj := 102) rfl rfl rfl (Ent.func Try.call10 rfl) (known09 _) ?_
            refine WL.y rfl (Yd.pickT rfl rfl) ?_
            refine WL.y rfl (Yd.assign rfl) ?_
            refine WL.nil ?_
            refine DN.then_normal ?_
            refine WC.ret ?_
            refine DN.fit (C := H) (by repeat (first | exact Sp.here | exact Sp.sn | exact Sp.s0 | exact Fr.here | apply Sp.s2 | apply Sp.sx | apply Fr.fc | apply Fr.al | apply Fr.fa | apply Sp.sc | apply Sp.al | apply Sp.sa)) ?_
            refine DN.ret1 Try.results3 rfl ?_
            exact ⟨rfl, rfl⟩
    · refine WC.region ?_
      refine WL.y rfl (Yd.move rfl) ?_
      refine WL.ca rfl (Ent.func Try.call11 rfl) (new_tells _ gs hg H hv hl) ?_
      rintro q H1 hq
      first | (obtain ⟨p, C1, rfl, h1, rfl⟩ := new_in hq hA; have inv1 := hA.inv hg) | (obtain ⟨rfl, hHq⟩ := new_out hq hA; rw [hHq])
      refine WL.y rfl (Yd.move rfl) ?_
      refine WL.y rfl (Yd.extract rfl rfl) ?_
      refine WL.y rfl (Yd.extract rfl rfl) ?_
      refine WL.y rfl (Yd.assign rfl) ?_
      refine WL.y rfl (Yd.assign rfl) ?_
      refine WL.nil ?_
      refine DN.then_normal ?_
      refine WC.seq ?_
      refine WC.seq ?_
      refine WC.region ?_
      refine WL.y rfl (Yd.move rfl) ?_
      refine WL.y rfl (Yd.neq rfl rfl) ?_
      refine WL.renamed (t := 23) (v := .bool true) rfl (congrArg Value.bool (by decide)) ?_
      refine WL.y rfl (Yd.move rfl) ?_
      refine WL.gn (dj := 24) rfl rfl rfl rfl ?_
      refine WL.gn (dj := 24) rfl rfl rfl rfl ?_
      refine WL.gn (dj := 24) rfl rfl rfl rfl ?_
      refine WL.y rfl (Yd.pickT rfl rfl) ?_
      refine WL.y rfl (Yd.move rfl) ?_
      refine WL.gn (dj := 29) rfl rfl rfl rfl ?_
      refine WL.gn (dj := 29) rfl rfl rfl rfl ?_
      refine WL.y rfl (Yd.pickT rfl rfl) ?_
      refine WL.nil ?_
      refine DN.then_normal ?_
      refine WC.yes rfl ?_
      refine WC.seq ?_
      refine WC.region ?_
      refine WL.y rfl (Yd.move rfl) ?_
      refine WL.y rfl (Yd.eql rfl rfl) ?_
      refine WL.renamed (t := 34) (v := .bool false) rfl (congrArg Value.bool (by decide)) ?_
      refine WL.y rfl (Yd.move rfl) ?_
      refine WL.y rfl (Yd.neqNil Try.underlying26 rfl rfl) ?_
      refine WL.renamed (t := 36) (v := .bool false) rfl (congrArg Value.bool (rfl)) ?_
      refine WL.y rfl (Yd.eqlB Try.underlying4 rfl rfl) ?_
      refine WL.renamed (t := 37) (v := .bool true) rfl (congrArg Value.bool (by decide)) ?_
      refine WL.y rfl (Yd.move rfl) ?_
      refine WL.gr (dj := 38) rfl rfl rfl (Ent.func Try.call10 rfl) (known09 _) ?_
      refine WL.y rfl (Yd.pickT rfl rfl) ?_
      refine WL.y rfl (Yd.assign rfl) ?_
      refine WL.nil ?_
      refine DN.then_normal ?_
      refine WC.ret ?_
      refine DN.then_ret ?_
      refine DN.fit (C := H) (by repeat (first | exact Sp.here | exact Sp.sn | exact Sp.s0 | exact Fr.here | apply Sp.s2 | apply Sp.sx | apply Fr.fc | apply Fr.al | apply Fr.fa | apply Sp.sc | apply Sp.al | apply Sp.sa)) ?_
      refine DN.ret1 Try.results3 rfl ?_
      exact ⟨rfl, rfl⟩

/-- drayage/drayagelaw09.StockOnce -/
theorem law_StockOnce (H : List Ck) (v : Value) (gs : List Gd) (hg : ∀ g ∈ gs, g.gone = 0) (hv : Rs v gs.length (gs.flatMap cellsG) H) (hl : gs.length ≤ 9223372036854775807) (va : Value) (acts : List Ac9) (hva : Rs va acts.length (acts.flatMap cellsA) H) (hla : acts.length ≤ 9223372036854775807) (o : BitVec 32) (nm : ByteArray) (n : Int) : Reads Try.prog 6 [v, va, .int .u32 o.toNat, .string nm, .int .i64 n] H (.bool true) := by
  refine Tells.enter Try.func6 rfl Try.ntmps6 rfl ?_
  intro w0 R
  obtain ⟨vo, vc, rfl, hvc⟩ := hv.form
  obtain ⟨ao, ac, rfl, hac⟩ := hva.form
  refine WC.seq ?_
  refine WC.region ?_
  refine WL.y rfl (Yd.assign rfl) ?_
  refine WL.nil ?_
  refine DN.then_normal ?_
  refine WC.seq ?_
  refine WC.seq ?_
  refine WC.region ?_
  refine WL.y rfl (Yd.move rfl) ?_
  refine WL.y rfl (Yd.move rfl) ?_
  refine WL.rf rfl (Ent.func Try.call9 rfl) (long_reads _ _ gs acts H hv hva hl hla) (by repeat (first | exact Sp.here | exact Sp.sn | exact Sp.s0 | exact Fr.here | apply Sp.s2 | apply Sp.sx | apply Fr.fc | apply Fr.al | apply Fr.fa | apply Sp.sc | apply Sp.al | apply Sp.sa)) ?_
  refine WL.y rfl (Yd.move rfl) ?_
  refine WL.part (t := 20) rfl (fun hg20 => ?_) (fun hg20 => ?_)
  · refine WL.gn (dj := 20) rfl rfl rfl rfl ?_
    refine WL.gn (dj := 20) rfl rfl rfl rfl ?_
    refine WL.gn (dj := 20) rfl rfl rfl rfl ?_
    refine WL.y rfl (Yd.pickT rfl rfl) ?_
    refine WL.nil ?_
    refine DN.then_normal ?_
    refine WC.yes rfl ?_
    refine WC.seq ?_
    refine WC.region ?_
    refine WL.r rfl (Ent.func Try.call10 rfl) (known09 _) ?_
    refine WL.y rfl (Yd.assign rfl) ?_
    refine WL.nil ?_
    refine DN.then_normal ?_
    refine WC.ret ?_
    refine DN.then_ret ?_
    refine DN.fit (C := H) (by repeat (first | exact Sp.here | exact Sp.sn | exact Sp.s0 | exact Fr.here | apply Sp.s2 | apply Sp.sx | apply Fr.fc | apply Fr.al | apply Fr.fa | apply Sp.sc | apply Sp.al | apply Sp.sa)) ?_
    refine DN.ret1 Try.results6 rfl ?_
    exact ⟨rfl, rfl⟩
  · refine WL.gy (dj := 20) rfl rfl rfl (Yd.move rfl) ?_
    refine WL.gy (dj := 20) rfl rfl rfl (Yd.lenS Try.underlying9 rfl) ?_
    refine WL.gy (dj := 20) rfl rfl rfl (Yd.gtr rfl rfl) ?_
    refine WL.y rfl (Yd.pickF rfl rfl) ?_
    refine WL.nil ?_
    refine DN.then_normal ?_
    refine WC.cond rfl (fun h24 => ?_) (fun h24 => ?_)
    · refine WC.seq ?_
      refine WC.region ?_
      refine WL.r rfl (Ent.func Try.call10 rfl) (known09 _) ?_
      refine WL.y rfl (Yd.assign rfl) ?_
      refine WL.nil ?_
      refine DN.then_normal ?_
      refine WC.ret ?_
      refine DN.then_ret ?_
      refine DN.fit (C := H) (by repeat (first | exact Sp.here | exact Sp.sn | exact Sp.s0 | exact Fr.here | apply Sp.s2 | apply Sp.sx | apply Fr.fc | apply Fr.al | apply Fr.fa | apply Sp.sc | apply Sp.al | apply Sp.sa)) ?_
      refine DN.ret1 Try.results6 rfl ?_
      exact ⟨rfl, rfl⟩
    · refine WC.skip ?_
      refine DN.then_normal ?_
      refine WC.seq ?_
      rcases Classical.em (GoodL gs) with hA | hA
      · refine WC.region ?_
        refine WL.y rfl (Yd.move rfl) ?_
        refine WL.ca rfl (Ent.func Try.call11 rfl) (new_tells _ gs hg H hv hl) ?_
        rintro q H1 hq
        first | (obtain ⟨p, C1, rfl, h1, rfl⟩ := new_in hq hA; have inv1 := hA.inv hg) | (obtain ⟨rfl, hHq⟩ := new_out hq hA; rw [hHq])
        refine WL.y rfl (Yd.move rfl) ?_
        refine WL.y rfl (Yd.extract rfl rfl) ?_
        refine WL.y rfl (Yd.extract rfl rfl) ?_
        refine WL.y rfl (Yd.assign rfl) ?_
        refine WL.y rfl (Yd.assign rfl) ?_
        refine WL.nil ?_
        refine DN.then_normal ?_
        refine WC.seq ?_
        refine WC.seq ?_
        refine WC.region ?_
        refine WL.y rfl (Yd.move rfl) ?_
        refine WL.y rfl (Yd.neq rfl rfl) ?_
        refine WL.renamed (t := 32) (v := .bool false) rfl (congrArg Value.bool (by decide)) ?_
        refine WL.nil ?_
        refine DN.then_normal ?_
        refine WC.no rfl ?_
        refine WC.skip ?_
        refine DN.then_normal ?_
        refine WC.seq ?_
        refine WC.seq ?_
        refine WC.region ?_
        refine WL.y rfl (Yd.assign rfl) ?_
        refine WL.nil ?_
        refine DN.then_normal ?_
        refine WC.block ?_
        refine WC.loopS (fun z : Nat × List Gd × List Ho × List Ck => z.1 ≤ acts.length ∧ StAt 57 p z.2.1 z.2.2.1 z.2.2.2 ∧ SInv gs z.2.1 z.2.2.1) (fun z : Nat × List Gd × List Ho × List Ck => [(13, .int .i64 (z.1 : Int))]) (fun z : Nat × List Gd × List Ho × List Ck => z.2.2.2 ++ H) (fun z : Nat × List Gd × List Ho × List Ck => acts.length - z.1) (⟨0, gs, [], C1⟩) (show 0 ≤ acts.length ∧ StAt 57 p gs [] C1 ∧ SInv gs gs [] from ⟨Nat.zero_le _, h1, inv1⟩) (Sx.put rfl ((by repeat (first | exact Sx.refl | refine Sx.skip rfl ?_)))) (by repeat (first | exact Sp.here | exact Sp.sn | exact Sp.s0 | exact Fr.here | apply Sp.s2 | apply Sp.sx | apply Fr.fc | apply Fr.al | apply Fr.fa | apply Sp.sc | apply Sp.al | apply Sp.sa)) ?_
        rintro ⟨i, K1, L1, C2⟩ hI
        replace hI : i ≤ acts.length ∧ StAt 57 p K1 L1 C2 ∧ SInv gs K1 L1 := hI
        obtain ⟨hi, h2, inv⟩ := hI
        change WC _ _ _ _ _ _ ([(13, .int .i64 (i : Int))] ++ _) (C2 ++ H)
        have hmany := inv.many
        refine WC.seq ?_
        refine WC.seq ?_
        refine WC.region ?_
        refine WL.y rfl (Yd.move rfl) ?_
        refine WL.y rfl (Yd.move rfl) ?_
        refine WL.y rfl (Yd.len (e := 41) (by kernel_rfl) rfl) ?_
        refine WL.y rfl (Yd.lss rfl rfl) ?_
        refine WL.y rfl (Yd.move rfl) ?_
        refine WL.partP (t := 42) rfl (fun hg42 => ?_) (fun hg42 => ?_)
        · refine WL.gy (dj := 42) rfl rfl rfl (Yd.move rfl) ?_
          refine WL.gy (dj := 42) rfl rfl rfl (Yd.lss rfl rfl) ?_
          refine WL.y rfl (Yd.pickT rfl rfl) ?_
          refine WL.nil ?_
          refine DN.then_normal ?_
          refine WC.ite rfl (fun h45 => ?_) (fun h45 => ?_)
          · have hlt : i < acts.length := by omega
            refine WC.skip ?_
            refine DN.then_normal ?_
            refine WC.seq ?_
            refine WC.block ?_
            refine WC.region ?_
            refine WL.y rfl (Yd.move rfl) ?_
            refine WL.y rfl (Yd.move rfl) ?_
            refine WL.y rfl (Yd.move rfl) ?_
            refine WL.elemA (e := 41) (s := 4) (by kernel_rfl) (by kernel_rfl) (by kernel_rfl) rfl rfl (rfl) (hva.mono (by repeat (first | exact Gr.refl | exact Gr.left Gr.refl | exact Gr.left (Gr.left Gr.refl) | exact Gr.left (Gr.app Gr.refl) | exact Gr.left (Gr.left (Gr.left Gr.refl)) | exact Gr.nil | exact Gr.app (Gr.left Gr.refl) | refine Gr.cons ?_ | refine Gr.app ?_ | refine Gr.both ?_ ?_ | refine Gr.put (by repeat (first | exact List.mem_cons_self | apply List.mem_cons_of_mem | apply List.mem_append_right)) ?_))) (flat_row cellsA 4 cellsA_len acts i hlt) (by rfl) (by omega) (hlt) rfl rfl ?_
            intro p51
            refine WL.c rfl (Ent.func Try.call15 rfl) (act_tells p gs K1 L1 C2 h2 inv acts[i]) (Sp.p (by repeat (first | exact Sp.here | exact Sp.sn | exact Sp.s0 | exact Fr.here | apply Sp.s2 | apply Sp.sx | apply Fr.fc | apply Fr.al | apply Fr.fa | apply Sp.sc | apply Sp.al | apply Sp.sa))) ?_
            rintro q C3 ⟨rfl, h3⟩
            have inv3 := inv.act acts[i]
            obtain ⟨K3, hK3⟩ : ∃ x, x = actKs K1 L1 acts[i] := ⟨_, rfl⟩
            obtain ⟨L3, hL3⟩ : ∃ x, x = actLs K1 L1 acts[i] := ⟨_, rfl⟩
            rw [← hK3, ← hL3] at h3 inv3
            have hmany3 := inv3.many
            refine WL.nil ?_
            refine DN.block_normal ?_
            refine DN.then_normal ?_
            refine WC.region ?_
            refine WL.y rfl (Yd.move rfl) ?_
            refine WL.y rfl (Yd.add rfl rfl (by omega) (by omega)) ?_
            refine WL.y rfl (Yd.assign rfl) ?_
            refine WL.nil ?_
            exact DN.againS (⟨i + 1, K3, L3, C3⟩) (show (i + 1) ≤ acts.length ∧ StAt 57 p K3 L3 C3 ∧ SInv gs K3 L3 from ⟨by omega, h3, inv3⟩) (show acts.length - (i + 1) < acts.length - i by omega) (Sx.put rfl ((by repeat (first | exact Sx.refl | refine Sx.skip rfl ?_)))) (by repeat (first | exact Sp.here | exact Sp.sn | exact Sp.s0 | exact Fr.here | apply Sp.s2 | apply Sp.sx | apply Fr.fc | apply Fr.al | apply Fr.fa | apply Sp.sc | apply Sp.al | apply Sp.sa))
          · refine WC.exit ?_
            refine DN.then_exit ?_
            refine DN.then_exit ?_
            refine DN.block_exit ?_
            refine DN.then_normal ?_
            refine WC.seq ?_
            refine WC.region ?_
            refine WL.y rfl (Yd.move rfl) ?_
            refine WL.y rfl (Yd.move rfl) ?_
            refine WL.c rfl (Ent.func Try.call25 rfl) (free_tells p gs K1 L1 C2 h2 inv o) (Sp.p (by repeat (first | exact Sp.here | exact Sp.sn | exact Sp.s0 | exact Fr.here | apply Sp.s2 | apply Sp.sx | apply Fr.fc | apply Fr.al | apply Fr.fa | apply Sp.sc | apply Sp.al | apply Sp.sa))) ?_
            rintro q C4 ⟨rfl, h4⟩
            have inv4 := inv.leave o false
            obtain ⟨K4, hK4⟩ : ∃ x, x = leaveKs K1 L1 o false := ⟨_, rfl⟩
            obtain ⟨L4, hL4⟩ : ∃ x, x = delK Ho.o L1 o := ⟨_, rfl⟩
            have hno : findK Ho.o L4 o = none := by rw [hL4, delK_find, if_pos rfl]
            rw [← hK4, ← hL4] at h4 inv4
            have hmany4 := inv4.many
            refine WL.nil ?_
            refine DN.then_normal ?_
            refine WC.seq ?_
            refine WC.region ?_
            refine WL.y rfl (Yd.move rfl) ?_
            refine WL.c rfl (Ent.func Try.call12 rfl) (goods_tells p K4 L4 C4 h4 (by omega)) (Sp.p (by repeat (first | exact Sp.here | exact Sp.sn | exact Sp.s0 | exact Fr.here | apply Sp.s2 | apply Sp.sx | apply Fr.fc | apply Fr.al | apply Fr.fa | apply Sp.sc | apply Sp.al | apply Sp.sa))) ?_
            rintro q C5 ⟨S4, Cs4, hT4, ho4, rfl⟩
            have hl4 := hT4.perm.length_eq
            obtain ⟨so4, sc4, rfl, _⟩ := ho4.form
            refine WL.y rfl (Yd.assign rfl) ?_
            refine WL.nil ?_
            refine DN.then_normal ?_
            refine WC.seq ?_
            refine WC.region ?_
            refine WL.y rfl (Yd.move rfl) ?_
            refine WL.c rfl (Ent.func Try.call18 rfl) (holds_tells p K4 L4 C4 h4 (by omega)) (Sp.p (by repeat (first | exact Sp.here | exact Sp.sn | exact Sp.s0 | exact Fr.here | apply Sp.s2 | apply Sp.sx | apply Fr.fc | apply Fr.al | apply Fr.fa | apply Sp.sc | apply Sp.al | apply Sp.sa))) ?_
            rintro q C5 ⟨T4, Ds4, hU4, hq4, rfl⟩
            have hm4 := hU4.perm.length_eq
            obtain ⟨to4, tc4, rfl, _⟩ := hq4.form
            refine WL.y rfl (Yd.assign rfl) ?_
            refine WL.nil ?_
            refine DN.then_normal ?_
            refine WC.seq ?_
            refine WC.seq ?_
            refine WC.region ?_
            refine WL.y rfl (Yd.move rfl) ?_
            refine WL.y rfl (Yd.move rfl) ?_
            refine WL.c rfl (Ent.func Try.call25 rfl) (free_tells p gs K4 L4 C4 h4 inv4 o) (Sp.p (by repeat (first | exact Sp.here | exact Sp.sn | exact Sp.s0 | exact Fr.here | apply Sp.s2 | apply Sp.sx | apply Fr.fc | apply Fr.al | apply Fr.fa | apply Sp.sc | apply Sp.al | apply Sp.sa))) ?_
            rintro q C6 ⟨rfl, h6⟩
            obtain ⟨e1, e2⟩ := leave_none (K := K4) hno false
            rw [e1, e2] at h6
            rw [hno]
            refine WL.y rfl (Yd.neq rfl rfl) ?_
            refine WL.renamed (t := 64) (v := .bool false) rfl (congrArg Value.bool (by decide)) ?_
            refine WL.y rfl (Yd.move rfl) ?_
            refine WL.gy (dj := 65) rfl rfl rfl (Yd.move rfl) ?_
            refine WL.gy (dj := 65) rfl rfl rfl (Yd.move rfl) ?_
            refine WL.gc (dj := 65) rfl rfl rfl (Ent.func Try.call26 rfl) (ship_tells p gs K4 L4 C6 h6 inv4 o) (Sp.p (by repeat (first | exact Sp.here | exact Sp.sn | exact Sp.s0 | exact Fr.here | apply Sp.s2 | apply Sp.sx | apply Fr.fc | apply Fr.al | apply Fr.fa | apply Sp.sc | apply Sp.al | apply Sp.sa))) ?_
            rintro q C7 ⟨rfl, h7⟩
            obtain ⟨e1, e2⟩ := leave_none (K := K4) hno true
            rw [e1, e2] at h7
            rw [hno]
            refine WL.gy (dj := 65) rfl rfl rfl (Yd.neq rfl rfl) ?_
            refine WL.renamed (t := 69) (v := .bool false) rfl (congrArg Value.bool (by decide)) ?_
            refine WL.y rfl (Yd.pickF rfl rfl) ?_
            refine WL.nil ?_
            refine DN.then_normal ?_
            refine WC.no rfl ?_
            refine WC.skip ?_
            refine DN.then_normal ?_
            refine WC.seq ?_
            refine WC.region ?_
            refine WL.y rfl (Yd.move rfl) ?_
            refine WL.y rfl (Yd.move rfl) ?_
            refine WL.y rfl (Yd.move rfl) ?_
            refine WL.y rfl (Yd.move rfl) ?_
            refine WL.c rfl (Ent.func Try.call13 rfl) (hold_tells p gs K4 L4 C7 h7 inv4 o nm n) (Sp.p (by repeat (first | exact Sp.here | exact Sp.sn | exact Sp.s0 | exact Fr.here | apply Sp.s2 | apply Sp.sx | apply Fr.fc | apply Fr.al | apply Fr.fa | apply Sp.sc | apply Sp.al | apply Sp.sa))) ?_
            rintro q C8 ⟨rfl, h8⟩
            have inv8 := inv4.hold o nm n
            have hmany8 := inv8.many
            refine WL.y rfl (Yd.assign rfl) ?_
            refine WL.nil ?_
            refine DN.then_normal ?_
            refine WC.seq ?_
            refine WC.seq ?_
            refine WC.region ?_
            refine WL.y rfl (Yd.move rfl) ?_
            refine WL.y rfl (Yd.neq rfl rfl) ?_
            refine WL.nil ?_
            refine DN.then_normal ?_
            refine WC.cond rfl (fun h77 => ?_) (fun h77 => ?_)
            · have hb : holdB K4 L4 o nm n = false := by cases hb : holdB K4 L4 o nm n <;> simp_all [vd]
              rw [(hold_no hb).1, (hold_no hb).2] at h8 inv8
              refine WC.seq ?_
              refine WC.region ?_
              refine WL.y rfl (Yd.move rfl) ?_
              refine WL.c rfl (Ent.func Try.call12 rfl) (goods_tells p K4 L4 C8 h8 (by omega)) (Sp.p (by repeat (first | exact Sp.here | exact Sp.sn | exact Sp.s0 | exact Fr.here | apply Sp.s2 | apply Sp.sx | apply Fr.fc | apply Fr.al | apply Fr.fa | apply Sp.sc | apply Sp.al | apply Sp.sa))) ?_
              rintro q C9 ⟨S6, Cs6, hT6, ho6, rfl⟩
              have hl6 := hT6.perm.length_eq
              obtain ⟨so6, sc6, rfl, _⟩ := ho6.form
              have he6 := told_same inv4.knd hT6 hT4
              refine WL.y rfl (Yd.move rfl) ?_
              refine WL.rf rfl (Ent.func Try.call19 rfl) (sameGoods_reads _ _ S6 S4 (Cs6 ++ Cs4) (ho6.rs.mono (by repeat (first | exact Gr.refl | exact Gr.left Gr.refl | exact Gr.left (Gr.left Gr.refl) | exact Gr.left (Gr.app Gr.refl) | exact Gr.left (Gr.left (Gr.left Gr.refl)) | exact Gr.nil | exact Gr.app (Gr.left Gr.refl) | refine Gr.cons ?_ | refine Gr.app ?_ | refine Gr.both ?_ ?_ | refine Gr.put (by repeat (first | exact List.mem_cons_self | apply List.mem_cons_of_mem | apply List.mem_append_right)) ?_))) (ho4.rs.mono (by repeat (first | exact Gr.refl | exact Gr.left Gr.refl | exact Gr.left (Gr.left Gr.refl) | exact Gr.left (Gr.app Gr.refl) | exact Gr.left (Gr.left (Gr.left Gr.refl)) | exact Gr.nil | exact Gr.app (Gr.left Gr.refl) | refine Gr.cons ?_ | refine Gr.app ?_ | refine Gr.both ?_ ?_ | refine Gr.put (by repeat (first | exact List.mem_cons_self | apply List.mem_cons_of_mem | apply List.mem_append_right)) ?_))) (by omega) (by omega)) (by repeat (first | exact Sp.here | exact Sp.sn | exact Sp.s0 | exact Fr.here | apply Sp.s2 | apply Sp.sx | apply Fr.fc | apply Fr.al | apply Fr.fa | apply Sp.sc | apply Sp.al | apply Sp.sa)) ?_
              refine WL.renamed (t := 81) (v := .bool true) rfl (congrArg Value.bool (decide_eq_true (by rw [he6]))) ?_
              refine WL.y rfl (Yd.move rfl) ?_
              refine WL.gy (dj := 82) rfl rfl rfl (Yd.move rfl) ?_
              refine WL.gc (dj := 82) rfl rfl rfl (Ent.func Try.call18 rfl) (holds_tells p K4 L4 C8 h8 (by omega)) (Sp.p (by repeat (first | exact Sp.here | exact Sp.sn | exact Sp.s0 | exact Fr.here | apply Sp.s2 | apply Sp.sx | apply Fr.fc | apply Fr.al | apply Fr.fa | apply Sp.sc | apply Sp.al | apply Sp.sa))) ?_
              rintro q C9 ⟨T6, Ds6, hU6, hq6, rfl⟩
              have hm6 := hU6.perm.length_eq
              obtain ⟨to6, tc6, rfl, _⟩ := hq6.form
              have he7 := told_holds inv4.keys hU6 hU4
              refine WL.gy (dj := 82) rfl rfl rfl (Yd.move rfl) ?_
              refine WL.grf (dj := 82) rfl rfl rfl (Ent.func Try.call21 rfl) (sameHolds_reads _ _ T6 T4 (Ds6 ++ Ds4) (hq6.rs.mono (by repeat (first | exact Gr.refl | exact Gr.left Gr.refl | exact Gr.left (Gr.left Gr.refl) | exact Gr.left (Gr.app Gr.refl) | exact Gr.left (Gr.left (Gr.left Gr.refl)) | exact Gr.nil | exact Gr.app (Gr.left Gr.refl) | refine Gr.cons ?_ | refine Gr.app ?_ | refine Gr.both ?_ ?_ | refine Gr.put (by repeat (first | exact List.mem_cons_self | apply List.mem_cons_of_mem | apply List.mem_append_right)) ?_))) (hq4.rs.mono (by repeat (first | exact Gr.refl | exact Gr.left Gr.refl | exact Gr.left (Gr.left Gr.refl) | exact Gr.left (Gr.app Gr.refl) | exact Gr.left (Gr.left (Gr.left Gr.refl)) | exact Gr.nil | exact Gr.app (Gr.left Gr.refl) | refine Gr.cons ?_ | refine Gr.app ?_ | refine Gr.both ?_ ?_ | refine Gr.put (by repeat (first | exact List.mem_cons_self | apply List.mem_cons_of_mem | apply List.mem_append_right)) ?_))) (by omega) (by omega)) (by repeat (first | exact Sp.here | exact Sp.sn | exact Sp.s0 | exact Fr.here | apply Sp.s2 | apply Sp.sx | apply Fr.fc | apply Fr.al | apply Fr.fa | apply Sp.sc | apply Sp.al | apply Sp.sa)) ?_
              refine WL.renamed (t := 86) (v := .bool true) rfl (congrArg Value.bool (decide_eq_true he7)) ?_
              refine WL.y rfl (Yd.pickT rfl rfl) ?_
              refine WL.y rfl (Yd.move rfl) ?_
              refine WL.gr (dj := 88) rfl rfl rfl (Ent.func Try.call10 rfl) (known09 _) ?_
              refine WL.y rfl (Yd.pickT rfl rfl) ?_
              refine WL.y rfl (Yd.assign rfl) ?_
              refine WL.nil ?_
              refine DN.then_normal ?_
              refine WC.ret ?_
              refine DN.then_ret ?_
              refine DN.fit (C := H) (by repeat (first | exact Sp.here | exact Sp.sn | exact Sp.s0 | exact Fr.here | apply Sp.s2 | apply Sp.sx | apply Fr.fc | apply Fr.al | apply Fr.fa | apply Sp.sc | apply Sp.al | apply Sp.sa)) ?_
              refine DN.ret1 Try.results6 rfl ?_
              exact ⟨rfl, rfl⟩
            · have hb : holdB K4 L4 o nm n = true := by cases hb : holdB K4 L4 o nm n <;> simp_all [vd]
              obtain ⟨hback, hbackL, hhas⟩ := hold_back inv4.knd hb
              obtain ⟨y, hy⟩ := Option.isSome_iff_exists.1 hhas
              have hLl : (holdLs K4 L4 o nm n).length = L4.length + 1 := by unfold holdLs; rw [hb]; simp
              refine WC.skip ?_
              refine DN.then_normal ?_
              refine WC.seq ?_
              refine WC.seq ?_
              refine WC.region ?_
              refine WL.y rfl (Yd.move rfl) ?_
              refine WL.y rfl (Yd.move rfl) ?_
              refine WL.y rfl (Yd.move rfl) ?_
              refine WL.c rfl (Ent.func Try.call13 rfl) (hold_tells p gs _ _ C8 h8 inv8 o nm 1) (Sp.p (by repeat (first | exact Sp.here | exact Sp.sn | exact Sp.s0 | exact Fr.here | apply Sp.s2 | apply Sp.sx | apply Fr.fc | apply Fr.al | apply Fr.fa | apply Sp.sc | apply Sp.al | apply Sp.sa))) ?_
              rintro q C9 ⟨rfl, h9⟩
              have hag : holdB (holdKs K4 L4 o nm n) (holdLs K4 L4 o nm n) o nm 1 = false := holdB_again hy
              obtain ⟨e3, e4⟩ := hold_no hag
              rw [e3, e4] at h9
              rw [hag]
              refine WL.y rfl (Yd.neq rfl rfl) ?_
              refine WL.renamed (t := 95) (v := .bool false) rfl (congrArg Value.bool (by decide)) ?_
              refine WL.y rfl (Yd.move rfl) ?_
              refine WL.gy (dj := 96) rfl rfl rfl (Yd.move rfl) ?_
              refine WL.gc (dj := 96) rfl rfl rfl (Ent.func Try.call18 rfl) (holds_tells p _ _ C9 h9 (by omega)) (Sp.p (by repeat (first | exact Sp.here | exact Sp.sn | exact Sp.s0 | exact Fr.here | apply Sp.s2 | apply Sp.sx | apply Fr.fc | apply Fr.al | apply Fr.fa | apply Sp.sc | apply Sp.al | apply Sp.sa))) ?_
              rintro q C10 ⟨T7, Ds7, hU7, hq7, rfl⟩
              have hm7 := hU7.perm.length_eq
              obtain ⟨to7, tc7, rfl, _⟩ := hq7.form
              refine WL.gy (dj := 96) rfl rfl rfl (Yd.len (e := 50) (by kernel_rfl) rfl) ?_
              refine WL.gy (dj := 96) rfl rfl rfl (Yd.move rfl) ?_
              refine WL.gy (dj := 96) rfl rfl rfl (Yd.len (e := 50) (by kernel_rfl) rfl) ?_
              refine WL.gy (dj := 96) rfl rfl rfl (Yd.add rfl rfl (by omega) (by omega)) ?_
              refine WL.gy (dj := 96) rfl rfl rfl (Yd.neq rfl rfl) ?_
              refine WL.renamed (t := 103) (v := .bool false) rfl (congrArg Value.bool (decide_eq_false (by omega))) ?_
              refine WL.y rfl (Yd.pickF rfl rfl) ?_
              refine WL.y rfl (Yd.move rfl) ?_
              refine WL.gy (dj := 105) rfl rfl rfl (Yd.move rfl) ?_
              refine WL.gy (dj := 105) rfl rfl rfl (Yd.move rfl) ?_
              refine WL.gc (dj := 105) rfl rfl rfl (Ent.func Try.call25 rfl) (free_tells p gs _ _ C9 h9 inv8 o) (Sp.p (by repeat (first | exact Sp.here | exact Sp.sn | exact Sp.s0 | exact Fr.here | apply Sp.s2 | apply Sp.sx | apply Fr.fc | apply Fr.al | apply Fr.fa | apply Sp.sc | apply Sp.al | apply Sp.sa))) ?_
              rintro q C11 ⟨rfl, h11⟩
              rw [hback, hbackL] at h11
              rw [hhas]
              refine WL.gy (dj := 105) rfl rfl rfl (Yd.neq rfl rfl) ?_
              refine WL.renamed (t := 109) (v := .bool false) rfl (congrArg Value.bool (by decide)) ?_
              refine WL.y rfl (Yd.pickF rfl rfl) ?_
              refine WL.nil ?_
              refine DN.then_normal ?_
              refine WC.no rfl ?_
              refine WC.skip ?_
              refine DN.then_normal ?_
              refine WC.seq ?_
              refine WC.region ?_
              refine WL.y rfl (Yd.move rfl) ?_
              refine WL.c rfl (Ent.func Try.call12 rfl) (goods_tells p K4 L4 C11 h11 (by omega)) (Sp.p (by repeat (first | exact Sp.here | exact Sp.sn | exact Sp.s0 | exact Fr.here | apply Sp.s2 | apply Sp.sx | apply Fr.fc | apply Fr.al | apply Fr.fa | apply Sp.sc | apply Sp.al | apply Sp.sa))) ?_
              rintro q C12 ⟨S8, Cs8, hT8, ho8, rfl⟩
              have hl8 := hT8.perm.length_eq
              obtain ⟨so8, sc8, rfl, _⟩ := ho8.form
              have he8 := told_same inv4.knd hT8 hT4
              refine WL.y rfl (Yd.move rfl) ?_
              refine WL.rf rfl (Ent.func Try.call19 rfl) (sameGoods_reads _ _ S8 S4 (Cs8 ++ Cs4) (ho8.rs.mono (by repeat (first | exact Gr.refl | exact Gr.left Gr.refl | exact Gr.left (Gr.left Gr.refl) | exact Gr.left (Gr.app Gr.refl) | exact Gr.left (Gr.left (Gr.left Gr.refl)) | exact Gr.nil | exact Gr.app (Gr.left Gr.refl) | refine Gr.cons ?_ | refine Gr.app ?_ | refine Gr.both ?_ ?_ | refine Gr.put (by repeat (first | exact List.mem_cons_self | apply List.mem_cons_of_mem | apply List.mem_append_right)) ?_))) (ho4.rs.mono (by repeat (first | exact Gr.refl | exact Gr.left Gr.refl | exact Gr.left (Gr.left Gr.refl) | exact Gr.left (Gr.app Gr.refl) | exact Gr.left (Gr.left (Gr.left Gr.refl)) | exact Gr.nil | exact Gr.app (Gr.left Gr.refl) | refine Gr.cons ?_ | refine Gr.app ?_ | refine Gr.both ?_ ?_ | refine Gr.put (by repeat (first | exact List.mem_cons_self | apply List.mem_cons_of_mem | apply List.mem_append_right)) ?_))) (by omega) (by omega)) (by repeat (first | exact Sp.here | exact Sp.sn | exact Sp.s0 | exact Fr.here | apply Sp.s2 | apply Sp.sx | apply Fr.fc | apply Fr.al | apply Fr.fa | apply Sp.sc | apply Sp.al | apply Sp.sa)) ?_
              refine WL.renamed (t := 114) (v := .bool true) rfl (congrArg Value.bool (decide_eq_true (by rw [he8]))) ?_
              refine WL.y rfl (Yd.move rfl) ?_
              refine WL.gy (dj := 115) rfl rfl rfl (Yd.move rfl) ?_
              refine WL.gc (dj := 115) rfl rfl rfl (Ent.func Try.call18 rfl) (holds_tells p K4 L4 C11 h11 (by omega)) (Sp.p (by repeat (first | exact Sp.here | exact Sp.sn | exact Sp.s0 | exact Fr.here | apply Sp.s2 | apply Sp.sx | apply Fr.fc | apply Fr.al | apply Fr.fa | apply Sp.sc | apply Sp.al | apply Sp.sa))) ?_
              rintro q C12 ⟨T8, Ds8, hU8, hq8, rfl⟩
              have hm8 := hU8.perm.length_eq
              obtain ⟨to8, tc8, rfl, _⟩ := hq8.form
              have he9 := told_holds inv4.keys hU8 hU4
              refine WL.gy (dj := 115) rfl rfl rfl (Yd.move rfl) ?_
              refine WL.grf (dj := 115) rfl rfl rfl (Ent.func Try.call21 rfl) (sameHolds_reads _ _ T8 T4 (Ds8 ++ Ds4) (hq8.rs.mono (by repeat (first | exact Gr.refl | exact Gr.left Gr.refl | exact Gr.left (Gr.left Gr.refl) | exact Gr.left (Gr.app Gr.refl) | exact Gr.left (Gr.left (Gr.left Gr.refl)) | exact Gr.nil | exact Gr.app (Gr.left Gr.refl) | refine Gr.cons ?_ | refine Gr.app ?_ | refine Gr.both ?_ ?_ | refine Gr.put (by repeat (first | exact List.mem_cons_self | apply List.mem_cons_of_mem | apply List.mem_append_right)) ?_))) (hq4.rs.mono (by repeat (first | exact Gr.refl | exact Gr.left Gr.refl | exact Gr.left (Gr.left Gr.refl) | exact Gr.left (Gr.app Gr.refl) | exact Gr.left (Gr.left (Gr.left Gr.refl)) | exact Gr.nil | exact Gr.app (Gr.left Gr.refl) | refine Gr.cons ?_ | refine Gr.app ?_ | refine Gr.both ?_ ?_ | refine Gr.put (by repeat (first | exact List.mem_cons_self | apply List.mem_cons_of_mem | apply List.mem_append_right)) ?_))) (by omega) (by omega)) (by repeat (first | exact Sp.here | exact Sp.sn | exact Sp.s0 | exact Fr.here | apply Sp.s2 | apply Sp.sx | apply Fr.fc | apply Fr.al | apply Fr.fa | apply Sp.sc | apply Sp.al | apply Sp.sa)) ?_
              refine WL.renamed (t := 119) (v := .bool true) rfl (congrArg Value.bool (decide_eq_true he9)) ?_
              refine WL.y rfl (Yd.pickT rfl rfl) ?_
              refine WL.y rfl (Yd.move rfl) ?_
              refine WL.gy (dj := 121) rfl rfl rfl (Yd.move rfl) ?_
              refine WL.gy (dj := 121) rfl rfl rfl (Yd.move rfl) ?_
              refine WL.gc (dj := 121) rfl rfl rfl (Ent.func Try.call25 rfl) (free_tells p gs K4 L4 C11 h11 inv4 o) (Sp.p (by repeat (first | exact Sp.here | exact Sp.sn | exact Sp.s0 | exact Fr.here | apply Sp.s2 | apply Sp.sx | apply Fr.fc | apply Fr.al | apply Fr.fa | apply Sp.sc | apply Sp.al | apply Sp.sa))) ?_
              rintro q C13 ⟨rfl, h13⟩
              rw [hno]
              refine WL.gy (dj := 121) rfl rfl rfl (Yd.eql rfl rfl) ?_
              refine WL.renamed (t := 125) (v := .bool true) rfl (congrArg Value.bool (by decide)) ?_
              refine WL.y rfl (Yd.pickT rfl rfl) ?_
              refine WL.y rfl (Yd.move rfl) ?_
              refine WL.gr (dj := 127) rfl rfl rfl (Ent.func Try.call10 rfl) (known09 _) ?_
              refine WL.y rfl (Yd.pickT rfl rfl) ?_
              refine WL.y rfl (Yd.assign rfl) ?_
              refine WL.nil ?_
              refine DN.then_normal ?_
              refine WC.ret ?_
              refine DN.fit (C := H) (by repeat (first | exact Sp.here | exact Sp.sn | exact Sp.s0 | exact Fr.here | apply Sp.s2 | apply Sp.sx | apply Fr.fc | apply Fr.al | apply Fr.fa | apply Sp.sc | apply Sp.al | apply Sp.sa)) ?_
              refine DN.ret1 Try.results6 rfl ?_
              exact ⟨rfl, rfl⟩
        · refine WL.gn (dj := 42) rfl rfl rfl rfl ?_
          refine WL.gn (dj := 42) rfl rfl rfl rfl ?_
          refine WL.y rfl (Yd.pickF rfl rfl) ?_
          refine WL.nil ?_
          refine DN.then_normal ?_
          refine WC.no rfl ?_
          refine WC.exit ?_
          refine DN.then_exit ?_
          refine DN.then_exit ?_
          refine DN.block_exit ?_
          refine DN.then_normal ?_
          refine WC.seq ?_
          refine WC.region ?_
          refine WL.y rfl (Yd.move rfl) ?_
          refine WL.y rfl (Yd.move rfl) ?_
          refine WL.c rfl (Ent.func Try.call25 rfl) (free_tells p gs K1 L1 C2 h2 inv o) (Sp.p (by repeat (first | exact Sp.here | exact Sp.sn | exact Sp.s0 | exact Fr.here | apply Sp.s2 | apply Sp.sx | apply Fr.fc | apply Fr.al | apply Fr.fa | apply Sp.sc | apply Sp.al | apply Sp.sa))) ?_
          rintro q C4 ⟨rfl, h4⟩
          have inv4 := inv.leave o false
          obtain ⟨K4, hK4⟩ : ∃ x, x = leaveKs K1 L1 o false := ⟨_, rfl⟩
          obtain ⟨L4, hL4⟩ : ∃ x, x = delK Ho.o L1 o := ⟨_, rfl⟩
          have hno : findK Ho.o L4 o = none := by rw [hL4, delK_find, if_pos rfl]
          rw [← hK4, ← hL4] at h4 inv4
          have hmany4 := inv4.many
          refine WL.nil ?_
          refine DN.then_normal ?_
          refine WC.seq ?_
          refine WC.region ?_
          refine WL.y rfl (Yd.move rfl) ?_
          refine WL.c rfl (Ent.func Try.call12 rfl) (goods_tells p K4 L4 C4 h4 (by omega)) (Sp.p (by repeat (first | exact Sp.here | exact Sp.sn | exact Sp.s0 | exact Fr.here | apply Sp.s2 | apply Sp.sx | apply Fr.fc | apply Fr.al | apply Fr.fa | apply Sp.sc | apply Sp.al | apply Sp.sa))) ?_
          rintro q C5 ⟨S4, Cs4, hT4, ho4, rfl⟩
          have hl4 := hT4.perm.length_eq
          obtain ⟨so4, sc4, rfl, _⟩ := ho4.form
          refine WL.y rfl (Yd.assign rfl) ?_
          refine WL.nil ?_
          refine DN.then_normal ?_
          refine WC.seq ?_
          refine WC.region ?_
          refine WL.y rfl (Yd.move rfl) ?_
          refine WL.c rfl (Ent.func Try.call18 rfl) (holds_tells p K4 L4 C4 h4 (by omega)) (Sp.p (by repeat (first | exact Sp.here | exact Sp.sn | exact Sp.s0 | exact Fr.here | apply Sp.s2 | apply Sp.sx | apply Fr.fc | apply Fr.al | apply Fr.fa | apply Sp.sc | apply Sp.al | apply Sp.sa))) ?_
          rintro q C5 ⟨T4, Ds4, hU4, hq4, rfl⟩
          have hm4 := hU4.perm.length_eq
          obtain ⟨to4, tc4, rfl, _⟩ := hq4.form
          refine WL.y rfl (Yd.assign rfl) ?_
          refine WL.nil ?_
          refine DN.then_normal ?_
          refine WC.seq ?_
          refine WC.seq ?_
          refine WC.region ?_
          refine WL.y rfl (Yd.move rfl) ?_
          refine WL.y rfl (Yd.move rfl) ?_
          refine WL.c rfl (Ent.func Try.call25 rfl) (free_tells p gs K4 L4 C4 h4 inv4 o) (Sp.p (by repeat (first | exact Sp.here | exact Sp.sn | exact Sp.s0 | exact Fr.here | apply Sp.s2 | apply Sp.sx | apply Fr.fc | apply Fr.al | apply Fr.fa | apply Sp.sc | apply Sp.al | apply Sp.sa))) ?_
          rintro q C6 ⟨rfl, h6⟩
          obtain ⟨e1, e2⟩ := leave_none (K := K4) hno false
          rw [e1, e2] at h6
          rw [hno]
          refine WL.y rfl (Yd.neq rfl rfl) ?_
          refine WL.renamed (t := 64) (v := .bool false) rfl (congrArg Value.bool (by decide)) ?_
          refine WL.y rfl (Yd.move rfl) ?_
          refine WL.gy (dj := 65) rfl rfl rfl (Yd.move rfl) ?_
          refine WL.gy (dj := 65) rfl rfl rfl (Yd.move rfl) ?_
          refine WL.gc (dj := 65) rfl rfl rfl (Ent.func Try.call26 rfl) (ship_tells p gs K4 L4 C6 h6 inv4 o) (Sp.p (by repeat (first | exact Sp.here | exact Sp.sn | exact Sp.s0 | exact Fr.here | apply Sp.s2 | apply Sp.sx | apply Fr.fc | apply Fr.al | apply Fr.fa | apply Sp.sc | apply Sp.al | apply Sp.sa))) ?_
          rintro q C7 ⟨rfl, h7⟩
          obtain ⟨e1, e2⟩ := leave_none (K := K4) hno true
          rw [e1, e2] at h7
          rw [hno]
          refine WL.gy (dj := 65) rfl rfl rfl (Yd.neq rfl rfl) ?_
          refine WL.renamed (t := 69) (v := .bool false) rfl (congrArg Value.bool (by decide)) ?_
          refine WL.y rfl (Yd.pickF rfl rfl) ?_
          refine WL.nil ?_
          refine DN.then_normal ?_
          refine WC.no rfl ?_
          refine WC.skip ?_
          refine DN.then_normal ?_
          refine WC.seq ?_
          refine WC.region ?_
          refine WL.y rfl (Yd.move rfl) ?_
          refine WL.y rfl (Yd.move rfl) ?_
          refine WL.y rfl (Yd.move rfl) ?_
          refine WL.y rfl (Yd.move rfl) ?_
          refine WL.c rfl (Ent.func Try.call13 rfl) (hold_tells p gs K4 L4 C7 h7 inv4 o nm n) (Sp.p (by repeat (first | exact Sp.here | exact Sp.sn | exact Sp.s0 | exact Fr.here | apply Sp.s2 | apply Sp.sx | apply Fr.fc | apply Fr.al | apply Fr.fa | apply Sp.sc | apply Sp.al | apply Sp.sa))) ?_
          rintro q C8 ⟨rfl, h8⟩
          have inv8 := inv4.hold o nm n
          have hmany8 := inv8.many
          refine WL.y rfl (Yd.assign rfl) ?_
          refine WL.nil ?_
          refine DN.then_normal ?_
          refine WC.seq ?_
          refine WC.seq ?_
          refine WC.region ?_
          refine WL.y rfl (Yd.move rfl) ?_
          refine WL.y rfl (Yd.neq rfl rfl) ?_
          refine WL.nil ?_
          refine DN.then_normal ?_
          refine WC.cond rfl (fun h77 => ?_) (fun h77 => ?_)
          · have hb : holdB K4 L4 o nm n = false := by cases hb : holdB K4 L4 o nm n <;> simp_all [vd]
            rw [(hold_no hb).1, (hold_no hb).2] at h8 inv8
            refine WC.seq ?_
            refine WC.region ?_
            refine WL.y rfl (Yd.move rfl) ?_
            refine WL.c rfl (Ent.func Try.call12 rfl) (goods_tells p K4 L4 C8 h8 (by omega)) (Sp.p (by repeat (first | exact Sp.here | exact Sp.sn | exact Sp.s0 | exact Fr.here | apply Sp.s2 | apply Sp.sx | apply Fr.fc | apply Fr.al | apply Fr.fa | apply Sp.sc | apply Sp.al | apply Sp.sa))) ?_
            rintro q C9 ⟨S6, Cs6, hT6, ho6, rfl⟩
            have hl6 := hT6.perm.length_eq
            obtain ⟨so6, sc6, rfl, _⟩ := ho6.form
            have he6 := told_same inv4.knd hT6 hT4
            refine WL.y rfl (Yd.move rfl) ?_
            refine WL.rf rfl (Ent.func Try.call19 rfl) (sameGoods_reads _ _ S6 S4 (Cs6 ++ Cs4) (ho6.rs.mono (by repeat (first | exact Gr.refl | exact Gr.left Gr.refl | exact Gr.left (Gr.left Gr.refl) | exact Gr.left (Gr.app Gr.refl) | exact Gr.left (Gr.left (Gr.left Gr.refl)) | exact Gr.nil | exact Gr.app (Gr.left Gr.refl) | refine Gr.cons ?_ | refine Gr.app ?_ | refine Gr.both ?_ ?_ | refine Gr.put (by repeat (first | exact List.mem_cons_self | apply List.mem_cons_of_mem | apply List.mem_append_right)) ?_))) (ho4.rs.mono (by repeat (first | exact Gr.refl | exact Gr.left Gr.refl | exact Gr.left (Gr.left Gr.refl) | exact Gr.left (Gr.app Gr.refl) | exact Gr.left (Gr.left (Gr.left Gr.refl)) | exact Gr.nil | exact Gr.app (Gr.left Gr.refl) | refine Gr.cons ?_ | refine Gr.app ?_ | refine Gr.both ?_ ?_ | refine Gr.put (by repeat (first | exact List.mem_cons_self | apply List.mem_cons_of_mem | apply List.mem_append_right)) ?_))) (by omega) (by omega)) (by repeat (first | exact Sp.here | exact Sp.sn | exact Sp.s0 | exact Fr.here | apply Sp.s2 | apply Sp.sx | apply Fr.fc | apply Fr.al | apply Fr.fa | apply Sp.sc | apply Sp.al | apply Sp.sa)) ?_
            refine WL.renamed (t := 81) (v := .bool true) rfl (congrArg Value.bool (decide_eq_true (by rw [he6]))) ?_
            refine WL.y rfl (Yd.move rfl) ?_
            refine WL.gy (dj := 82) rfl rfl rfl (Yd.move rfl) ?_
            refine WL.gc (dj := 82) rfl rfl rfl (Ent.func Try.call18 rfl) (holds_tells p K4 L4 C8 h8 (by omega)) (Sp.p (by repeat (first | exact Sp.here | exact Sp.sn | exact Sp.s0 | exact Fr.here | apply Sp.s2 | apply Sp.sx | apply Fr.fc | apply Fr.al | apply Fr.fa | apply Sp.sc | apply Sp.al | apply Sp.sa))) ?_
            rintro q C9 ⟨T6, Ds6, hU6, hq6, rfl⟩
            have hm6 := hU6.perm.length_eq
            obtain ⟨to6, tc6, rfl, _⟩ := hq6.form
            have he7 := told_holds inv4.keys hU6 hU4
            refine WL.gy (dj := 82) rfl rfl rfl (Yd.move rfl) ?_
            refine WL.grf (dj := 82) rfl rfl rfl (Ent.func Try.call21 rfl) (sameHolds_reads _ _ T6 T4 (Ds6 ++ Ds4) (hq6.rs.mono (by repeat (first | exact Gr.refl | exact Gr.left Gr.refl | exact Gr.left (Gr.left Gr.refl) | exact Gr.left (Gr.app Gr.refl) | exact Gr.left (Gr.left (Gr.left Gr.refl)) | exact Gr.nil | exact Gr.app (Gr.left Gr.refl) | refine Gr.cons ?_ | refine Gr.app ?_ | refine Gr.both ?_ ?_ | refine Gr.put (by repeat (first | exact List.mem_cons_self | apply List.mem_cons_of_mem | apply List.mem_append_right)) ?_))) (hq4.rs.mono (by repeat (first | exact Gr.refl | exact Gr.left Gr.refl | exact Gr.left (Gr.left Gr.refl) | exact Gr.left (Gr.app Gr.refl) | exact Gr.left (Gr.left (Gr.left Gr.refl)) | exact Gr.nil | exact Gr.app (Gr.left Gr.refl) | refine Gr.cons ?_ | refine Gr.app ?_ | refine Gr.both ?_ ?_ | refine Gr.put (by repeat (first | exact List.mem_cons_self | apply List.mem_cons_of_mem | apply List.mem_append_right)) ?_))) (by omega) (by omega)) (by repeat (first | exact Sp.here | exact Sp.sn | exact Sp.s0 | exact Fr.here | apply Sp.s2 | apply Sp.sx | apply Fr.fc | apply Fr.al | apply Fr.fa | apply Sp.sc | apply Sp.al | apply Sp.sa)) ?_
            refine WL.renamed (t := 86) (v := .bool true) rfl (congrArg Value.bool (decide_eq_true he7)) ?_
            refine WL.y rfl (Yd.pickT rfl rfl) ?_
            refine WL.y rfl (Yd.move rfl) ?_
            refine WL.gr (dj := 88) rfl rfl rfl (Ent.func Try.call10 rfl) (known09 _) ?_
            refine WL.y rfl (Yd.pickT rfl rfl) ?_
            refine WL.y rfl (Yd.assign rfl) ?_
            refine WL.nil ?_
            refine DN.then_normal ?_
            refine WC.ret ?_
            refine DN.then_ret ?_
            refine DN.fit (C := H) (by repeat (first | exact Sp.here | exact Sp.sn | exact Sp.s0 | exact Fr.here | apply Sp.s2 | apply Sp.sx | apply Fr.fc | apply Fr.al | apply Fr.fa | apply Sp.sc | apply Sp.al | apply Sp.sa)) ?_
            refine DN.ret1 Try.results6 rfl ?_
            exact ⟨rfl, rfl⟩
          · have hb : holdB K4 L4 o nm n = true := by cases hb : holdB K4 L4 o nm n <;> simp_all [vd]
            obtain ⟨hback, hbackL, hhas⟩ := hold_back inv4.knd hb
            obtain ⟨y, hy⟩ := Option.isSome_iff_exists.1 hhas
            have hLl : (holdLs K4 L4 o nm n).length = L4.length + 1 := by unfold holdLs; rw [hb]; simp
            refine WC.skip ?_
            refine DN.then_normal ?_
            refine WC.seq ?_
            refine WC.seq ?_
            refine WC.region ?_
            refine WL.y rfl (Yd.move rfl) ?_
            refine WL.y rfl (Yd.move rfl) ?_
            refine WL.y rfl (Yd.move rfl) ?_
            refine WL.c rfl (Ent.func Try.call13 rfl) (hold_tells p gs _ _ C8 h8 inv8 o nm 1) (Sp.p (by repeat (first | exact Sp.here | exact Sp.sn | exact Sp.s0 | exact Fr.here | apply Sp.s2 | apply Sp.sx | apply Fr.fc | apply Fr.al | apply Fr.fa | apply Sp.sc | apply Sp.al | apply Sp.sa))) ?_
            rintro q C9 ⟨rfl, h9⟩
            have hag : holdB (holdKs K4 L4 o nm n) (holdLs K4 L4 o nm n) o nm 1 = false := holdB_again hy
            obtain ⟨e3, e4⟩ := hold_no hag
            rw [e3, e4] at h9
            rw [hag]
            refine WL.y rfl (Yd.neq rfl rfl) ?_
            refine WL.renamed (t := 95) (v := .bool false) rfl (congrArg Value.bool (by decide)) ?_
            refine WL.y rfl (Yd.move rfl) ?_
            refine WL.gy (dj := 96) rfl rfl rfl (Yd.move rfl) ?_
            refine WL.gc (dj := 96) rfl rfl rfl (Ent.func Try.call18 rfl) (holds_tells p _ _ C9 h9 (by omega)) (Sp.p (by repeat (first | exact Sp.here | exact Sp.sn | exact Sp.s0 | exact Fr.here | apply Sp.s2 | apply Sp.sx | apply Fr.fc | apply Fr.al | apply Fr.fa | apply Sp.sc | apply Sp.al | apply Sp.sa))) ?_
            rintro q C10 ⟨T7, Ds7, hU7, hq7, rfl⟩
            have hm7 := hU7.perm.length_eq
            obtain ⟨to7, tc7, rfl, _⟩ := hq7.form
            refine WL.gy (dj := 96) rfl rfl rfl (Yd.len (e := 50) (by kernel_rfl) rfl) ?_
            refine WL.gy (dj := 96) rfl rfl rfl (Yd.move rfl) ?_
            refine WL.gy (dj := 96) rfl rfl rfl (Yd.len (e := 50) (by kernel_rfl) rfl) ?_
            refine WL.gy (dj := 96) rfl rfl rfl (Yd.add rfl rfl (by omega) (by omega)) ?_
            refine WL.gy (dj := 96) rfl rfl rfl (Yd.neq rfl rfl) ?_
            refine WL.renamed (t := 103) (v := .bool false) rfl (congrArg Value.bool (decide_eq_false (by omega))) ?_
            refine WL.y rfl (Yd.pickF rfl rfl) ?_
            refine WL.y rfl (Yd.move rfl) ?_
            refine WL.gy (dj := 105) rfl rfl rfl (Yd.move rfl) ?_
            refine WL.gy (dj := 105) rfl rfl rfl (Yd.move rfl) ?_
            refine WL.gc (dj := 105) rfl rfl rfl (Ent.func Try.call25 rfl) (free_tells p gs _ _ C9 h9 inv8 o) (Sp.p (by repeat (first | exact Sp.here | exact Sp.sn | exact Sp.s0 | exact Fr.here | apply Sp.s2 | apply Sp.sx | apply Fr.fc | apply Fr.al | apply Fr.fa | apply Sp.sc | apply Sp.al | apply Sp.sa))) ?_
            rintro q C11 ⟨rfl, h11⟩
            rw [hback, hbackL] at h11
            rw [hhas]
            refine WL.gy (dj := 105) rfl rfl rfl (Yd.neq rfl rfl) ?_
            refine WL.renamed (t := 109) (v := .bool false) rfl (congrArg Value.bool (by decide)) ?_
            refine WL.y rfl (Yd.pickF rfl rfl) ?_
            refine WL.nil ?_
            refine DN.then_normal ?_
            refine WC.no rfl ?_
            refine WC.skip ?_
            refine DN.then_normal ?_
            refine WC.seq ?_
            refine WC.region ?_
            refine WL.y rfl (Yd.move rfl) ?_
            refine WL.c rfl (Ent.func Try.call12 rfl) (goods_tells p K4 L4 C11 h11 (by omega)) (Sp.p (by repeat (first | exact Sp.here | exact Sp.sn | exact Sp.s0 | exact Fr.here | apply Sp.s2 | apply Sp.sx | apply Fr.fc | apply Fr.al | apply Fr.fa | apply Sp.sc | apply Sp.al | apply Sp.sa))) ?_
            rintro q C12 ⟨S8, Cs8, hT8, ho8, rfl⟩
            have hl8 := hT8.perm.length_eq
            obtain ⟨so8, sc8, rfl, _⟩ := ho8.form
            have he8 := told_same inv4.knd hT8 hT4
            refine WL.y rfl (Yd.move rfl) ?_
            refine WL.rf rfl (Ent.func Try.call19 rfl) (sameGoods_reads _ _ S8 S4 (Cs8 ++ Cs4) (ho8.rs.mono (by repeat (first | exact Gr.refl | exact Gr.left Gr.refl | exact Gr.left (Gr.left Gr.refl) | exact Gr.left (Gr.app Gr.refl) | exact Gr.left (Gr.left (Gr.left Gr.refl)) | exact Gr.nil | exact Gr.app (Gr.left Gr.refl) | refine Gr.cons ?_ | refine Gr.app ?_ | refine Gr.both ?_ ?_ | refine Gr.put (by repeat (first | exact List.mem_cons_self | apply List.mem_cons_of_mem | apply List.mem_append_right)) ?_))) (ho4.rs.mono (by repeat (first | exact Gr.refl | exact Gr.left Gr.refl | exact Gr.left (Gr.left Gr.refl) | exact Gr.left (Gr.app Gr.refl) | exact Gr.left (Gr.left (Gr.left Gr.refl)) | exact Gr.nil | exact Gr.app (Gr.left Gr.refl) | refine Gr.cons ?_ | refine Gr.app ?_ | refine Gr.both ?_ ?_ | refine Gr.put (by repeat (first | exact List.mem_cons_self | apply List.mem_cons_of_mem | apply List.mem_append_right)) ?_))) (by omega) (by omega)) (by repeat (first | exact Sp.here | exact Sp.sn | exact Sp.s0 | exact Fr.here | apply Sp.s2 | apply Sp.sx | apply Fr.fc | apply Fr.al | apply Fr.fa | apply Sp.sc | apply Sp.al | apply Sp.sa)) ?_
            refine WL.renamed (t := 114) (v := .bool true) rfl (congrArg Value.bool (decide_eq_true (by rw [he8]))) ?_
            refine WL.y rfl (Yd.move rfl) ?_
            refine WL.gy (dj := 115) rfl rfl rfl (Yd.move rfl) ?_
            refine WL.gc (dj := 115) rfl rfl rfl (Ent.func Try.call18 rfl) (holds_tells p K4 L4 C11 h11 (by omega)) (Sp.p (by repeat (first | exact Sp.here | exact Sp.sn | exact Sp.s0 | exact Fr.here | apply Sp.s2 | apply Sp.sx | apply Fr.fc | apply Fr.al | apply Fr.fa | apply Sp.sc | apply Sp.al | apply Sp.sa))) ?_
            rintro q C12 ⟨T8, Ds8, hU8, hq8, rfl⟩
            have hm8 := hU8.perm.length_eq
            obtain ⟨to8, tc8, rfl, _⟩ := hq8.form
            have he9 := told_holds inv4.keys hU8 hU4
            refine WL.gy (dj := 115) rfl rfl rfl (Yd.move rfl) ?_
            refine WL.grf (dj := 115) rfl rfl rfl (Ent.func Try.call21 rfl) (sameHolds_reads _ _ T8 T4 (Ds8 ++ Ds4) (hq8.rs.mono (by repeat (first | exact Gr.refl | exact Gr.left Gr.refl | exact Gr.left (Gr.left Gr.refl) | exact Gr.left (Gr.app Gr.refl) | exact Gr.left (Gr.left (Gr.left Gr.refl)) | exact Gr.nil | exact Gr.app (Gr.left Gr.refl) | refine Gr.cons ?_ | refine Gr.app ?_ | refine Gr.both ?_ ?_ | refine Gr.put (by repeat (first | exact List.mem_cons_self | apply List.mem_cons_of_mem | apply List.mem_append_right)) ?_))) (hq4.rs.mono (by repeat (first | exact Gr.refl | exact Gr.left Gr.refl | exact Gr.left (Gr.left Gr.refl) | exact Gr.left (Gr.app Gr.refl) | exact Gr.left (Gr.left (Gr.left Gr.refl)) | exact Gr.nil | exact Gr.app (Gr.left Gr.refl) | refine Gr.cons ?_ | refine Gr.app ?_ | refine Gr.both ?_ ?_ | refine Gr.put (by repeat (first | exact List.mem_cons_self | apply List.mem_cons_of_mem | apply List.mem_append_right)) ?_))) (by omega) (by omega)) (by repeat (first | exact Sp.here | exact Sp.sn | exact Sp.s0 | exact Fr.here | apply Sp.s2 | apply Sp.sx | apply Fr.fc | apply Fr.al | apply Fr.fa | apply Sp.sc | apply Sp.al | apply Sp.sa)) ?_
            refine WL.renamed (t := 119) (v := .bool true) rfl (congrArg Value.bool (decide_eq_true he9)) ?_
            refine WL.y rfl (Yd.pickT rfl rfl) ?_
            refine WL.y rfl (Yd.move rfl) ?_
            refine WL.gy (dj := 121) rfl rfl rfl (Yd.move rfl) ?_
            refine WL.gy (dj := 121) rfl rfl rfl (Yd.move rfl) ?_
            refine WL.gc (dj := 121) rfl rfl rfl (Ent.func Try.call25 rfl) (free_tells p gs K4 L4 C11 h11 inv4 o) (Sp.p (by repeat (first | exact Sp.here | exact Sp.sn | exact Sp.s0 | exact Fr.here | apply Sp.s2 | apply Sp.sx | apply Fr.fc | apply Fr.al | apply Fr.fa | apply Sp.sc | apply Sp.al | apply Sp.sa))) ?_
            rintro q C13 ⟨rfl, h13⟩
            rw [hno]
            refine WL.gy (dj := 121) rfl rfl rfl (Yd.eql rfl rfl) ?_
            refine WL.renamed (t := 125) (v := .bool true) rfl (congrArg Value.bool (by decide)) ?_
            refine WL.y rfl (Yd.pickT rfl rfl) ?_
            refine WL.y rfl (Yd.move rfl) ?_
            refine WL.gr (dj := 127) rfl rfl rfl (Ent.func Try.call10 rfl) (known09 _) ?_
            refine WL.y rfl (Yd.pickT rfl rfl) ?_
            refine WL.y rfl (Yd.assign rfl) ?_
            refine WL.nil ?_
            refine DN.then_normal ?_
            refine WC.ret ?_
            refine DN.fit (C := H) (by repeat (first | exact Sp.here | exact Sp.sn | exact Sp.s0 | exact Fr.here | apply Sp.s2 | apply Sp.sx | apply Fr.fc | apply Fr.al | apply Fr.fa | apply Sp.sc | apply Sp.al | apply Sp.sa)) ?_
            refine DN.ret1 Try.results6 rfl ?_
            exact ⟨rfl, rfl⟩
      · refine WC.region ?_
        refine WL.y rfl (Yd.move rfl) ?_
        refine WL.ca rfl (Ent.func Try.call11 rfl) (new_tells _ gs hg H hv hl) ?_
        rintro q H1 hq
        first | (obtain ⟨p, C1, rfl, h1, rfl⟩ := new_in hq hA; have inv1 := hA.inv hg) | (obtain ⟨rfl, hHq⟩ := new_out hq hA; rw [hHq])
        refine WL.y rfl (Yd.move rfl) ?_
        refine WL.y rfl (Yd.extract rfl rfl) ?_
        refine WL.y rfl (Yd.extract rfl rfl) ?_
        refine WL.y rfl (Yd.assign rfl) ?_
        refine WL.y rfl (Yd.assign rfl) ?_
        refine WL.nil ?_
        refine DN.then_normal ?_
        refine WC.seq ?_
        refine WC.seq ?_
        refine WC.region ?_
        refine WL.y rfl (Yd.move rfl) ?_
        refine WL.y rfl (Yd.neq rfl rfl) ?_
        refine WL.renamed (t := 32) (v := .bool true) rfl (congrArg Value.bool (by decide)) ?_
        refine WL.nil ?_
        refine DN.then_normal ?_
        refine WC.yes rfl ?_
        refine WC.seq ?_
        refine WC.region ?_
        refine WL.y rfl (Yd.move rfl) ?_
        refine WL.y rfl (Yd.eqlNil Try.underlying26 rfl rfl) ?_
        refine WL.renamed (t := 34) (v := .bool true) rfl (congrArg Value.bool (rfl)) ?_
        refine WL.y rfl (Yd.move rfl) ?_
        refine WL.gr (dj := 35) rfl rfl rfl (Ent.func Try.call10 rfl) (known09 _) ?_
        refine WL.y rfl (Yd.pickT rfl rfl) ?_
        refine WL.y rfl (Yd.assign rfl) ?_
        refine WL.nil ?_
        refine DN.then_normal ?_
        refine WC.ret ?_
        refine DN.then_ret ?_
        refine DN.fit (C := H) (by repeat (first | exact Sp.here | exact Sp.sn | exact Sp.s0 | exact Fr.here | apply Sp.s2 | apply Sp.sx | apply Fr.fc | apply Fr.al | apply Fr.fa | apply Sp.sc | apply Sp.al | apply Sp.sa)) ?_
        refine DN.ret1 Try.results6 rfl ?_
        exact ⟨rfl, rfl⟩

end Go.Proofs.Ytdbbkodjhmfjfaa
