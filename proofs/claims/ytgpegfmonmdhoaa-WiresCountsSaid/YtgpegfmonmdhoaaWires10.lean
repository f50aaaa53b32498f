/-
  The walks of the net's laws: WiresCounts.
-/
import Derived.Test.YtgpegfmonmdhoaaWires9
set_option linter.unusedVariables false
set_option linter.unusedSimpArgs false
set_option maxHeartbeats 8000000
set_option maxRecDepth 100000
namespace Go.Proofs.Ytgpegfmonmdhoaa
open Go.SL
/-- the letters that were sent, in a row -/
def SnAt (cells : List Value) (sn : List Lt) (H : List Ck) : Prop := ∀ j (h : j < sn.length), LetE ((cells.drop (j * 13)).take 13) sn[j] H
theorem SnAt.snoc {cells : List Value} {sn : List Lt} {H : List Ck} (h : SnAt cells sn H) (hl : cells.length = sn.length * 13) {L : Lt} {vk vd : Value} (hL : LetE (ltc L vk vd) L H) : SnAt (cells ++ ltc L vk vd) (sn ++ [L]) H := by
  intro j hj
  by_cases e : j < sn.length
  · rw [List.getElem_append_left e, List.drop_append_of_le_length (by omega), List.take_append_of_le_length (by rw [List.length_drop]; omega)]
    exact h j e
  · have ej : j = sn.length := by simp at hj; omega
    subst ej
    rw [List.getElem_append_right (by omega)]
    simp only [Nat.sub_self, List.getElem_singleton]
    rw [← hl, List.drop_left']
    · rw [List.take_of_length_le (by rw [ltc_len]; omega)]
      exact hL
    · rfl
theorem boc_at {cm : List Bool} {f t : Int} {L : List Value} (h : cm.length = 16) (hf : 0 ≤ f ∧ f < 4) (ht : 0 ≤ t ∧ t < 4) : (boc cm)[0 + f.toNat * 4 + t.toNat * 1]? = some (.bool (cm.getD (f.toNat * 4 + t.toNat) false)) := by
  rw [show 0 + f.toNat * 4 + t.toNat * 1 = f.toNat * 4 + t.toNat by omega]
  exact boc_getD (by omega)


/-- drayage/drayagelaw18.WiresCounts -/
theorem law_WiresCounts (v : Value) (xs : List Value) (aq : List Aw) (H : List Ck) (hv : Rs v aq.length xs H) (hx : xs.length = aq.length * 17) (hl : aq.length ≤ 9223372036854775807) (hA : AwsAt xs aq H) : Reads Try.prog 5 [v] H (.bool true) := by
  refine Tells.enter Try.func5 rfl Try.ntmps5 rfl ?_
  intro w0 R
  obtain ⟨vo, vc, rfl, _⟩ := hv.form
  refine WC.seq ?_
  refine WC.region ?_
  refine WL.y rfl (Yd.assign rfl) ?_
  refine WL.nil ?_
  refine DN.then_normal ?_
  refine WC.seq ?_
  refine WC.region ?_
  refine WL.c rfl (Ent.func Try.call9 rfl) (new_tells 4) (Sp.p (by repeat (first | exact Sp.here | exact Sp.sn | exact Sp.s0 | exact Fr.here | apply Sp.s2 | apply Sp.sx | apply Fr.fc | apply Fr.al | apply Fr.fa | apply Sp.sc | apply Sp.al | apply Sp.sa))) ?_
  rintro q C0 hq
  rw [if_pos (by decide)] at hq
  obtain ⟨p, rfl, h0⟩ := hq
  refine WL.y rfl (Yd.move rfl) ?_
  refine WL.y rfl (Yd.extract rfl rfl) ?_
  refine WL.y rfl (Yd.extract rfl rfl) ?_
  refine WL.y rfl (Yd.assign rfl) ?_
  refine WL.y rfl (Yd.assign rfl) ?_
  refine WL.nil ?_
  refine DN.then_normal ?_
  refine WC.seq ?_
  refine WC.seq ?_
  refine WC.region ?_
  refine WL.y rfl (Yd.move rfl) ?_
  refine WL.y rfl (Yd.neq rfl rfl) ?_
  refine WL.renamed (t := 19) (v := .bool false) rfl (congrArg Value.bool (by decide)) ?_
  refine WL.y rfl (Yd.move rfl) ?_
  refine WL.gy (dj := 20) rfl rfl rfl (Yd.move rfl) ?_
  refine WL.gy (dj := 20) rfl rfl rfl (Yd.eqlNil Try.underlying22 rfl rfl) ?_
  refine WL.renamed (t := 22) (v := .bool false) rfl (congrArg Value.bool (rfl)) ?_
  refine WL.y rfl (Yd.pickF rfl rfl) ?_
  refine WL.y rfl (Yd.move rfl) ?_
  refine WL.gy (dj := 24) rfl rfl rfl (Yd.move rfl) ?_
  refine WL.gc (dj := 24) rfl rfl rfl (Ent.func Try.call17 rfl) (long_reads _ xs aq H hv hx hl hA) (Sp.p (by repeat (first | exact Sp.here | exact Sp.sn | exact Sp.s0 | exact Fr.here | apply Sp.s2 | apply Sp.sx | apply Fr.fc | apply Fr.al | apply Fr.fa | apply Sp.sc | apply Sp.al | apply Sp.sa))) ?_
  rintro q Hq ⟨hHq, b26, rfl, hsm⟩
  rw [hHq]
  refine WL.y rfl (Yd.pickF rfl rfl) ?_
  refine WL.nil ?_
  refine DN.then_normal ?_
  refine WC.cond rfl (fun h27 => ?_) (fun h27 => ?_)
  · refine WC.seq ?_
    refine WC.region ?_
    refine WL.y rfl (Yd.move rfl) ?_
    refine WL.y rfl (Yd.eql rfl rfl) ?_
    refine WL.renamed (t := 29) (v := .bool true) rfl (congrArg Value.bool (by decide)) ?_
    refine WL.y rfl (Yd.move rfl) ?_
    refine WL.gy (dj := 30) rfl rfl rfl (Yd.move rfl) ?_
    refine WL.gy (dj := 30) rfl rfl rfl (Yd.neqNil Try.underlying22 rfl rfl) ?_
    refine WL.renamed (t := 32) (v := .bool true) rfl (congrArg Value.bool (rfl)) ?_
    refine WL.y rfl (Yd.pickT rfl rfl) ?_
    refine WL.y rfl (Yd.move rfl) ?_
    refine WL.gr (dj := 34) rfl rfl rfl (Ent.func Try.call15 rfl) (known18 _) ?_
    refine WL.y rfl (Yd.pickT rfl rfl) ?_
    refine WL.y rfl (Yd.assign rfl) ?_
    refine WL.nil ?_
    refine DN.then_normal ?_
    refine WC.ret ?_
    refine DN.then_ret ?_
    refine DN.fit (C := H) (by repeat (first | exact Sp.here | exact Sp.sn | exact Sp.s0 | exact Fr.here | apply Sp.s2 | apply Sp.sx | apply Fr.fc | apply Fr.al | apply Fr.fa | apply Sp.sc | apply Sp.al | apply Sp.sa)) ?_
    refine DN.ret1 Try.results5 rfl ?_
    exact ⟨rfl, rfl⟩
  · refine WC.skip ?_
    refine DN.then_normal ?_
    refine WC.seq ?_
    refine WC.region ?_
    refine WL.y rfl (Yd.assign rfl) ?_
    refine WL.nil ?_
    refine DN.then_normal ?_
    refine WC.seq ?_
    refine WC.region ?_
    refine WL.y rfl (Yd.assign rfl) ?_
    refine WL.nil ?_
    refine DN.then_normal ?_
    refine WC.seq ?_
    refine WC.region ?_
    refine WL.y rfl (Yd.assign rfl) ?_
    refine WL.nil ?_
    refine DN.then_normal ?_
    refine WC.seq ?_
    refine WC.region ?_
    refine WL.h rfl (Hd.alloc (zs := [.bool false, .bool false, .bool false, .bool false, .bool false, .bool false, .bool false, .bool false, .bool false, .bool false, .bool false, .bool false, .bool false, .bool false, .bool false, .bool false]) (by kernel_rfl) fun b8 => ⟨_, rfl, ?_⟩)
    refine WL.nil ?_
    refine DN.then_normal ?_
    refine WC.seq ?_
    refine WC.seq ?_
    rw [show [Value.bool false, Value.bool false, Value.bool false, Value.bool false, Value.bool false, Value.bool false, Value.bool false, Value.bool false, Value.bool false, Value.bool false, Value.bool false, Value.bool false, Value.bool false, Value.bool false, Value.bool false, Value.bool false] = boc (List.replicate 16 false) from rfl]
    refine WC.region ?_
    refine WL.y rfl (Yd.assign rfl) ?_
    refine WL.nil ?_
    refine DN.then_normal ?_
    refine WC.block ?_
    refine WC.loopS (fun z : Nat × Wn × List Ck × Int × Int × Value × List Lt × List Value × List Ck × List Bool => z.1 ≤ aq.length ∧ z.1 ≤ 150 ∧ WAt 72 34 5 p z.2.1 z.2.2.1 ∧ CI z.1 z.2.1 z.2.2.2.1 z.2.2.2.2.1 z.2.2.2.2.2.2.1 z.2.2.2.2.2.2.2.2.2 ∧ Own z.2.2.2.2.2.1 z.2.2.2.2.2.2.1.length z.2.2.2.2.2.2.2.1 34 13 z.2.2.2.2.2.2.2.2.1 ∧ SnAt z.2.2.2.2.2.2.2.1 z.2.2.2.2.2.2.1 H) (fun z : Nat × Wn × List Ck × Int × Int × Value × List Lt × List Value × List Ck × List Bool => [(9, .int .i64 (z.1 : Int)), (5, .int .i64 z.2.2.2.1), (6, .int .i64 z.2.2.2.2.1), (7, z.2.2.2.2.2.1)]) (fun z : Nat × Wn × List Ck × Int × Int × Value × List Lt × List Value × List Ck × List Bool => row b8 (boc z.2.2.2.2.2.2.2.2.2) 48 :: (z.2.2.1 ++ (z.2.2.2.2.2.2.2.2.1 ++ H))) (fun z : Nat × Wn × List Ck × Int × Int × Value × List Lt × List Value × List Ck × List Bool => aq.length - z.1) (⟨0, newW 4, C0, 0, 0, .slice none 0 0, [], [], [], List.replicate 16 false⟩) (show 0 ≤ aq.length ∧ 0 ≤ 150 ∧ WAt 72 34 5 p (newW 4) C0 ∧ CI 0 (newW 4) 0 0 [] (List.replicate 16 false) ∧ Own (.slice none 0 0) [].length [] 34 13 [] ∧ SnAt [] [] H from ⟨Nat.zero_le _, by omega, h0, CI.start (newW_inv (by decide)) rfl rfl rfl, Own.nil _ _, fun j h => by simp at h⟩) (Sx.put rfl (Sx.put rfl (Sx.put rfl (Sx.put rfl ((by repeat (first | exact Sx.refl | refine Sx.skip rfl ?_))))))) (by repeat (first | exact Sp.here | exact Sp.sn | exact Sp.s0 | exact Fr.here | apply Sp.s2 | apply Sp.sx | apply Fr.fc | apply Fr.al | apply Fr.fa | apply Sp.sc | apply Sp.al | apply Sp.sa)) ?_
    rintro ⟨i, W, C, a, b, vs, sn, cells, Cs, cm⟩ hI
    replace hI : i ≤ aq.length ∧ i ≤ 150 ∧ WAt 72 34 5 p W C ∧ CI i W a b sn cm ∧ Own vs sn.length cells 34 13 Cs ∧ SnAt cells sn H := hI
    obtain ⟨hi, hi150, hW, ci, hO, hS⟩ := hI
    change WC _ _ _ _ _ _ ([(9, .int .i64 (i : Int)), (5, .int .i64 a), (6, .int .i64 b), (7, vs)] ++ _) (row b8 (boc cm) 48 :: (C ++ (Cs ++ H)))
    have hla := ci.la
    have hlb := ci.lb
    have hcnt := ci.cnt
    have hsl := ci.sl
    obtain ⟨so, sc, rfl, _⟩ := hO.form
    refine WC.seq ?_
    refine WC.seq ?_
    skip
    refine WC.region ?_
    refine WL.y rfl (Yd.move rfl) ?_
    refine WL.y rfl (Yd.move rfl) ?_
    refine WL.y rfl (Yd.len (e := 50) (by kernel_rfl) rfl) ?_
    refine WL.y rfl (Yd.lss rfl rfl) ?_
    refine WL.y rfl (Yd.move rfl) ?_
    refine WL.partP (t := 41) rfl (fun hg41 => ?_) (fun hg41 => ?_)
    · refine WL.gy (dj := 41) rfl rfl rfl (Yd.move rfl) ?_
      refine WL.gy (dj := 41) rfl rfl rfl (Yd.lss rfl rfl) ?_
      refine WL.y rfl (Yd.pickT rfl rfl) ?_
      refine WL.nil ?_
      refine DN.then_normal ?_
      refine WC.ite rfl (fun h44 => ?_) (fun h44 => ?_)
      · have hlt : i < aq.length := by omega
        have hsz := hsm h27 i hlt (by omega)
        obtain ⟨vk, vd, hcell, hk, hd, hml⟩ := hA i hlt
        obtain ⟨ko, kc, rfl, _⟩ := hk.form
        obtain ⟨eo, ec, rfl, _⟩ := hd.form
        refine WC.skip ?_
        refine DN.then_normal ?_
        refine WC.seq ?_
        refine WC.block ?_
        refine WC.seq ?_
        refine WC.region ?_
        refine WL.y rfl (Yd.move rfl) ?_
        refine WL.y rfl (Yd.move rfl) ?_
        refine WL.elemA (e := 50) (s := 17) (by kernel_rfl) (by kernel_rfl) (by kernel_rfl) rfl rfl (rfl) (hv.mono (by repeat (first | exact Gr.refl | exact Gr.left Gr.refl | exact Gr.nil | exact Gr.app (Gr.left Gr.refl) | refine Gr.cons ?_ | refine Gr.app ?_ | refine Gr.both ?_ ?_ | refine Gr.put (by repeat (first | exact List.mem_cons_self | apply List.mem_cons_of_mem | apply List.mem_append_right)) ?_))) (hcell) (by rfl) (by omega) (hlt) rfl rfl ?_
        intro p49
        refine WL.h rfl (Hd.alloc (zs := [.int .i64 0, .int .i64 0, .int .i64 0, .int .i64 0, .int .u32 0, .int .u32 0, .int .u64 0, .int .u64 0, .int .u32 0, .int .i64 0, .bool false, .int .i64 0, .slice none 0 0, .slice none 0 0, .int .i64 0, .int .i64 0, .bool false]) (by kernel_rfl) fun b10 => ⟨_, rfl, ?_⟩)
        refine WL.s (Hd.storeAll (n := 17) (by kernel_rfl) rfl rfl (by rfl) (by repeat (first | exact fun _ h => absurd h List.not_mem_nil | refine List.forall_mem_cons.2 ⟨by first | rfl | assumption, ?_⟩)) (by repeat (first | exact Fr.here | apply Fr.fc | apply Fr.al | apply Fr.fa)) (by rfl) ⟨rfl, ?_⟩)
        refine WL.nil ?_
        refine DN.then_normal ?_
        refine WC.seq ?_
        refine WC.region ?_
        refine WL.y rfl (Yd.move rfl) ?_
        refine WL.rf rfl (Ent.func Try.call14 rfl) (len_reads p W C hW) (by repeat (first | exact Sp.here | exact Sp.sn | exact Sp.s0 | exact Fr.here | apply Sp.s2 | apply Sp.sx | apply Fr.fc | apply Fr.al | apply Fr.fa | apply Sp.sc | apply Sp.al | apply Sp.sa)) ?_
        refine WL.y rfl (Yd.assign rfl) ?_
        refine WL.nil ?_
        refine DN.then_normal ?_
        refine WC.seq ?_
        refine WC.seq ?_
        refine WC.region ?_
        refine WL.y rfl (Yd.fieldAddr (k := 0) (by kernel_rfl) rfl) ?_
        refine WL.h rfl (Hd.load1 (by kernel_rfl) rfl (by repeat (first | exact List.mem_cons_self | apply List.mem_cons_of_mem | apply List.mem_append_right)) (by rfl) ⟨_, rfl, ?_⟩)
        refine WL.nil ?_
        refine DN.then_normal ?_
        refine WC.block ?_
        refine WC.cutK (fun z : Bool => True) (fun z : Bool => [(55, .bool z)]) (fun z : Bool => row b10 (awc aq[i] (.slice ko aq[i].L.n.key.length kc) (.slice eo aq[i].L.n.data.length ec)) 50 :: (row b8 (boc cm) 48 :: (C ++ (Cs ++ H)))) ?_ ?_
        · refine WC.seq ?_
          refine WC.region ?_
          refine WL.y rfl (Yd.eql rfl rfl) ?_
          refine WL.y rfl (Yd.assign rfl) ?_
          refine WL.nil ?_
          refine DN.then_normal ?_
          refine WC.cond rfl (fun h55 => ?_) (fun h55 => ?_)
          · refine WC.skip ?_
            exact DN.reachK (_) (trivial) (Sx.put rfl ((by repeat (first | exact Sx.refl | refine Sx.skip rfl ?_)))) (Sp.all (by repeat (first | exact Sp.here | exact Sp.sn | exact Sp.s0 | exact Fr.here | apply Sp.s2 | apply Sp.sx | apply Fr.fc | apply Fr.al | apply Fr.fa | apply Sp.sc | apply Sp.al | apply Sp.sa)))
          · refine WC.seq ?_
            refine WC.region ?_
            refine WL.y rfl (Yd.eql rfl rfl) ?_
            refine WL.y rfl (Yd.assign rfl) ?_
            refine WL.nil ?_
            refine DN.then_normal ?_
            refine WC.cond rfl (fun h55 => ?_) (fun h55 => ?_)
            · refine WC.skip ?_
              exact DN.reachK (_) (trivial) (Sx.put rfl ((by repeat (first | exact Sx.refl | refine Sx.skip rfl ?_)))) (Sp.all (by repeat (first | exact Sp.here | exact Sp.sn | exact Sp.s0 | exact Fr.here | apply Sp.s2 | apply Sp.sx | apply Fr.fc | apply Fr.al | apply Fr.fa | apply Sp.sc | apply Sp.al | apply Sp.sa)))
            · refine WC.region ?_
              refine WL.y rfl (Yd.eql rfl rfl) ?_
              refine WL.y rfl (Yd.assign rfl) ?_
              refine WL.nil ?_
              exact DN.reachK (_) (trivial) (Sx.put rfl ((by repeat (first | exact Sx.refl | refine Sx.skip rfl ?_)))) (Sp.all (by repeat (first | exact Sp.here | exact Sp.sn | exact Sp.s0 | exact Fr.here | apply Sp.s2 | apply Sp.sx | apply Fr.fc | apply Fr.al | apply Fr.fa | apply Sp.sc | apply Sp.al | apply Sp.sa)))
        · intro z55 _
          refine WC.cond rfl (fun h55 => ?_) (fun h55 => ?_)
          · refine WC.cutK (fun z : Bool × List Ck => z.1 = (decide (sendE W aq[i].L = 0) && !(cm.getD (aq[i].L.f.toNat * 4 + aq[i].L.t.toNat) false)) ∧ WAt 72 34 5 p (sendW W aq[i].L) z.2) (fun z : Bool × List Ck => [(75, .bool z.1)]) (fun z : Bool × List Ck => row b10 (awc aq[i] (.slice ko aq[i].L.n.key.length kc) (.slice eo aq[i].L.n.data.length ec)) 50 :: (row b8 (boc cm) 48 :: (z.2 ++ (Cs ++ H)))) ?_ ?_
            · refine WC.draw 17 (by kernel_rfl) rfl ?_
              refine WA.y (i := 0) (NoPanic.then (NoPanic.block (NoPanic.then (NoPanic.block (NoPanic.then (NoPanic.then (NoPanic.block (NoPanic.then (NoPanic.body))))))))) rfl (by kernel_rfl) (by kernel_rfl) (by kernel_rfl) rfl (Yd.move rfl) ?_
              refine WA.y (i := 1) (NoPanic.then (NoPanic.block (NoPanic.then (NoPanic.block (NoPanic.then (NoPanic.then (NoPanic.block (NoPanic.then (NoPanic.body))))))))) rfl (by kernel_rfl) (by kernel_rfl) (by kernel_rfl) rfl (Yd.fieldAddr (k := 1) (by kernel_rfl) rfl) ?_
              refine WA.one (i := 2) (by kernel_rfl) ?_
              refine WO.h rfl Wt.none rfl (Hd.loadA (n := 13) (vs := [_, _, _, _, _, _, _, _, _, _, _, _, _]) (by kernel_rfl) rfl (by repeat (first | exact List.mem_cons_self | apply List.mem_cons_of_mem | apply List.mem_append_right)) (by rfl) (by rfl) ⟨_, rfl, ?_⟩)
              refine WA.one (i := 3) (by kernel_rfl) ?_
              refine WO.c rfl Wt.none rfl (Ent.func Try.call10 rfl) (send_tells p W C H hW ci.inv aq[i].L _ _ hk hd (by omega) (by omega)) (Sp.p (by repeat (first | exact Sp.here | exact Sp.sn | exact Sp.s0 | exact Fr.here | apply Sp.s2 | apply Sp.sx | apply Fr.fc | apply Fr.al | apply Fr.fa | apply Sp.sc | apply Sp.al | apply Sp.sa))) ?_
              rintro q Hq ⟨C2, rfl, hW2, rfl⟩
              refine WA.y (i := 4) (NoPanic.then (NoPanic.block (NoPanic.then (NoPanic.block (NoPanic.then (NoPanic.then (NoPanic.block (NoPanic.then (NoPanic.body))))))))) rfl (by kernel_rfl) (by kernel_rfl) (by kernel_rfl) rfl (Yd.eql rfl rfl) ?_
              refine WA.y (i := 5) (NoPanic.then (NoPanic.block (NoPanic.then (NoPanic.block (NoPanic.then (NoPanic.then (NoPanic.block (NoPanic.then (NoPanic.body))))))))) rfl (by kernel_rfl) (by kernel_rfl) (by kernel_rfl) rfl (Yd.move rfl) ?_
              refine WA.partP (t := 64) rfl (fun hg64 => ?_) (fun hg64 => ?_)
              · refine WA.gy (i := 6) (dj := 64) (NoPanic.then (NoPanic.block (NoPanic.then (NoPanic.block (NoPanic.then (NoPanic.then (NoPanic.block (NoPanic.then (NoPanic.body))))))))) rfl (by kernel_rfl) (by kernel_rfl) (by kernel_rfl) rfl rfl rfl (Yd.fieldAddr (k := 1) (by kernel_rfl) rfl) ?_
                refine WA.gy (i := 7) (dj := 64) (NoPanic.then (NoPanic.block (NoPanic.then (NoPanic.block (NoPanic.then (NoPanic.then (NoPanic.block (NoPanic.then (NoPanic.body))))))))) rfl (by kernel_rfl) (by kernel_rfl) (by kernel_rfl) rfl rfl rfl (Yd.fieldAddr (k := 0) (by kernel_rfl) rfl) ?_
                refine WA.gy (i := 9) (dj := 64) (NoPanic.then (NoPanic.block (NoPanic.then (NoPanic.block (NoPanic.then (NoPanic.then (NoPanic.block (NoPanic.then (NoPanic.body))))))))) rfl (by kernel_rfl) (by kernel_rfl) (by kernel_rfl) rfl rfl rfl (Yd.fieldAddr (k := 1) (by kernel_rfl) rfl) ?_
                refine WA.gy (i := 10) (dj := 64) (NoPanic.then (NoPanic.block (NoPanic.then (NoPanic.block (NoPanic.then (NoPanic.then (NoPanic.block (NoPanic.then (NoPanic.body))))))))) rfl (by kernel_rfl) (by kernel_rfl) (by kernel_rfl) rfl rfl rfl (Yd.fieldAddr (k := 1) (by kernel_rfl) rfl) ?_
                refine WA.two (i := 8) (j := 11) (by kernel_rfl) ?_ ?_
                · refine WO.h rfl (Wt.yes (dj := 64) rfl rfl) rfl (Hd.load1 (by kernel_rfl) rfl (by repeat (first | exact List.mem_cons_self | apply List.mem_cons_of_mem | apply List.mem_append_right)) (by rfl) ⟨_, rfl, ?_⟩)
                  have hbn := ci.bounds hg64
                  refine WA.gy (i := 12) (dj := 64) (NoPanic.then (NoPanic.block (NoPanic.then (NoPanic.block (NoPanic.then (NoPanic.then (NoPanic.block (NoPanic.then (NoPanic.body))))))))) rfl (by kernel_rfl) (by kernel_rfl) (by kernel_rfl) rfl rfl rfl (Yd.indexArr (n := 4) (e := 47) (s := 4) (by kernel_rfl) (by kernel_rfl) rfl rfl (by omega) (by omega)) ?_
                  refine WA.one (i := 11) (by kernel_rfl) ?_
                  refine WO.h rfl (Wt.yes (dj := 64) rfl rfl) rfl (Hd.load1 (by kernel_rfl) rfl (by repeat (first | exact List.mem_cons_self | apply List.mem_cons_of_mem | apply List.mem_append_right)) (by rfl) ⟨_, rfl, ?_⟩)
                  refine WA.gy (i := 13) (dj := 64) (NoPanic.then (NoPanic.block (NoPanic.then (NoPanic.block (NoPanic.then (NoPanic.then (NoPanic.block (NoPanic.then (NoPanic.body))))))))) rfl (by kernel_rfl) (by kernel_rfl) (by kernel_rfl) rfl rfl rfl (Yd.indexArr (n := 4) (e := 4) (s := 1) (by kernel_rfl) (by kernel_rfl) rfl rfl (by omega) (by omega)) ?_
                  refine WA.one (i := 14) (by kernel_rfl) ?_
                  refine WO.h rfl (Wt.yes (dj := 64) rfl rfl) rfl (Hd.load1 (v := .bool (cm.getD (aq[i].L.f.toNat * 4 + aq[i].L.t.toNat) false)) (by kernel_rfl) rfl (by repeat (first | exact List.mem_cons_self | apply List.mem_cons_of_mem | apply List.mem_append_right)) (boc_at (L := []) ci.cl (by omega) (by omega)) ⟨_, rfl, ?_⟩)
                  refine WA.gy (i := 15) (dj := 64) (NoPanic.then (NoPanic.block (NoPanic.then (NoPanic.block (NoPanic.then (NoPanic.then (NoPanic.block (NoPanic.then (NoPanic.body))))))))) rfl (by kernel_rfl) (by kernel_rfl) (by kernel_rfl) rfl rfl rfl (Yd.notB rfl) ?_
                  refine WA.y (i := 16) (NoPanic.then (NoPanic.block (NoPanic.then (NoPanic.block (NoPanic.then (NoPanic.then (NoPanic.block (NoPanic.then (NoPanic.body))))))))) rfl (by kernel_rfl) (by kernel_rfl) (by kernel_rfl) rfl (Yd.pickT rfl rfl) ?_
                  refine WA.done (by kernel_rfl) ?_
                  exact DN.reachK (⟨_, C2⟩) (⟨by first | (rw [decide_eq_false hg64]; rfl) | (rw [decide_eq_true hg64]; rfl), hW2⟩) (Sx.put rfl ((by repeat (first | exact Sx.refl | refine Sx.skip rfl ?_)))) (Sp.all (by repeat (first | exact Sp.here | exact Sp.sn | exact Sp.s0 | exact Fr.here | apply Sp.s2 | apply Sp.sx | apply Fr.fc | apply Fr.al | apply Fr.fa | apply Sp.sc | apply Sp.al | apply Sp.sa)))
                · refine WO.h rfl (Wt.yes (dj := 64) rfl rfl) rfl (Hd.load1 (by kernel_rfl) rfl (by repeat (first | exact List.mem_cons_self | apply List.mem_cons_of_mem | apply List.mem_append_right)) (by rfl) ⟨_, rfl, ?_⟩)
                  refine WA.one (i := 8) (by kernel_rfl) ?_
                  refine WO.h rfl (Wt.yes (dj := 64) rfl rfl) rfl (Hd.load1 (by kernel_rfl) rfl (by repeat (first | exact List.mem_cons_self | apply List.mem_cons_of_mem | apply List.mem_append_right)) (by rfl) ⟨_, rfl, ?_⟩)
                  have hbn := ci.bounds hg64
                  refine WA.gy (i := 12) (dj := 64) (NoPanic.then (NoPanic.block (NoPanic.then (NoPanic.block (NoPanic.then (NoPanic.then (NoPanic.block (NoPanic.then (NoPanic.body))))))))) rfl (by kernel_rfl) (by kernel_rfl) (by kernel_rfl) rfl rfl rfl (Yd.indexArr (n := 4) (e := 47) (s := 4) (by kernel_rfl) (by kernel_rfl) rfl rfl (by omega) (by omega)) ?_
                  refine WA.gy (i := 13) (dj := 64) (NoPanic.then (NoPanic.block (NoPanic.then (NoPanic.block (NoPanic.then (NoPanic.then (NoPanic.block (NoPanic.then (NoPanic.body))))))))) rfl (by kernel_rfl) (by kernel_rfl) (by kernel_rfl) rfl rfl rfl (Yd.indexArr (n := 4) (e := 4) (s := 1) (by kernel_rfl) (by kernel_rfl) rfl rfl (by omega) (by omega)) ?_
                  refine WA.one (i := 14) (by kernel_rfl) ?_
                  refine WO.h rfl (Wt.yes (dj := 64) rfl rfl) rfl (Hd.load1 (v := .bool (cm.getD (aq[i].L.f.toNat * 4 + aq[i].L.t.toNat) false)) (by kernel_rfl) rfl (by repeat (first | exact List.mem_cons_self | apply List.mem_cons_of_mem | apply List.mem_append_right)) (boc_at (L := []) ci.cl (by omega) (by omega)) ⟨_, rfl, ?_⟩)
                  refine WA.gy (i := 15) (dj := 64) (NoPanic.then (NoPanic.block (NoPanic.then (NoPanic.block (NoPanic.then (NoPanic.then (NoPanic.block (NoPanic.then (NoPanic.body))))))))) rfl (by kernel_rfl) (by kernel_rfl) (by kernel_rfl) rfl rfl rfl (Yd.notB rfl) ?_
                  refine WA.y (i := 16) (NoPanic.then (NoPanic.block (NoPanic.then (NoPanic.block (NoPanic.then (NoPanic.then (NoPanic.block (NoPanic.then (NoPanic.body))))))))) rfl (by kernel_rfl) (by kernel_rfl) (by kernel_rfl) rfl (Yd.pickT rfl rfl) ?_
                  refine WA.done (by kernel_rfl) ?_
                  exact DN.reachK (⟨_, C2⟩) (⟨by first | (rw [decide_eq_false hg64]; rfl) | (rw [decide_eq_true hg64]; rfl), hW2⟩) (Sx.put rfl ((by repeat (first | exact Sx.refl | refine Sx.skip rfl ?_)))) (Sp.all (by repeat (first | exact Sp.here | exact Sp.sn | exact Sp.s0 | exact Fr.here | apply Sp.s2 | apply Sp.sx | apply Fr.fc | apply Fr.al | apply Fr.fa | apply Sp.sc | apply Sp.al | apply Sp.sa)))
              · refine WA.gn (i := 6) (dj := 64) (NoPanic.then (NoPanic.block (NoPanic.then (NoPanic.block (NoPanic.then (NoPanic.then (NoPanic.block (NoPanic.then (NoPanic.body))))))))) rfl (by kernel_rfl) (by kernel_rfl) (by kernel_rfl) rfl rfl rfl rfl ?_
                refine WA.gn (i := 7) (dj := 64) (NoPanic.then (NoPanic.block (NoPanic.then (NoPanic.block (NoPanic.then (NoPanic.then (NoPanic.block (NoPanic.then (NoPanic.body))))))))) rfl (by kernel_rfl) (by kernel_rfl) (by kernel_rfl) rfl rfl rfl rfl ?_
                refine WA.gn (i := 8) (dj := 64) (NoPanic.then (NoPanic.block (NoPanic.then (NoPanic.block (NoPanic.then (NoPanic.then (NoPanic.block (NoPanic.then (NoPanic.body))))))))) rfl (by kernel_rfl) (by kernel_rfl) (by kernel_rfl) rfl rfl rfl rfl ?_
                refine WA.gn (i := 9) (dj := 64) (NoPanic.then (NoPanic.block (NoPanic.then (NoPanic.block (NoPanic.then (NoPanic.then (NoPanic.block (NoPanic.then (NoPanic.body))))))))) rfl (by kernel_rfl) (by kernel_rfl) (by kernel_rfl) rfl rfl rfl rfl ?_
                refine WA.gn (i := 10) (dj := 64) (NoPanic.then (NoPanic.block (NoPanic.then (NoPanic.block (NoPanic.then (NoPanic.then (NoPanic.block (NoPanic.then (NoPanic.body))))))))) rfl (by kernel_rfl) (by kernel_rfl) (by kernel_rfl) rfl rfl rfl rfl ?_
                refine WA.gn (i := 11) (dj := 64) (NoPanic.then (NoPanic.block (NoPanic.then (NoPanic.block (NoPanic.then (NoPanic.then (NoPanic.block (NoPanic.then (NoPanic.body))))))))) rfl (by kernel_rfl) (by kernel_rfl) (by kernel_rfl) rfl rfl rfl rfl ?_
                refine WA.gn (i := 12) (dj := 64) (NoPanic.then (NoPanic.block (NoPanic.then (NoPanic.block (NoPanic.then (NoPanic.then (NoPanic.block (NoPanic.then (NoPanic.body))))))))) rfl (by kernel_rfl) (by kernel_rfl) (by kernel_rfl) rfl rfl rfl rfl ?_
                refine WA.gn (i := 13) (dj := 64) (NoPanic.then (NoPanic.block (NoPanic.then (NoPanic.block (NoPanic.then (NoPanic.then (NoPanic.block (NoPanic.then (NoPanic.body))))))))) rfl (by kernel_rfl) (by kernel_rfl) (by kernel_rfl) rfl rfl rfl rfl ?_
                refine WA.gn (i := 14) (dj := 64) (NoPanic.then (NoPanic.block (NoPanic.then (NoPanic.block (NoPanic.then (NoPanic.then (NoPanic.block (NoPanic.then (NoPanic.body))))))))) rfl (by kernel_rfl) (by kernel_rfl) (by kernel_rfl) rfl rfl rfl rfl ?_
                refine WA.gn (i := 15) (dj := 64) (NoPanic.then (NoPanic.block (NoPanic.then (NoPanic.block (NoPanic.then (NoPanic.then (NoPanic.block (NoPanic.then (NoPanic.body))))))))) rfl (by kernel_rfl) (by kernel_rfl) (by kernel_rfl) rfl rfl rfl rfl ?_
                refine WA.y (i := 16) (NoPanic.then (NoPanic.block (NoPanic.then (NoPanic.block (NoPanic.then (NoPanic.then (NoPanic.block (NoPanic.then (NoPanic.body))))))))) rfl (by kernel_rfl) (by kernel_rfl) (by kernel_rfl) rfl (Yd.pickF rfl rfl) ?_
                refine WA.done (by kernel_rfl) ?_
                exact DN.reachK (⟨_, C2⟩) (⟨by first | (rw [decide_eq_false hg64]; rfl) | (rw [decide_eq_true hg64]; rfl), hW2⟩) (Sx.put rfl ((by repeat (first | exact Sx.refl | refine Sx.skip rfl ?_)))) (Sp.all (by repeat (first | exact Sp.here | exact Sp.sn | exact Sp.s0 | exact Fr.here | apply Sp.s2 | apply Sp.sx | apply Fr.fc | apply Fr.al | apply Fr.fa | apply Sp.sc | apply Sp.al | apply Sp.sa)))
            · rintro ⟨z75, C2⟩ ⟨hz75, hW2⟩
              replace hz75 : z75 = _ := hz75
              change WC _ _ _ _ _ _ ([(75, .bool z75)] ++ _) (row b10 (awc aq[i] (.slice ko aq[i].L.n.key.length kc) (.slice eo aq[i].L.n.data.length ec)) 50 :: (row b8 (boc cm) 48 :: (C2 ++ (Cs ++ H))))
              refine WC.cond rfl (fun h75 => ?_) (fun h75 => ?_)
              · refine WC.seq ?_
                refine WC.region ?_
                refine WL.y rfl (Yd.move rfl) ?_
                refine WL.y rfl (Yd.add rfl rfl (by omega) (by omega)) ?_
                refine WL.y rfl (Yd.assign rfl) ?_
                refine WL.nil ?_
                refine DN.then_normal ?_
                refine WC.region ?_
                refine WL.y rfl (Yd.move rfl) ?_
                refine WL.y rfl (Yd.fieldAddr (k := 1) (by kernel_rfl) rfl) ?_
                refine WL.h rfl (Hd.loadA (n := 13) (vs := [_, _, _, _, _, _, _, _, _, _, _, _, _]) (by kernel_rfl) rfl (by repeat (first | exact List.mem_cons_self | apply List.mem_cons_of_mem | apply List.mem_append_right)) (by rfl) (by rfl) ⟨_, rfl, ?_⟩)
                refine WL.h rfl (Hd.buildA (e := 34) (sz := 13) (zs := [.int .i64 0, .int .i64 0, .int .i64 0, .int .u32 0, .int .u32 0, .int .u64 0, .int .u64 0, .int .u32 0, .int .i64 0, .bool false, .int .i64 0, .slice none 0 0, .slice none 0 0]) (by kernel_rfl) (by kernel_rfl) (by kernel_rfl) rfl rfl (by rfl) (by kernel_rfl) fun b81 => ⟨_, rfl, ?_⟩)
                refine WL.h rfl (Hd.appendRow (e := 34) (sz := 13) (bytes := 128) (zs := [.int .i64 0, .int .i64 0, .int .i64 0, .int .u32 0, .int .u32 0, .int .u64 0, .int .u64 0, .int .u32 0, .int .i64 0, .bool false, .int .i64 0, .slice none 0 0, .slice none 0 0]) (by kernel_rfl) (by kernel_rfl) rfl (by omega) rfl rfl (hO) (by repeat (first | exact Sp.here | exact Sp.sn | exact Sp.s0 | exact Fr.here | apply Sp.s2 | apply Sp.sx | apply Fr.fc | apply Fr.al | apply Fr.fa | apply Sp.sc | apply Sp.al | apply Sp.sa)) (by repeat (first | exact List.mem_cons_self | apply List.mem_cons_of_mem | apply List.mem_append_right)) (by rfl) (by repeat (first | exact fun _ h => absurd h List.not_mem_nil | refine List.forall_mem_cons.2 ⟨by first | rfl | assumption, ?_⟩)) (by simp only [maxLen]; omega) (by omega) fun v2 Cs2 hO2 => ⟨_, rfl, ?_⟩)
                refine WL.y rfl (Yd.assign rfl) ?_
                refine WL.nil ?_
                refine DN.block_normal ?_
                refine DN.then_normal ?_
                refine WC.seq ?_
                first
                  | have ci2 := ci.sendZ (hz75.symm.trans h75)
                  | have ci2 := ci.sendN (hz75.symm.trans h75)
                  | have ci2 := ci.pickYes h96
                  | have ci2 := ci.pickNo h96
                  | have ci2 := (ci.out h120).1
                  | have ci2 := (ci.outNo h120).1
                  | have ci2 := ci.copy h128
                  | have ci2 := ci.copyNo h128
                  | have ci2 := ci.cut (o := aq[i].on) h147
                  | have ci2 := ci.cutNo (o := aq[i].on) h147
                  | have ci2 := ci2l
                  | (have ci2 := ci.same; have hW2 := hW)
                refine WC.region ?_
                refine WL.y rfl (Yd.move rfl) ?_
                refine WL.rf rfl (Ent.func Try.call14 rfl) (len_reads p _ _ hW2) (by repeat (first | exact Sp.here | exact Sp.sn | exact Sp.s0 | exact Fr.here | apply Sp.s2 | apply Sp.sx | apply Fr.fc | apply Fr.al | apply Fr.fa | apply Sp.sc | apply Sp.al | apply Sp.sa)) ?_
                refine WL.y rfl (Yd.move rfl) ?_
                refine WL.y rfl (Yd.move rfl) ?_
                refine WL.y rfl (Yd.sub rfl rfl (by omega) (by omega)) ?_
                refine WL.y rfl (Yd.neq rfl rfl) ?_
                refine WL.renamed (t := 161) (v := .bool false) rfl (congrArg Value.bool (by rw [decide_eq_false_iff_not, Classical.not_not]; have := ci2.cnt; omega)) ?_
                refine WL.nil ?_
                refine DN.then_normal ?_
                refine WC.no rfl ?_
                refine WC.skip ?_
                refine DN.block_normal ?_
                refine DN.then_normal ?_
                refine WC.region ?_
                refine WL.y rfl (Yd.move rfl) ?_
                refine WL.y rfl (Yd.add rfl rfl (by omega) (by omega)) ?_
                refine WL.y rfl (Yd.assign rfl) ?_
                refine WL.nil ?_
                first
                  | exact DN.againS ⟨i + 1, _, _, _, _, _, sn ++ [aq[i].L], _, Cs2, cm⟩ ⟨by show i + 1 ≤ aq.length; omega, by show i + 1 ≤ 150; omega, hW2, ci2, by rw [List.length_append]; exact hO2, hS.snoc hO.len ⟨_, _, rfl, hk, hd, hml⟩⟩ (by show aq.length - (i + 1) < aq.length - i; omega) (Sx.put rfl (Sx.put rfl (Sx.put rfl (Sx.put rfl ((by repeat (first | exact Sx.refl | refine Sx.skip rfl ?_))))))) (by repeat (first | exact Sp.here | exact Sp.sn | exact Sp.s0 | exact Fr.here | apply Sp.s2 | apply Sp.sx | apply Fr.fc | apply Fr.al | apply Fr.fa | apply Sp.sc | apply Sp.al | apply Sp.sa))
                  | exact DN.againS ⟨i + 1, _, _, _, _, _, sn, cells, Cs, cm⟩ ⟨by show i + 1 ≤ aq.length; omega, by show i + 1 ≤ 150; omega, hW2, ci2, hO, hS⟩ (by show aq.length - (i + 1) < aq.length - i; omega) (Sx.put rfl (Sx.put rfl (Sx.put rfl (Sx.put rfl ((by repeat (first | exact Sx.refl | refine Sx.skip rfl ?_))))))) (by repeat (first | exact Sp.here | exact Sp.sn | exact Sp.s0 | exact Fr.here | apply Sp.s2 | apply Sp.sx | apply Fr.fc | apply Fr.al | apply Fr.fa | apply Sp.sc | apply Sp.al | apply Sp.sa))
                  | exact DN.againS ⟨i + 1, _, _, _, _, _, sn, cells, Cs, _⟩ ⟨by show i + 1 ≤ aq.length; omega, by show i + 1 ≤ 150; omega, hW2, ci2, hO, hS⟩ (by show aq.length - (i + 1) < aq.length - i; omega) (Sx.put rfl (Sx.put rfl (Sx.put rfl (Sx.put rfl ((by repeat (first | exact Sx.refl | refine Sx.skip rfl ?_))))))) (by repeat (first | exact Sp.here | exact Sp.sn | exact Sp.s0 | exact Fr.here | apply Sp.s2 | apply Sp.sx | apply Fr.fc | apply Fr.al | apply Fr.fa | apply Sp.sc | apply Sp.al | apply Sp.sa))
              · refine WC.skip ?_
                refine DN.block_normal ?_
                refine DN.then_normal ?_
                refine WC.seq ?_
                first
                  | have ci2 := ci.sendZ (hz75.symm.trans h75)
                  | have ci2 := ci.sendN (hz75.symm.trans h75)
                  | have ci2 := ci.pickYes h96
                  | have ci2 := ci.pickNo h96
                  | have ci2 := (ci.out h120).1
                  | have ci2 := (ci.outNo h120).1
                  | have ci2 := ci.copy h128
                  | have ci2 := ci.copyNo h128
                  | have ci2 := ci.cut (o := aq[i].on) h147
                  | have ci2 := ci.cutNo (o := aq[i].on) h147
                  | have ci2 := ci2l
                  | (have ci2 := ci.same; have hW2 := hW)
                refine WC.region ?_
                refine WL.y rfl (Yd.move rfl) ?_
                refine WL.rf rfl (Ent.func Try.call14 rfl) (len_reads p _ _ hW2) (by repeat (first | exact Sp.here | exact Sp.sn | exact Sp.s0 | exact Fr.here | apply Sp.s2 | apply Sp.sx | apply Fr.fc | apply Fr.al | apply Fr.fa | apply Sp.sc | apply Sp.al | apply Sp.sa)) ?_
                refine WL.y rfl (Yd.move rfl) ?_
                refine WL.y rfl (Yd.move rfl) ?_
                refine WL.y rfl (Yd.sub rfl rfl (by omega) (by omega)) ?_
                refine WL.y rfl (Yd.neq rfl rfl) ?_
                refine WL.renamed (t := 161) (v := .bool false) rfl (congrArg Value.bool (by rw [decide_eq_false_iff_not, Classical.not_not]; have := ci2.cnt; omega)) ?_
                refine WL.nil ?_
                refine DN.then_normal ?_
                refine WC.no rfl ?_
                refine WC.skip ?_
                refine DN.block_normal ?_
                refine DN.then_normal ?_
                refine WC.region ?_
                refine WL.y rfl (Yd.move rfl) ?_
                refine WL.y rfl (Yd.add rfl rfl (by omega) (by omega)) ?_
                refine WL.y rfl (Yd.assign rfl) ?_
                refine WL.nil ?_
                first
                  | exact DN.againS ⟨i + 1, _, _, _, _, _, sn ++ [aq[i].L], _, Cs2, cm⟩ ⟨by show i + 1 ≤ aq.length; omega, by show i + 1 ≤ 150; omega, hW2, ci2, by rw [List.length_append]; exact hO2, hS.snoc hO.len ⟨_, _, rfl, hk, hd, hml⟩⟩ (by show aq.length - (i + 1) < aq.length - i; omega) (Sx.put rfl (Sx.put rfl (Sx.put rfl (Sx.put rfl ((by repeat (first | exact Sx.refl | refine Sx.skip rfl ?_))))))) (by repeat (first | exact Sp.here | exact Sp.sn | exact Sp.s0 | exact Fr.here | apply Sp.s2 | apply Sp.sx | apply Fr.fc | apply Fr.al | apply Fr.fa | apply Sp.sc | apply Sp.al | apply Sp.sa))
                  | exact DN.againS ⟨i + 1, _, _, _, _, _, sn, cells, Cs, cm⟩ ⟨by show i + 1 ≤ aq.length; omega, by show i + 1 ≤ 150; omega, hW2, ci2, hO, hS⟩ (by show aq.length - (i + 1) < aq.length - i; omega) (Sx.put rfl (Sx.put rfl (Sx.put rfl (Sx.put rfl ((by repeat (first | exact Sx.refl | refine Sx.skip rfl ?_))))))) (by repeat (first | exact Sp.here | exact Sp.sn | exact Sp.s0 | exact Fr.here | apply Sp.s2 | apply Sp.sx | apply Fr.fc | apply Fr.al | apply Fr.fa | apply Sp.sc | apply Sp.al | apply Sp.sa))
                  | exact DN.againS ⟨i + 1, _, _, _, _, _, sn, cells, Cs, _⟩ ⟨by show i + 1 ≤ aq.length; omega, by show i + 1 ≤ 150; omega, hW2, ci2, hO, hS⟩ (by show aq.length - (i + 1) < aq.length - i; omega) (Sx.put rfl (Sx.put rfl (Sx.put rfl (Sx.put rfl ((by repeat (first | exact Sx.refl | refine Sx.skip rfl ?_))))))) (by repeat (first | exact Sp.here | exact Sp.sn | exact Sp.s0 | exact Fr.here | apply Sp.s2 | apply Sp.sx | apply Fr.fc | apply Fr.al | apply Fr.fa | apply Sp.sc | apply Sp.al | apply Sp.sa))
          · refine WC.cutK (fun z : Bool => True) (fun z : Bool => [(83, .bool z)]) (fun z : Bool => row b10 (awc aq[i] (.slice ko aq[i].L.n.key.length kc) (.slice eo aq[i].L.n.data.length ec)) 50 :: (row b8 (boc cm) 48 :: (C ++ (Cs ++ H)))) ?_ ?_
            · refine WC.seq ?_
              refine WC.region ?_
              refine WL.y rfl (Yd.eql rfl rfl) ?_
              refine WL.y rfl (Yd.assign rfl) ?_
              refine WL.nil ?_
              refine DN.then_normal ?_
              refine WC.cond rfl (fun h83 => ?_) (fun h83 => ?_)
              · refine WC.skip ?_
                exact DN.reachK (_) (trivial) (Sx.put rfl ((by repeat (first | exact Sx.refl | refine Sx.skip rfl ?_)))) (Sp.all (by repeat (first | exact Sp.here | exact Sp.sn | exact Sp.s0 | exact Fr.here | apply Sp.s2 | apply Sp.sx | apply Fr.fc | apply Fr.al | apply Fr.fa | apply Sp.sc | apply Sp.al | apply Sp.sa)))
              · refine WC.region ?_
                refine WL.y rfl (Yd.eql rfl rfl) ?_
                refine WL.y rfl (Yd.assign rfl) ?_
                refine WL.nil ?_
                exact DN.reachK (_) (trivial) (Sx.put rfl ((by repeat (first | exact Sx.refl | refine Sx.skip rfl ?_)))) (Sp.all (by repeat (first | exact Sp.here | exact Sp.sn | exact Sp.s0 | exact Fr.here | apply Sp.s2 | apply Sp.sx | apply Fr.fc | apply Fr.al | apply Fr.fa | apply Sp.sc | apply Sp.al | apply Sp.sa)))
            · intro z83 _
              refine WC.cond rfl (fun h83 => ?_) (fun h83 => ?_)
              · refine WC.seq ?_
                refine WC.region ?_
                refine WL.y rfl (Yd.move rfl) ?_
                refine WL.y rfl (Yd.fieldAddr (k := 14) (by kernel_rfl) rfl) ?_
                refine WL.h rfl (Hd.load1 (by kernel_rfl) rfl (by repeat (first | exact List.mem_cons_self | apply List.mem_cons_of_mem | apply List.mem_append_right)) (by rfl) ⟨_, rfl, ?_⟩)
                refine WL.c rfl (Ent.func Try.call13 rfl) (pick_tells p W C hW ci.inv aq[i].at_) (Sp.p (by repeat (first | exact Sp.here | exact Sp.sn | exact Sp.s0 | exact Fr.here | apply Sp.s2 | apply Sp.sx | apply Fr.fc | apply Fr.al | apply Fr.fa | apply Sp.sc | apply Sp.al | apply Sp.sa))) ?_
                rintro q Hq ⟨uk, ud, A6, B6, C2, rfl, hA6, hB6, hW2, rfl⟩
                have o1 := hA6.one_cell
                have o2 := hB6.one_cell
                obtain ⟨uko, ukc, rfl, _⟩ := hA6.form
                obtain ⟨udo, udc, rfl, _⟩ := hB6.form
                refine WL.y rfl (Yd.move rfl) ?_
                refine WL.y rfl (Yd.extract rfl rfl) ?_
                refine WL.y rfl (Yd.extract rfl rfl) ?_
                refine WL.h rfl (Hd.alloc (zs := [.int .i64 0, .int .i64 0, .int .i64 0, .int .u32 0, .int .u32 0, .int .u64 0, .int .u64 0, .int .u32 0, .int .i64 0, .bool false, .int .i64 0, .slice none 0 0, .slice none 0 0]) (by kernel_rfl) fun b12 => ⟨_, rfl, ?_⟩)
                refine WL.s (Hd.storeAll (n := 13) (by kernel_rfl) rfl rfl (by rfl) (by repeat (first | exact fun _ h => absurd h List.not_mem_nil | refine List.forall_mem_cons.2 ⟨by first | rfl | assumption, ?_⟩)) (by repeat (first | exact Fr.here | apply Fr.fc | apply Fr.al | apply Fr.fa)) (by rfl) ⟨rfl, ?_⟩)
                refine WL.y rfl (Yd.assign rfl) ?_
                refine WL.nil ?_
                refine DN.then_normal ?_
                refine WC.seq ?_
                refine WC.seq ?_
                refine WC.region ?_
                refine WL.y rfl (Yd.move rfl) ?_
                refine WL.y rfl (Yd.move rfl) ?_
                refine WL.rf rfl (Ent.func Try.call14 rfl) (len_reads p _ C2 hW2) (by repeat (first | exact Sp.here | exact Sp.sn | exact Sp.s0 | exact Fr.here | apply Sp.s2 | apply Sp.sx | apply Fr.fc | apply Fr.al | apply Fr.fa | apply Sp.sc | apply Sp.al | apply Sp.sa)) ?_
                refine WL.y rfl (Yd.neq rfl rfl) ?_
                refine WL.nil ?_
                refine DN.then_normal ?_
                refine WC.ite rfl (fun h96 => ?_) (fun h96 => ?_)
                · refine WC.region ?_
                  refine WL.y rfl (Yd.move rfl) ?_
                  refine WL.y rfl (Yd.add rfl rfl (by omega) (by omega)) ?_
                  refine WL.y rfl (Yd.assign rfl) ?_
                  refine WL.nil ?_
                  refine DN.then_normal ?_
                  refine WC.cutK (fun z : Unit => True) (fun z : Unit => [(114, .bool false)]) (fun z : Unit => row b12 (ltc (pickL W aq[i].at_) (.slice uko (pickL W aq[i].at_).n.key.length ukc) (.slice udo (pickL W aq[i].at_).n.data.length udc)) 34 :: (row b10 (awc aq[i] (.slice ko aq[i].L.n.key.length kc) (.slice eo aq[i].L.n.data.length ec)) 50 :: (row b8 (boc cm) 48 :: ((C2 ++ (A6 ++ B6)) ++ (Cs ++ H))))) ?_ ?_
                  · refine WC.draw 16 (by kernel_rfl) rfl ?_
                    refine WA.y (i := 0) (NoPanic.then (NoPanic.block (NoPanic.then (NoPanic.block (NoPanic.then (NoPanic.then (NoPanic.block (NoPanic.then (NoPanic.body))))))))) rfl (by kernel_rfl) (by kernel_rfl) (by kernel_rfl) rfl (Yd.move rfl) ?_
                    refine WA.y (i := 1) (NoPanic.then (NoPanic.block (NoPanic.then (NoPanic.block (NoPanic.then (NoPanic.then (NoPanic.block (NoPanic.then (NoPanic.body))))))))) rfl (by kernel_rfl) (by kernel_rfl) (by kernel_rfl) rfl (Yd.move rfl) ?_
                    refine WA.part (t := 100) rfl (fun hg100 => ?_) (fun hg100 => ?_)
                    · obtain ⟨hp1, hp2, hp3, hp4⟩ := ci.pick hg100
                      refine WA.gy (i := 2) (dj := 100) (NoPanic.then (NoPanic.block (NoPanic.then (NoPanic.block (NoPanic.then (NoPanic.then (NoPanic.block (NoPanic.then (NoPanic.body))))))))) rfl (by kernel_rfl) (by kernel_rfl) (by kernel_rfl) rfl rfl rfl (Yd.move rfl) ?_
                      refine WA.one (i := 3) (by kernel_rfl) ?_
                      refine WO.h rfl (Wt.yes (dj := 100) rfl rfl) rfl (Hd.loadAll (n := 13) (by kernel_rfl) rfl (by repeat (first | exact List.mem_cons_self | apply List.mem_cons_of_mem | apply List.mem_append_right)) (by rfl) ⟨_, rfl, ?_⟩)
                      refine WA.one (i := 4) (by kernel_rfl) ?_
                      refine WO.rf rfl (Wt.yes (dj := 100) rfl rfl) rfl (Ent.func Try.call18 rfl) (has_reads _ cells sn Cs (A6 ++ (B6 ++ H)) hO (by omega) (fun j hj => (hS j hj).mono (by repeat (first | exact Gr.refl | exact Gr.left Gr.refl | exact Gr.nil | exact Gr.app (Gr.left Gr.refl) | refine Gr.cons ?_ | refine Gr.app ?_ | refine Gr.both ?_ ?_ | refine Gr.put (by repeat (first | exact List.mem_cons_self | apply List.mem_cons_of_mem | apply List.mem_append_right)) ?_))) (pickL W aq[i].at_) _ _ (hA6.bs.mono (by repeat (first | exact Gr.refl | exact Gr.left Gr.refl | exact Gr.nil | exact Gr.app (Gr.left Gr.refl) | refine Gr.cons ?_ | refine Gr.app ?_ | refine Gr.both ?_ ?_ | refine Gr.put (by repeat (first | exact List.mem_cons_self | apply List.mem_cons_of_mem | apply List.mem_append_right)) ?_))) (hB6.bs.mono (by repeat (first | exact Gr.refl | exact Gr.left Gr.refl | exact Gr.nil | exact Gr.app (Gr.left Gr.refl) | refine Gr.cons ?_ | refine Gr.app ?_ | refine Gr.both ?_ ?_ | refine Gr.put (by repeat (first | exact List.mem_cons_self | apply List.mem_cons_of_mem | apply List.mem_append_right)) ?_)))) (by repeat (first | exact Sp.here | exact Sp.sn | exact Sp.s0 | exact Fr.here | apply Sp.s2 | apply Sp.sx | apply Fr.fc | apply Fr.al | apply Fr.fa | apply Sp.sc | apply Sp.al | apply Sp.sa)) ?_
                      refine WA.renamed (t := 103) (v := .bool true) rfl (congrArg Value.bool (any_same hp1)) ?_
                      refine WA.gy (i := 5) (dj := 100) (NoPanic.then (NoPanic.block (NoPanic.then (NoPanic.block (NoPanic.then (NoPanic.then (NoPanic.block (NoPanic.then (NoPanic.body))))))))) rfl (by kernel_rfl) (by kernel_rfl) (by kernel_rfl) rfl rfl rfl (Yd.notB rfl) ?_
                      refine WA.gy (i := 6) (dj := 100) (NoPanic.then (NoPanic.block (NoPanic.then (NoPanic.block (NoPanic.then (NoPanic.then (NoPanic.block (NoPanic.then (NoPanic.body))))))))) rfl (by kernel_rfl) (by kernel_rfl) (by kernel_rfl) rfl rfl rfl (Yd.move rfl) ?_
                      refine WA.gy (i := 7) (dj := 105) (NoPanic.then (NoPanic.block (NoPanic.then (NoPanic.block (NoPanic.then (NoPanic.then (NoPanic.block (NoPanic.then (NoPanic.body))))))))) rfl (by kernel_rfl) (by kernel_rfl) (by kernel_rfl) rfl rfl rfl (Yd.fieldAddr (k := 0) (by kernel_rfl) rfl) ?_
                      refine WA.gy (i := 9) (dj := 105) (NoPanic.then (NoPanic.block (NoPanic.then (NoPanic.block (NoPanic.then (NoPanic.then (NoPanic.block (NoPanic.then (NoPanic.body))))))))) rfl (by kernel_rfl) (by kernel_rfl) (by kernel_rfl) rfl rfl rfl (Yd.fieldAddr (k := 1) (by kernel_rfl) rfl) ?_
                      refine WA.two (i := 8) (j := 10) (by kernel_rfl) ?_ ?_
                      · refine WO.h rfl (Wt.yes (dj := 105) rfl rfl) rfl (Hd.load1 (by kernel_rfl) rfl (by repeat (first | exact List.mem_cons_self | apply List.mem_cons_of_mem | apply List.mem_append_right)) (by rfl) ⟨_, rfl, ?_⟩)
                        refine WA.gy (i := 11) (dj := 105) (NoPanic.then (NoPanic.block (NoPanic.then (NoPanic.block (NoPanic.then (NoPanic.then (NoPanic.block (NoPanic.then (NoPanic.body))))))))) rfl (by kernel_rfl) (by kernel_rfl) (by kernel_rfl) rfl rfl rfl (Yd.indexArr (n := 4) (e := 47) (s := 4) (by kernel_rfl) (by kernel_rfl) rfl rfl (by omega) (by omega)) ?_
                        refine WA.one (i := 10) (by kernel_rfl) ?_
                        refine WO.h rfl (Wt.yes (dj := 105) rfl rfl) rfl (Hd.load1 (by kernel_rfl) rfl (by repeat (first | exact List.mem_cons_self | apply List.mem_cons_of_mem | apply List.mem_append_right)) (by rfl) ⟨_, rfl, ?_⟩)
                        refine WA.gy (i := 12) (dj := 105) (NoPanic.then (NoPanic.block (NoPanic.then (NoPanic.block (NoPanic.then (NoPanic.then (NoPanic.block (NoPanic.then (NoPanic.body))))))))) rfl (by kernel_rfl) (by kernel_rfl) (by kernel_rfl) rfl rfl rfl (Yd.indexArr (n := 4) (e := 4) (s := 1) (by kernel_rfl) (by kernel_rfl) rfl rfl (by omega) (by omega)) ?_
                        refine WA.one (i := 13) (by kernel_rfl) ?_
                        refine WO.h rfl (Wt.yes (dj := 105) rfl rfl) rfl (Hd.load1 (v := .bool (cm.getD ((pickL W aq[i].at_).f.toNat * 4 + (pickL W aq[i].at_).t.toNat) false)) (by kernel_rfl) rfl (by repeat (first | exact List.mem_cons_self | apply List.mem_cons_of_mem | apply List.mem_append_right)) (boc_at (L := []) ci.cl (by omega) (by omega)) ⟨_, rfl, ?_⟩)
                        refine WA.renamed (t := 112) (v := .bool false) rfl (congrArg Value.bool (hp4)) ?_
                        refine WA.gy (i := 14) (dj := 100) (NoPanic.then (NoPanic.block (NoPanic.then (NoPanic.block (NoPanic.then (NoPanic.then (NoPanic.block (NoPanic.then (NoPanic.body))))))))) rfl (by kernel_rfl) (by kernel_rfl) (by kernel_rfl) rfl rfl rfl (Yd.pickF rfl rfl) ?_
                        refine WA.y (i := 15) (NoPanic.then (NoPanic.block (NoPanic.then (NoPanic.block (NoPanic.then (NoPanic.then (NoPanic.block (NoPanic.then (NoPanic.body))))))))) rfl (by kernel_rfl) (by kernel_rfl) (by kernel_rfl) rfl (Yd.pickT rfl rfl) ?_
                        refine WA.done (by kernel_rfl) ?_
                        exact DN.reachK (()) (trivial) (Sx.put rfl ((by repeat (first | exact Sx.refl | refine Sx.skip rfl ?_)))) (Sp.all (by repeat (first | exact Sp.here | exact Sp.sn | exact Sp.s0 | exact Fr.here | apply Sp.s2 | apply Sp.sx | apply Fr.fc | apply Fr.al | apply Fr.fa | apply Sp.sc | apply Sp.al | apply Sp.sa)))
                      · refine WO.h rfl (Wt.yes (dj := 105) rfl rfl) rfl (Hd.load1 (by kernel_rfl) rfl (by repeat (first | exact List.mem_cons_self | apply List.mem_cons_of_mem | apply List.mem_append_right)) (by rfl) ⟨_, rfl, ?_⟩)
                        refine WA.one (i := 8) (by kernel_rfl) ?_
                        refine WO.h rfl (Wt.yes (dj := 105) rfl rfl) rfl (Hd.load1 (by kernel_rfl) rfl (by repeat (first | exact List.mem_cons_self | apply List.mem_cons_of_mem | apply List.mem_append_right)) (by rfl) ⟨_, rfl, ?_⟩)
                        refine WA.gy (i := 11) (dj := 105) (NoPanic.then (NoPanic.block (NoPanic.then (NoPanic.block (NoPanic.then (NoPanic.then (NoPanic.block (NoPanic.then (NoPanic.body))))))))) rfl (by kernel_rfl) (by kernel_rfl) (by kernel_rfl) rfl rfl rfl (Yd.indexArr (n := 4) (e := 47) (s := 4) (by kernel_rfl) (by kernel_rfl) rfl rfl (by omega) (by omega)) ?_
                        refine WA.gy (i := 12) (dj := 105) (NoPanic.then (NoPanic.block (NoPanic.then (NoPanic.block (NoPanic.then (NoPanic.then (NoPanic.block (NoPanic.then (NoPanic.body))))))))) rfl (by kernel_rfl) (by kernel_rfl) (by kernel_rfl) rfl rfl rfl (Yd.indexArr (n := 4) (e := 4) (s := 1) (by kernel_rfl) (by kernel_rfl) rfl rfl (by omega) (by omega)) ?_
                        refine WA.one (i := 13) (by kernel_rfl) ?_
                        refine WO.h rfl (Wt.yes (dj := 105) rfl rfl) rfl (Hd.load1 (v := .bool (cm.getD ((pickL W aq[i].at_).f.toNat * 4 + (pickL W aq[i].at_).t.toNat) false)) (by kernel_rfl) rfl (by repeat (first | exact List.mem_cons_self | apply List.mem_cons_of_mem | apply List.mem_append_right)) (boc_at (L := []) ci.cl (by omega) (by omega)) ⟨_, rfl, ?_⟩)
                        refine WA.renamed (t := 112) (v := .bool false) rfl (congrArg Value.bool (hp4)) ?_
                        refine WA.gy (i := 14) (dj := 100) (NoPanic.then (NoPanic.block (NoPanic.then (NoPanic.block (NoPanic.then (NoPanic.then (NoPanic.block (NoPanic.then (NoPanic.body))))))))) rfl (by kernel_rfl) (by kernel_rfl) (by kernel_rfl) rfl rfl rfl (Yd.pickF rfl rfl) ?_
                        refine WA.y (i := 15) (NoPanic.then (NoPanic.block (NoPanic.then (NoPanic.block (NoPanic.then (NoPanic.then (NoPanic.block (NoPanic.then (NoPanic.body))))))))) rfl (by kernel_rfl) (by kernel_rfl) (by kernel_rfl) rfl (Yd.pickT rfl rfl) ?_
                        refine WA.done (by kernel_rfl) ?_
                        exact DN.reachK (()) (trivial) (Sx.put rfl ((by repeat (first | exact Sx.refl | refine Sx.skip rfl ?_)))) (Sp.all (by repeat (first | exact Sp.here | exact Sp.sn | exact Sp.s0 | exact Fr.here | apply Sp.s2 | apply Sp.sx | apply Fr.fc | apply Fr.al | apply Fr.fa | apply Sp.sc | apply Sp.al | apply Sp.sa)))
                    · refine WA.gn (i := 2) (dj := 100) (NoPanic.then (NoPanic.block (NoPanic.then (NoPanic.block (NoPanic.then (NoPanic.then (NoPanic.block (NoPanic.then (NoPanic.body))))))))) rfl (by kernel_rfl) (by kernel_rfl) (by kernel_rfl) rfl rfl rfl rfl ?_
                      refine WA.gn (i := 3) (dj := 100) (NoPanic.then (NoPanic.block (NoPanic.then (NoPanic.block (NoPanic.then (NoPanic.then (NoPanic.block (NoPanic.then (NoPanic.body))))))))) rfl (by kernel_rfl) (by kernel_rfl) (by kernel_rfl) rfl rfl rfl rfl ?_
                      refine WA.gn (i := 4) (dj := 100) (NoPanic.then (NoPanic.block (NoPanic.then (NoPanic.block (NoPanic.then (NoPanic.then (NoPanic.block (NoPanic.then (NoPanic.body))))))))) rfl (by kernel_rfl) (by kernel_rfl) (by kernel_rfl) rfl rfl rfl rfl ?_
                      refine WA.gn (i := 5) (dj := 100) (NoPanic.then (NoPanic.block (NoPanic.then (NoPanic.block (NoPanic.then (NoPanic.then (NoPanic.block (NoPanic.then (NoPanic.body))))))))) rfl (by kernel_rfl) (by kernel_rfl) (by kernel_rfl) rfl rfl rfl rfl ?_
                      refine WA.gn (i := 6) (dj := 100) (NoPanic.then (NoPanic.block (NoPanic.then (NoPanic.block (NoPanic.then (NoPanic.then (NoPanic.block (NoPanic.then (NoPanic.body))))))))) rfl (by kernel_rfl) (by kernel_rfl) (by kernel_rfl) rfl rfl rfl rfl ?_
                      refine WA.gu (i := 7) (dj := 105) (NoPanic.then (NoPanic.block (NoPanic.then (NoPanic.block (NoPanic.then (NoPanic.then (NoPanic.block (NoPanic.then (NoPanic.body))))))))) rfl (by kernel_rfl) (by kernel_rfl) (by kernel_rfl) rfl rfl rfl ?_
                      refine WA.gu (i := 8) (dj := 105) (NoPanic.then (NoPanic.block (NoPanic.then (NoPanic.block (NoPanic.then (NoPanic.then (NoPanic.block (NoPanic.then (NoPanic.body))))))))) rfl (by kernel_rfl) (by kernel_rfl) (by kernel_rfl) rfl rfl rfl ?_
                      refine WA.gu (i := 9) (dj := 105) (NoPanic.then (NoPanic.block (NoPanic.then (NoPanic.block (NoPanic.then (NoPanic.then (NoPanic.block (NoPanic.then (NoPanic.body))))))))) rfl (by kernel_rfl) (by kernel_rfl) (by kernel_rfl) rfl rfl rfl ?_
                      refine WA.gu (i := 10) (dj := 105) (NoPanic.then (NoPanic.block (NoPanic.then (NoPanic.block (NoPanic.then (NoPanic.then (NoPanic.block (NoPanic.then (NoPanic.body))))))))) rfl (by kernel_rfl) (by kernel_rfl) (by kernel_rfl) rfl rfl rfl ?_
                      refine WA.gu (i := 11) (dj := 105) (NoPanic.then (NoPanic.block (NoPanic.then (NoPanic.block (NoPanic.then (NoPanic.then (NoPanic.block (NoPanic.then (NoPanic.body))))))))) rfl (by kernel_rfl) (by kernel_rfl) (by kernel_rfl) rfl rfl rfl ?_
                      refine WA.gu (i := 12) (dj := 105) (NoPanic.then (NoPanic.block (NoPanic.then (NoPanic.block (NoPanic.then (NoPanic.then (NoPanic.block (NoPanic.then (NoPanic.body))))))))) rfl (by kernel_rfl) (by kernel_rfl) (by kernel_rfl) rfl rfl rfl ?_
                      refine WA.gu (i := 13) (dj := 105) (NoPanic.then (NoPanic.block (NoPanic.then (NoPanic.block (NoPanic.then (NoPanic.then (NoPanic.block (NoPanic.then (NoPanic.body))))))))) rfl (by kernel_rfl) (by kernel_rfl) (by kernel_rfl) rfl rfl rfl ?_
                      refine WA.gn (i := 14) (dj := 100) (NoPanic.then (NoPanic.block (NoPanic.then (NoPanic.block (NoPanic.then (NoPanic.then (NoPanic.block (NoPanic.then (NoPanic.body))))))))) rfl (by kernel_rfl) (by kernel_rfl) (by kernel_rfl) rfl rfl rfl rfl ?_
                      refine WA.y (i := 15) (NoPanic.then (NoPanic.block (NoPanic.then (NoPanic.block (NoPanic.then (NoPanic.then (NoPanic.block (NoPanic.then (NoPanic.body))))))))) rfl (by kernel_rfl) (by kernel_rfl) (by kernel_rfl) rfl (Yd.pickF rfl rfl) ?_
                      refine WA.done (by kernel_rfl) ?_
                      exact DN.reachK (()) (trivial) (Sx.put rfl ((by repeat (first | exact Sx.refl | refine Sx.skip rfl ?_)))) (Sp.all (by repeat (first | exact Sp.here | exact Sp.sn | exact Sp.s0 | exact Fr.here | apply Sp.s2 | apply Sp.sx | apply Fr.fc | apply Fr.al | apply Fr.fa | apply Sp.sc | apply Sp.al | apply Sp.sa)))
                  · intro _ _
                    refine WC.no rfl ?_
                    refine WC.skip ?_
                    refine DN.block_normal ?_
                    refine DN.then_normal ?_
                    refine WC.seq ?_
                    first
                      | have ci2 := ci.sendZ (hz75.symm.trans h75)
                      | have ci2 := ci.sendN (hz75.symm.trans h75)
                      | have ci2 := ci.pickYes h96
                      | have ci2 := ci.pickNo h96
                      | have ci2 := (ci.out h120).1
                      | have ci2 := (ci.outNo h120).1
                      | have ci2 := ci.copy h128
                      | have ci2 := ci.copyNo h128
                      | have ci2 := ci.cut (o := aq[i].on) h147
                      | have ci2 := ci.cutNo (o := aq[i].on) h147
                      | have ci2 := ci2l
                      | (have ci2 := ci.same; have hW2 := hW)
                    refine WC.region ?_
                    refine WL.y rfl (Yd.move rfl) ?_
                    refine WL.rf rfl (Ent.func Try.call14 rfl) (len_reads p _ _ hW2) (by repeat (first | exact Sp.here | exact Sp.sn | exact Sp.s0 | exact Fr.here | apply Sp.s2 | apply Sp.sx | apply Fr.fc | apply Fr.al | apply Fr.fa | apply Sp.sc | apply Sp.al | apply Sp.sa)) ?_
                    refine WL.y rfl (Yd.move rfl) ?_
                    refine WL.y rfl (Yd.move rfl) ?_
                    refine WL.y rfl (Yd.sub rfl rfl (by omega) (by omega)) ?_
                    refine WL.y rfl (Yd.neq rfl rfl) ?_
                    refine WL.renamed (t := 161) (v := .bool false) rfl (congrArg Value.bool (by rw [decide_eq_false_iff_not, Classical.not_not]; have := ci2.cnt; omega)) ?_
                    refine WL.nil ?_
                    refine DN.then_normal ?_
                    refine WC.no rfl ?_
                    refine WC.skip ?_
                    refine DN.block_normal ?_
                    refine DN.then_normal ?_
                    refine WC.region ?_
                    refine WL.y rfl (Yd.move rfl) ?_
                    refine WL.y rfl (Yd.add rfl rfl (by omega) (by omega)) ?_
                    refine WL.y rfl (Yd.assign rfl) ?_
                    refine WL.nil ?_
                    first
                      | exact DN.againS ⟨i + 1, _, _, _, _, _, sn ++ [aq[i].L], _, Cs2, cm⟩ ⟨by show i + 1 ≤ aq.length; omega, by show i + 1 ≤ 150; omega, hW2, ci2, by rw [List.length_append]; exact hO2, hS.snoc hO.len ⟨_, _, rfl, hk, hd, hml⟩⟩ (by show aq.length - (i + 1) < aq.length - i; omega) (Sx.put rfl (Sx.put rfl (Sx.put rfl (Sx.put rfl ((by repeat (first | exact Sx.refl | refine Sx.skip rfl ?_))))))) (by repeat (first | exact Sp.here | exact Sp.sn | exact Sp.s0 | exact Fr.here | apply Sp.s2 | apply Sp.sx | apply Fr.fc | apply Fr.al | apply Fr.fa | apply Sp.sc | apply Sp.al | apply Sp.sa))
                      | exact DN.againS ⟨i + 1, _, _, _, _, _, sn, cells, Cs, cm⟩ ⟨by show i + 1 ≤ aq.length; omega, by show i + 1 ≤ 150; omega, hW2, ci2, hO, hS⟩ (by show aq.length - (i + 1) < aq.length - i; omega) (Sx.put rfl (Sx.put rfl (Sx.put rfl (Sx.put rfl ((by repeat (first | exact Sx.refl | refine Sx.skip rfl ?_))))))) (by repeat (first | exact Sp.here | exact Sp.sn | exact Sp.s0 | exact Fr.here | apply Sp.s2 | apply Sp.sx | apply Fr.fc | apply Fr.al | apply Fr.fa | apply Sp.sc | apply Sp.al | apply Sp.sa))
                      | exact DN.againS ⟨i + 1, _, _, _, _, _, sn, cells, Cs, _⟩ ⟨by show i + 1 ≤ aq.length; omega, by show i + 1 ≤ 150; omega, hW2, ci2, hO, hS⟩ (by show aq.length - (i + 1) < aq.length - i; omega) (Sx.put rfl (Sx.put rfl (Sx.put rfl (Sx.put rfl ((by repeat (first | exact Sx.refl | refine Sx.skip rfl ?_))))))) (by repeat (first | exact Sp.here | exact Sp.sn | exact Sp.s0 | exact Fr.here | apply Sp.s2 | apply Sp.sx | apply Fr.fc | apply Fr.al | apply Fr.fa | apply Sp.sc | apply Sp.al | apply Sp.sa))
                · refine WC.skip ?_
                  refine DN.then_normal ?_
                  refine WC.cutK (fun z : Unit => True) (fun z : Unit => [(114, .bool false)]) (fun z : Unit => row b12 (ltc (pickL W aq[i].at_) (.slice uko (pickL W aq[i].at_).n.key.length ukc) (.slice udo (pickL W aq[i].at_).n.data.length udc)) 34 :: (row b10 (awc aq[i] (.slice ko aq[i].L.n.key.length kc) (.slice eo aq[i].L.n.data.length ec)) 50 :: (row b8 (boc cm) 48 :: ((C2 ++ (A6 ++ B6)) ++ (Cs ++ H))))) ?_ ?_
                  · refine WC.draw 16 (by kernel_rfl) rfl ?_
                    refine WA.y (i := 0) (NoPanic.then (NoPanic.block (NoPanic.then (NoPanic.block (NoPanic.then (NoPanic.then (NoPanic.block (NoPanic.then (NoPanic.body))))))))) rfl (by kernel_rfl) (by kernel_rfl) (by kernel_rfl) rfl (Yd.move rfl) ?_
                    refine WA.y (i := 1) (NoPanic.then (NoPanic.block (NoPanic.then (NoPanic.block (NoPanic.then (NoPanic.then (NoPanic.block (NoPanic.then (NoPanic.body))))))))) rfl (by kernel_rfl) (by kernel_rfl) (by kernel_rfl) rfl (Yd.move rfl) ?_
                    refine WA.part (t := 100) rfl (fun hg100 => ?_) (fun hg100 => ?_)
                    · obtain ⟨hp1, hp2, hp3, hp4⟩ := ci.pick hg100
                      refine WA.gy (i := 2) (dj := 100) (NoPanic.then (NoPanic.block (NoPanic.then (NoPanic.block (NoPanic.then (NoPanic.then (NoPanic.block (NoPanic.then (NoPanic.body))))))))) rfl (by kernel_rfl) (by kernel_rfl) (by kernel_rfl) rfl rfl rfl (Yd.move rfl) ?_
                      refine WA.one (i := 3) (by kernel_rfl) ?_
                      refine WO.h rfl (Wt.yes (dj := 100) rfl rfl) rfl (Hd.loadAll (n := 13) (by kernel_rfl) rfl (by repeat (first | exact List.mem_cons_self | apply List.mem_cons_of_mem | apply List.mem_append_right)) (by rfl) ⟨_, rfl, ?_⟩)
                      refine WA.one (i := 4) (by kernel_rfl) ?_
                      refine WO.rf rfl (Wt.yes (dj := 100) rfl rfl) rfl (Ent.func Try.call18 rfl) (has_reads _ cells sn Cs (A6 ++ (B6 ++ H)) hO (by omega) (fun j hj => (hS j hj).mono (by repeat (first | exact Gr.refl | exact Gr.left Gr.refl | exact Gr.nil | exact Gr.app (Gr.left Gr.refl) | refine Gr.cons ?_ | refine Gr.app ?_ | refine Gr.both ?_ ?_ | refine Gr.put (by repeat (first | exact List.mem_cons_self | apply List.mem_cons_of_mem | apply List.mem_append_right)) ?_))) (pickL W aq[i].at_) _ _ (hA6.bs.mono (by repeat (first | exact Gr.refl | exact Gr.left Gr.refl | exact Gr.nil | exact Gr.app (Gr.left Gr.refl) | refine Gr.cons ?_ | refine Gr.app ?_ | refine Gr.both ?_ ?_ | refine Gr.put (by repeat (first | exact List.mem_cons_self | apply List.mem_cons_of_mem | apply List.mem_append_right)) ?_))) (hB6.bs.mono (by repeat (first | exact Gr.refl | exact Gr.left Gr.refl | exact Gr.nil | exact Gr.app (Gr.left Gr.refl) | refine Gr.cons ?_ | refine Gr.app ?_ | refine Gr.both ?_ ?_ | refine Gr.put (by repeat (first | exact List.mem_cons_self | apply List.mem_cons_of_mem | apply List.mem_append_right)) ?_)))) (by repeat (first | exact Sp.here | exact Sp.sn | exact Sp.s0 | exact Fr.here | apply Sp.s2 | apply Sp.sx | apply Fr.fc | apply Fr.al | apply Fr.fa | apply Sp.sc | apply Sp.al | apply Sp.sa)) ?_
                      refine WA.renamed (t := 103) (v := .bool true) rfl (congrArg Value.bool (any_same hp1)) ?_
                      refine WA.gy (i := 5) (dj := 100) (NoPanic.then (NoPanic.block (NoPanic.then (NoPanic.block (NoPanic.then (NoPanic.then (NoPanic.block (NoPanic.then (NoPanic.body))))))))) rfl (by kernel_rfl) (by kernel_rfl) (by kernel_rfl) rfl rfl rfl (Yd.notB rfl) ?_
                      refine WA.gy (i := 6) (dj := 100) (NoPanic.then (NoPanic.block (NoPanic.then (NoPanic.block (NoPanic.then (NoPanic.then (NoPanic.block (NoPanic.then (NoPanic.body))))))))) rfl (by kernel_rfl) (by kernel_rfl) (by kernel_rfl) rfl rfl rfl (Yd.move rfl) ?_
                      refine WA.gy (i := 7) (dj := 105) (NoPanic.then (NoPanic.block (NoPanic.then (NoPanic.block (NoPanic.then (NoPanic.then (NoPanic.block (NoPanic.then (NoPanic.body))))))))) rfl (by kernel_rfl) (by kernel_rfl) (by kernel_rfl) rfl rfl rfl (Yd.fieldAddr (k := 0) (by kernel_rfl) rfl) ?_
                      refine WA.gy (i := 9) (dj := 105) (NoPanic.then (NoPanic.block (NoPanic.then (NoPanic.block (NoPanic.then (NoPanic.then (NoPanic.block (NoPanic.then (NoPanic.body))))))))) rfl (by kernel_rfl) (by kernel_rfl) (by kernel_rfl) rfl rfl rfl (Yd.fieldAddr (k := 1) (by kernel_rfl) rfl) ?_
                      refine WA.two (i := 8) (j := 10) (by kernel_rfl) ?_ ?_
                      · refine WO.h rfl (Wt.yes (dj := 105) rfl rfl) rfl (Hd.load1 (by kernel_rfl) rfl (by repeat (first | exact List.mem_cons_self | apply List.mem_cons_of_mem | apply List.mem_append_right)) (by rfl) ⟨_, rfl, ?_⟩)
                        refine WA.gy (i := 11) (dj := 105) (NoPanic.then (NoPanic.block (NoPanic.then (NoPanic.block (NoPanic.then (NoPanic.then (NoPanic.block (NoPanic.then (NoPanic.body))))))))) rfl (by kernel_rfl) (by kernel_rfl) (by kernel_rfl) rfl rfl rfl (Yd.indexArr (n := 4) (e := 47) (s := 4) (by kernel_rfl) (by kernel_rfl) rfl rfl (by omega) (by omega)) ?_
                        refine WA.one (i := 10) (by kernel_rfl) ?_
                        refine WO.h rfl (Wt.yes (dj := 105) rfl rfl) rfl (Hd.load1 (by kernel_rfl) rfl (by repeat (first | exact List.mem_cons_self | apply List.mem_cons_of_mem | apply List.mem_append_right)) (by rfl) ⟨_, rfl, ?_⟩)
                        refine WA.gy (i := 12) (dj := 105) (NoPanic.then (NoPanic.block (NoPanic.then (NoPanic.block (NoPanic.then (NoPanic.then (NoPanic.block (NoPanic.then (NoPanic.body))))))))) rfl (by kernel_rfl) (by kernel_rfl) (by kernel_rfl) rfl rfl rfl (Yd.indexArr (n := 4) (e := 4) (s := 1) (by kernel_rfl) (by kernel_rfl) rfl rfl (by omega) (by omega)) ?_
                        refine WA.one (i := 13) (by kernel_rfl) ?_
                        refine WO.h rfl (Wt.yes (dj := 105) rfl rfl) rfl (Hd.load1 (v := .bool (cm.getD ((pickL W aq[i].at_).f.toNat * 4 + (pickL W aq[i].at_).t.toNat) false)) (by kernel_rfl) rfl (by repeat (first | exact List.mem_cons_self | apply List.mem_cons_of_mem | apply List.mem_append_right)) (boc_at (L := []) ci.cl (by omega) (by omega)) ⟨_, rfl, ?_⟩)
                        refine WA.renamed (t := 112) (v := .bool false) rfl (congrArg Value.bool (hp4)) ?_
                        refine WA.gy (i := 14) (dj := 100) (NoPanic.then (NoPanic.block (NoPanic.then (NoPanic.block (NoPanic.then (NoPanic.then (NoPanic.block (NoPanic.then (NoPanic.body))))))))) rfl (by kernel_rfl) (by kernel_rfl) (by kernel_rfl) rfl rfl rfl (Yd.pickF rfl rfl) ?_
                        refine WA.y (i := 15) (NoPanic.then (NoPanic.block (NoPanic.then (NoPanic.block (NoPanic.then (NoPanic.then (NoPanic.block (NoPanic.then (NoPanic.body))))))))) rfl (by kernel_rfl) (by kernel_rfl) (by kernel_rfl) rfl (Yd.pickT rfl rfl) ?_
                        refine WA.done (by kernel_rfl) ?_
                        exact DN.reachK (()) (trivial) (Sx.put rfl ((by repeat (first | exact Sx.refl | refine Sx.skip rfl ?_)))) (Sp.all (by repeat (first | exact Sp.here | exact Sp.sn | exact Sp.s0 | exact Fr.here | apply Sp.s2 | apply Sp.sx | apply Fr.fc | apply Fr.al | apply Fr.fa | apply Sp.sc | apply Sp.al | apply Sp.sa)))
                      · refine WO.h rfl (Wt.yes (dj := 105) rfl rfl) rfl (Hd.load1 (by kernel_rfl) rfl (by repeat (first | exact List.mem_cons_self | apply List.mem_cons_of_mem | apply List.mem_append_right)) (by rfl) ⟨_, rfl, ?_⟩)
                        refine WA.one (i := 8) (by kernel_rfl) ?_
                        refine WO.h rfl (Wt.yes (dj := 105) rfl rfl) rfl (Hd.load1 (by kernel_rfl) rfl (by repeat (first | exact List.mem_cons_self | apply List.mem_cons_of_mem | apply List.mem_append_right)) (by rfl) ⟨_, rfl, ?_⟩)
                        refine WA.gy (i := 11) (dj := 105) (NoPanic.then (NoPanic.block (NoPanic.then (NoPanic.block (NoPanic.then (NoPanic.then (NoPanic.block (NoPanic.then (NoPanic.body))))))))) rfl (by kernel_rfl) (by kernel_rfl) (by kernel_rfl) rfl rfl rfl (Yd.indexArr (n := 4) (e := 47) (s := 4) (by kernel_rfl) (by kernel_rfl) rfl rfl (by omega) (by omega)) ?_
                        refine WA.gy (i := 12) (dj := 105) (NoPanic.then (NoPanic.block (NoPanic.then (NoPanic.block (NoPanic.then (NoPanic.then (NoPanic.block (NoPanic.then (NoPanic.body))))))))) rfl (by kernel_rfl) (by kernel_rfl) (by kernel_rfl) rfl rfl rfl (Yd.indexArr (n := 4) (e := 4) (s := 1) (by kernel_rfl) (by kernel_rfl) rfl rfl (by omega) (by omega)) ?_
                        refine WA.one (i := 13) (by kernel_rfl) ?_
                        refine WO.h rfl (Wt.yes (dj := 105) rfl rfl) rfl (Hd.load1 (v := .bool (cm.getD ((pickL W aq[i].at_).f.toNat * 4 + (pickL W aq[i].at_).t.toNat) false)) (by kernel_rfl) rfl (by repeat (first | exact List.mem_cons_self | apply List.mem_cons_of_mem | apply List.mem_append_right)) (boc_at (L := []) ci.cl (by omega) (by omega)) ⟨_, rfl, ?_⟩)
                        refine WA.renamed (t := 112) (v := .bool false) rfl (congrArg Value.bool (hp4)) ?_
                        refine WA.gy (i := 14) (dj := 100) (NoPanic.then (NoPanic.block (NoPanic.then (NoPanic.block (NoPanic.then (NoPanic.then (NoPanic.block (NoPanic.then (NoPanic.body))))))))) rfl (by kernel_rfl) (by kernel_rfl) (by kernel_rfl) rfl rfl rfl (Yd.pickF rfl rfl) ?_
                        refine WA.y (i := 15) (NoPanic.then (NoPanic.block (NoPanic.then (NoPanic.block (NoPanic.then (NoPanic.then (NoPanic.block (NoPanic.then (NoPanic.body))))))))) rfl (by kernel_rfl) (by kernel_rfl) (by kernel_rfl) rfl (Yd.pickT rfl rfl) ?_
                        refine WA.done (by kernel_rfl) ?_
                        exact DN.reachK (()) (trivial) (Sx.put rfl ((by repeat (first | exact Sx.refl | refine Sx.skip rfl ?_)))) (Sp.all (by repeat (first | exact Sp.here | exact Sp.sn | exact Sp.s0 | exact Fr.here | apply Sp.s2 | apply Sp.sx | apply Fr.fc | apply Fr.al | apply Fr.fa | apply Sp.sc | apply Sp.al | apply Sp.sa)))
                    · refine WA.gn (i := 2) (dj := 100) (NoPanic.then (NoPanic.block (NoPanic.then (NoPanic.block (NoPanic.then (NoPanic.then (NoPanic.block (NoPanic.then (NoPanic.body))))))))) rfl (by kernel_rfl) (by kernel_rfl) (by kernel_rfl) rfl rfl rfl rfl ?_
                      refine WA.gn (i := 3) (dj := 100) (NoPanic.then (NoPanic.block (NoPanic.then (NoPanic.block (NoPanic.then (NoPanic.then (NoPanic.block (NoPanic.then (NoPanic.body))))))))) rfl (by kernel_rfl) (by kernel_rfl) (by kernel_rfl) rfl rfl rfl rfl ?_
                      refine WA.gn (i := 4) (dj := 100) (NoPanic.then (NoPanic.block (NoPanic.then (NoPanic.block (NoPanic.then (NoPanic.then (NoPanic.block (NoPanic.then (NoPanic.body))))))))) rfl (by kernel_rfl) (by kernel_rfl) (by kernel_rfl) rfl rfl rfl rfl ?_
                      refine WA.gn (i := 5) (dj := 100) (NoPanic.then (NoPanic.block (NoPanic.then (NoPanic.block (NoPanic.then (NoPanic.then (NoPanic.block (NoPanic.then (NoPanic.body))))))))) rfl (by kernel_rfl) (by kernel_rfl) (by kernel_rfl) rfl rfl rfl rfl ?_
                      refine WA.gn (i := 6) (dj := 100) (NoPanic.then (NoPanic.block (NoPanic.then (NoPanic.block (NoPanic.then (NoPanic.then (NoPanic.block (NoPanic.then (NoPanic.body))))))))) rfl (by kernel_rfl) (by kernel_rfl) (by kernel_rfl) rfl rfl rfl rfl ?_
                      refine WA.gu (i := 7) (dj := 105) (NoPanic.then (NoPanic.block (NoPanic.then (NoPanic.block (NoPanic.then (NoPanic.then (NoPanic.block (NoPanic.then (NoPanic.body))))))))) rfl (by kernel_rfl) (by kernel_rfl) (by kernel_rfl) rfl rfl rfl ?_
                      refine WA.gu (i := 8) (dj := 105) (NoPanic.then (NoPanic.block (NoPanic.then (NoPanic.block (NoPanic.then (NoPanic.then (NoPanic.block (NoPanic.then (NoPanic.body))))))))) rfl (by kernel_rfl) (by kernel_rfl) (by kernel_rfl) rfl rfl rfl ?_
                      refine WA.gu (i := 9) (dj := 105) (NoPanic.then (NoPanic.block (NoPanic.then (NoPanic.block (NoPanic.then (NoPanic.then (NoPanic.block (NoPanic.then (NoPanic.body))))))))) rfl (by kernel_rfl) (by kernel_rfl) (by kernel_rfl) rfl rfl rfl ?_
                      refine WA.gu (i := 10) (dj := 105) (NoPanic.then (NoPanic.block (NoPanic.then (NoPanic.block (NoPanic.then (NoPanic.then (NoPanic.block (NoPanic.then (NoPanic.body))))))))) rfl (by kernel_rfl) (by kernel_rfl) (by kernel_rfl) rfl rfl rfl ?_
                      refine WA.gu (i := 11) (dj := 105) (NoPanic.then (NoPanic.block (NoPanic.then (NoPanic.block (NoPanic.then (NoPanic.then (NoPanic.block (NoPanic.then (NoPanic.body))))))))) rfl (by kernel_rfl) (by kernel_rfl) (by kernel_rfl) rfl rfl rfl ?_
                      refine WA.gu (i := 12) (dj := 105) (NoPanic.then (NoPanic.block (NoPanic.then (NoPanic.block (NoPanic.then (NoPanic.then (NoPanic.block (NoPanic.then (NoPanic.body))))))))) rfl (by kernel_rfl) (by kernel_rfl) (by kernel_rfl) rfl rfl rfl ?_
                      refine WA.gu (i := 13) (dj := 105) (NoPanic.then (NoPanic.block (NoPanic.then (NoPanic.block (NoPanic.then (NoPanic.then (NoPanic.block (NoPanic.then (NoPanic.body))))))))) rfl (by kernel_rfl) (by kernel_rfl) (by kernel_rfl) rfl rfl rfl ?_
                      refine WA.gn (i := 14) (dj := 100) (NoPanic.then (NoPanic.block (NoPanic.then (NoPanic.block (NoPanic.then (NoPanic.then (NoPanic.block (NoPanic.then (NoPanic.body))))))))) rfl (by kernel_rfl) (by kernel_rfl) (by kernel_rfl) rfl rfl rfl rfl ?_
                      refine WA.y (i := 15) (NoPanic.then (NoPanic.block (NoPanic.then (NoPanic.block (NoPanic.then (NoPanic.then (NoPanic.block (NoPanic.then (NoPanic.body))))))))) rfl (by kernel_rfl) (by kernel_rfl) (by kernel_rfl) rfl (Yd.pickF rfl rfl) ?_
                      refine WA.done (by kernel_rfl) ?_
                      exact DN.reachK (()) (trivial) (Sx.put rfl ((by repeat (first | exact Sx.refl | refine Sx.skip rfl ?_)))) (Sp.all (by repeat (first | exact Sp.here | exact Sp.sn | exact Sp.s0 | exact Fr.here | apply Sp.s2 | apply Sp.sx | apply Fr.fc | apply Fr.al | apply Fr.fa | apply Sp.sc | apply Sp.al | apply Sp.sa)))
                  · intro _ _
                    refine WC.no rfl ?_
                    refine WC.skip ?_
                    refine DN.block_normal ?_
                    refine DN.then_normal ?_
                    refine WC.seq ?_
                    first
                      | have ci2 := ci.sendZ (hz75.symm.trans h75)
                      | have ci2 := ci.sendN (hz75.symm.trans h75)
                      | have ci2 := ci.pickYes h96
                      | have ci2 := ci.pickNo h96
                      | have ci2 := (ci.out h120).1
                      | have ci2 := (ci.outNo h120).1
                      | have ci2 := ci.copy h128
                      | have ci2 := ci.copyNo h128
                      | have ci2 := ci.cut (o := aq[i].on) h147
                      | have ci2 := ci.cutNo (o := aq[i].on) h147
                      | have ci2 := ci2l
                      | (have ci2 := ci.same; have hW2 := hW)
                    refine WC.region ?_
                    refine WL.y rfl (Yd.move rfl) ?_
                    refine WL.rf rfl (Ent.func Try.call14 rfl) (len_reads p _ _ hW2) (by repeat (first | exact Sp.here | exact Sp.sn | exact Sp.s0 | exact Fr.here | apply Sp.s2 | apply Sp.sx | apply Fr.fc | apply Fr.al | apply Fr.fa | apply Sp.sc | apply Sp.al | apply Sp.sa)) ?_
                    refine WL.y rfl (Yd.move rfl) ?_
                    refine WL.y rfl (Yd.move rfl) ?_
                    refine WL.y rfl (Yd.sub rfl rfl (by omega) (by omega)) ?_
                    refine WL.y rfl (Yd.neq rfl rfl) ?_
                    refine WL.renamed (t := 161) (v := .bool false) rfl (congrArg Value.bool (by rw [decide_eq_false_iff_not, Classical.not_not]; have := ci2.cnt; omega)) ?_
                    refine WL.nil ?_
                    refine DN.then_normal ?_
                    refine WC.no rfl ?_
                    refine WC.skip ?_
                    refine DN.block_normal ?_
                    refine DN.then_normal ?_
                    refine WC.region ?_
                    refine WL.y rfl (Yd.move rfl) ?_
                    refine WL.y rfl (Yd.add rfl rfl (by omega) (by omega)) ?_
                    refine WL.y rfl (Yd.assign rfl) ?_
                    refine WL.nil ?_
                    first
                      | exact DN.againS ⟨i + 1, _, _, _, _, _, sn ++ [aq[i].L], _, Cs2, cm⟩ ⟨by show i + 1 ≤ aq.length; omega, by show i + 1 ≤ 150; omega, hW2, ci2, by rw [List.length_append]; exact hO2, hS.snoc hO.len ⟨_, _, rfl, hk, hd, hml⟩⟩ (by show aq.length - (i + 1) < aq.length - i; omega) (Sx.put rfl (Sx.put rfl (Sx.put rfl (Sx.put rfl ((by repeat (first | exact Sx.refl | refine Sx.skip rfl ?_))))))) (by repeat (first | exact Sp.here | exact Sp.sn | exact Sp.s0 | exact Fr.here | apply Sp.s2 | apply Sp.sx | apply Fr.fc | apply Fr.al | apply Fr.fa | apply Sp.sc | apply Sp.al | apply Sp.sa))
                      | exact DN.againS ⟨i + 1, _, _, _, _, _, sn, cells, Cs, cm⟩ ⟨by show i + 1 ≤ aq.length; omega, by show i + 1 ≤ 150; omega, hW2, ci2, hO, hS⟩ (by show aq.length - (i + 1) < aq.length - i; omega) (Sx.put rfl (Sx.put rfl (Sx.put rfl (Sx.put rfl ((by repeat (first | exact Sx.refl | refine Sx.skip rfl ?_))))))) (by repeat (first | exact Sp.here | exact Sp.sn | exact Sp.s0 | exact Fr.here | apply Sp.s2 | apply Sp.sx | apply Fr.fc | apply Fr.al | apply Fr.fa | apply Sp.sc | apply Sp.al | apply Sp.sa))
                      | exact DN.againS ⟨i + 1, _, _, _, _, _, sn, cells, Cs, _⟩ ⟨by show i + 1 ≤ aq.length; omega, by show i + 1 ≤ 150; omega, hW2, ci2, hO, hS⟩ (by show aq.length - (i + 1) < aq.length - i; omega) (Sx.put rfl (Sx.put rfl (Sx.put rfl (Sx.put rfl ((by repeat (first | exact Sx.refl | refine Sx.skip rfl ?_))))))) (by repeat (first | exact Sp.here | exact Sp.sn | exact Sp.s0 | exact Fr.here | apply Sp.s2 | apply Sp.sx | apply Fr.fc | apply Fr.al | apply Fr.fa | apply Sp.sc | apply Sp.al | apply Sp.sa))
              · refine WC.seq ?_
                refine WC.region ?_
                refine WL.y rfl (Yd.eql rfl rfl) ?_
                refine WL.y rfl (Yd.assign rfl) ?_
                refine WL.nil ?_
                refine DN.then_normal ?_
                refine WC.ite rfl (fun h115 => ?_) (fun h115 => ?_)
                · refine WC.seq ?_
                  refine WC.region ?_
                  refine WL.y rfl (Yd.move rfl) ?_
                  refine WL.y rfl (Yd.fieldAddr (k := 14) (by kernel_rfl) rfl) ?_
                  refine WL.h rfl (Hd.load1 (by kernel_rfl) rfl (by repeat (first | exact List.mem_cons_self | apply List.mem_cons_of_mem | apply List.mem_append_right)) (by rfl) ⟨_, rfl, ?_⟩)
                  refine WL.c rfl (Ent.func Try.call19 rfl) (lose_tells p W C hW ci.inv aq[i].at_) (Sp.p (by repeat (first | exact Sp.here | exact Sp.sn | exact Sp.s0 | exact Fr.here | apply Sp.s2 | apply Sp.sx | apply Fr.fc | apply Fr.al | apply Fr.fa | apply Sp.sc | apply Sp.al | apply Sp.sa))) ?_
                  rintro q C2 ⟨rfl, hW2⟩
                  refine WL.nil ?_
                  refine DN.then_normal ?_
                  refine WC.cond rfl (fun h120 => ?_) (fun h120 => ?_)
                  · refine WC.region ?_
                    refine WL.y rfl (Yd.move rfl) ?_
                    refine WL.y rfl (Yd.add rfl rfl (by omega) (by omega)) ?_
                    refine WL.y rfl (Yd.assign rfl) ?_
                    refine WL.nil ?_
                    refine DN.block_normal ?_
                    refine DN.then_normal ?_
                    refine WC.seq ?_
                    first
                      | have ci2 := ci.sendZ (hz75.symm.trans h75)
                      | have ci2 := ci.sendN (hz75.symm.trans h75)
                      | have ci2 := ci.pickYes h96
                      | have ci2 := ci.pickNo h96
                      | have ci2 := (ci.out h120).1
                      | have ci2 := (ci.outNo h120).1
                      | have ci2 := ci.copy h128
                      | have ci2 := ci.copyNo h128
                      | have ci2 := ci.cut (o := aq[i].on) h147
                      | have ci2 := ci.cutNo (o := aq[i].on) h147
                      | have ci2 := ci2l
                      | (have ci2 := ci.same; have hW2 := hW)
                    refine WC.region ?_
                    refine WL.y rfl (Yd.move rfl) ?_
                    refine WL.rf rfl (Ent.func Try.call14 rfl) (len_reads p _ _ hW2) (by repeat (first | exact Sp.here | exact Sp.sn | exact Sp.s0 | exact Fr.here | apply Sp.s2 | apply Sp.sx | apply Fr.fc | apply Fr.al | apply Fr.fa | apply Sp.sc | apply Sp.al | apply Sp.sa)) ?_
                    refine WL.y rfl (Yd.move rfl) ?_
                    refine WL.y rfl (Yd.move rfl) ?_
                    refine WL.y rfl (Yd.sub rfl rfl (by omega) (by omega)) ?_
                    refine WL.y rfl (Yd.neq rfl rfl) ?_
                    refine WL.renamed (t := 161) (v := .bool false) rfl (congrArg Value.bool (by rw [decide_eq_false_iff_not, Classical.not_not]; have := ci2.cnt; omega)) ?_
                    refine WL.nil ?_
                    refine DN.then_normal ?_
                    refine WC.no rfl ?_
                    refine WC.skip ?_
                    refine DN.block_normal ?_
                    refine DN.then_normal ?_
                    refine WC.region ?_
                    refine WL.y rfl (Yd.move rfl) ?_
                    refine WL.y rfl (Yd.add rfl rfl (by omega) (by omega)) ?_
                    refine WL.y rfl (Yd.assign rfl) ?_
                    refine WL.nil ?_
                    first
                      | exact DN.againS ⟨i + 1, _, _, _, _, _, sn ++ [aq[i].L], _, Cs2, cm⟩ ⟨by show i + 1 ≤ aq.length; omega, by show i + 1 ≤ 150; omega, hW2, ci2, by rw [List.length_append]; exact hO2, hS.snoc hO.len ⟨_, _, rfl, hk, hd, hml⟩⟩ (by show aq.length - (i + 1) < aq.length - i; omega) (Sx.put rfl (Sx.put rfl (Sx.put rfl (Sx.put rfl ((by repeat (first | exact Sx.refl | refine Sx.skip rfl ?_))))))) (by repeat (first | exact Sp.here | exact Sp.sn | exact Sp.s0 | exact Fr.here | apply Sp.s2 | apply Sp.sx | apply Fr.fc | apply Fr.al | apply Fr.fa | apply Sp.sc | apply Sp.al | apply Sp.sa))
                      | exact DN.againS ⟨i + 1, _, _, _, _, _, sn, cells, Cs, cm⟩ ⟨by show i + 1 ≤ aq.length; omega, by show i + 1 ≤ 150; omega, hW2, ci2, hO, hS⟩ (by show aq.length - (i + 1) < aq.length - i; omega) (Sx.put rfl (Sx.put rfl (Sx.put rfl (Sx.put rfl ((by repeat (first | exact Sx.refl | refine Sx.skip rfl ?_))))))) (by repeat (first | exact Sp.here | exact Sp.sn | exact Sp.s0 | exact Fr.here | apply Sp.s2 | apply Sp.sx | apply Fr.fc | apply Fr.al | apply Fr.fa | apply Sp.sc | apply Sp.al | apply Sp.sa))
                      | exact DN.againS ⟨i + 1, _, _, _, _, _, sn, cells, Cs, _⟩ ⟨by show i + 1 ≤ aq.length; omega, by show i + 1 ≤ 150; omega, hW2, ci2, hO, hS⟩ (by show aq.length - (i + 1) < aq.length - i; omega) (Sx.put rfl (Sx.put rfl (Sx.put rfl (Sx.put rfl ((by repeat (first | exact Sx.refl | refine Sx.skip rfl ?_))))))) (by repeat (first | exact Sp.here | exact Sp.sn | exact Sp.s0 | exact Fr.here | apply Sp.s2 | apply Sp.sx | apply Fr.fc | apply Fr.al | apply Fr.fa | apply Sp.sc | apply Sp.al | apply Sp.sa))
                  · refine WC.skip ?_
                    refine DN.block_normal ?_
                    refine DN.then_normal ?_
                    refine WC.seq ?_
                    first
                      | have ci2 := ci.sendZ (hz75.symm.trans h75)
                      | have ci2 := ci.sendN (hz75.symm.trans h75)
                      | have ci2 := ci.pickYes h96
                      | have ci2 := ci.pickNo h96
                      | have ci2 := (ci.out h120).1
                      | have ci2 := (ci.outNo h120).1
                      | have ci2 := ci.copy h128
                      | have ci2 := ci.copyNo h128
                      | have ci2 := ci.cut (o := aq[i].on) h147
                      | have ci2 := ci.cutNo (o := aq[i].on) h147
                      | have ci2 := ci2l
                      | (have ci2 := ci.same; have hW2 := hW)
                    refine WC.region ?_
                    refine WL.y rfl (Yd.move rfl) ?_
                    refine WL.rf rfl (Ent.func Try.call14 rfl) (len_reads p _ _ hW2) (by repeat (first | exact Sp.here | exact Sp.sn | exact Sp.s0 | exact Fr.here | apply Sp.s2 | apply Sp.sx | apply Fr.fc | apply Fr.al | apply Fr.fa | apply Sp.sc | apply Sp.al | apply Sp.sa)) ?_
                    refine WL.y rfl (Yd.move rfl) ?_
                    refine WL.y rfl (Yd.move rfl) ?_
                    refine WL.y rfl (Yd.sub rfl rfl (by omega) (by omega)) ?_
                    refine WL.y rfl (Yd.neq rfl rfl) ?_
                    refine WL.renamed (t := 161) (v := .bool false) rfl (congrArg Value.bool (by rw [decide_eq_false_iff_not, Classical.not_not]; have := ci2.cnt; omega)) ?_
                    refine WL.nil ?_
                    refine DN.then_normal ?_
                    refine WC.no rfl ?_
                    refine WC.skip ?_
                    refine DN.block_normal ?_
                    refine DN.then_normal ?_
                    refine WC.region ?_
                    refine WL.y rfl (Yd.move rfl) ?_
                    refine WL.y rfl (Yd.add rfl rfl (by omega) (by omega)) ?_
                    refine WL.y rfl (Yd.assign rfl) ?_
                    refine WL.nil ?_
                    first
                      | exact DN.againS ⟨i + 1, _, _, _, _, _, sn ++ [aq[i].L], _, Cs2, cm⟩ ⟨by show i + 1 ≤ aq.length; omega, by show i + 1 ≤ 150; omega, hW2, ci2, by rw [List.length_append]; exact hO2, hS.snoc hO.len ⟨_, _, rfl, hk, hd, hml⟩⟩ (by show aq.length - (i + 1) < aq.length - i; omega) (Sx.put rfl (Sx.put rfl (Sx.put rfl (Sx.put rfl ((by repeat (first | exact Sx.refl | refine Sx.skip rfl ?_))))))) (by repeat (first | exact Sp.here | exact Sp.sn | exact Sp.s0 | exact Fr.here | apply Sp.s2 | apply Sp.sx | apply Fr.fc | apply Fr.al | apply Fr.fa | apply Sp.sc | apply Sp.al | apply Sp.sa))
                      | exact DN.againS ⟨i + 1, _, _, _, _, _, sn, cells, Cs, cm⟩ ⟨by show i + 1 ≤ aq.length; omega, by show i + 1 ≤ 150; omega, hW2, ci2, hO, hS⟩ (by show aq.length - (i + 1) < aq.length - i; omega) (Sx.put rfl (Sx.put rfl (Sx.put rfl (Sx.put rfl ((by repeat (first | exact Sx.refl | refine Sx.skip rfl ?_))))))) (by repeat (first | exact Sp.here | exact Sp.sn | exact Sp.s0 | exact Fr.here | apply Sp.s2 | apply Sp.sx | apply Fr.fc | apply Fr.al | apply Fr.fa | apply Sp.sc | apply Sp.al | apply Sp.sa))
                      | exact DN.againS ⟨i + 1, _, _, _, _, _, sn, cells, Cs, _⟩ ⟨by show i + 1 ≤ aq.length; omega, by show i + 1 ≤ 150; omega, hW2, ci2, hO, hS⟩ (by show aq.length - (i + 1) < aq.length - i; omega) (Sx.put rfl (Sx.put rfl (Sx.put rfl (Sx.put rfl ((by repeat (first | exact Sx.refl | refine Sx.skip rfl ?_))))))) (by repeat (first | exact Sp.here | exact Sp.sn | exact Sp.s0 | exact Fr.here | apply Sp.s2 | apply Sp.sx | apply Fr.fc | apply Fr.al | apply Fr.fa | apply Sp.sc | apply Sp.al | apply Sp.sa))
                · refine WC.seq ?_
                  refine WC.region ?_
                  refine WL.y rfl (Yd.eql rfl rfl) ?_
                  refine WL.y rfl (Yd.assign rfl) ?_
                  refine WL.nil ?_
                  refine DN.then_normal ?_
                  refine WC.ite rfl (fun h123 => ?_) (fun h123 => ?_)
                  · refine WC.seq ?_
                    refine WC.region ?_
                    refine WL.y rfl (Yd.move rfl) ?_
                    refine WL.y rfl (Yd.fieldAddr (k := 14) (by kernel_rfl) rfl) ?_
                    refine WL.h rfl (Hd.load1 (by kernel_rfl) rfl (by repeat (first | exact List.mem_cons_self | apply List.mem_cons_of_mem | apply List.mem_append_right)) (by rfl) ⟨_, rfl, ?_⟩)
                    refine WL.c rfl (Ent.func Try.call20 rfl) (copy_tells p W C hW ci.inv aq[i].at_) (Sp.p (by repeat (first | exact Sp.here | exact Sp.sn | exact Sp.s0 | exact Fr.here | apply Sp.s2 | apply Sp.sx | apply Fr.fc | apply Fr.al | apply Fr.fa | apply Sp.sc | apply Sp.al | apply Sp.sa))) ?_
                    rintro q C2 ⟨rfl, hW2⟩
                    refine WL.nil ?_
                    refine DN.then_normal ?_
                    refine WC.cond rfl (fun h128 => ?_) (fun h128 => ?_)
                    · refine WC.region ?_
                      refine WL.y rfl (Yd.move rfl) ?_
                      refine WL.y rfl (Yd.add rfl rfl (by omega) (by omega)) ?_
                      refine WL.y rfl (Yd.assign rfl) ?_
                      refine WL.nil ?_
                      refine DN.block_normal ?_
                      refine DN.then_normal ?_
                      refine WC.seq ?_
                      first
                        | have ci2 := ci.sendZ (hz75.symm.trans h75)
                        | have ci2 := ci.sendN (hz75.symm.trans h75)
                        | have ci2 := ci.pickYes h96
                        | have ci2 := ci.pickNo h96
                        | have ci2 := (ci.out h120).1
                        | have ci2 := (ci.outNo h120).1
                        | have ci2 := ci.copy h128
                        | have ci2 := ci.copyNo h128
                        | have ci2 := ci.cut (o := aq[i].on) h147
                        | have ci2 := ci.cutNo (o := aq[i].on) h147
                        | have ci2 := ci2l
                        | (have ci2 := ci.same; have hW2 := hW)
                      refine WC.region ?_
                      refine WL.y rfl (Yd.move rfl) ?_
                      refine WL.rf rfl (Ent.func Try.call14 rfl) (len_reads p _ _ hW2) (by repeat (first | exact Sp.here | exact Sp.sn | exact Sp.s0 | exact Fr.here | apply Sp.s2 | apply Sp.sx | apply Fr.fc | apply Fr.al | apply Fr.fa | apply Sp.sc | apply Sp.al | apply Sp.sa)) ?_
                      refine WL.y rfl (Yd.move rfl) ?_
                      refine WL.y rfl (Yd.move rfl) ?_
                      refine WL.y rfl (Yd.sub rfl rfl (by omega) (by omega)) ?_
                      refine WL.y rfl (Yd.neq rfl rfl) ?_
                      refine WL.renamed (t := 161) (v := .bool false) rfl (congrArg Value.bool (by rw [decide_eq_false_iff_not, Classical.not_not]; have := ci2.cnt; omega)) ?_
                      refine WL.nil ?_
                      refine DN.then_normal ?_
                      refine WC.no rfl ?_
                      refine WC.skip ?_
                      refine DN.block_normal ?_
                      refine DN.then_normal ?_
                      refine WC.region ?_
                      refine WL.y rfl (Yd.move rfl) ?_
                      refine WL.y rfl (Yd.add rfl rfl (by omega) (by omega)) ?_
                      refine WL.y rfl (Yd.assign rfl) ?_
                      refine WL.nil ?_
                      first
                        | exact DN.againS ⟨i + 1, _, _, _, _, _, sn ++ [aq[i].L], _, Cs2, cm⟩ ⟨by show i + 1 ≤ aq.length; omega, by show i + 1 ≤ 150; omega, hW2, ci2, by rw [List.length_append]; exact hO2, hS.snoc hO.len ⟨_, _, rfl, hk, hd, hml⟩⟩ (by show aq.length - (i + 1) < aq.length - i; omega) (Sx.put rfl (Sx.put rfl (Sx.put rfl (Sx.put rfl ((by repeat (first | exact Sx.refl | refine Sx.skip rfl ?_))))))) (by repeat (first | exact Sp.here | exact Sp.sn | exact Sp.s0 | exact Fr.here | apply Sp.s2 | apply Sp.sx | apply Fr.fc | apply Fr.al | apply Fr.fa | apply Sp.sc | apply Sp.al | apply Sp.sa))
                        | exact DN.againS ⟨i + 1, _, _, _, _, _, sn, cells, Cs, cm⟩ ⟨by show i + 1 ≤ aq.length; omega, by show i + 1 ≤ 150; omega, hW2, ci2, hO, hS⟩ (by show aq.length - (i + 1) < aq.length - i; omega) (Sx.put rfl (Sx.put rfl (Sx.put rfl (Sx.put rfl ((by repeat (first | exact Sx.refl | refine Sx.skip rfl ?_))))))) (by repeat (first | exact Sp.here | exact Sp.sn | exact Sp.s0 | exact Fr.here | apply Sp.s2 | apply Sp.sx | apply Fr.fc | apply Fr.al | apply Fr.fa | apply Sp.sc | apply Sp.al | apply Sp.sa))
                        | exact DN.againS ⟨i + 1, _, _, _, _, _, sn, cells, Cs, _⟩ ⟨by show i + 1 ≤ aq.length; omega, by show i + 1 ≤ 150; omega, hW2, ci2, hO, hS⟩ (by show aq.length - (i + 1) < aq.length - i; omega) (Sx.put rfl (Sx.put rfl (Sx.put rfl (Sx.put rfl ((by repeat (first | exact Sx.refl | refine Sx.skip rfl ?_))))))) (by repeat (first | exact Sp.here | exact Sp.sn | exact Sp.s0 | exact Fr.here | apply Sp.s2 | apply Sp.sx | apply Fr.fc | apply Fr.al | apply Fr.fa | apply Sp.sc | apply Sp.al | apply Sp.sa))
                    · refine WC.skip ?_
                      refine DN.block_normal ?_
                      refine DN.then_normal ?_
                      refine WC.seq ?_
                      first
                        | have ci2 := ci.sendZ (hz75.symm.trans h75)
                        | have ci2 := ci.sendN (hz75.symm.trans h75)
                        | have ci2 := ci.pickYes h96
                        | have ci2 := ci.pickNo h96
                        | have ci2 := (ci.out h120).1
                        | have ci2 := (ci.outNo h120).1
                        | have ci2 := ci.copy h128
                        | have ci2 := ci.copyNo h128
                        | have ci2 := ci.cut (o := aq[i].on) h147
                        | have ci2 := ci.cutNo (o := aq[i].on) h147
                        | have ci2 := ci2l
                        | (have ci2 := ci.same; have hW2 := hW)
                      refine WC.region ?_
                      refine WL.y rfl (Yd.move rfl) ?_
                      refine WL.rf rfl (Ent.func Try.call14 rfl) (len_reads p _ _ hW2) (by repeat (first | exact Sp.here | exact Sp.sn | exact Sp.s0 | exact Fr.here | apply Sp.s2 | apply Sp.sx | apply Fr.fc | apply Fr.al | apply Fr.fa | apply Sp.sc | apply Sp.al | apply Sp.sa)) ?_
                      refine WL.y rfl (Yd.move rfl) ?_
                      refine WL.y rfl (Yd.move rfl) ?_
                      refine WL.y rfl (Yd.sub rfl rfl (by omega) (by omega)) ?_
                      refine WL.y rfl (Yd.neq rfl rfl) ?_
                      refine WL.renamed (t := 161) (v := .bool false) rfl (congrArg Value.bool (by rw [decide_eq_false_iff_not, Classical.not_not]; have := ci2.cnt; omega)) ?_
                      refine WL.nil ?_
                      refine DN.then_normal ?_
                      refine WC.no rfl ?_
                      refine WC.skip ?_
                      refine DN.block_normal ?_
                      refine DN.then_normal ?_
                      refine WC.region ?_
                      refine WL.y rfl (Yd.move rfl) ?_
                      refine WL.y rfl (Yd.add rfl rfl (by omega) (by omega)) ?_
                      refine WL.y rfl (Yd.assign rfl) ?_
                      refine WL.nil ?_
                      first
                        | exact DN.againS ⟨i + 1, _, _, _, _, _, sn ++ [aq[i].L], _, Cs2, cm⟩ ⟨by show i + 1 ≤ aq.length; omega, by show i + 1 ≤ 150; omega, hW2, ci2, by rw [List.length_append]; exact hO2, hS.snoc hO.len ⟨_, _, rfl, hk, hd, hml⟩⟩ (by show aq.length - (i + 1) < aq.length - i; omega) (Sx.put rfl (Sx.put rfl (Sx.put rfl (Sx.put rfl ((by repeat (first | exact Sx.refl | refine Sx.skip rfl ?_))))))) (by repeat (first | exact Sp.here | exact Sp.sn | exact Sp.s0 | exact Fr.here | apply Sp.s2 | apply Sp.sx | apply Fr.fc | apply Fr.al | apply Fr.fa | apply Sp.sc | apply Sp.al | apply Sp.sa))
                        | exact DN.againS ⟨i + 1, _, _, _, _, _, sn, cells, Cs, cm⟩ ⟨by show i + 1 ≤ aq.length; omega, by show i + 1 ≤ 150; omega, hW2, ci2, hO, hS⟩ (by show aq.length - (i + 1) < aq.length - i; omega) (Sx.put rfl (Sx.put rfl (Sx.put rfl (Sx.put rfl ((by repeat (first | exact Sx.refl | refine Sx.skip rfl ?_))))))) (by repeat (first | exact Sp.here | exact Sp.sn | exact Sp.s0 | exact Fr.here | apply Sp.s2 | apply Sp.sx | apply Fr.fc | apply Fr.al | apply Fr.fa | apply Sp.sc | apply Sp.al | apply Sp.sa))
                        | exact DN.againS ⟨i + 1, _, _, _, _, _, sn, cells, Cs, _⟩ ⟨by show i + 1 ≤ aq.length; omega, by show i + 1 ≤ 150; omega, hW2, ci2, hO, hS⟩ (by show aq.length - (i + 1) < aq.length - i; omega) (Sx.put rfl (Sx.put rfl (Sx.put rfl (Sx.put rfl ((by repeat (first | exact Sx.refl | refine Sx.skip rfl ?_))))))) (by repeat (first | exact Sp.here | exact Sp.sn | exact Sp.s0 | exact Fr.here | apply Sp.s2 | apply Sp.sx | apply Fr.fc | apply Fr.al | apply Fr.fa | apply Sp.sc | apply Sp.al | apply Sp.sa))
                  · refine WC.seq ?_
                    refine WC.region ?_
                    refine WL.y rfl (Yd.eql rfl rfl) ?_
                    refine WL.y rfl (Yd.assign rfl) ?_
                    refine WL.nil ?_
                    refine DN.then_normal ?_
                    refine WC.ite rfl (fun h131 => ?_) (fun h131 => ?_)
                    · refine WC.region ?_
                      refine WL.y rfl (Yd.move rfl) ?_
                      refine WL.y rfl (Yd.fieldAddr (k := 14) (by kernel_rfl) rfl) ?_
                      refine WL.h rfl (Hd.load1 (by kernel_rfl) rfl (by repeat (first | exact List.mem_cons_self | apply List.mem_cons_of_mem | apply List.mem_append_right)) (by rfl) ⟨_, rfl, ?_⟩)
                      refine WL.c rfl (Ent.func Try.call12 rfl) (late_tells p W C hW ci.inv aq[i].at_) (Sp.p (by repeat (first | exact Sp.here | exact Sp.sn | exact Sp.s0 | exact Fr.here | apply Sp.s2 | apply Sp.sx | apply Fr.fc | apply Fr.al | apply Fr.fa | apply Sp.sc | apply Sp.al | apply Sp.sa))) ?_
                      rintro q C2 ⟨rfl, hW2⟩
                      have ci2l := ci.late aq[i].at_
                      refine WL.nil ?_
                      refine DN.block_normal ?_
                      refine DN.then_normal ?_
                      refine WC.seq ?_
                      first
                        | have ci2 := ci.sendZ (hz75.symm.trans h75)
                        | have ci2 := ci.sendN (hz75.symm.trans h75)
                        | have ci2 := ci.pickYes h96
                        | have ci2 := ci.pickNo h96
                        | have ci2 := (ci.out h120).1
                        | have ci2 := (ci.outNo h120).1
                        | have ci2 := ci.copy h128
                        | have ci2 := ci.copyNo h128
                        | have ci2 := ci.cut (o := aq[i].on) h147
                        | have ci2 := ci.cutNo (o := aq[i].on) h147
                        | have ci2 := ci2l
                        | (have ci2 := ci.same; have hW2 := hW)
                      refine WC.region ?_
                      refine WL.y rfl (Yd.move rfl) ?_
                      refine WL.rf rfl (Ent.func Try.call14 rfl) (len_reads p _ _ hW2) (by repeat (first | exact Sp.here | exact Sp.sn | exact Sp.s0 | exact Fr.here | apply Sp.s2 | apply Sp.sx | apply Fr.fc | apply Fr.al | apply Fr.fa | apply Sp.sc | apply Sp.al | apply Sp.sa)) ?_
                      refine WL.y rfl (Yd.move rfl) ?_
                      refine WL.y rfl (Yd.move rfl) ?_
                      refine WL.y rfl (Yd.sub rfl rfl (by omega) (by omega)) ?_
                      refine WL.y rfl (Yd.neq rfl rfl) ?_
                      refine WL.renamed (t := 161) (v := .bool false) rfl (congrArg Value.bool (by rw [decide_eq_false_iff_not, Classical.not_not]; have := ci2.cnt; omega)) ?_
                      refine WL.nil ?_
                      refine DN.then_normal ?_
                      refine WC.no rfl ?_
                      refine WC.skip ?_
                      refine DN.block_normal ?_
                      refine DN.then_normal ?_
                      refine WC.region ?_
                      refine WL.y rfl (Yd.move rfl) ?_
                      refine WL.y rfl (Yd.add rfl rfl (by omega) (by omega)) ?_
                      refine WL.y rfl (Yd.assign rfl) ?_
                      refine WL.nil ?_
                      first
                        | exact DN.againS ⟨i + 1, _, _, _, _, _, sn ++ [aq[i].L], _, Cs2, cm⟩ ⟨by show i + 1 ≤ aq.length; omega, by show i + 1 ≤ 150; omega, hW2, ci2, by rw [List.length_append]; exact hO2, hS.snoc hO.len ⟨_, _, rfl, hk, hd, hml⟩⟩ (by show aq.length - (i + 1) < aq.length - i; omega) (Sx.put rfl (Sx.put rfl (Sx.put rfl (Sx.put rfl ((by repeat (first | exact Sx.refl | refine Sx.skip rfl ?_))))))) (by repeat (first | exact Sp.here | exact Sp.sn | exact Sp.s0 | exact Fr.here | apply Sp.s2 | apply Sp.sx | apply Fr.fc | apply Fr.al | apply Fr.fa | apply Sp.sc | apply Sp.al | apply Sp.sa))
                        | exact DN.againS ⟨i + 1, _, _, _, _, _, sn, cells, Cs, cm⟩ ⟨by show i + 1 ≤ aq.length; omega, by show i + 1 ≤ 150; omega, hW2, ci2, hO, hS⟩ (by show aq.length - (i + 1) < aq.length - i; omega) (Sx.put rfl (Sx.put rfl (Sx.put rfl (Sx.put rfl ((by repeat (first | exact Sx.refl | refine Sx.skip rfl ?_))))))) (by repeat (first | exact Sp.here | exact Sp.sn | exact Sp.s0 | exact Fr.here | apply Sp.s2 | apply Sp.sx | apply Fr.fc | apply Fr.al | apply Fr.fa | apply Sp.sc | apply Sp.al | apply Sp.sa))
                        | exact DN.againS ⟨i + 1, _, _, _, _, _, sn, cells, Cs, _⟩ ⟨by show i + 1 ≤ aq.length; omega, by show i + 1 ≤ 150; omega, hW2, ci2, hO, hS⟩ (by show aq.length - (i + 1) < aq.length - i; omega) (Sx.put rfl (Sx.put rfl (Sx.put rfl (Sx.put rfl ((by repeat (first | exact Sx.refl | refine Sx.skip rfl ?_))))))) (by repeat (first | exact Sp.here | exact Sp.sn | exact Sp.s0 | exact Fr.here | apply Sp.s2 | apply Sp.sx | apply Fr.fc | apply Fr.al | apply Fr.fa | apply Sp.sc | apply Sp.al | apply Sp.sa))
                    · refine WC.seq ?_
                      refine WC.region ?_
                      refine WL.y rfl (Yd.eql rfl rfl) ?_
                      refine WL.y rfl (Yd.assign rfl) ?_
                      refine WL.nil ?_
                      refine DN.then_normal ?_
                      refine WC.ite rfl (fun h137 => ?_) (fun h137 => ?_)
                      · refine WC.seq ?_
                        refine WC.region ?_
                        refine WL.y rfl (Yd.move rfl) ?_
                        refine WL.y rfl (Yd.fieldAddr (k := 14) (by kernel_rfl) rfl) ?_
                        refine WL.h rfl (Hd.load1 (by kernel_rfl) rfl (by repeat (first | exact List.mem_cons_self | apply List.mem_cons_of_mem | apply List.mem_append_right)) (by rfl) ⟨_, rfl, ?_⟩)
                        refine WL.y rfl (Yd.fieldAddr (k := 15) (by kernel_rfl) rfl) ?_
                        refine WL.h rfl (Hd.load1 (by kernel_rfl) rfl (by repeat (first | exact List.mem_cons_self | apply List.mem_cons_of_mem | apply List.mem_append_right)) (by rfl) ⟨_, rfl, ?_⟩)
                        refine WL.y rfl (Yd.fieldAddr (k := 16) (by kernel_rfl) rfl) ?_
                        refine WL.h rfl (Hd.load1 (by kernel_rfl) rfl (by repeat (first | exact List.mem_cons_self | apply List.mem_cons_of_mem | apply List.mem_append_right)) (by rfl) ⟨_, rfl, ?_⟩)
                        refine WL.c rfl (Ent.func Try.call16 rfl) (cut_tells p W C hW ci.inv aq[i].at_ aq[i].to aq[i].on) (Sp.p (by repeat (first | exact Sp.here | exact Sp.sn | exact Sp.s0 | exact Fr.here | apply Sp.s2 | apply Sp.sx | apply Fr.fc | apply Fr.al | apply Fr.fa | apply Sp.sc | apply Sp.al | apply Sp.sa))) ?_
                        rintro q C2 ⟨rfl, hW2⟩
                        refine WL.y rfl (Yd.eql rfl rfl) ?_
                        refine WL.nil ?_
                        refine DN.then_normal ?_
                        refine WC.ite rfl (fun h147 => ?_) (fun h147 => ?_)
                        · refine WC.draw 9 (by kernel_rfl) rfl ?_
                          refine WA.y (i := 0) (NoPanic.block (NoPanic.then (NoPanic.block (NoPanic.then (NoPanic.then (NoPanic.block (NoPanic.then (NoPanic.body)))))))) rfl (by kernel_rfl) (by kernel_rfl) (by kernel_rfl) rfl (Yd.fieldAddr (k := 14) (by kernel_rfl) rfl) ?_
                          refine WA.y (i := 2) (NoPanic.block (NoPanic.then (NoPanic.block (NoPanic.then (NoPanic.then (NoPanic.block (NoPanic.then (NoPanic.body)))))))) rfl (by kernel_rfl) (by kernel_rfl) (by kernel_rfl) rfl (Yd.fieldAddr (k := 15) (by kernel_rfl) rfl) ?_
                          refine WA.y (i := 4) (NoPanic.block (NoPanic.then (NoPanic.block (NoPanic.then (NoPanic.then (NoPanic.block (NoPanic.then (NoPanic.body)))))))) rfl (by kernel_rfl) (by kernel_rfl) (by kernel_rfl) rfl (Yd.fieldAddr (k := 16) (by kernel_rfl) rfl) ?_
                          refine WA.three (i := 1) (j := 3) (k := 5) (by kernel_rfl) ?_ ?_ ?_
                          · refine WO.h rfl Wt.none rfl (Hd.load1 (by kernel_rfl) rfl (by repeat (first | exact List.mem_cons_self | apply List.mem_cons_of_mem | apply List.mem_append_right)) (by rfl) ⟨_, rfl, ?_⟩)
                            have hcb := ci.cutB h147
                            refine WA.y (i := 6) (NoPanic.block (NoPanic.then (NoPanic.block (NoPanic.then (NoPanic.then (NoPanic.block (NoPanic.then (NoPanic.body)))))))) rfl (by kernel_rfl) (by kernel_rfl) (by kernel_rfl) rfl (Yd.indexArr (n := 4) (e := 47) (s := 4) (by kernel_rfl) (by kernel_rfl) rfl rfl (by omega) (by omega)) ?_
                            refine WA.two (i := 3) (j := 5) (by kernel_rfl) ?_ ?_
                            · refine WO.h rfl Wt.none rfl (Hd.load1 (by kernel_rfl) rfl (by repeat (first | exact List.mem_cons_self | apply List.mem_cons_of_mem | apply List.mem_append_right)) (by rfl) ⟨_, rfl, ?_⟩)
                              refine WA.one (i := 5) (by kernel_rfl) ?_
                              refine WO.h rfl Wt.none rfl (Hd.load1 (by kernel_rfl) rfl (by repeat (first | exact List.mem_cons_self | apply List.mem_cons_of_mem | apply List.mem_append_right)) (by rfl) ⟨_, rfl, ?_⟩)
                              refine WA.y (i := 7) (NoPanic.block (NoPanic.then (NoPanic.block (NoPanic.then (NoPanic.then (NoPanic.block (NoPanic.then (NoPanic.body)))))))) rfl (by kernel_rfl) (by kernel_rfl) (by kernel_rfl) rfl (Yd.indexArr (n := 4) (e := 4) (s := 1) (by kernel_rfl) (by kernel_rfl) rfl rfl (by omega) (by omega)) ?_
                              refine WA.one (i := 8) (by kernel_rfl) ?_
                              refine WO.s rfl Wt.none (Hd.store1s (cs' := boc (cm.set (aq[i].at_.toNat * 4 + aq[i].to.toNat) aq[i].on)) (by kernel_rfl) rfl rfl (by rfl) (by repeat (first | exact Fr.here | apply Fr.fc | apply Fr.al | apply Fr.fa)) (by simp [boc_length, ci.cl]; omega) (by rw [show 0 + aq[i].at_.toNat * 4 + aq[i].to.toNat * 1 = aq[i].at_.toNat * 4 + aq[i].to.toNat by omega]; exact boc_set _ _ _) ⟨rfl, ?_⟩)
                              refine WA.done (by kernel_rfl) ?_
                              refine DN.block_normal ?_
                              refine DN.then_normal ?_
                              refine WC.seq ?_
                              first
                                | have ci2 := ci.sendZ (hz75.symm.trans h75)
                                | have ci2 := ci.sendN (hz75.symm.trans h75)
                                | have ci2 := ci.pickYes h96
                                | have ci2 := ci.pickNo h96
                                | have ci2 := (ci.out h120).1
                                | have ci2 := (ci.outNo h120).1
                                | have ci2 := ci.copy h128
                                | have ci2 := ci.copyNo h128
                                | have ci2 := ci.cut (o := aq[i].on) h147
                                | have ci2 := ci.cutNo (o := aq[i].on) h147
                                | have ci2 := ci2l
                                | (have ci2 := ci.same; have hW2 := hW)
                              refine WC.region ?_
                              refine WL.y rfl (Yd.move rfl) ?_
                              refine WL.rf rfl (Ent.func Try.call14 rfl) (len_reads p _ _ hW2) (by repeat (first | exact Sp.here | exact Sp.sn | exact Sp.s0 | exact Fr.here | apply Sp.s2 | apply Sp.sx | apply Fr.fc | apply Fr.al | apply Fr.fa | apply Sp.sc | apply Sp.al | apply Sp.sa)) ?_
                              refine WL.y rfl (Yd.move rfl) ?_
                              refine WL.y rfl (Yd.move rfl) ?_
                              refine WL.y rfl (Yd.sub rfl rfl (by omega) (by omega)) ?_
                              refine WL.y rfl (Yd.neq rfl rfl) ?_
                              refine WL.renamed (t := 161) (v := .bool false) rfl (congrArg Value.bool (by rw [decide_eq_false_iff_not, Classical.not_not]; have := ci2.cnt; omega)) ?_
                              refine WL.nil ?_
                              refine DN.then_normal ?_
                              refine WC.no rfl ?_
                              refine WC.skip ?_
                              refine DN.block_normal ?_
                              refine DN.then_normal ?_
                              refine WC.region ?_
                              refine WL.y rfl (Yd.move rfl) ?_
                              refine WL.y rfl (Yd.add rfl rfl (by omega) (by omega)) ?_
                              refine WL.y rfl (Yd.assign rfl) ?_
                              refine WL.nil ?_
                              first
                                | exact DN.againS ⟨i + 1, _, _, _, _, _, sn ++ [aq[i].L], _, Cs2, cm⟩ ⟨by show i + 1 ≤ aq.length; omega, by show i + 1 ≤ 150; omega, hW2, ci2, by rw [List.length_append]; exact hO2, hS.snoc hO.len ⟨_, _, rfl, hk, hd, hml⟩⟩ (by show aq.length - (i + 1) < aq.length - i; omega) (Sx.put rfl (Sx.put rfl (Sx.put rfl (Sx.put rfl ((by repeat (first | exact Sx.refl | refine Sx.skip rfl ?_))))))) (by repeat (first | exact Sp.here | exact Sp.sn | exact Sp.s0 | exact Fr.here | apply Sp.s2 | apply Sp.sx | apply Fr.fc | apply Fr.al | apply Fr.fa | apply Sp.sc | apply Sp.al | apply Sp.sa))
                                | exact DN.againS ⟨i + 1, _, _, _, _, _, sn, cells, Cs, cm⟩ ⟨by show i + 1 ≤ aq.length; omega, by show i + 1 ≤ 150; omega, hW2, ci2, hO, hS⟩ (by show aq.length - (i + 1) < aq.length - i; omega) (Sx.put rfl (Sx.put rfl (Sx.put rfl (Sx.put rfl ((by repeat (first | exact Sx.refl | refine Sx.skip rfl ?_))))))) (by repeat (first | exact Sp.here | exact Sp.sn | exact Sp.s0 | exact Fr.here | apply Sp.s2 | apply Sp.sx | apply Fr.fc | apply Fr.al | apply Fr.fa | apply Sp.sc | apply Sp.al | apply Sp.sa))
                                | exact DN.againS ⟨i + 1, _, _, _, _, _, sn, cells, Cs, _⟩ ⟨by show i + 1 ≤ aq.length; omega, by show i + 1 ≤ 150; omega, hW2, ci2, hO, hS⟩ (by show aq.length - (i + 1) < aq.length - i; omega) (Sx.put rfl (Sx.put rfl (Sx.put rfl (Sx.put rfl ((by repeat (first | exact Sx.refl | refine Sx.skip rfl ?_))))))) (by repeat (first | exact Sp.here | exact Sp.sn | exact Sp.s0 | exact Fr.here | apply Sp.s2 | apply Sp.sx | apply Fr.fc | apply Fr.al | apply Fr.fa | apply Sp.sc | apply Sp.al | apply Sp.sa))
                            · refine WO.h rfl Wt.none rfl (Hd.load1 (by kernel_rfl) rfl (by repeat (first | exact List.mem_cons_self | apply List.mem_cons_of_mem | apply List.mem_append_right)) (by rfl) ⟨_, rfl, ?_⟩)
                              refine WA.one (i := 3) (by kernel_rfl) ?_
                              refine WO.h rfl Wt.none rfl (Hd.load1 (by kernel_rfl) rfl (by repeat (first | exact List.mem_cons_self | apply List.mem_cons_of_mem | apply List.mem_append_right)) (by rfl) ⟨_, rfl, ?_⟩)
                              refine WA.y (i := 7) (NoPanic.block (NoPanic.then (NoPanic.block (NoPanic.then (NoPanic.then (NoPanic.block (NoPanic.then (NoPanic.body)))))))) rfl (by kernel_rfl) (by kernel_rfl) (by kernel_rfl) rfl (Yd.indexArr (n := 4) (e := 4) (s := 1) (by kernel_rfl) (by kernel_rfl) rfl rfl (by omega) (by omega)) ?_
                              refine WA.one (i := 8) (by kernel_rfl) ?_
                              refine WO.s rfl Wt.none (Hd.store1s (cs' := boc (cm.set (aq[i].at_.toNat * 4 + aq[i].to.toNat) aq[i].on)) (by kernel_rfl) rfl rfl (by rfl) (by repeat (first | exact Fr.here | apply Fr.fc | apply Fr.al | apply Fr.fa)) (by simp [boc_length, ci.cl]; omega) (by rw [show 0 + aq[i].at_.toNat * 4 + aq[i].to.toNat * 1 = aq[i].at_.toNat * 4 + aq[i].to.toNat by omega]; exact boc_set _ _ _) ⟨rfl, ?_⟩)
                              refine WA.done (by kernel_rfl) ?_
                              refine DN.block_normal ?_
                              refine DN.then_normal ?_
                              refine WC.seq ?_
                              first
                                | have ci2 := ci.sendZ (hz75.symm.trans h75)
                                | have ci2 := ci.sendN (hz75.symm.trans h75)
                                | have ci2 := ci.pickYes h96
                                | have ci2 := ci.pickNo h96
                                | have ci2 := (ci.out h120).1
                                | have ci2 := (ci.outNo h120).1
                                | have ci2 := ci.copy h128
                                | have ci2 := ci.copyNo h128
                                | have ci2 := ci.cut (o := aq[i].on) h147
                                | have ci2 := ci.cutNo (o := aq[i].on) h147
                                | have ci2 := ci2l
                                | (have ci2 := ci.same; have hW2 := hW)
                              refine WC.region ?_
                              refine WL.y rfl (Yd.move rfl) ?_
                              refine WL.rf rfl (Ent.func Try.call14 rfl) (len_reads p _ _ hW2) (by repeat (first | exact Sp.here | exact Sp.sn | exact Sp.s0 | exact Fr.here | apply Sp.s2 | apply Sp.sx | apply Fr.fc | apply Fr.al | apply Fr.fa | apply Sp.sc | apply Sp.al | apply Sp.sa)) ?_
                              refine WL.y rfl (Yd.move rfl) ?_
                              refine WL.y rfl (Yd.move rfl) ?_
                              refine WL.y rfl (Yd.sub rfl rfl (by omega) (by omega)) ?_
                              refine WL.y rfl (Yd.neq rfl rfl) ?_
                              refine WL.renamed (t := 161) (v := .bool false) rfl (congrArg Value.bool (by rw [decide_eq_false_iff_not, Classical.not_not]; have := ci2.cnt; omega)) ?_
                              refine WL.nil ?_
                              refine DN.then_normal ?_
                              refine WC.no rfl ?_
                              refine WC.skip ?_
                              refine DN.block_normal ?_
                              refine DN.then_normal ?_
                              refine WC.region ?_
                              refine WL.y rfl (Yd.move rfl) ?_
                              refine WL.y rfl (Yd.add rfl rfl (by omega) (by omega)) ?_
                              refine WL.y rfl (Yd.assign rfl) ?_
                              refine WL.nil ?_
                              first
                                | exact DN.againS ⟨i + 1, _, _, _, _, _, sn ++ [aq[i].L], _, Cs2, cm⟩ ⟨by show i + 1 ≤ aq.length; omega, by show i + 1 ≤ 150; omega, hW2, ci2, by rw [List.length_append]; exact hO2, hS.snoc hO.len ⟨_, _, rfl, hk, hd, hml⟩⟩ (by show aq.length - (i + 1) < aq.length - i; omega) (Sx.put rfl (Sx.put rfl (Sx.put rfl (Sx.put rfl ((by repeat (first | exact Sx.refl | refine Sx.skip rfl ?_))))))) (by repeat (first | exact Sp.here | exact Sp.sn | exact Sp.s0 | exact Fr.here | apply Sp.s2 | apply Sp.sx | apply Fr.fc | apply Fr.al | apply Fr.fa | apply Sp.sc | apply Sp.al | apply Sp.sa))
                                | exact DN.againS ⟨i + 1, _, _, _, _, _, sn, cells, Cs, cm⟩ ⟨by show i + 1 ≤ aq.length; omega, by show i + 1 ≤ 150; omega, hW2, ci2, hO, hS⟩ (by show aq.length - (i + 1) < aq.length - i; omega) (Sx.put rfl (Sx.put rfl (Sx.put rfl (Sx.put rfl ((by repeat (first | exact Sx.refl | refine Sx.skip rfl ?_))))))) (by repeat (first | exact Sp.here | exact Sp.sn | exact Sp.s0 | exact Fr.here | apply Sp.s2 | apply Sp.sx | apply Fr.fc | apply Fr.al | apply Fr.fa | apply Sp.sc | apply Sp.al | apply Sp.sa))
                                | exact DN.againS ⟨i + 1, _, _, _, _, _, sn, cells, Cs, _⟩ ⟨by show i + 1 ≤ aq.length; omega, by show i + 1 ≤ 150; omega, hW2, ci2, hO, hS⟩ (by show aq.length - (i + 1) < aq.length - i; omega) (Sx.put rfl (Sx.put rfl (Sx.put rfl (Sx.put rfl ((by repeat (first | exact Sx.refl | refine Sx.skip rfl ?_))))))) (by repeat (first | exact Sp.here | exact Sp.sn | exact Sp.s0 | exact Fr.here | apply Sp.s2 | apply Sp.sx | apply Fr.fc | apply Fr.al | apply Fr.fa | apply Sp.sc | apply Sp.al | apply Sp.sa))
                          · refine WO.h rfl Wt.none rfl (Hd.load1 (by kernel_rfl) rfl (by repeat (first | exact List.mem_cons_self | apply List.mem_cons_of_mem | apply List.mem_append_right)) (by rfl) ⟨_, rfl, ?_⟩)
                            refine WA.two (i := 1) (j := 5) (by kernel_rfl) ?_ ?_
                            · refine WO.h rfl Wt.none rfl (Hd.load1 (by kernel_rfl) rfl (by repeat (first | exact List.mem_cons_self | apply List.mem_cons_of_mem | apply List.mem_append_right)) (by rfl) ⟨_, rfl, ?_⟩)
                              have hcb := ci.cutB h147
                              refine WA.y (i := 6) (NoPanic.block (NoPanic.then (NoPanic.block (NoPanic.then (NoPanic.then (NoPanic.block (NoPanic.then (NoPanic.body)))))))) rfl (by kernel_rfl) (by kernel_rfl) (by kernel_rfl) rfl (Yd.indexArr (n := 4) (e := 47) (s := 4) (by kernel_rfl) (by kernel_rfl) rfl rfl (by omega) (by omega)) ?_
                              refine WA.one (i := 5) (by kernel_rfl) ?_
                              refine WO.h rfl Wt.none rfl (Hd.load1 (by kernel_rfl) rfl (by repeat (first | exact List.mem_cons_self | apply List.mem_cons_of_mem | apply List.mem_append_right)) (by rfl) ⟨_, rfl, ?_⟩)
                              refine WA.y (i := 7) (NoPanic.block (NoPanic.then (NoPanic.block (NoPanic.then (NoPanic.then (NoPanic.block (NoPanic.then (NoPanic.body)))))))) rfl (by kernel_rfl) (by kernel_rfl) (by kernel_rfl) rfl (Yd.indexArr (n := 4) (e := 4) (s := 1) (by kernel_rfl) (by kernel_rfl) rfl rfl (by omega) (by omega)) ?_
                              refine WA.one (i := 8) (by kernel_rfl) ?_
                              refine WO.s rfl Wt.none (Hd.store1s (cs' := boc (cm.set (aq[i].at_.toNat * 4 + aq[i].to.toNat) aq[i].on)) (by kernel_rfl) rfl rfl (by rfl) (by repeat (first | exact Fr.here | apply Fr.fc | apply Fr.al | apply Fr.fa)) (by simp [boc_length, ci.cl]; omega) (by rw [show 0 + aq[i].at_.toNat * 4 + aq[i].to.toNat * 1 = aq[i].at_.toNat * 4 + aq[i].to.toNat by omega]; exact boc_set _ _ _) ⟨rfl, ?_⟩)
                              refine WA.done (by kernel_rfl) ?_
                              refine DN.block_normal ?_
                              refine DN.then_normal ?_
                              refine WC.seq ?_
                              first
                                | have ci2 := ci.sendZ (hz75.symm.trans h75)
                                | have ci2 := ci.sendN (hz75.symm.trans h75)
                                | have ci2 := ci.pickYes h96
                                | have ci2 := ci.pickNo h96
                                | have ci2 := (ci.out h120).1
                                | have ci2 := (ci.outNo h120).1
                                | have ci2 := ci.copy h128
                                | have ci2 := ci.copyNo h128
                                | have ci2 := ci.cut (o := aq[i].on) h147
                                | have ci2 := ci.cutNo (o := aq[i].on) h147
                                | have ci2 := ci2l
                                | (have ci2 := ci.same; have hW2 := hW)
                              refine WC.region ?_
                              refine WL.y rfl (Yd.move rfl) ?_
                              refine WL.rf rfl (Ent.func Try.call14 rfl) (len_reads p _ _ hW2) (by repeat (first | exact Sp.here | exact Sp.sn | exact Sp.s0 | exact Fr.here | apply Sp.s2 | apply Sp.sx | apply Fr.fc | apply Fr.al | apply Fr.fa | apply Sp.sc | apply Sp.al | apply Sp.sa)) ?_
                              refine WL.y rfl (Yd.move rfl) ?_
                              refine WL.y rfl (Yd.move rfl) ?_
                              refine WL.y rfl (Yd.sub rfl rfl (by omega) (by omega)) ?_
                              refine WL.y rfl (Yd.neq rfl rfl) ?_
                              refine WL.renamed (t := 161) (v := .bool false) rfl (congrArg Value.bool (by rw [decide_eq_false_iff_not, Classical.not_not]; have := ci2.cnt; omega)) ?_
                              refine WL.nil ?_
                              refine DN.then_normal ?_
                              refine WC.no rfl ?_
                              refine WC.skip ?_
                              refine DN.block_normal ?_
                              refine DN.then_normal ?_
                              refine WC.region ?_
                              refine WL.y rfl (Yd.move rfl) ?_
                              refine WL.y rfl (Yd.add rfl rfl (by omega) (by omega)) ?_
                              refine WL.y rfl (Yd.assign rfl) ?_
                              refine WL.nil ?_
                              first
                                | exact DN.againS ⟨i + 1, _, _, _, _, _, sn ++ [aq[i].L], _, Cs2, cm⟩ ⟨by show i + 1 ≤ aq.length; omega, by show i + 1 ≤ 150; omega, hW2, ci2, by rw [List.length_append]; exact hO2, hS.snoc hO.len ⟨_, _, rfl, hk, hd, hml⟩⟩ (by show aq.length - (i + 1) < aq.length - i; omega) (Sx.put rfl (Sx.put rfl (Sx.put rfl (Sx.put rfl ((by repeat (first | exact Sx.refl | refine Sx.skip rfl ?_))))))) (by repeat (first | exact Sp.here | exact Sp.sn | exact Sp.s0 | exact Fr.here | apply Sp.s2 | apply Sp.sx | apply Fr.fc | apply Fr.al | apply Fr.fa | apply Sp.sc | apply Sp.al | apply Sp.sa))
                                | exact DN.againS ⟨i + 1, _, _, _, _, _, sn, cells, Cs, cm⟩ ⟨by show i + 1 ≤ aq.length; omega, by show i + 1 ≤ 150; omega, hW2, ci2, hO, hS⟩ (by show aq.length - (i + 1) < aq.length - i; omega) (Sx.put rfl (Sx.put rfl (Sx.put rfl (Sx.put rfl ((by repeat (first | exact Sx.refl | refine Sx.skip rfl ?_))))))) (by repeat (first | exact Sp.here | exact Sp.sn | exact Sp.s0 | exact Fr.here | apply Sp.s2 | apply Sp.sx | apply Fr.fc | apply Fr.al | apply Fr.fa | apply Sp.sc | apply Sp.al | apply Sp.sa))
                                | exact DN.againS ⟨i + 1, _, _, _, _, _, sn, cells, Cs, _⟩ ⟨by show i + 1 ≤ aq.length; omega, by show i + 1 ≤ 150; omega, hW2, ci2, hO, hS⟩ (by show aq.length - (i + 1) < aq.length - i; omega) (Sx.put rfl (Sx.put rfl (Sx.put rfl (Sx.put rfl ((by repeat (first | exact Sx.refl | refine Sx.skip rfl ?_))))))) (by repeat (first | exact Sp.here | exact Sp.sn | exact Sp.s0 | exact Fr.here | apply Sp.s2 | apply Sp.sx | apply Fr.fc | apply Fr.al | apply Fr.fa | apply Sp.sc | apply Sp.al | apply Sp.sa))
                            · refine WO.h rfl Wt.none rfl (Hd.load1 (by kernel_rfl) rfl (by repeat (first | exact List.mem_cons_self | apply List.mem_cons_of_mem | apply List.mem_append_right)) (by rfl) ⟨_, rfl, ?_⟩)
                              refine WA.one (i := 1) (by kernel_rfl) ?_
                              refine WO.h rfl Wt.none rfl (Hd.load1 (by kernel_rfl) rfl (by repeat (first | exact List.mem_cons_self | apply List.mem_cons_of_mem | apply List.mem_append_right)) (by rfl) ⟨_, rfl, ?_⟩)
                              have hcb := ci.cutB h147
                              refine WA.y (i := 6) (NoPanic.block (NoPanic.then (NoPanic.block (NoPanic.then (NoPanic.then (NoPanic.block (NoPanic.then (NoPanic.body)))))))) rfl (by kernel_rfl) (by kernel_rfl) (by kernel_rfl) rfl (Yd.indexArr (n := 4) (e := 47) (s := 4) (by kernel_rfl) (by kernel_rfl) rfl rfl (by omega) (by omega)) ?_
                              refine WA.y (i := 7) (NoPanic.block (NoPanic.then (NoPanic.block (NoPanic.then (NoPanic.then (NoPanic.block (NoPanic.then (NoPanic.body)))))))) rfl (by kernel_rfl) (by kernel_rfl) (by kernel_rfl) rfl (Yd.indexArr (n := 4) (e := 4) (s := 1) (by kernel_rfl) (by kernel_rfl) rfl rfl (by omega) (by omega)) ?_
                              refine WA.one (i := 8) (by kernel_rfl) ?_
                              refine WO.s rfl Wt.none (Hd.store1s (cs' := boc (cm.set (aq[i].at_.toNat * 4 + aq[i].to.toNat) aq[i].on)) (by kernel_rfl) rfl rfl (by rfl) (by repeat (first | exact Fr.here | apply Fr.fc | apply Fr.al | apply Fr.fa)) (by simp [boc_length, ci.cl]; omega) (by rw [show 0 + aq[i].at_.toNat * 4 + aq[i].to.toNat * 1 = aq[i].at_.toNat * 4 + aq[i].to.toNat by omega]; exact boc_set _ _ _) ⟨rfl, ?_⟩)
                              refine WA.done (by kernel_rfl) ?_
                              refine DN.block_normal ?_
                              refine DN.then_normal ?_
                              refine WC.seq ?_
                              first
                                | have ci2 := ci.sendZ (hz75.symm.trans h75)
                                | have ci2 := ci.sendN (hz75.symm.trans h75)
                                | have ci2 := ci.pickYes h96
                                | have ci2 := ci.pickNo h96
                                | have ci2 := (ci.out h120).1
                                | have ci2 := (ci.outNo h120).1
                                | have ci2 := ci.copy h128
                                | have ci2 := ci.copyNo h128
                                | have ci2 := ci.cut (o := aq[i].on) h147
                                | have ci2 := ci.cutNo (o := aq[i].on) h147
                                | have ci2 := ci2l
                                | (have ci2 := ci.same; have hW2 := hW)
                              refine WC.region ?_
                              refine WL.y rfl (Yd.move rfl) ?_
                              refine WL.rf rfl (Ent.func Try.call14 rfl) (len_reads p _ _ hW2) (by repeat (first | exact Sp.here | exact Sp.sn | exact Sp.s0 | exact Fr.here | apply Sp.s2 | apply Sp.sx | apply Fr.fc | apply Fr.al | apply Fr.fa | apply Sp.sc | apply Sp.al | apply Sp.sa)) ?_
                              refine WL.y rfl (Yd.move rfl) ?_
                              refine WL.y rfl (Yd.move rfl) ?_
                              refine WL.y rfl (Yd.sub rfl rfl (by omega) (by omega)) ?_
                              refine WL.y rfl (Yd.neq rfl rfl) ?_
                              refine WL.renamed (t := 161) (v := .bool false) rfl (congrArg Value.bool (by rw [decide_eq_false_iff_not, Classical.not_not]; have := ci2.cnt; omega)) ?_
                              refine WL.nil ?_
                              refine DN.then_normal ?_
                              refine WC.no rfl ?_
                              refine WC.skip ?_
                              refine DN.block_normal ?_
                              refine DN.then_normal ?_
                              refine WC.region ?_
                              refine WL.y rfl (Yd.move rfl) ?_
                              refine WL.y rfl (Yd.add rfl rfl (by omega) (by omega)) ?_
                              refine WL.y rfl (Yd.assign rfl) ?_
                              refine WL.nil ?_
                              first
                                | exact DN.againS ⟨i + 1, _, _, _, _, _, sn ++ [aq[i].L], _, Cs2, cm⟩ ⟨by show i + 1 ≤ aq.length; omega, by show i + 1 ≤ 150; omega, hW2, ci2, by rw [List.length_append]; exact hO2, hS.snoc hO.len ⟨_, _, rfl, hk, hd, hml⟩⟩ (by show aq.length - (i + 1) < aq.length - i; omega) (Sx.put rfl (Sx.put rfl (Sx.put rfl (Sx.put rfl ((by repeat (first | exact Sx.refl | refine Sx.skip rfl ?_))))))) (by repeat (first | exact Sp.here | exact Sp.sn | exact Sp.s0 | exact Fr.here | apply Sp.s2 | apply Sp.sx | apply Fr.fc | apply Fr.al | apply Fr.fa | apply Sp.sc | apply Sp.al | apply Sp.sa))
                                | exact DN.againS ⟨i + 1, _, _, _, _, _, sn, cells, Cs, cm⟩ ⟨by show i + 1 ≤ aq.length; omega, by show i + 1 ≤ 150; omega, hW2, ci2, hO, hS⟩ (by show aq.length - (i + 1) < aq.length - i; omega) (Sx.put rfl (Sx.put rfl (Sx.put rfl (Sx.put rfl ((by repeat (first | exact Sx.refl | refine Sx.skip rfl ?_))))))) (by repeat (first | exact Sp.here | exact Sp.sn | exact Sp.s0 | exact Fr.here | apply Sp.s2 | apply Sp.sx | apply Fr.fc | apply Fr.al | apply Fr.fa | apply Sp.sc | apply Sp.al | apply Sp.sa))
                                | exact DN.againS ⟨i + 1, _, _, _, _, _, sn, cells, Cs, _⟩ ⟨by show i + 1 ≤ aq.length; omega, by show i + 1 ≤ 150; omega, hW2, ci2, hO, hS⟩ (by show aq.length - (i + 1) < aq.length - i; omega) (Sx.put rfl (Sx.put rfl (Sx.put rfl (Sx.put rfl ((by repeat (first | exact Sx.refl | refine Sx.skip rfl ?_))))))) (by repeat (first | exact Sp.here | exact Sp.sn | exact Sp.s0 | exact Fr.here | apply Sp.s2 | apply Sp.sx | apply Fr.fc | apply Fr.al | apply Fr.fa | apply Sp.sc | apply Sp.al | apply Sp.sa))
                          · refine WO.h rfl Wt.none rfl (Hd.load1 (by kernel_rfl) rfl (by repeat (first | exact List.mem_cons_self | apply List.mem_cons_of_mem | apply List.mem_append_right)) (by rfl) ⟨_, rfl, ?_⟩)
                            refine WA.two (i := 1) (j := 3) (by kernel_rfl) ?_ ?_
                            · refine WO.h rfl Wt.none rfl (Hd.load1 (by kernel_rfl) rfl (by repeat (first | exact List.mem_cons_self | apply List.mem_cons_of_mem | apply List.mem_append_right)) (by rfl) ⟨_, rfl, ?_⟩)
                              have hcb := ci.cutB h147
                              refine WA.y (i := 6) (NoPanic.block (NoPanic.then (NoPanic.block (NoPanic.then (NoPanic.then (NoPanic.block (NoPanic.then (NoPanic.body)))))))) rfl (by kernel_rfl) (by kernel_rfl) (by kernel_rfl) rfl (Yd.indexArr (n := 4) (e := 47) (s := 4) (by kernel_rfl) (by kernel_rfl) rfl rfl (by omega) (by omega)) ?_
                              refine WA.one (i := 3) (by kernel_rfl) ?_
                              refine WO.h rfl Wt.none rfl (Hd.load1 (by kernel_rfl) rfl (by repeat (first | exact List.mem_cons_self | apply List.mem_cons_of_mem | apply List.mem_append_right)) (by rfl) ⟨_, rfl, ?_⟩)
                              refine WA.y (i := 7) (NoPanic.block (NoPanic.then (NoPanic.block (NoPanic.then (NoPanic.then (NoPanic.block (NoPanic.then (NoPanic.body)))))))) rfl (by kernel_rfl) (by kernel_rfl) (by kernel_rfl) rfl (Yd.indexArr (n := 4) (e := 4) (s := 1) (by kernel_rfl) (by kernel_rfl) rfl rfl (by omega) (by omega)) ?_
                              refine WA.one (i := 8) (by kernel_rfl) ?_
                              refine WO.s rfl Wt.none (Hd.store1s (cs' := boc (cm.set (aq[i].at_.toNat * 4 + aq[i].to.toNat) aq[i].on)) (by kernel_rfl) rfl rfl (by rfl) (by repeat (first | exact Fr.here | apply Fr.fc | apply Fr.al | apply Fr.fa)) (by simp [boc_length, ci.cl]; omega) (by rw [show 0 + aq[i].at_.toNat * 4 + aq[i].to.toNat * 1 = aq[i].at_.toNat * 4 + aq[i].to.toNat by omega]; exact boc_set _ _ _) ⟨rfl, ?_⟩)
                              refine WA.done (by kernel_rfl) ?_
                              refine DN.block_normal ?_
                              refine DN.then_normal ?_
                              refine WC.seq ?_
                              first
                                | have ci2 := ci.sendZ (hz75.symm.trans h75)
                                | have ci2 := ci.sendN (hz75.symm.trans h75)
                                | have ci2 := ci.pickYes h96
                                | have ci2 := ci.pickNo h96
                                | have ci2 := (ci.out h120).1
                                | have ci2 := (ci.outNo h120).1
                                | have ci2 := ci.copy h128
                                | have ci2 := ci.copyNo h128
                                | have ci2 := ci.cut (o := aq[i].on) h147
                                | have ci2 := ci.cutNo (o := aq[i].on) h147
                                | have ci2 := ci2l
                                | (have ci2 := ci.same; have hW2 := hW)
                              refine WC.region ?_
                              refine WL.y rfl (Yd.move rfl) ?_
                              refine WL.rf rfl (Ent.func Try.call14 rfl) (len_reads p _ _ hW2) (by repeat (first | exact Sp.here | exact Sp.sn | exact Sp.s0 | exact Fr.here | apply Sp.s2 | apply Sp.sx | apply Fr.fc | apply Fr.al | apply Fr.fa | apply Sp.sc | apply Sp.al | apply Sp.sa)) ?_
                              refine WL.y rfl (Yd.move rfl) ?_
                              refine WL.y rfl (Yd.move rfl) ?_
                              refine WL.y rfl (Yd.sub rfl rfl (by omega) (by omega)) ?_
                              refine WL.y rfl (Yd.neq rfl rfl) ?_
                              refine WL.renamed (t := 161) (v := .bool false) rfl (congrArg Value.bool (by rw [decide_eq_false_iff_not, Classical.not_not]; have := ci2.cnt; omega)) ?_
                              refine WL.nil ?_
                              refine DN.then_normal ?_
                              refine WC.no rfl ?_
                              refine WC.skip ?_
                              refine DN.block_normal ?_
                              refine DN.then_normal ?_
                              refine WC.region ?_
                              refine WL.y rfl (Yd.move rfl) ?_
                              refine WL.y rfl (Yd.add rfl rfl (by omega) (by omega)) ?_
                              refine WL.y rfl (Yd.assign rfl) ?_
                              refine WL.nil ?_
                              first
                                | exact DN.againS ⟨i + 1, _, _, _, _, _, sn ++ [aq[i].L], _, Cs2, cm⟩ ⟨by show i + 1 ≤ aq.length; omega, by show i + 1 ≤ 150; omega, hW2, ci2, by rw [List.length_append]; exact hO2, hS.snoc hO.len ⟨_, _, rfl, hk, hd, hml⟩⟩ (by show aq.length - (i + 1) < aq.length - i; omega) (Sx.put rfl (Sx.put rfl (Sx.put rfl (Sx.put rfl ((by repeat (first | exact Sx.refl | refine Sx.skip rfl ?_))))))) (by repeat (first | exact Sp.here | exact Sp.sn | exact Sp.s0 | exact Fr.here | apply Sp.s2 | apply Sp.sx | apply Fr.fc | apply Fr.al | apply Fr.fa | apply Sp.sc | apply Sp.al | apply Sp.sa))
                                | exact DN.againS ⟨i + 1, _, _, _, _, _, sn, cells, Cs, cm⟩ ⟨by show i + 1 ≤ aq.length; omega, by show i + 1 ≤ 150; omega, hW2, ci2, hO, hS⟩ (by show aq.length - (i + 1) < aq.length - i; omega) (Sx.put rfl (Sx.put rfl (Sx.put rfl (Sx.put rfl ((by repeat (first | exact Sx.refl | refine Sx.skip rfl ?_))))))) (by repeat (first | exact Sp.here | exact Sp.sn | exact Sp.s0 | exact Fr.here | apply Sp.s2 | apply Sp.sx | apply Fr.fc | apply Fr.al | apply Fr.fa | apply Sp.sc | apply Sp.al | apply Sp.sa))
                                | exact DN.againS ⟨i + 1, _, _, _, _, _, sn, cells, Cs, _⟩ ⟨by show i + 1 ≤ aq.length; omega, by show i + 1 ≤ 150; omega, hW2, ci2, hO, hS⟩ (by show aq.length - (i + 1) < aq.length - i; omega) (Sx.put rfl (Sx.put rfl (Sx.put rfl (Sx.put rfl ((by repeat (first | exact Sx.refl | refine Sx.skip rfl ?_))))))) (by repeat (first | exact Sp.here | exact Sp.sn | exact Sp.s0 | exact Fr.here | apply Sp.s2 | apply Sp.sx | apply Fr.fc | apply Fr.al | apply Fr.fa | apply Sp.sc | apply Sp.al | apply Sp.sa))
                            · refine WO.h rfl Wt.none rfl (Hd.load1 (by kernel_rfl) rfl (by repeat (first | exact List.mem_cons_self | apply List.mem_cons_of_mem | apply List.mem_append_right)) (by rfl) ⟨_, rfl, ?_⟩)
                              refine WA.one (i := 1) (by kernel_rfl) ?_
                              refine WO.h rfl Wt.none rfl (Hd.load1 (by kernel_rfl) rfl (by repeat (first | exact List.mem_cons_self | apply List.mem_cons_of_mem | apply List.mem_append_right)) (by rfl) ⟨_, rfl, ?_⟩)
                              have hcb := ci.cutB h147
                              refine WA.y (i := 6) (NoPanic.block (NoPanic.then (NoPanic.block (NoPanic.then (NoPanic.then (NoPanic.block (NoPanic.then (NoPanic.body)))))))) rfl (by kernel_rfl) (by kernel_rfl) (by kernel_rfl) rfl (Yd.indexArr (n := 4) (e := 47) (s := 4) (by kernel_rfl) (by kernel_rfl) rfl rfl (by omega) (by omega)) ?_
                              refine WA.y (i := 7) (NoPanic.block (NoPanic.then (NoPanic.block (NoPanic.then (NoPanic.then (NoPanic.block (NoPanic.then (NoPanic.body)))))))) rfl (by kernel_rfl) (by kernel_rfl) (by kernel_rfl) rfl (Yd.indexArr (n := 4) (e := 4) (s := 1) (by kernel_rfl) (by kernel_rfl) rfl rfl (by omega) (by omega)) ?_
                              refine WA.one (i := 8) (by kernel_rfl) ?_
                              refine WO.s rfl Wt.none (Hd.store1s (cs' := boc (cm.set (aq[i].at_.toNat * 4 + aq[i].to.toNat) aq[i].on)) (by kernel_rfl) rfl rfl (by rfl) (by repeat (first | exact Fr.here | apply Fr.fc | apply Fr.al | apply Fr.fa)) (by simp [boc_length, ci.cl]; omega) (by rw [show 0 + aq[i].at_.toNat * 4 + aq[i].to.toNat * 1 = aq[i].at_.toNat * 4 + aq[i].to.toNat by omega]; exact boc_set _ _ _) ⟨rfl, ?_⟩)
                              refine WA.done (by kernel_rfl) ?_
                              refine DN.block_normal ?_
                              refine DN.then_normal ?_
                              refine WC.seq ?_
                              first
                                | have ci2 := ci.sendZ (hz75.symm.trans h75)
                                | have ci2 := ci.sendN (hz75.symm.trans h75)
                                | have ci2 := ci.pickYes h96
                                | have ci2 := ci.pickNo h96
                                | have ci2 := (ci.out h120).1
                                | have ci2 := (ci.outNo h120).1
                                | have ci2 := ci.copy h128
                                | have ci2 := ci.copyNo h128
                                | have ci2 := ci.cut (o := aq[i].on) h147
                                | have ci2 := ci.cutNo (o := aq[i].on) h147
                                | have ci2 := ci2l
                                | (have ci2 := ci.same; have hW2 := hW)
                              refine WC.region ?_
                              refine WL.y rfl (Yd.move rfl) ?_
                              refine WL.rf rfl (Ent.func Try.call14 rfl) (len_reads p _ _ hW2) (by repeat (first | exact Sp.here | exact Sp.sn | exact Sp.s0 | exact Fr.here | apply Sp.s2 | apply Sp.sx | apply Fr.fc | apply Fr.al | apply Fr.fa | apply Sp.sc | apply Sp.al | apply Sp.sa)) ?_
                              refine WL.y rfl (Yd.move rfl) ?_
                              refine WL.y rfl (Yd.move rfl) ?_
                              refine WL.y rfl (Yd.sub rfl rfl (by omega) (by omega)) ?_
                              refine WL.y rfl (Yd.neq rfl rfl) ?_
                              refine WL.renamed (t := 161) (v := .bool false) rfl (congrArg Value.bool (by rw [decide_eq_false_iff_not, Classical.not_not]; have := ci2.cnt; omega)) ?_
                              refine WL.nil ?_
                              refine DN.then_normal ?_
                              refine WC.no rfl ?_
                              refine WC.skip ?_
                              refine DN.block_normal ?_
                              refine DN.then_normal ?_
                              refine WC.region ?_
                              refine WL.y rfl (Yd.move rfl) ?_
                              refine WL.y rfl (Yd.add rfl rfl (by omega) (by omega)) ?_
                              refine WL.y rfl (Yd.assign rfl) ?_
                              refine WL.nil ?_
                              first
                                | exact DN.againS ⟨i + 1, _, _, _, _, _, sn ++ [aq[i].L], _, Cs2, cm⟩ ⟨by show i + 1 ≤ aq.length; omega, by show i + 1 ≤ 150; omega, hW2, ci2, by rw [List.length_append]; exact hO2, hS.snoc hO.len ⟨_, _, rfl, hk, hd, hml⟩⟩ (by show aq.length - (i + 1) < aq.length - i; omega) (Sx.put rfl (Sx.put rfl (Sx.put rfl (Sx.put rfl ((by repeat (first | exact Sx.refl | refine Sx.skip rfl ?_))))))) (by repeat (first | exact Sp.here | exact Sp.sn | exact Sp.s0 | exact Fr.here | apply Sp.s2 | apply Sp.sx | apply Fr.fc | apply Fr.al | apply Fr.fa | apply Sp.sc | apply Sp.al | apply Sp.sa))
                                | exact DN.againS ⟨i + 1, _, _, _, _, _, sn, cells, Cs, cm⟩ ⟨by show i + 1 ≤ aq.length; omega, by show i + 1 ≤ 150; omega, hW2, ci2, hO, hS⟩ (by show aq.length - (i + 1) < aq.length - i; omega) (Sx.put rfl (Sx.put rfl (Sx.put rfl (Sx.put rfl ((by repeat (first | exact Sx.refl | refine Sx.skip rfl ?_))))))) (by repeat (first | exact Sp.here | exact Sp.sn | exact Sp.s0 | exact Fr.here | apply Sp.s2 | apply Sp.sx | apply Fr.fc | apply Fr.al | apply Fr.fa | apply Sp.sc | apply Sp.al | apply Sp.sa))
                                | exact DN.againS ⟨i + 1, _, _, _, _, _, sn, cells, Cs, _⟩ ⟨by show i + 1 ≤ aq.length; omega, by show i + 1 ≤ 150; omega, hW2, ci2, hO, hS⟩ (by show aq.length - (i + 1) < aq.length - i; omega) (Sx.put rfl (Sx.put rfl (Sx.put rfl (Sx.put rfl ((by repeat (first | exact Sx.refl | refine Sx.skip rfl ?_))))))) (by repeat (first | exact Sp.here | exact Sp.sn | exact Sp.s0 | exact Fr.here | apply Sp.s2 | apply Sp.sx | apply Fr.fc | apply Fr.al | apply Fr.fa | apply Sp.sc | apply Sp.al | apply Sp.sa))
                        · refine WC.skip ?_
                          refine DN.block_normal ?_
                          refine DN.then_normal ?_
                          refine WC.seq ?_
                          first
                            | have ci2 := ci.sendZ (hz75.symm.trans h75)
                            | have ci2 := ci.sendN (hz75.symm.trans h75)
                            | have ci2 := ci.pickYes h96
                            | have ci2 := ci.pickNo h96
                            | have ci2 := (ci.out h120).1
                            | have ci2 := (ci.outNo h120).1
                            | have ci2 := ci.copy h128
                            | have ci2 := ci.copyNo h128
                            | have ci2 := ci.cut (o := aq[i].on) h147
                            | have ci2 := ci.cutNo (o := aq[i].on) h147
                            | have ci2 := ci2l
                            | (have ci2 := ci.same; have hW2 := hW)
                          refine WC.region ?_
                          refine WL.y rfl (Yd.move rfl) ?_
                          refine WL.rf rfl (Ent.func Try.call14 rfl) (len_reads p _ _ hW2) (by repeat (first | exact Sp.here | exact Sp.sn | exact Sp.s0 | exact Fr.here | apply Sp.s2 | apply Sp.sx | apply Fr.fc | apply Fr.al | apply Fr.fa | apply Sp.sc | apply Sp.al | apply Sp.sa)) ?_
                          refine WL.y rfl (Yd.move rfl) ?_
                          refine WL.y rfl (Yd.move rfl) ?_
                          refine WL.y rfl (Yd.sub rfl rfl (by omega) (by omega)) ?_
                          refine WL.y rfl (Yd.neq rfl rfl) ?_
                          refine WL.renamed (t := 161) (v := .bool false) rfl (congrArg Value.bool (by rw [decide_eq_false_iff_not, Classical.not_not]; have := ci2.cnt; omega)) ?_
                          refine WL.nil ?_
                          refine DN.then_normal ?_
                          refine WC.no rfl ?_
                          refine WC.skip ?_
                          refine DN.block_normal ?_
                          refine DN.then_normal ?_
                          refine WC.region ?_
                          refine WL.y rfl (Yd.move rfl) ?_
                          refine WL.y rfl (Yd.add rfl rfl (by omega) (by omega)) ?_
                          refine WL.y rfl (Yd.assign rfl) ?_
                          refine WL.nil ?_
                          first
                            | exact DN.againS ⟨i + 1, _, _, _, _, _, sn ++ [aq[i].L], _, Cs2, cm⟩ ⟨by show i + 1 ≤ aq.length; omega, by show i + 1 ≤ 150; omega, hW2, ci2, by rw [List.length_append]; exact hO2, hS.snoc hO.len ⟨_, _, rfl, hk, hd, hml⟩⟩ (by show aq.length - (i + 1) < aq.length - i; omega) (Sx.put rfl (Sx.put rfl (Sx.put rfl (Sx.put rfl ((by repeat (first | exact Sx.refl | refine Sx.skip rfl ?_))))))) (by repeat (first | exact Sp.here | exact Sp.sn | exact Sp.s0 | exact Fr.here | apply Sp.s2 | apply Sp.sx | apply Fr.fc | apply Fr.al | apply Fr.fa | apply Sp.sc | apply Sp.al | apply Sp.sa))
                            | exact DN.againS ⟨i + 1, _, _, _, _, _, sn, cells, Cs, cm⟩ ⟨by show i + 1 ≤ aq.length; omega, by show i + 1 ≤ 150; omega, hW2, ci2, hO, hS⟩ (by show aq.length - (i + 1) < aq.length - i; omega) (Sx.put rfl (Sx.put rfl (Sx.put rfl (Sx.put rfl ((by repeat (first | exact Sx.refl | refine Sx.skip rfl ?_))))))) (by repeat (first | exact Sp.here | exact Sp.sn | exact Sp.s0 | exact Fr.here | apply Sp.s2 | apply Sp.sx | apply Fr.fc | apply Fr.al | apply Fr.fa | apply Sp.sc | apply Sp.al | apply Sp.sa))
                            | exact DN.againS ⟨i + 1, _, _, _, _, _, sn, cells, Cs, _⟩ ⟨by show i + 1 ≤ aq.length; omega, by show i + 1 ≤ 150; omega, hW2, ci2, hO, hS⟩ (by show aq.length - (i + 1) < aq.length - i; omega) (Sx.put rfl (Sx.put rfl (Sx.put rfl (Sx.put rfl ((by repeat (first | exact Sx.refl | refine Sx.skip rfl ?_))))))) (by repeat (first | exact Sp.here | exact Sp.sn | exact Sp.s0 | exact Fr.here | apply Sp.s2 | apply Sp.sx | apply Fr.fc | apply Fr.al | apply Fr.fa | apply Sp.sc | apply Sp.al | apply Sp.sa))
                      · refine WC.skip ?_
                        refine DN.block_normal ?_
                        refine DN.then_normal ?_
                        refine WC.seq ?_
                        first
                          | have ci2 := ci.sendZ (hz75.symm.trans h75)
                          | have ci2 := ci.sendN (hz75.symm.trans h75)
                          | have ci2 := ci.pickYes h96
                          | have ci2 := ci.pickNo h96
                          | have ci2 := (ci.out h120).1
                          | have ci2 := (ci.outNo h120).1
                          | have ci2 := ci.copy h128
                          | have ci2 := ci.copyNo h128
                          | have ci2 := ci.cut (o := aq[i].on) h147
                          | have ci2 := ci.cutNo (o := aq[i].on) h147
                          | have ci2 := ci2l
                          | (have ci2 := ci.same; have hW2 := hW)
                        refine WC.region ?_
                        refine WL.y rfl (Yd.move rfl) ?_
                        refine WL.rf rfl (Ent.func Try.call14 rfl) (len_reads p _ _ hW2) (by repeat (first | exact Sp.here | exact Sp.sn | exact Sp.s0 | exact Fr.here | apply Sp.s2 | apply Sp.sx | apply Fr.fc | apply Fr.al | apply Fr.fa | apply Sp.sc | apply Sp.al | apply Sp.sa)) ?_
                        refine WL.y rfl (Yd.move rfl) ?_
                        refine WL.y rfl (Yd.move rfl) ?_
                        refine WL.y rfl (Yd.sub rfl rfl (by omega) (by omega)) ?_
                        refine WL.y rfl (Yd.neq rfl rfl) ?_
                        refine WL.renamed (t := 161) (v := .bool false) rfl (congrArg Value.bool (by rw [decide_eq_false_iff_not, Classical.not_not]; have := ci2.cnt; omega)) ?_
                        refine WL.nil ?_
                        refine DN.then_normal ?_
                        refine WC.no rfl ?_
                        refine WC.skip ?_
                        refine DN.block_normal ?_
                        refine DN.then_normal ?_
                        refine WC.region ?_
                        refine WL.y rfl (Yd.move rfl) ?_
                        refine WL.y rfl (Yd.add rfl rfl (by omega) (by omega)) ?_
                        refine WL.y rfl (Yd.assign rfl) ?_
                        refine WL.nil ?_
                        first
                          | exact DN.againS ⟨i + 1, _, _, _, _, _, sn ++ [aq[i].L], _, Cs2, cm⟩ ⟨by show i + 1 ≤ aq.length; omega, by show i + 1 ≤ 150; omega, hW2, ci2, by rw [List.length_append]; exact hO2, hS.snoc hO.len ⟨_, _, rfl, hk, hd, hml⟩⟩ (by show aq.length - (i + 1) < aq.length - i; omega) (Sx.put rfl (Sx.put rfl (Sx.put rfl (Sx.put rfl ((by repeat (first | exact Sx.refl | refine Sx.skip rfl ?_))))))) (by repeat (first | exact Sp.here | exact Sp.sn | exact Sp.s0 | exact Fr.here | apply Sp.s2 | apply Sp.sx | apply Fr.fc | apply Fr.al | apply Fr.fa | apply Sp.sc | apply Sp.al | apply Sp.sa))
                          | exact DN.againS ⟨i + 1, _, _, _, _, _, sn, cells, Cs, cm⟩ ⟨by show i + 1 ≤ aq.length; omega, by show i + 1 ≤ 150; omega, hW2, ci2, hO, hS⟩ (by show aq.length - (i + 1) < aq.length - i; omega) (Sx.put rfl (Sx.put rfl (Sx.put rfl (Sx.put rfl ((by repeat (first | exact Sx.refl | refine Sx.skip rfl ?_))))))) (by repeat (first | exact Sp.here | exact Sp.sn | exact Sp.s0 | exact Fr.here | apply Sp.s2 | apply Sp.sx | apply Fr.fc | apply Fr.al | apply Fr.fa | apply Sp.sc | apply Sp.al | apply Sp.sa))
                          | exact DN.againS ⟨i + 1, _, _, _, _, _, sn, cells, Cs, _⟩ ⟨by show i + 1 ≤ aq.length; omega, by show i + 1 ≤ 150; omega, hW2, ci2, hO, hS⟩ (by show aq.length - (i + 1) < aq.length - i; omega) (Sx.put rfl (Sx.put rfl (Sx.put rfl (Sx.put rfl ((by repeat (first | exact Sx.refl | refine Sx.skip rfl ?_))))))) (by repeat (first | exact Sp.here | exact Sp.sn | exact Sp.s0 | exact Fr.here | apply Sp.s2 | apply Sp.sx | apply Fr.fc | apply Fr.al | apply Fr.fa | apply Sp.sc | apply Sp.al | apply Sp.sa))
      · refine WC.exit ?_
        refine DN.then_exit ?_
        refine DN.then_exit ?_
        refine DN.block_exit ?_
        refine DN.then_normal ?_
        refine WC.seq ?_
        refine WC.region ?_
        refine WL.r rfl (Ent.func Try.call15 rfl) (known18 _) ?_
        refine WL.y rfl (Yd.assign rfl) ?_
        refine WL.nil ?_
        refine DN.then_normal ?_
        refine WC.ret ?_
        refine DN.fit (C := H) (by repeat (first | exact Sp.here | exact Sp.sn | exact Sp.s0 | exact Fr.here | apply Sp.s2 | apply Sp.sx | apply Fr.fc | apply Fr.al | apply Fr.fa | apply Sp.sc | apply Sp.al | apply Sp.sa)) ?_
        refine DN.ret1 Try.results5 rfl ?_
        exact ⟨rfl, rfl⟩
    · refine WL.gn (dj := 41) rfl rfl rfl rfl ?_
      refine WL.gn (dj := 41) rfl rfl rfl rfl ?_
      refine WL.y rfl (Yd.pickF rfl rfl) ?_
      refine WL.nil ?_
      refine DN.then_normal ?_
      refine WC.no rfl ?_
      refine WC.exit ?_
      refine DN.then_exit ?_
      refine DN.then_exit ?_
      refine DN.block_exit ?_
      refine DN.then_normal ?_
      refine WC.seq ?_
      refine WC.region ?_
      refine WL.r rfl (Ent.func Try.call15 rfl) (known18 _) ?_
      refine WL.y rfl (Yd.assign rfl) ?_
      refine WL.nil ?_
      refine DN.then_normal ?_
      refine WC.ret ?_
      refine DN.fit (C := H) (by repeat (first | exact Sp.here | exact Sp.sn | exact Sp.s0 | exact Fr.here | apply Sp.s2 | apply Sp.sx | apply Fr.fc | apply Fr.al | apply Fr.fa | apply Sp.sc | apply Sp.al | apply Sp.sa)) ?_
      refine DN.ret1 Try.results5 rfl ?_
      exact ⟨rfl, rfl⟩

end Go.Proofs.Ytgpegfmonmdhoaa
