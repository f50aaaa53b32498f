/-
  The walks of the laws of chapter 03, continued.
-/
import Derived.Test.YtfacofbobmlmiaaRows03
import Derived.Test.YtfacofbobmlmiaaRowMath2
set_option linter.unusedVariables false
set_option linter.unusedSimpArgs false
set_option maxHeartbeats 2000000
namespace Go.Proofs.Ytfacofbobmlmiaa
open Go.SL Go.Sum
theorem ends_cell (g : List (List (BitVec 8))) (i : Nat) (h : i < g.length) : (ic (endsOf g))[i]? = some (.int .i64 ((flat (g.take (i + 1))).length : Int)) := by
  simp only [ic, List.getElem?_map, endsOf_get g i h, Option.map_some]
theorem Each.append {vs us : List Value} {ls ms : List (List (BitVec 8))} {H : List Ck} (h : Each vs ls H) (k : Each us ms H) : Each (vs ++ us) (ls ++ ms) H := by
  refine ⟨by simp [h.1, k.1], fun i hi => ?_⟩
  by_cases hlt : i < ls.length
  · obtain ⟨u, h1, h2⟩ := h.2 i hlt
    exact ⟨u, by rw [List.getElem?_append_left (by rw [h.1]; exact hlt)]; exact h1, by rw [List.getElem_append_left hlt]; exact h2⟩
  · obtain ⟨u, h1, h2⟩ := k.2 (i - ls.length) (by simp at hi; omega)
    exact ⟨u, by rw [List.getElem?_append_right (by rw [h.1]; omega), h.1]; exact h1, by rw [List.getElem_append_right (by omega)]; exact h2⟩
theorem Each.take {vs : List Value} {ls : List (List (BitVec 8))} {H : List Ck} (h : Each vs ls H) (n : Nat) : Each (vs.take n) (ls.take n) H := by
  refine ⟨by simp [h.1], fun i hi => ?_⟩
  have hi2 : i < n ∧ i < ls.length := by rw [List.length_take] at hi; omega
  obtain ⟨u, h1, h2⟩ := h.2 i hi2.2
  exact ⟨u, by rw [List.getElem?_take, if_pos hi2.1]; exact h1, by simpa using h2⟩
/-- the first of a list -/
theorem bss_take {ao : Option Addr} {c n : Nat} {vs : List Value} {ls : List (List (BitVec 8))} {H : List Ck} (hr : Rs (.slice ao ls.length c) ls.length vs H) (h : Each vs ls H) (hn : n ≤ ls.length) : Bss (.slice ao n c) (ls.take n) H := by
  have hl : (ls.take n).length = n := by simp; omega
  refine ⟨vs.take n, ?_, (h.take n).1, (h.take n).2⟩
  rw [hl]
  have := hr.upto (s := 1) (j := n) (by rw [h.1]; omega) hn
  simpa using this
theorem put_none (l : List (BitVec 8)) (h : l.length ≤ 2000) : putErr l = 0 ∧ putOf l = frameOf l := ⟨by rw [putErr, if_pos h], by rw [putOf, if_pos h]⟩
theorem size_short {l : List (BitVec 8)} (h : l.length ≤ 2000) : frameSize l.length = ((l.length + 8 : Nat) : Int) := by rw [frameSize, if_pos (by omega)]; omega
theorem cut_bool (a k : Nat) : (decide ((if a = k then (0 : Int) else 31) = 0) == decide ((a : Int) = (k : Int))) = true := by
  by_cases h : a = k
  · subst h; simp
  · have h2 : ¬ (a : Int) = (k : Int) := by omega
    simp [h, h2]


/-- drayage/drayagelaw03.FrameApart -/
theorem law_FrameApart (u v : Value) (a b : List B8') (H : List Ck) (hu : Bs u a H) (hv : Bs v b H) (hla : a.length ≤ 9223372036854775807) (hlb : b.length ≤ 9223372036854775807) : Reads Try.prog 16 [u, v] H (.bool true) := by
  refine Tells.enter Try.func16 rfl Try.ntmps16 rfl ?_
  intro w0 R
  obtain ⟨uo, uc, rfl, huc⟩ := Bs.form hu
  obtain ⟨vo, vc, rfl, hvc⟩ := Bs.form hv
  refine WC.seq ?_
  refine WC.region ?_
  refine WL.y rfl (Yd.assign rfl) ?_
  refine WL.nil ?_
  refine DN.then_normal ?_
  refine WC.seq ?_
  refine WC.seq ?_
  refine WC.region ?_
  refine WL.y rfl (Yd.move rfl) ?_
  refine WL.y rfl (Yd.len (e := 5) (by kernel_rfl) rfl) ?_
  refine WL.y rfl (Yd.gtr rfl rfl) ?_
  refine WL.y rfl (Yd.move rfl) ?_
  refine WL.partP (t := 14) rfl (fun hg14 => ?_) (fun hg14 => ?_)
  · refine WL.gn (dj := 14) rfl rfl rfl rfl ?_
    refine WL.gn (dj := 14) rfl rfl rfl rfl ?_
    refine WL.gn (dj := 14) rfl rfl rfl rfl ?_
    refine WL.y rfl (Yd.pickT rfl rfl) ?_
    refine WL.nil ?_
    refine DN.then_normal ?_
    refine WC.yes rfl ?_
    refine WC.seq ?_
    refine WC.region ?_
    refine WL.r rfl (Ent.func Try.call27 rfl) (known03 _) ?_
    refine WL.y rfl (Yd.assign rfl) ?_
    refine WL.nil ?_
    refine DN.then_normal ?_
    refine WC.ret ?_
    refine DN.then_ret ?_
    refine DN.forget H (by first | exact List.Sublist.refl _ | (repeat (first | exact List.Sublist.refl _ | exact List.nil_sublist _ | apply List.Sublist.cons_cons | apply List.Sublist.cons | apply List.sublist_append_of_sublist_right))) ?_
    refine DN.ret1 Try.results16 rfl ?_
    exact ⟨rfl, rfl⟩
  · refine WL.gy (dj := 14) rfl rfl rfl (Yd.move rfl) ?_
    refine WL.gy (dj := 14) rfl rfl rfl (Yd.len (e := 5) (by kernel_rfl) rfl) ?_
    refine WL.gy (dj := 14) rfl rfl rfl (Yd.gtr rfl rfl) ?_
    refine WL.y rfl (Yd.pickF rfl rfl) ?_
    refine WL.nil ?_
    refine DN.then_normal ?_
    refine WC.ite rfl (fun h18 => ?_) (fun h18 => ?_)
    · refine WC.seq ?_
      refine WC.region ?_
      refine WL.r rfl (Ent.func Try.call27 rfl) (known03 _) ?_
      refine WL.y rfl (Yd.assign rfl) ?_
      refine WL.nil ?_
      refine DN.then_normal ?_
      refine WC.ret ?_
      refine DN.then_ret ?_
      refine DN.forget H (by first | exact List.Sublist.refl _ | (repeat (first | exact List.Sublist.refl _ | exact List.nil_sublist _ | apply List.Sublist.cons_cons | apply List.Sublist.cons | apply List.sublist_append_of_sublist_right))) ?_
      refine DN.ret1 Try.results16 rfl ?_
      exact ⟨rfl, rfl⟩
    · refine WC.skip ?_
      refine DN.then_normal ?_
      refine WC.seq ?_
      refine WC.region ?_
      have h2a : a.length ≤ 2000 := by omega
      have h2b : b.length ≤ 2000 := by omega
      refine WL.y rfl (Yd.move rfl) ?_
      refine WL.ca rfl (Ent.func Try.call28 rfl) (put2_tells _ a H hu (by omega)) ?_
      rintro q H1 ⟨x1, A1, rfl, hA1, rfl⟩
      rw [(put_none a h2a).1]
      rw [(put_none a h2a).2] at hA1
      obtain ⟨x1o, x1c, rfl, hx1⟩ := hA1.form
      refine WL.y rfl (Yd.move rfl) ?_
      refine WL.y rfl (Yd.extract rfl rfl) ?_
      refine WL.y rfl (Yd.extract rfl rfl) ?_
      refine WL.y rfl (Yd.assign rfl) ?_
      refine WL.y rfl (Yd.assign rfl) ?_
      refine WL.nil ?_
      refine DN.then_normal ?_
      refine WC.seq ?_
      refine WC.region ?_
      refine WL.y rfl (Yd.move rfl) ?_
      refine WL.ca rfl (Ent.func Try.call28 rfl) (put2_tells _ b _ (hv.mono fun y hy => List.mem_append_right _ hy) (by omega)) ?_
      rintro q H2 ⟨x2, A2, rfl, hA2, rfl⟩
      rw [(put_none b h2b).1]
      rw [(put_none b h2b).2] at hA2
      obtain ⟨x2o, x2c, rfl, hx2⟩ := hA2.form
      refine WL.y rfl (Yd.move rfl) ?_
      refine WL.y rfl (Yd.extract rfl rfl) ?_
      refine WL.y rfl (Yd.extract rfl rfl) ?_
      refine WL.y rfl (Yd.assign rfl) ?_
      refine WL.y rfl (Yd.assign rfl) ?_
      refine WL.nil ?_
      refine DN.then_normal ?_
      refine WC.seq ?_
      refine WC.seq ?_
      refine WC.region ?_
      refine WL.y rfl (Yd.move rfl) ?_
      refine WL.y rfl (Yd.neq rfl rfl) ?_
      refine WL.renamed (t := 31) (v := .bool false) rfl (congrArg Value.bool (by decide)) ?_
      refine WL.y rfl (Yd.move rfl) ?_
      refine WL.gy (dj := 32) rfl rfl rfl (Yd.move rfl) ?_
      refine WL.gy (dj := 32) rfl rfl rfl (Yd.neq rfl rfl) ?_
      refine WL.renamed (t := 34) (v := .bool false) rfl (congrArg Value.bool (by decide)) ?_
      refine WL.y rfl (Yd.pickF rfl rfl) ?_
      refine WL.nil ?_
      refine DN.then_normal ?_
      refine WC.no rfl ?_
      refine WC.skip ?_
      refine DN.then_normal ?_
      refine WC.seq ?_
      refine WC.region ?_
      refine WL.y rfl (Yd.move rfl) ?_
      refine WL.y rfl (Yd.move rfl) ?_
      refine WL.r rfl (Ent.func Try.call31 rfl) (same_reads _ _ a b _ (hu.mono fun y hy => by simp [hy]) (hv.mono fun y hy => by simp [hy])) ?_
      refine WL.y rfl (Yd.assign rfl) ?_
      refine WL.nil ?_
      refine DN.then_normal ?_
      refine WC.seq ?_
      refine WC.region ?_
      refine WL.y rfl (Yd.move rfl) ?_
      refine WL.y rfl (Yd.len (e := 5) (by kernel_rfl) rfl) ?_
      refine WL.y rfl (Yd.move rfl) ?_
      refine WL.y rfl (Yd.len (e := 5) (by kernel_rfl) rfl) ?_
      refine WL.y rfl (Yd.leq rfl rfl) ?_
      refine WL.y rfl (Yd.move rfl) ?_
      refine WL.partP (t := 44) rfl (fun hg44 => ?_) (fun hg44 => ?_)
      · refine WL.gy (dj := 44) rfl rfl rfl (Yd.move rfl) ?_
        refine WL.gy (dj := 44) rfl rfl rfl (Yd.move rfl) ?_
        refine WL.gy (dj := 44) rfl rfl rfl (Yd.move rfl) ?_
        refine WL.gy (dj := 44) rfl rfl rfl (Yd.len (e := 5) (by kernel_rfl) rfl) ?_
        refine WL.gy (dj := 44) rfl rfl rfl (Yd.sliceTo (e := 5) (s := 1) (j := (frameOf a).length) (by kernel_rfl) (by kernel_rfl) rfl rfl rfl (by omega)) ?_
        refine WL.gr (dj := 44) rfl rfl rfl (Ent.func Try.call31 rfl) (same_reads _ _ (frameOf a) ((frameOf b).take (frameOf a).length) _ (hA1.bs.mono fun y hy => by simp [hy]) ((hA2.bs.upto (by omega)).mono fun y hy => by simp [hy])) ?_
        refine WL.y rfl (Yd.pickT rfl rfl) ?_
        refine WL.y rfl (Yd.assign rfl) ?_
        refine WL.nil ?_
        refine DN.then_normal ?_
        refine WC.seq ?_
        refine WC.region ?_
        refine WL.y rfl (Yd.move rfl) ?_
        refine WL.y rfl (Yd.move rfl) ?_
        refine WL.y rfl (Yd.eqlB Try.underlying4 rfl rfl) ?_
        refine WL.renamed (t := 54) (v := .bool true) rfl (congrArg Value.bool (by first | exact apart_law a b h2a h2b | exact apart_law2 a b (by omega))) ?_
        refine WL.y rfl (Yd.move rfl) ?_
        refine WL.gr (dj := 55) rfl rfl rfl (Ent.func Try.call27 rfl) (known03 _) ?_
        refine WL.y rfl (Yd.pickT rfl rfl) ?_
        refine WL.y rfl (Yd.assign rfl) ?_
        refine WL.nil ?_
        refine DN.then_normal ?_
        refine WC.ret ?_
        refine DN.forget H (by first | exact List.Sublist.refl _ | (repeat (first | exact List.Sublist.refl _ | exact List.nil_sublist _ | apply List.Sublist.cons_cons | apply List.Sublist.cons | apply List.sublist_append_of_sublist_right))) ?_
        refine DN.ret1 Try.results16 rfl ?_
        exact ⟨rfl, rfl⟩
      · refine WL.gn (dj := 44) rfl rfl rfl rfl ?_
        refine WL.gn (dj := 44) rfl rfl rfl rfl ?_
        refine WL.gn (dj := 44) rfl rfl rfl rfl ?_
        refine WL.gn (dj := 44) rfl rfl rfl rfl ?_
        refine WL.gn (dj := 44) rfl rfl rfl rfl ?_
        refine WL.gn (dj := 44) rfl rfl rfl rfl ?_
        refine WL.y rfl (Yd.pickF rfl rfl) ?_
        refine WL.y rfl (Yd.assign rfl) ?_
        refine WL.nil ?_
        refine DN.then_normal ?_
        refine WC.seq ?_
        refine WC.region ?_
        refine WL.y rfl (Yd.move rfl) ?_
        refine WL.y rfl (Yd.move rfl) ?_
        refine WL.y rfl (Yd.eqlB Try.underlying4 rfl rfl) ?_
        refine WL.renamed (t := 54) (v := .bool true) rfl (congrArg Value.bool (by first | exact apart_law a b h2a h2b | exact apart_law2 a b (by omega))) ?_
        refine WL.y rfl (Yd.move rfl) ?_
        refine WL.gr (dj := 55) rfl rfl rfl (Ent.func Try.call27 rfl) (known03 _) ?_
        refine WL.y rfl (Yd.pickT rfl rfl) ?_
        refine WL.y rfl (Yd.assign rfl) ?_
        refine WL.nil ?_
        refine DN.then_normal ?_
        refine WC.ret ?_
        refine DN.forget H (by first | exact List.Sublist.refl _ | (repeat (first | exact List.Sublist.refl _ | exact List.nil_sublist _ | apply List.Sublist.cons_cons | apply List.Sublist.cons | apply List.sublist_append_of_sublist_right))) ?_
        refine DN.ret1 Try.results16 rfl ?_
        exact ⟨rfl, rfl⟩

/-- drayage/drayagelaw03.FrameJoins -/
theorem law_FrameJoins (u v : Value) (as1 as2 : List (List B8')) (H : List Ck) (hu : Bss u as1 H) (hv : Bss v as2 H) (hl1 : as1.length ≤ 9223372036854775807) (hls1 : ∀ l ∈ as1, l.length ≤ 9223372036854775807) (hl2 : as2.length ≤ 9223372036854775807) (hls2 : ∀ l ∈ as2, l.length ≤ 9223372036854775807) : Reads Try.prog 15 [u, v] H (.bool true) := by
  refine Tells.enter Try.func15 rfl Try.ntmps15 rfl ?_
  intro w0 R
  refine WC.seq ?_
  refine WC.region ?_
  refine WL.y rfl (Yd.assign rfl) ?_
  refine WL.nil ?_
  refine DN.then_normal ?_
  refine WC.seq ?_
  refine WC.region ?_
  refine WL.y rfl (Yd.move rfl) ?_
  refine WL.ca rfl (Ent.func Try.call39 rfl) (row_tells _ as1 _ hu hl1 hls1) ?_
  rintro q H1 ⟨g1, b1, vg1, ve1, gvs1, Cb1, Cg1, Ce1, rfl, hr1, rfl⟩
  obtain ⟨b1o, b1c, rfl, hb1c⟩ := hr1.bytes.form
  obtain ⟨vg1o, vg1c, rfl, hvg1c⟩ := hr1.list.form
  obtain ⟨ve1o, ve1c, rfl, hve1c⟩ := hr1.ends.form
  have hfew1 := flat_few g1
  have hlen1 := hr1.len
  refine WL.y rfl (Yd.move rfl) ?_
  refine WL.y rfl (Yd.extract rfl rfl) ?_
  refine WL.y rfl (Yd.extract rfl rfl) ?_
  refine WL.y rfl (Yd.extract rfl rfl) ?_
  refine WL.y rfl (Yd.assign rfl) ?_
  refine WL.y rfl (Yd.assign rfl) ?_
  refine WL.y rfl (Yd.assign rfl) ?_
  refine WL.nil ?_
  refine DN.then_normal ?_
  refine WC.seq ?_
  refine WC.region ?_
  refine WL.y rfl (Yd.move rfl) ?_
  refine WL.ca rfl (Ent.func Try.call39 rfl) (row_tells _ as2 _ (hv.mono fun y hy => by simp [hy]) hl2 hls2) ?_
  rintro q H2 ⟨g2, b2, vg2, ve2, gvs2, Cb2, Cg2, Ce2, rfl, hr2, rfl⟩
  obtain ⟨b2o, b2c, rfl, hb2c⟩ := hr2.bytes.form
  obtain ⟨vg2o, vg2c, rfl, hvg2c⟩ := hr2.list.form
  obtain ⟨ve2o, ve2c, rfl, hve2c⟩ := hr2.ends.form
  have hfew2 := flat_few g2
  have hlen2 := hr2.len
  refine WL.y rfl (Yd.move rfl) ?_
  refine WL.y rfl (Yd.extract rfl rfl) ?_
  refine WL.y rfl (Yd.extract rfl rfl) ?_
  refine WL.y rfl (Yd.extract rfl rfl) ?_
  refine WL.y rfl (Yd.assign rfl) ?_
  refine WL.y rfl (Yd.assign rfl) ?_
  refine WL.y rfl (Yd.assign rfl) ?_
  refine WL.nil ?_
  refine DN.then_normal ?_
  refine WC.seq ?_
  refine WC.region ?_
  refine WL.y rfl (Yd.assign rfl) ?_
  refine WL.nil ?_
  refine DN.then_normal ?_
  refine WC.seq ?_
  refine WC.seq ?_
  refine WC.region ?_
  refine WL.y rfl (Yd.assign rfl) ?_
  refine WL.nil ?_
  refine DN.then_normal ?_
  refine WC.block ?_
  refine WC.loop (fun i : Nat => i ≤ g1.length) (fun i => [(5, .slice b1o (flat g1).length b1c), (6, .slice vg1o g1.length vg1c), (8, .slice b2o (flat g2).length b2c), (9, .slice vg2o g2.length vg2c), (11, .int .i64 (flat (g1.take i)).length), (12, .int .i64 i)]) (fun _ => Cb2 ++ (Cg2 ++ (Ce2 ++ (Cb1 ++ (Cg1 ++ (Ce1 ++ H)))))) (fun i => g1.length - i) 0 (Nat.zero_le _) ⟨rfl, rfl, rfl, rfl, rfl, rfl, trivial⟩ (List.Perm.refl _) ?_
  intro i hi
  refine WC.seq ?_
  refine WC.seq ?_
  refine WC.region ?_
  refine WL.y rfl (Yd.move rfl) ?_
  refine WL.y rfl (Yd.move rfl) ?_
  refine WL.y rfl (Yd.len (e := 22) (by kernel_rfl) rfl) ?_
  refine WL.y rfl (Yd.lss rfl rfl) ?_
  refine WL.nil ?_
  refine DN.then_normal ?_
  refine WC.ite rfl (fun h33 => ?_) (fun h33 => ?_)
  · have hig : i < g1.length := by omega
    obtain ⟨w, hwi, hwb⟩ := hr1.each.2 i hig
    obtain ⟨wo, wc, rfl, hwc⟩ := hwb.form
    have hs2 := hr1.short _ (List.getElem_mem hig)
    have hnext := flat_take_next g1 i hig
    have hle := flat_take_le g1 (i + 1)
    refine WC.skip ?_
    refine DN.then_normal ?_
    refine WC.seq ?_
    refine WC.block ?_
    refine WC.region ?_
    refine WL.y rfl (Yd.move rfl) ?_
    refine WL.y rfl (Yd.move rfl) ?_
    refine WL.y rfl (Yd.move rfl) ?_
    refine WL.elem (e := 22) (by kernel_rfl) (by kernel_rfl) (by kernel_rfl) rfl rfl (rfl) (hr1.list.rs.mono fun y hy => by simp [hy]) (hwi) (by omega) rfl rfl ?_
    intro _
    refine WL.y rfl (Yd.len (e := 5) (by kernel_rfl) rfl) ?_
    refine WL.r rfl (Ent.func Try.call32 rfl) (size_reads (g1[i].length : Int) _) ?_
    refine WL.renamed (t := 42) (v := .int .i64 ((g1[i].length + 8 : Nat) : Int)) rfl (congrArg (Value.int .i64) (size_short hs2)) ?_
    refine WL.y rfl (Yd.add rfl rfl (by omega) (by omega)) ?_
    refine WL.renamed (t := 43) (v := .int .i64 ((flat (g1.take (i + 1))).length : Int)) rfl (congrArg (Value.int .i64) (by omega)) ?_
    refine WL.y rfl (Yd.assign rfl) ?_
    refine WL.nil ?_
    refine DN.block_normal ?_
    refine DN.then_normal ?_
    refine WC.region ?_
    refine WL.y rfl (Yd.move rfl) ?_
    refine WL.y rfl (Yd.add rfl rfl (by omega) (by omega)) ?_
    refine WL.y rfl (Yd.assign rfl) ?_
    refine WL.nil ?_
    exact DN.again (i + 1) (by omega) (by omega) ⟨rfl, rfl, rfl, rfl, rfl, rfl, trivial⟩ (List.Perm.refl _)
  · have hii : i = g1.length := by omega
    subst hii
    rw [List.take_length]
    have hall : allOf (flat g1 ++ flat g2) = (g1 ++ g2, (flat g1 ++ flat g2).length, 0) := by
      have := allOf_stop (g1 ++ g2) [] (fun l hl => by rcases List.mem_append.1 hl with hl | hl; exact hr1.short l hl; exact hr2.short l hl) (.inl rfl)
      rwa [List.append_nil, flat_append] at this
    refine WC.exit ?_
    refine DN.then_exit ?_
    refine DN.then_exit ?_
    refine DN.block_exit ?_
    refine DN.then_normal ?_
    refine WC.seq ?_
    refine WC.region ?_
    refine WL.y rfl (Yd.move rfl) ?_
    refine WL.ca rfl (Ent.func Try.call25 rfl) (copy_spec _ (flat g1) _ (hr1.bytes.bs.mono fun y hy => by simp [hy]) (by omega)) ?_
    rintro x3 H3 ⟨C3, h3, rfl⟩
    refine WL.y rfl (Yd.assign rfl) ?_
    refine WL.nil ?_
    refine DN.then_normal ?_
    refine WC.seq ?_
    refine WC.region ?_
    refine WL.y rfl (Yd.move rfl) ?_
    refine WL.y rfl (Yd.move rfl) ?_
    refine WL.h rfl (Hd.appendB (e := 5) (zs := [.int .u8 0]) (C := C3) (D := Cb2 ++ (Cg2 ++ (Ce2 ++ (Cb1 ++ (Cg1 ++ (Ce1 ++ H)))))) (by kernel_rfl) (by kernel_rfl) rfl rfl rfl h3 (hr2.bytes.bs.mono fun x hx => by simp [hx]) (by omega) (List.Perm.refl _) fun v4 C4 h4 _ => ⟨_, rfl, ?_⟩)
    refine WL.y rfl (Yd.assign rfl) ?_
    refine WL.nil ?_
    refine DN.then_normal ?_
    refine WC.seq ?_
    refine WC.region ?_
    refine WL.y rfl (Yd.move rfl) ?_
    refine WL.ca rfl (Ent.func Try.call36 rfl) (all2_tells _ (flat g1 ++ flat g2) _ (h4.bs.mono fun y hy => by simp [hy]) (by simp only [List.length_append]; omega)) ?_
    rintro q H5 ⟨u5, ws5, A5, D5, rfl, hA5, hW5, rfl⟩
    rw [hall] at hA5 hW5 ⊢
    obtain ⟨u5o, u5c, rfl, hu5c⟩ := hA5.form
    obtain ⟨v4o, v4c, rfl, hv4c⟩ := h4.form
    refine WL.y rfl (Yd.move rfl) ?_
    refine WL.y rfl (Yd.extract rfl rfl) ?_
    refine WL.y rfl (Yd.extract rfl rfl) ?_
    refine WL.y rfl (Yd.extract rfl rfl) ?_
    refine WL.y rfl (Yd.assign rfl) ?_
    refine WL.y rfl (Yd.assign rfl) ?_
    refine WL.y rfl (Yd.assign rfl) ?_
    refine WL.nil ?_
    refine DN.then_normal ?_
    refine WC.seq ?_
    refine WC.region ?_
    refine WL.y rfl (Yd.assign rfl) ?_
    refine WL.nil ?_
    refine DN.then_normal ?_
    refine WC.seq ?_
    refine WC.region ?_
    refine WL.y rfl (Yd.move rfl) ?_
    refine WL.y rfl (Yd.move rfl) ?_
    refine WL.h rfl (Hd.append (e := 22) (sz := 1) (bytes := 24) (zs := [.slice none 0 0]) (C := []) (D := A5 ++ (D5 ++ (C4 ++ (Cb2 ++ (Cg2 ++ (Ce2 ++ (Cb1 ++ (Cg1 ++ (Ce1 ++ H))))))))) (by kernel_rfl) (by kernel_rfl) rfl (by omega) rfl rfl (Own.nil _ _) (hr1.list.rs.mono fun y hy => by simp [hy]) (by rw [hr1.each.1]; omega) hr1.each.one (by simp only [maxLen]; omega) (by omega) (List.Perm.refl _) fun vw1 W1 hvw1 _ => ⟨_, rfl, ?_⟩)
    refine WL.y rfl (Yd.assign rfl) ?_
    refine WL.nil ?_
    refine DN.then_normal ?_
    refine WC.seq ?_
    refine WC.region ?_
    refine WL.y rfl (Yd.move rfl) ?_
    refine WL.y rfl (Yd.move rfl) ?_
    refine WL.h rfl (Hd.append (e := 22) (sz := 1) (bytes := 24) (zs := [.slice none 0 0]) (C := W1) (D := A5 ++ (D5 ++ (C4 ++ (Cb2 ++ (Cg2 ++ (Ce2 ++ (Cb1 ++ (Cg1 ++ (Ce1 ++ H))))))))) (by kernel_rfl) (by kernel_rfl) rfl (by omega) rfl rfl hvw1 (hr2.list.rs.mono fun y hy => by simp [hy]) (by rw [hr2.each.1]; omega) hr2.each.one (by simp only [maxLen]; omega) (by omega) (List.Perm.refl _) fun vw2 W2 hvw2 _ => ⟨_, rfl, ?_⟩)
    refine WL.y rfl (Yd.assign rfl) ?_
    refine WL.nil ?_
    refine DN.then_normal ?_
    refine WC.seq ?_
    refine WC.region ?_
    refine WL.y rfl (Yd.move rfl) ?_
    refine WL.y rfl (Yd.move rfl) ?_
    refine WL.y rfl (Yd.len (e := 5) (by kernel_rfl) rfl) ?_
    refine WL.y rfl (Yd.eql rfl rfl) ?_
    refine WL.renamed (t := 64) (v := .bool true) rfl (congrArg Value.bool (by simp)) ?_
    refine WL.y rfl (Yd.move rfl) ?_
    refine WL.gy (dj := 65) rfl rfl rfl (Yd.move rfl) ?_
    refine WL.gy (dj := 65) rfl rfl rfl (Yd.eql rfl rfl) ?_
    refine WL.renamed (t := 67) (v := .bool true) rfl (congrArg Value.bool (by simp)) ?_
    refine WL.y rfl (Yd.pickT rfl rfl) ?_
    refine WL.y rfl (Yd.move rfl) ?_
    refine WL.gy (dj := 69) rfl rfl rfl (Yd.move rfl) ?_
    refine WL.gy (dj := 69) rfl rfl rfl (Yd.move rfl) ?_
    refine WL.gy (dj := 69) rfl rfl rfl (Yd.len (e := 5) (by kernel_rfl) rfl) ?_
    refine WL.gy (dj := 69) rfl rfl rfl (Yd.eql rfl rfl) ?_
    refine WL.renamed (t := 73) (v := .bool true) rfl (congrArg Value.bool (by simp)) ?_
    refine WL.y rfl (Yd.pickT rfl rfl) ?_
    refine WL.y rfl (Yd.move rfl) ?_
    refine WL.gy (dj := 75) rfl rfl rfl (Yd.move rfl) ?_
    refine WL.gy (dj := 75) rfl rfl rfl (Yd.move rfl) ?_
    refine WL.gr (dj := 75) rfl rfl rfl (Ent.func Try.call38 rfl) (sameLists_reads _ _ (g1 ++ g2) (g1 ++ g2) _ ((hW5.bss hA5).mono fun y hy => by simp at hy; rcases hy with hy | hy <;> simp [hy]) ((((hr1.each.mono (B := Ce1 ++ H) fun y hy => by simp [hy]).mono (B := Cb2 ++ (Cg2 ++ (Ce2 ++ (Cb1 ++ (Cg1 ++ (Ce1 ++ H)))))) fun y hy => by simp at hy; rcases hy with hy | hy <;> simp [hy]).append (hr2.each.mono fun y hy => by simp at hy; rcases hy with hy | hy | hy | hy <;> simp [hy]) |>.bss (E := 22) (v := vw2) (C := W2) (by simpa using hvw2)).mono fun y hy => by simp at hy; rcases hy with hy | hy | hy | hy | hy | hy | hy | hy <;> simp [hy]) (by simp; omega)) ?_
    refine WL.renamed (t := 78) (v := .bool true) rfl (congrArg Value.bool (by simp)) ?_
    refine WL.y rfl (Yd.pickT rfl rfl) ?_
    refine WL.y rfl (Yd.move rfl) ?_
    refine WL.gr (dj := 80) rfl rfl rfl (Ent.func Try.call27 rfl) (known03 _) ?_
    refine WL.y rfl (Yd.pickT rfl rfl) ?_
    refine WL.y rfl (Yd.assign rfl) ?_
    refine WL.nil ?_
    refine DN.then_normal ?_
    refine WC.ret ?_
    refine DN.forget H (by (repeat (first | exact List.Sublist.refl _ | exact List.nil_sublist _ | apply List.Sublist.cons_cons | apply List.Sublist.cons | apply List.sublist_append_of_sublist_right))) ?_
    refine DN.ret1 Try.results15 rfl ?_
    exact ⟨rfl, rfl⟩

end Go.Proofs.Ytfacofbobmlmiaa
