/-
  The walks of the laws of chapter 03: frames back, cut rows.
-/
import Derived.Test.YtfacofbobmlmiaaLaws03b
import Derived.Test.YtfacofbobmlmiaaRef
set_option linter.unusedVariables false
set_option linter.unusedSimpArgs false
set_option maxHeartbeats 2000000
namespace Go.Proofs.Ytfacofbobmlmiaa
open Go.SL Go.Sum
theorem back_getD (more : List (BitVec 8)) : ([0#8] ++ more).getD 0 0#8 = 0#8 := rfl


/-- drayage/drayagelaw03.FrameBack -/
theorem law_FrameBack (u v : Value) (as1 : List (List B8')) (more : List B8') (H : List Ck) (hu : Bss u as1 H) (hv : Bs v more H) (hl1 : as1.length ≤ 9223372036854775807) (hls1 : ∀ l ∈ as1, l.length ≤ 9223372036854775807) (hlm : more.length ≤ 9223372036854775807) : Reads Try.prog 12 [u, v] H (.bool true) := by
  refine Tells.enter Try.func12 rfl Try.ntmps12 rfl ?_
  intro w0 R
  obtain ⟨vo, vc, rfl, hvc⟩ := Bs.form hv
  refine WC.seq ?_
  refine WC.region ?_
  refine WL.y rfl (Yd.assign rfl) ?_
  refine WL.nil ?_
  refine DN.then_normal ?_
  refine WC.seq ?_
  refine WC.seq ?_
  refine WC.region ?_
  refine WL.y rfl (Yd.move rfl) ?_
  refine WL.y rfl (Yd.len (e := 5) (by kernel_rfl) rfl) ?_
  refine WL.y rfl (Yd.gtr rfl rfl) ?_
  refine WL.nil ?_
  refine DN.then_normal ?_
  refine WC.ite rfl (fun h19 => ?_) (fun h19 => ?_)
  · refine WC.seq ?_
    refine WC.region ?_
    refine WL.r rfl (Ent.func Try.call27 rfl) (known03 _) ?_
    refine WL.y rfl (Yd.assign rfl) ?_
    refine WL.nil ?_
    refine DN.then_normal ?_
    refine WC.ret ?_
    refine DN.then_ret ?_
    refine DN.ret1 Try.results12 rfl ?_
    exact ⟨rfl, rfl⟩
  · have hm6 : more.length ≤ 6000 := by omega
    refine WC.skip ?_
    refine DN.then_normal ?_
    refine WC.seq ?_
    refine WC.region ?_
    refine WL.y rfl (Yd.move rfl) ?_
    refine WL.ca rfl (Ent.func Try.call39 rfl) (row_tells _ as1 _ hu hl1 hls1) ?_
    rintro q H1 ⟨g1, b1, vg1, ve1, gvs1, Cb1, Cg1, Ce1, rfl, hr1, rfl⟩
    obtain ⟨b1o, b1c, rfl, hb1c⟩ := hr1.bytes.form
    obtain ⟨vg1o, vg1c, rfl, hvg1c⟩ := hr1.list.form
    obtain ⟨ve1o, ve1c, rfl, hve1c⟩ := hr1.ends.form
    have hfew1 := flat_few g1
    have hlen1 := hr1.len
    refine WL.y rfl (Yd.move rfl) ?_
    refine WL.y rfl (Yd.extract rfl rfl) ?_
    refine WL.y rfl (Yd.extract rfl rfl) ?_
    refine WL.y rfl (Yd.extract rfl rfl) ?_
    refine WL.y rfl (Yd.assign rfl) ?_
    refine WL.y rfl (Yd.assign rfl) ?_
    refine WL.y rfl (Yd.assign rfl) ?_
    refine WL.nil ?_
    refine DN.then_normal ?_
    refine WC.seq ?_
    refine WC.region ?_
    refine WL.y rfl (Yd.move rfl) ?_
    refine WL.ca rfl (Ent.func Try.call25 rfl) (copy_spec _ (flat g1) _ (hr1.bytes.bs.mono fun y hy => by simp [hy]) (by omega)) ?_
    rintro x3 H3 ⟨C3, h3, rfl⟩
    refine WL.y rfl (Yd.assign rfl) ?_
    refine WL.nil ?_
    refine DN.then_normal ?_
    refine WC.seq ?_
    refine WC.region ?_
    refine WL.y rfl (Yd.move rfl) ?_
    refine WL.h rfl (Hd.buildBytes (e := 5) [0#8] (by kernel_rfl) (by kernel_rfl) (by kernel_rfl) rfl rfl (by kernel_rfl) fun rz => ⟨_, rfl, ?_⟩)
    refine WL.h rfl (Hd.appendB (e := 5) (zs := [.int .u8 0]) (C := C3) (D := row rz (bc [0#8]) 5 :: (Cb1 ++ (Cg1 ++ (Ce1 ++ H)))) (by kernel_rfl) (by kernel_rfl) rfl rfl rfl h3 (Bs.block (bs := [0#8]) rfl (by simp) (List.mem_append_right _ List.mem_cons_self)) (by simp only [List.length_cons, List.length_nil]; omega) (List.perm_middle).symm fun v4 C4 h4 _ => ⟨_, rfl, ?_⟩)
    refine WL.y rfl (Yd.assign rfl) ?_
    refine WL.nil ?_
    refine DN.then_normal ?_
    refine WC.seq ?_
    refine WC.region ?_
    refine WL.y rfl (Yd.move rfl) ?_
    refine WL.y rfl (Yd.move rfl) ?_
    refine WL.h rfl (Hd.appendB (e := 5) (zs := [.int .u8 0]) (C := C4) (D := row rz (bc [0#8]) 5 :: (Cb1 ++ (Cg1 ++ (Ce1 ++ H)))) (by kernel_rfl) (by kernel_rfl) rfl rfl rfl h4 (hv.mono fun x hx => by simp [hx]) (by simp only [List.length_append, List.length_cons, List.length_nil]; omega) (List.Perm.refl _) fun v5 C5 h5 _ => ⟨_, rfl, ?_⟩)
    refine WL.y rfl (Yd.assign rfl) ?_
    refine WL.nil ?_
    refine DN.then_normal ?_
    refine WC.seq ?_
    refine WC.region ?_
    refine WL.y rfl (Yd.move rfl) ?_
    refine WL.ca rfl (Ent.func Try.call36 rfl) (all2_tells _ (flat g1 ++ [0#8] ++ more) _ (h5.bs.mono fun y hy => by simp [hy]) (by simp only [List.length_append, List.length_cons, List.length_nil]; omega)) ?_
    rintro q H6 ⟨u6, ws6, A6, D6, rfl, hA6, hW6, rfl⟩
    have hall : allOf (flat g1 ++ [0#8] ++ more) = (g1, (flat g1).length, 0) := by
      rw [List.append_assoc]
      exact allOf_stop g1 ([0#8] ++ more) hr1.short (.inr rfl)
    rw [hall] at hA6 hW6 ⊢
    obtain ⟨u6o, u6c, rfl, hu6c⟩ := hA6.form
    obtain ⟨x5o, x5c, rfl, hx5c⟩ := h5.form
    obtain ⟨Z, hZ⟩ : ∃ Z, Z = A6 ++ (D6 ++ (C5 ++ (row rz (bc [0#8]) 5 :: (Cb1 ++ (Cg1 ++ (Ce1 ++ H)))))) := ⟨_, rfl⟩
    have hx5 := h5.bs.mono (B := Z) fun y hy => by rw [hZ]; simp [hy]
    have hve := hr1.ends.rs.mono (B := Z) fun y hy => by rw [hZ]; simp [hy]
    have hvg := hr1.list.rs.mono (B := Z) fun y hy => by rw [hZ]; simp [hy]
    have heach := hr1.each.mono (B := Z) fun y hy => by rw [hZ]; simp [hy]
    have hbs6 := (hW6.bss hA6).mono (B := Z) fun y hy => by rw [hZ]; simp at hy; rcases hy with hy | hy <;> simp [hy]
    have hbg := (hr1.each.bss hr1.list).mono (B := Z) fun y hy => by rw [hZ]; simp at hy; rcases hy with hy | hy <;> simp [hy]
    have hsub : H.Sublist Z := by rw [hZ]; (repeat (first | exact List.Sublist.refl _ | exact List.nil_sublist _ | apply List.Sublist.cons_cons | apply List.Sublist.cons | apply List.sublist_append_of_sublist_right))
    rw [← hZ]
    refine WL.y rfl (Yd.move rfl) ?_
    refine WL.y rfl (Yd.extract rfl rfl) ?_
    refine WL.y rfl (Yd.extract rfl rfl) ?_
    refine WL.y rfl (Yd.extract rfl rfl) ?_
    refine WL.y rfl (Yd.assign rfl) ?_
    refine WL.y rfl (Yd.assign rfl) ?_
    refine WL.y rfl (Yd.assign rfl) ?_
    refine WL.nil ?_
    refine DN.then_normal ?_
    refine WC.seq ?_
    refine WC.seq ?_
    refine WC.region ?_
    refine WL.y rfl (Yd.move rfl) ?_
    refine WL.y rfl (Yd.neq rfl rfl) ?_
    refine WL.renamed (t := 42) (v := .bool false) rfl (congrArg Value.bool (by simp)) ?_
    refine WL.y rfl (Yd.move rfl) ?_
    refine WL.gy (dj := 43) rfl rfl rfl (Yd.move rfl) ?_
    refine WL.gy (dj := 43) rfl rfl rfl (Yd.move rfl) ?_
    refine WL.gy (dj := 43) rfl rfl rfl (Yd.len (e := 5) (by kernel_rfl) rfl) ?_
    refine WL.gy (dj := 43) rfl rfl rfl (Yd.neq rfl rfl) ?_
    refine WL.renamed (t := 47) (v := .bool false) rfl (congrArg Value.bool (by simp)) ?_
    refine WL.y rfl (Yd.pickF rfl rfl) ?_
    refine WL.y rfl (Yd.move rfl) ?_
    refine WL.gy (dj := 49) rfl rfl rfl (Yd.move rfl) ?_
    refine WL.gy (dj := 49) rfl rfl rfl (Yd.move rfl) ?_
    refine WL.gr (dj := 49) rfl rfl rfl (Ent.func Try.call38 rfl) (sameLists_reads _ _ g1 g1 _ hbs6 hbg (by omega)) ?_
    refine WL.gy (dj := 49) rfl rfl rfl (Yd.notB rfl) ?_
    refine WL.renamed (t := 53) (v := .bool false) rfl (congrArg Value.bool (by simp)) ?_
    refine WL.y rfl (Yd.pickF rfl rfl) ?_
    refine WL.nil ?_
    refine DN.then_normal ?_
    refine WC.no rfl ?_
    refine WC.skip ?_
    refine DN.then_normal ?_
    refine WC.seq ?_
    refine WC.region ?_
    refine WL.y rfl (Yd.assign rfl) ?_
    refine WL.nil ?_
    refine DN.then_normal ?_
    refine WC.seq ?_
    refine WC.seq ?_
    refine WC.region ?_
    refine WL.y rfl (Yd.assign rfl) ?_
    refine WL.nil ?_
    refine DN.then_normal ?_
    refine WC.block ?_
    refine WC.loop (fun i : Nat => i ≤ g1.length) (fun i => [(6, .slice vg1o g1.length vg1c), (7, .slice ve1o g1.length ve1c), (8, .slice x5o (flat g1 ++ [0#8] ++ more).length x5c), (12, .int .i64 (flat (g1.take i)).length), (13, .int .i64 i)]) (fun _ => Z) (fun i => g1.length - i) 0 (Nat.zero_le _) ⟨rfl, rfl, rfl, rfl, rfl, trivial⟩ (List.Perm.refl _) ?_
    intro i hi
    refine WC.seq ?_
    refine WC.seq ?_
    refine WC.region ?_
    refine WL.y rfl (Yd.move rfl) ?_
    refine WL.y rfl (Yd.move rfl) ?_
    refine WL.y rfl (Yd.len (e := 22) (by kernel_rfl) rfl) ?_
    refine WL.y rfl (Yd.lss rfl rfl) ?_
    refine WL.nil ?_
    refine DN.then_normal ?_
    refine WC.ite rfl (fun h58 => ?_) (fun h58 => ?_)
    · have hig : i < g1.length := by omega
      obtain ⟨w, hwi, hwb⟩ := hr1.each.2 i hig
      obtain ⟨wo, wc, rfl, hwc⟩ := hwb.form
      have hgo := getOf_row g1 ([0#8] ++ more) hr1.short i hig
      rw [← List.append_assoc] at hgo
      have hle := flat_take_le g1 i
      refine WC.skip ?_
      refine DN.then_normal ?_
      refine WC.seq ?_
      refine WC.block ?_
      refine WC.seq ?_
      refine WC.region ?_
      refine WL.y rfl (Yd.move rfl) ?_
      refine WL.y rfl (Yd.move rfl) ?_
      refine WL.ca rfl (Ent.func Try.call34 rfl) (get2_tells _ (flat g1 ++ [0#8] ++ more) ((flat (g1.take i)).length : Nat) _ hx5 (by simp only [List.length_append, List.length_cons, List.length_nil]; omega) (by omega)) ?_
      rintro q H7 ⟨u7, A7, rfl, hA7, rfl⟩
      rw [hgo] at hA7 ⊢
      refine WL.y rfl (Yd.move rfl) ?_
      refine WL.y rfl (Yd.extract rfl rfl) ?_
      refine WL.y rfl (Yd.extract rfl rfl) ?_
      refine WL.y rfl (Yd.extract rfl rfl) ?_
      refine WL.y rfl (Yd.assign rfl) ?_
      refine WL.y rfl (Yd.assign rfl) ?_
      refine WL.y rfl (Yd.assign rfl) ?_
      refine WL.nil ?_
      refine DN.then_normal ?_
      refine WC.seq ?_
      refine WC.seq ?_
      refine WC.region ?_
      refine WL.y rfl (Yd.move rfl) ?_
      refine WL.y rfl (Yd.neq rfl rfl) ?_
      refine WL.renamed (t := 69) (v := .bool false) rfl (congrArg Value.bool (by simp)) ?_
      refine WL.y rfl (Yd.move rfl) ?_
      refine WL.gy (dj := 70) rfl rfl rfl (Yd.move rfl) ?_
      refine WL.gy (dj := 70) rfl rfl rfl (Yd.move rfl) ?_
      refine WL.gy (dj := 70) rfl rfl rfl (Yd.move rfl) ?_
      refine WL.elemN (e := 3) (dj := 70) (by kernel_rfl) (by kernel_rfl) (by kernel_rfl) rfl rfl (rfl) (hve.mono fun y hy => List.mem_append_right _ hy) (ends_cell g1 i hig) (by omega) rfl rfl rfl rfl rfl ?_
      intro _
      refine WL.gy (dj := 70) rfl rfl rfl (Yd.neq rfl rfl) ?_
      refine WL.renamed (t := 76) (v := .bool false) rfl (congrArg Value.bool (by simp)) ?_
      refine WL.y rfl (Yd.pickF rfl rfl) ?_
      refine WL.y rfl (Yd.move rfl) ?_
      refine WL.gy (dj := 78) rfl rfl rfl (Yd.move rfl) ?_
      refine WL.gy (dj := 78) rfl rfl rfl (Yd.move rfl) ?_
      refine WL.gy (dj := 78) rfl rfl rfl (Yd.move rfl) ?_
      refine WL.elemN (e := 22) (dj := 78) (by kernel_rfl) (by kernel_rfl) (by kernel_rfl) rfl rfl (rfl) (hvg.mono fun y hy => List.mem_append_right _ hy) (hwi) (by omega) rfl rfl rfl rfl rfl ?_
      intro _
      refine WL.gr (dj := 78) rfl rfl rfl (Ent.func Try.call31 rfl) (same_reads _ _ g1[i] g1[i] _ (hA7.bs.mono fun y hy => List.mem_append_left _ hy) ((hwb.mono fun y hy => by rw [hZ]; simp [hy]).mono fun y hy => List.mem_append_right _ hy)) ?_
      refine WL.gy (dj := 78) rfl rfl rfl (Yd.notB rfl) ?_
      refine WL.renamed (t := 85) (v := .bool false) rfl (congrArg Value.bool (by simp)) ?_
      refine WL.y rfl (Yd.pickF rfl rfl) ?_
      refine WL.nil ?_
      refine DN.then_normal ?_
      refine WC.no rfl ?_
      refine WC.skip ?_
      refine DN.then_normal ?_
      refine WC.region ?_
      refine WL.y rfl (Yd.move rfl) ?_
      refine WL.y rfl (Yd.assign rfl) ?_
      refine WL.nil ?_
      refine DN.block_normal ?_
      refine DN.then_normal ?_
      refine WC.region ?_
      refine WL.y rfl (Yd.move rfl) ?_
      refine WL.y rfl (Yd.add rfl rfl (by omega) (by omega)) ?_
      refine WL.y rfl (Yd.assign rfl) ?_
      refine WL.nil ?_
      refine DN.forget Z (List.sublist_append_right _ _) ?_
      exact DN.again (i + 1) (by omega) (by omega) ⟨rfl, rfl, rfl, rfl, rfl, trivial⟩ (List.Perm.refl _)
    · refine WC.exit ?_
      refine DN.then_exit ?_
      refine DN.then_exit ?_
      refine DN.block_exit ?_
      refine DN.then_normal ?_
      refine WC.seq ?_
      refine WC.region ?_
      refine WL.r rfl (Ent.func Try.call27 rfl) (known03 _) ?_
      refine WL.y rfl (Yd.assign rfl) ?_
      refine WL.nil ?_
      refine DN.then_normal ?_
      refine WC.ret ?_
      refine DN.forget H hsub ?_
      refine DN.ret1 Try.results12 rfl ?_
      exact ⟨rfl, rfl⟩

/-- drayage/drayagelaw03.FrameCut -/
theorem law_FrameCut (u : Value) (cut : Int) (as1 : List (List B8')) (H : List Ck) (hu : Bss u as1 H) (hl1 : as1.length ≤ 9223372036854775807) (hls1 : ∀ l ∈ as1, l.length ≤ 9223372036854775807) : Reads Try.prog 13 [u, .int .i64 cut] H (.bool true) := by
  refine Tells.enter Try.func13 rfl Try.ntmps13 rfl ?_
  intro w0 R
  refine WC.seq ?_
  refine WC.region ?_
  refine WL.y rfl (Yd.assign rfl) ?_
  refine WL.nil ?_
  refine DN.then_normal ?_
  refine WC.seq ?_
  refine WC.region ?_
  refine WL.y rfl (Yd.move rfl) ?_
  refine WL.ca rfl (Ent.func Try.call39 rfl) (row_tells _ as1 _ hu hl1 hls1) ?_
  rintro q H1 ⟨g1, b1, vg1, ve1, gvs1, Cb1, Cg1, Ce1, rfl, hr1, rfl⟩
  obtain ⟨b1o, b1c, rfl, hb1c⟩ := hr1.bytes.form
  obtain ⟨vg1o, vg1c, rfl, hvg1c⟩ := hr1.list.form
  obtain ⟨ve1o, ve1c, rfl, hve1c⟩ := hr1.ends.form
  have hfew1 := flat_few g1
  have hlen1 := hr1.len
  refine WL.y rfl (Yd.move rfl) ?_
  refine WL.y rfl (Yd.extract rfl rfl) ?_
  refine WL.y rfl (Yd.extract rfl rfl) ?_
  refine WL.y rfl (Yd.extract rfl rfl) ?_
  refine WL.y rfl (Yd.assign rfl) ?_
  refine WL.y rfl (Yd.assign rfl) ?_
  refine WL.y rfl (Yd.assign rfl) ?_
  refine WL.nil ?_
  refine DN.then_normal ?_
  refine WC.seq ?_
  refine WC.region ?_
  obtain ⟨k, hk⟩ : ∃ k, k = (BitVec.ofInt 64 cut % BitVec.ofNat 64 ((flat g1).length + 1)).toNat := ⟨_, rfl⟩
  have hkl : k ≤ (flat g1).length := by
    rw [hk, BitVec.toNat_umod, ofNat_toNat (by omega)]
    have := Nat.mod_lt (BitVec.ofInt 64 cut).toNat (show 0 < (flat g1).length + 1 by omega)
    omega
  refine WL.y rfl (Yd.move rfl) ?_
  refine WL.y rfl (Yd.to64 (BitVec.ofInt 64 cut) (by kernel_rfl) (by kernel_rfl) rfl rfl) ?_
  refine WL.y rfl (Yd.move rfl) ?_
  refine WL.y rfl (Yd.len (e := 5) (by kernel_rfl) rfl) ?_
  refine WL.y rfl (Yd.add rfl rfl (by omega) (by omega)) ?_
  refine WL.y rfl (Yd.to64 (BitVec.ofNat 64 ((flat g1).length + 1)) (by kernel_rfl) (by kernel_rfl) rfl (by rw [← ofInt_nat]; rfl)) ?_
  refine WL.y rfl (Yd.rem64 (BitVec.ofInt 64 cut) (BitVec.ofNat 64 ((flat g1).length + 1)) rfl rfl rfl rfl (by rw [ofNat_toNat (by omega)]; omega)) ?_
  refine WL.y rfl (Yd.toInt (m := (k : Int)) (by kernel_rfl) (by kernel_rfl) (by rw [hk]; rfl) (by omega) (by omega)) ?_
  refine WL.y rfl (Yd.assign rfl) ?_
  refine WL.nil ?_
  refine DN.then_normal ?_
  refine WC.seq ?_
  refine WC.region ?_
  refine WL.y rfl (Yd.assign rfl) ?_
  refine WL.nil ?_
  refine DN.then_normal ?_
  refine WC.seq ?_
  refine WC.region ?_
  refine WL.y rfl (Yd.assign rfl) ?_
  refine WL.nil ?_
  refine DN.then_normal ?_
  refine WC.seq ?_
  refine WC.block ?_
  refine WC.loop (fun n : Nat => n ≤ g1.length ∧ (flat (g1.take n)).length ≤ k) (fun n => [(5, .slice b1o (flat g1).length b1c), (6, .slice vg1o g1.length vg1c), (7, .slice ve1o g1.length ve1c), (8, .int .i64 k), (9, .int .i64 n), (10, .int .i64 (flat (g1.take n)).length)]) (fun _ => Cb1 ++ (Cg1 ++ (Ce1 ++ H))) (fun n => g1.length - n) 0 ⟨Nat.zero_le _, by simp [flat_nil]⟩ ⟨rfl, rfl, rfl, rfl, rfl, rfl, trivial⟩ (List.Perm.refl _) ?_
  rintro n ⟨hn, hnk⟩
  refine WC.seq ?_
  refine WC.seq ?_
  refine WC.region ?_
  refine WL.y rfl (Yd.move rfl) ?_
  refine WL.y rfl (Yd.move rfl) ?_
  refine WL.y rfl (Yd.len (e := 3) (by kernel_rfl) rfl) ?_
  refine WL.y rfl (Yd.lss rfl rfl) ?_
  refine WL.y rfl (Yd.move rfl) ?_
  refine WL.partP (t := 32) rfl (fun hg32 => ?_) (fun hg32 => ?_)
  · refine WL.gy (dj := 32) rfl rfl rfl (Yd.move rfl) ?_
    refine WL.gy (dj := 32) rfl rfl rfl (Yd.move rfl) ?_
    refine WL.elemN (e := 3) (dj := 32) (by kernel_rfl) (by kernel_rfl) (by kernel_rfl) rfl rfl (rfl) (hr1.ends.rs.mono fun y hy => by simp [hy]) (ends_cell g1 n (by omega)) (by omega) rfl rfl rfl rfl rfl ?_
    intro _
    refine WL.gy (dj := 32) rfl rfl rfl (Yd.move rfl) ?_
    refine WL.gy (dj := 32) rfl rfl rfl (Yd.leq rfl rfl) ?_
    refine WL.y rfl (Yd.pickT rfl rfl) ?_
    refine WL.nil ?_
    refine DN.then_normal ?_
    refine WC.ite rfl (fun h39 => ?_) (fun h39 => ?_)
    · refine WC.skip ?_
      refine DN.then_normal ?_
      refine WC.block ?_
      refine WC.seq ?_
      refine WC.region ?_
      refine WL.y rfl (Yd.move rfl) ?_
      refine WL.y rfl (Yd.move rfl) ?_
      refine WL.elem (e := 3) (by kernel_rfl) (by kernel_rfl) (by kernel_rfl) rfl rfl (rfl) (hr1.ends.rs.mono fun y hy => by simp [hy]) (ends_cell g1 n (by omega)) (by omega) rfl rfl ?_
      intro _
      refine WL.y rfl (Yd.assign rfl) ?_
      refine WL.nil ?_
      refine DN.then_normal ?_
      refine WC.region ?_
      refine WL.y rfl (Yd.move rfl) ?_
      refine WL.y rfl (Yd.add rfl rfl (by omega) (by omega)) ?_
      refine WL.y rfl (Yd.assign rfl) ?_
      refine WL.nil ?_
      refine DN.block_normal ?_
      exact DN.again (n + 1) ⟨by omega, by omega⟩ (by omega) ⟨rfl, rfl, rfl, rfl, rfl, rfl, trivial⟩ (List.Perm.refl _)
    · refine WC.exit ?_
      refine DN.then_exit ?_
      refine DN.then_exit ?_
      refine DN.block_exit ?_
      refine DN.then_normal ?_
      refine WC.seq ?_
      refine WC.region ?_
      have hcut := allOf_cut g1 hr1.short n k (by omega) hkl hnk (by first | (left; omega) | (right; omega))
      refine WL.y rfl (Yd.move rfl) ?_
      refine WL.y rfl (Yd.move rfl) ?_
      refine WL.y rfl (Yd.sliceTo (e := 5) (s := 1) (j := k) (by kernel_rfl) (by kernel_rfl) rfl rfl rfl (by omega)) ?_
      refine WL.ca rfl (Ent.func Try.call36 rfl) (all2_tells _ ((flat g1).take k) _ (hr1.bytes.bs.upto (by omega) |>.mono fun y hy => by simp [hy]) (by rw [List.length_take]; omega)) ?_
      rintro q H6 ⟨u6, ws6, A6, D6, rfl, hA6, hW6, rfl⟩
      rw [hcut] at hA6 hW6 ⊢
      obtain ⟨u6o, u6c, rfl, hu6c⟩ := hA6.form
      refine WL.y rfl (Yd.move rfl) ?_
      refine WL.y rfl (Yd.extract rfl rfl) ?_
      refine WL.y rfl (Yd.extract rfl rfl) ?_
      refine WL.y rfl (Yd.extract rfl rfl) ?_
      refine WL.y rfl (Yd.assign rfl) ?_
      refine WL.y rfl (Yd.assign rfl) ?_
      refine WL.y rfl (Yd.assign rfl) ?_
      refine WL.nil ?_
      refine DN.then_normal ?_
      refine WC.seq ?_
      refine WC.region ?_
      refine WL.y rfl (Yd.move rfl) ?_
      refine WL.y rfl (Yd.move rfl) ?_
      refine WL.y rfl (Yd.move rfl) ?_
      refine WL.y rfl (Yd.sliceTo (e := 22) (s := 1) (j := n) (by kernel_rfl) (by kernel_rfl) rfl rfl rfl (by omega)) ?_
      refine WL.r rfl (Ent.func Try.call38 rfl) (sameLists_reads _ _ (g1.take n) (g1.take n) _ ((hW6.bss hA6).mono fun y hy => by simp at hy; rcases hy with hy | hy <;> simp [hy]) (bss_take (hr1.list.rs.mono fun y hy => by simp [hy]) (hr1.each.mono fun y hy => by simp [hy]) hn) (by simp; omega)) ?_
      refine WL.renamed (t := 58) (v := .bool true) rfl (congrArg Value.bool (by simp)) ?_
      refine WL.y rfl (Yd.move rfl) ?_
      refine WL.gy (dj := 59) rfl rfl rfl (Yd.move rfl) ?_
      refine WL.gy (dj := 59) rfl rfl rfl (Yd.move rfl) ?_
      refine WL.gy (dj := 59) rfl rfl rfl (Yd.eql rfl rfl) ?_
      refine WL.renamed (t := 62) (v := .bool true) rfl (congrArg Value.bool (by simp)) ?_
      refine WL.y rfl (Yd.pickT rfl rfl) ?_
      refine WL.y rfl (Yd.move rfl) ?_
      refine WL.gy (dj := 64) rfl rfl rfl (Yd.move rfl) ?_
      refine WL.gy (dj := 64) rfl rfl rfl (Yd.eql rfl rfl) ?_
      refine WL.gy (dj := 64) rfl rfl rfl (Yd.move rfl) ?_
      refine WL.gy (dj := 64) rfl rfl rfl (Yd.move rfl) ?_
      refine WL.gy (dj := 64) rfl rfl rfl (Yd.eql rfl rfl) ?_
      refine WL.gy (dj := 64) rfl rfl rfl (Yd.eqlB Try.underlying4 rfl rfl) ?_
      refine WL.renamed (t := 70) (v := .bool true) rfl (congrArg Value.bool (cut_bool _ k)) ?_
      refine WL.y rfl (Yd.pickT rfl rfl) ?_
      refine WL.y rfl (Yd.move rfl) ?_
      refine WL.gr (dj := 72) rfl rfl rfl (Ent.func Try.call27 rfl) (known03 _) ?_
      refine WL.y rfl (Yd.pickT rfl rfl) ?_
      refine WL.y rfl (Yd.assign rfl) ?_
      refine WL.nil ?_
      refine DN.then_normal ?_
      refine WC.ret ?_
      refine DN.forget H (by (repeat (first | exact List.Sublist.refl _ | exact List.nil_sublist _ | apply List.Sublist.cons_cons | apply List.Sublist.cons | apply List.sublist_append_of_sublist_right))) ?_
      refine DN.ret1 Try.results13 rfl ?_
      exact ⟨rfl, rfl⟩
  · refine WL.gn (dj := 32) rfl rfl rfl rfl ?_
    refine WL.gn (dj := 32) rfl rfl rfl rfl ?_
    refine WL.gn (dj := 32) rfl rfl rfl rfl ?_
    refine WL.gn (dj := 32) rfl rfl rfl rfl ?_
    refine WL.gn (dj := 32) rfl rfl rfl rfl ?_
    refine WL.gn (dj := 32) rfl rfl rfl rfl ?_
    refine WL.y rfl (Yd.pickF rfl rfl) ?_
    refine WL.nil ?_
    refine DN.then_normal ?_
    refine WC.no rfl ?_
    refine WC.exit ?_
    refine DN.then_exit ?_
    refine DN.then_exit ?_
    refine DN.block_exit ?_
    refine DN.then_normal ?_
    refine WC.seq ?_
    refine WC.region ?_
    have hcut := allOf_cut g1 hr1.short n k (by omega) hkl hnk (by first | (left; omega) | (right; omega))
    refine WL.y rfl (Yd.move rfl) ?_
    refine WL.y rfl (Yd.move rfl) ?_
    refine WL.y rfl (Yd.sliceTo (e := 5) (s := 1) (j := k) (by kernel_rfl) (by kernel_rfl) rfl rfl rfl (by omega)) ?_
    refine WL.ca rfl (Ent.func Try.call36 rfl) (all2_tells _ ((flat g1).take k) _ (hr1.bytes.bs.upto (by omega) |>.mono fun y hy => by simp [hy]) (by rw [List.length_take]; omega)) ?_
    rintro q H6 ⟨u6, ws6, A6, D6, rfl, hA6, hW6, rfl⟩
    rw [hcut] at hA6 hW6 ⊢
    obtain ⟨u6o, u6c, rfl, hu6c⟩ := hA6.form
    refine WL.y rfl (Yd.move rfl) ?_
    refine WL.y rfl (Yd.extract rfl rfl) ?_
    refine WL.y rfl (Yd.extract rfl rfl) ?_
    refine WL.y rfl (Yd.extract rfl rfl) ?_
    refine WL.y rfl (Yd.assign rfl) ?_
    refine WL.y rfl (Yd.assign rfl) ?_
    refine WL.y rfl (Yd.assign rfl) ?_
    refine WL.nil ?_
    refine DN.then_normal ?_
    refine WC.seq ?_
    refine WC.region ?_
    refine WL.y rfl (Yd.move rfl) ?_
    refine WL.y rfl (Yd.move rfl) ?_
    refine WL.y rfl (Yd.move rfl) ?_
    refine WL.y rfl (Yd.sliceTo (e := 22) (s := 1) (j := n) (by kernel_rfl) (by kernel_rfl) rfl rfl rfl (by omega)) ?_
    refine WL.r rfl (Ent.func Try.call38 rfl) (sameLists_reads _ _ (g1.take n) (g1.take n) _ ((hW6.bss hA6).mono fun y hy => by simp at hy; rcases hy with hy | hy <;> simp [hy]) (bss_take (hr1.list.rs.mono fun y hy => by simp [hy]) (hr1.each.mono fun y hy => by simp [hy]) hn) (by simp; omega)) ?_
    refine WL.renamed (t := 58) (v := .bool true) rfl (congrArg Value.bool (by simp)) ?_
    refine WL.y rfl (Yd.move rfl) ?_
    refine WL.gy (dj := 59) rfl rfl rfl (Yd.move rfl) ?_
    refine WL.gy (dj := 59) rfl rfl rfl (Yd.move rfl) ?_
    refine WL.gy (dj := 59) rfl rfl rfl (Yd.eql rfl rfl) ?_
    refine WL.renamed (t := 62) (v := .bool true) rfl (congrArg Value.bool (by simp)) ?_
    refine WL.y rfl (Yd.pickT rfl rfl) ?_
    refine WL.y rfl (Yd.move rfl) ?_
    refine WL.gy (dj := 64) rfl rfl rfl (Yd.move rfl) ?_
    refine WL.gy (dj := 64) rfl rfl rfl (Yd.eql rfl rfl) ?_
    refine WL.gy (dj := 64) rfl rfl rfl (Yd.move rfl) ?_
    refine WL.gy (dj := 64) rfl rfl rfl (Yd.move rfl) ?_
    refine WL.gy (dj := 64) rfl rfl rfl (Yd.eql rfl rfl) ?_
    refine WL.gy (dj := 64) rfl rfl rfl (Yd.eqlB Try.underlying4 rfl rfl) ?_
    refine WL.renamed (t := 70) (v := .bool true) rfl (congrArg Value.bool (cut_bool _ k)) ?_
    refine WL.y rfl (Yd.pickT rfl rfl) ?_
    refine WL.y rfl (Yd.move rfl) ?_
    refine WL.gr (dj := 72) rfl rfl rfl (Ent.func Try.call27 rfl) (known03 _) ?_
    refine WL.y rfl (Yd.pickT rfl rfl) ?_
    refine WL.y rfl (Yd.assign rfl) ?_
    refine WL.nil ?_
    refine DN.then_normal ?_
    refine WC.ret ?_
    refine DN.forget H (by (repeat (first | exact List.Sublist.refl _ | exact List.nil_sublist _ | apply List.Sublist.cons_cons | apply List.Sublist.cons | apply List.sublist_append_of_sublist_right))) ?_
    refine DN.ret1 Try.results13 rfl ?_
    exact ⟨rfl, rfl⟩

end Go.Proofs.Ytfacofbobmlmiaa
