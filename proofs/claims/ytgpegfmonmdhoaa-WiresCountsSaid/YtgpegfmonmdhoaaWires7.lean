/-
  The walks of the net's laws: WiresFull, WiresCut.
-/
import Derived.Test.YtgpegfmonmdhoaaWires6
import Derived.Test.YtgpegfmonmdhoaaWireMath3
set_option linter.unusedVariables false
set_option linter.unusedSimpArgs false
set_option maxHeartbeats 4000000
set_option maxRecDepth 100000
namespace Go.Proofs.Ytgpegfmonmdhoaa
open Go.SL


/-- drayage/drayagelaw18.WiresFull -/
theorem law_WiresFull (at_ : Int) (which : Bool) (H : List Ck) : Reads Try.prog 6 [.int .i64 at_, .bool which] H (.bool true) := by
  refine Tells.enter Try.func6 rfl Try.ntmps6 rfl ?_
  intro w0 R
  obtain ⟨k, hk, hk200⟩ : ∃ k : Nat, (BitVec.ofInt 64 at_ % 200#64).toNat = k ∧ k < 200 := ⟨_, rfl, by rw [BitVec.toNat_umod]; exact Nat.mod_lt _ (by decide)⟩
  refine WC.seq ?_
  refine WC.region ?_
  refine WL.y rfl (Yd.assign rfl) ?_
  refine WL.nil ?_
  refine DN.then_normal ?_
  refine WC.seq ?_
  refine WC.region ?_
  refine WL.c rfl (Ent.func Try.call9 rfl) (new_tells 3) (Sp.p (by repeat (first | exact Sp.here | exact Sp.sn | exact Sp.s0 | exact Fr.here | apply Sp.s2 | apply Sp.sx | apply Fr.fc | apply Fr.al | apply Fr.fa | apply Sp.sc | apply Sp.al | apply Sp.sa))) ?_
  rintro q C0 hq
  rw [if_pos (by decide)] at hq
  obtain ⟨p, rfl, h0⟩ := hq
  refine WL.y rfl (Yd.move rfl) ?_
  refine WL.y rfl (Yd.extract rfl rfl) ?_
  refine WL.y rfl (Yd.extract rfl rfl) ?_
  refine WL.y rfl (Yd.assign rfl) ?_
  refine WL.y rfl (Yd.assign rfl) ?_
  refine WL.nil ?_
  refine DN.then_normal ?_
  refine WC.seq ?_
  refine WC.seq ?_
  refine WC.region ?_
  refine WL.y rfl (Yd.move rfl) ?_
  refine WL.y rfl (Yd.neq rfl rfl) ?_
  refine WL.renamed (t := 15) (v := .bool false) rfl (congrArg Value.bool (by decide)) ?_
  refine WL.y rfl (Yd.move rfl) ?_
  refine WL.gy (dj := 16) rfl rfl rfl (Yd.move rfl) ?_
  refine WL.gy (dj := 16) rfl rfl rfl (Yd.eqlNil Try.underlying22 rfl rfl) ?_
  refine WL.renamed (t := 18) (v := .bool false) rfl (congrArg Value.bool (rfl)) ?_
  refine WL.y rfl (Yd.pickF rfl rfl) ?_
  refine WL.nil ?_
  refine DN.then_normal ?_
  refine WC.no rfl ?_
  refine WC.skip ?_
  refine DN.then_normal ?_
  refine WC.seq ?_
  refine WC.seq ?_
  refine WC.region ?_
  refine WL.y rfl (Yd.assign rfl) ?_
  refine WL.nil ?_
  refine DN.then_normal ?_
  refine WC.block ?_
  refine WC.loopK (fun z : Nat × List Ck => z.1 ≤ 200 ∧ WAt 72 34 5 p (netW 3 (fullL z.1) (List.replicate 36 0)) z.2 ∧ WInv (netW 3 (fullL z.1) (List.replicate 36 0))) (fun z : Nat × List Ck => [(7, .int .i64 (z.1 : Int))]) (fun z : Nat × List Ck => z.2 ++ H) (fun z : Nat × List Ck => 200 - z.1) ((0, C0)) (⟨Nat.zero_le _, h0, newW_inv (n := 3) (by decide)⟩) (Sx.put rfl ((by repeat (first | exact Sx.refl | refine Sx.skip rfl ?_)))) (Sp.all (by repeat (first | exact Sp.here | exact Sp.sn | exact Sp.s0 | exact Fr.here | apply Sp.s2 | apply Sp.sx | apply Fr.fc | apply Fr.al | apply Fr.fa | apply Sp.sc | apply Sp.al | apply Sp.sa))) ?_
  rintro ⟨i, C1⟩ ⟨hi, h1, hI1⟩
  simp only at hi h1 hI1
  refine WC.seq ?_
  refine WC.seq ?_
  refine WC.region ?_
  refine WL.y rfl (Yd.move rfl) ?_
  refine WL.y rfl (Yd.lss rfl rfl) ?_
  refine WL.nil ?_
  refine DN.then_normal ?_
  refine WC.ite rfl (fun h33 => ?_) (fun h33 => ?_)
  · refine WC.skip ?_
    refine DN.then_normal ?_
    refine WC.seq ?_
    refine WC.block ?_
    refine WC.seq ?_
    refine WC.region ?_
    refine WL.y rfl (Yd.move rfl) ?_
    refine WL.y rfl (Yd.move rfl) ?_
    refine WL.y rfl (Yd.rem rfl rfl (by omega) (by omega)) ?_
    refine WL.y rfl (Yd.move rfl) ?_
    refine WL.y rfl (Yd.add rfl rfl (by omega) (by omega)) ?_
    refine WL.y rfl (Yd.rem rfl rfl (by omega) (by omega)) ?_
    refine WL.y rfl (Yd.move rfl) ?_
    refine WL.y rfl (Yd.to64 _ (by kernel_rfl) (by kernel_rfl) rfl rfl) ?_
    refine WL.r rfl (Ent.func Try.call11 rfl) (letter_reads ((i : Int) % 3) (((i : Int) + 1) % 3) (BitVec.ofInt 64 (i : Int)) _) ?_
    refine WL.c rfl (Ent.func Try.call10 rfl) (send_tells p (netW 3 (fullL i) (List.replicate 36 0)) C1 [] h1 hI1 (ackL ((i : Int) % 3) (((i : Int) + 1) % 3) (BitVec.ofInt 64 (i : Int))) _ _ (bsNil _) (bsNil _) (Nat.zero_le _) (Nat.zero_le _)) (Sp.p (by repeat (first | exact Sp.here | exact Sp.sn | exact Sp.s0 | exact Fr.here | apply Sp.s2 | apply Sp.sx | apply Fr.fc | apply Fr.al | apply Fr.fa | apply Sp.sc | apply Sp.al | apply Sp.sa))) ?_
    rintro q Hq ⟨C2, rfl, h2, rfl⟩
    have hse := send_net (n := 3) (ls := fullL i) ((i : Int) % 3) (((i : Int) + 1) % 3) (BitVec.ofInt 64 (i : Int)) (by omega) (by omega) (by rw [fullL_len]; omega)
    have hI2 := hI1.send (ackL ((i : Int) % 3) (((i : Int) + 1) % 3) (BitVec.ofInt 64 (i : Int)))
    rw [hse.2, ← fullL_next] at h2 hI2
    refine WL.y rfl (Yd.neq rfl rfl) ?_
    refine WL.renamed (t := 34) (v := .bool false) rfl (congrArg Value.bool (by rw [hse.1]; decide)) ?_
    refine WL.nil ?_
    refine DN.then_normal ?_
    refine WC.no rfl ?_
    refine WC.skip ?_
    refine DN.block_normal ?_
    refine DN.then_normal ?_
    refine WC.region ?_
    refine WL.y rfl (Yd.move rfl) ?_
    refine WL.y rfl (Yd.add rfl rfl (by omega) (by omega)) ?_
    refine WL.y rfl (Yd.assign rfl) ?_
    refine WL.nil ?_
    exact DN.againK ((i + 1, C2)) (⟨by show i + 1 ≤ 200; omega, h2, hI2⟩) (show 200 - (i + 1) < 200 - i by omega) (Sx.put rfl ((by repeat (first | exact Sx.refl | refine Sx.skip rfl ?_)))) (Sp.all (by repeat (first | exact Sp.here | exact Sp.sn | exact Sp.s0 | exact Fr.here | apply Sp.s2 | apply Sp.sx | apply Fr.fc | apply Fr.al | apply Fr.fa | apply Sp.sc | apply Sp.al | apply Sp.sa)))
  · have hie : i = 200 := by omega
    subst hie
    refine WC.exit ?_
    refine DN.then_exit ?_
    refine DN.then_exit ?_
    refine DN.block_exit ?_
    refine DN.then_normal ?_
    refine WC.seq ?_
    refine WC.region ?_
    refine WL.y rfl (Yd.move rfl) ?_
    refine WL.y rfl (Yd.to64 _ (by kernel_rfl) (by kernel_rfl) rfl rfl) ?_
    refine WL.y rfl (Yd.rem64 _ (200#64) rfl rfl rfl rfl (by decide)) ?_
    refine WL.renamed (t := 37) (v := .int .u64 (k : Int)) rfl (by rw [hk]) ?_
    refine WL.y rfl (Yd.toInt (by kernel_rfl) (by kernel_rfl) rfl (by omega) (by omega)) ?_
    refine WL.y rfl (Yd.assign rfl) ?_
    refine WL.nil ?_
    refine DN.then_normal ?_
    refine WC.seq ?_
    refine WC.region ?_
    refine WL.y rfl (Yd.move rfl) ?_
    refine WL.r rfl (Ent.func Try.call11 rfl) (letter_reads 0 1 7#64 _) ?_
    refine WL.c rfl (Ent.func Try.call10 rfl) (send_tells p (netW 3 (fullL 200) (List.replicate 36 0)) C1 [] h1 hI1 (ackL 0 1 7#64) _ _ (bsNil _) (bsNil _) (Nat.zero_le _) (Nat.zero_le _)) (Sp.p (by repeat (first | exact Sp.here | exact Sp.sn | exact Sp.s0 | exact Fr.here | apply Sp.s2 | apply Sp.sx | apply Fr.fc | apply Fr.al | apply Fr.fa | apply Sp.sc | apply Sp.al | apply Sp.sa))) ?_
    rintro q Hq ⟨C2, rfl, h2, rfl⟩
    have hl2 : (netW 3 (fullL 200) (List.replicate 36 0)).ls.length = 200 := fullL_len 200
    have hse := sendE_full (W := netW 3 (fullL 200) (List.replicate 36 0)) (f := 0) (t := 1) (x := 7#64) (by omega) (isNode_iff.2 (show (0 : Int) ≤ 0 ∧ (0 : Int) < 3 by decide)) (isNode_iff.2 (show (0 : Int) ≤ 1 ∧ (1 : Int) < 3 by decide))
    rw [hse.2] at h2
    refine WL.y rfl (Yd.eql rfl rfl) ?_
    refine WL.renamed (t := 42) (v := .bool true) rfl (congrArg Value.bool (by rw [hse.1]; decide)) ?_
    refine WL.y rfl (Yd.move rfl) ?_
    refine WL.gy (dj := 43) rfl rfl rfl (Yd.move rfl) ?_
    refine WL.gy (dj := 43) rfl rfl rfl (Yd.move rfl) ?_
    refine WL.gc (dj := 43) rfl rfl rfl (Ent.func Try.call20 rfl) (copy_tells p _ C2 h2 hI1 (k : Int)) (Sp.p (by repeat (first | exact Sp.here | exact Sp.sn | exact Sp.s0 | exact Fr.here | apply Sp.s2 | apply Sp.sx | apply Fr.fc | apply Fr.al | apply Fr.fa | apply Sp.sc | apply Sp.al | apply Sp.sa))) ?_
    rintro q C3 ⟨rfl, h3⟩
    have hcp := copy_full (W := netW 3 (fullL 200) (List.replicate 36 0)) (k := (k : Int)) (by omega)
    rw [hcp.2] at h3
    refine WL.renamed (t := 46) (v := .bool false) rfl (congrArg Value.bool (hcp.1)) ?_
    refine WL.gy (dj := 43) rfl rfl rfl (Yd.notB rfl) ?_
    refine WL.y rfl (Yd.pickT rfl rfl) ?_
    refine WL.y rfl (Yd.move rfl) ?_
    refine WL.gy (dj := 49) rfl rfl rfl (Yd.move rfl) ?_
    refine WL.grf (dj := 49) rfl rfl rfl (Ent.func Try.call14 rfl) (len_reads p _ C3 h3) (by repeat (first | exact Sp.here | exact Sp.sn | exact Sp.s0 | exact Fr.here | apply Sp.s2 | apply Sp.sx | apply Fr.fc | apply Fr.al | apply Fr.fa | apply Sp.sc | apply Sp.al | apply Sp.sa)) ?_
    refine WL.gy (dj := 49) rfl rfl rfl (Yd.eql rfl rfl) ?_
    refine WL.renamed (t := 52) (v := .bool true) rfl (congrArg Value.bool (by rw [hl2]; decide)) ?_
    refine WL.y rfl (Yd.pickT rfl rfl) ?_
    refine WL.y rfl (Yd.assign rfl) ?_
    refine WL.nil ?_
    refine DN.then_normal ?_
    refine WC.seq ?_
    refine WC.seq ?_
    refine WC.region ?_
    refine WL.y rfl (Yd.move rfl) ?_
    refine WL.nil ?_
    refine DN.then_normal ?_
    refine WC.cond rfl (fun h54 => ?_) (fun h54 => ?_)
    · refine WC.region ?_
      refine WL.y rfl (Yd.move rfl) ?_
      refine WL.y rfl (Yd.move rfl) ?_
      refine WL.c rfl (Ent.func Try.call19 rfl) (lose_tells p _ C3 h3 hI1 (k : Int)) (Sp.p (by repeat (first | exact Sp.here | exact Sp.sn | exact Sp.s0 | exact Fr.here | apply Sp.s2 | apply Sp.sx | apply Fr.fc | apply Fr.al | apply Fr.fa | apply Sp.sc | apply Sp.al | apply Sp.sa))) ?_
      rintro q C4 ⟨rfl, h4⟩
      obtain ⟨hol, hon⟩ := out_len (W := netW 3 (fullL 200) (List.replicate 36 0)) (k := k) (by omega)
      have hI4 := hI1.out (k : Int)
      obtain ⟨W4, hW4⟩ : ∃ W4, W4 = outW (netW 3 (fullL 200) (List.replicate 36 0)) (k : Int) := ⟨_, rfl⟩
      rw [← hW4] at h4 hol hon hI4
      refine WL.nil ?_
      refine DN.then_normal ?_
      refine WC.seq ?_
      refine WC.region ?_
      refine WL.y rfl (Yd.move rfl) ?_
      refine WL.renamed (t := 61) (v := .bool true) rfl (congrArg Value.bool (rfl)) ?_
      refine WL.y rfl (Yd.move rfl) ?_
      refine WL.gy (dj := 62) rfl rfl rfl (Yd.move rfl) ?_
      refine WL.grf (dj := 62) rfl rfl rfl (Ent.func Try.call14 rfl) (len_reads p W4 C4 h4) (by repeat (first | exact Sp.here | exact Sp.sn | exact Sp.s0 | exact Fr.here | apply Sp.s2 | apply Sp.sx | apply Fr.fc | apply Fr.al | apply Fr.fa | apply Sp.sc | apply Sp.al | apply Sp.sa)) ?_
      refine WL.gy (dj := 62) rfl rfl rfl (Yd.eql rfl rfl) ?_
      refine WL.renamed (t := 65) (v := .bool true) rfl (congrArg Value.bool (by rw [hol, hl2]; decide)) ?_
      refine WL.y rfl (Yd.pickT rfl rfl) ?_
      refine WL.y rfl (Yd.move rfl) ?_
      refine WL.gy (dj := 67) rfl rfl rfl (Yd.move rfl) ?_
      refine WL.gc (dj := 67) rfl rfl rfl (Ent.func Try.call20 rfl) (copy_tells p W4 C4 h4 hI4 0) (Sp.p (by repeat (first | exact Sp.here | exact Sp.sn | exact Sp.s0 | exact Fr.here | apply Sp.s2 | apply Sp.sx | apply Fr.fc | apply Fr.al | apply Fr.fa | apply Sp.sc | apply Sp.al | apply Sp.sa))) ?_
      rintro q C5 ⟨rfl, h5⟩
      obtain ⟨hc1, hc2, hc3⟩ := copy_room (W := W4) (by omega) (by omega)
      have hI5 := hI4.copy 0
      refine WL.renamed (t := 69) (v := .bool true) rfl (congrArg Value.bool (hc1)) ?_
      refine WL.y rfl (Yd.pickT rfl rfl) ?_
      refine WL.y rfl (Yd.move rfl) ?_
      refine WL.gy (dj := 71) rfl rfl rfl (Yd.move rfl) ?_
      refine WL.gr (dj := 71) rfl rfl rfl (Ent.func Try.call11 rfl) (letter_reads 0 1 7#64 _) ?_
      refine WL.gc (dj := 71) rfl rfl rfl (Ent.func Try.call10 rfl) (send_tells p (copyW W4 0) C5 [] h5 hI5 (ackL 0 1 7#64) _ _ (bsNil _) (bsNil _) (Nat.zero_le _) (Nat.zero_le _)) (Sp.p (by repeat (first | exact Sp.here | exact Sp.sn | exact Sp.s0 | exact Fr.here | apply Sp.s2 | apply Sp.sx | apply Fr.fc | apply Fr.al | apply Fr.fa | apply Sp.sc | apply Sp.al | apply Sp.sa))) ?_
      rintro q Hq ⟨C6, rfl, h6, rfl⟩
      have hn3 : (copyW W4 0).n = 3 := hc3.trans hon
      have hse2 := sendE_full (W := copyW W4 0) (f := 0) (t := 1) (x := 7#64) (by omega) (isNode_iff.2 (by omega)) (isNode_iff.2 (by omega))
      refine WL.gy (dj := 71) rfl rfl rfl (Yd.eql rfl rfl) ?_
      refine WL.renamed (t := 75) (v := .bool true) rfl (congrArg Value.bool (by rw [hse2.1]; decide)) ?_
      refine WL.y rfl (Yd.pickT rfl rfl) ?_
      refine WL.y rfl (Yd.move rfl) ?_
      refine WL.gr (dj := 77) rfl rfl rfl (Ent.func Try.call15 rfl) (known18 _) ?_
      refine WL.y rfl (Yd.pickT rfl rfl) ?_
      refine WL.y rfl (Yd.assign rfl) ?_
      refine WL.nil ?_
      refine DN.then_normal ?_
      refine WC.ret ?_
      refine DN.fit (C := H) (by repeat (first | exact Sp.here | exact Sp.sn | exact Sp.s0 | exact Fr.here | apply Sp.s2 | apply Sp.sx | apply Fr.fc | apply Fr.al | apply Fr.fa | apply Sp.sc | apply Sp.al | apply Sp.sa)) ?_
      refine DN.ret1 Try.results6 rfl ?_
      exact ⟨rfl, rfl⟩
    · refine WC.region ?_
      refine WL.y rfl (Yd.move rfl) ?_
      refine WL.y rfl (Yd.move rfl) ?_
      refine WL.c rfl (Ent.func Try.call13 rfl) (pick_tells p _ C3 h3 hI1 (k : Int)) (Sp.p (by repeat (first | exact Sp.here | exact Sp.sn | exact Sp.s0 | exact Fr.here | apply Sp.s2 | apply Sp.sx | apply Fr.fc | apply Fr.al | apply Fr.fa | apply Sp.sc | apply Sp.al | apply Sp.sa))) ?_
      rintro q Hq ⟨vk6, vd6, A6, B6, C4, rfl, hA6, hB6, h4, rfl⟩
      obtain ⟨hol, hon⟩ := out_len (W := netW 3 (fullL 200) (List.replicate 36 0)) (k := k) (by omega)
      have hI4 := hI1.out (k : Int)
      obtain ⟨W4, hW4⟩ : ∃ W4, W4 = outW (netW 3 (fullL 200) (List.replicate 36 0)) (k : Int) := ⟨_, rfl⟩
      rw [← hW4] at h4 hol hon hI4
      refine WL.nil ?_
      refine DN.then_normal ?_
      refine WC.seq ?_
      refine WC.region ?_
      refine WL.y rfl (Yd.move rfl) ?_
      refine WL.renamed (t := 61) (v := .bool true) rfl (congrArg Value.bool (rfl)) ?_
      refine WL.y rfl (Yd.move rfl) ?_
      refine WL.gy (dj := 62) rfl rfl rfl (Yd.move rfl) ?_
      refine WL.grf (dj := 62) rfl rfl rfl (Ent.func Try.call14 rfl) (len_reads p W4 C4 h4) (by repeat (first | exact Sp.here | exact Sp.sn | exact Sp.s0 | exact Fr.here | apply Sp.s2 | apply Sp.sx | apply Fr.fc | apply Fr.al | apply Fr.fa | apply Sp.sc | apply Sp.al | apply Sp.sa)) ?_
      refine WL.gy (dj := 62) rfl rfl rfl (Yd.eql rfl rfl) ?_
      refine WL.renamed (t := 65) (v := .bool true) rfl (congrArg Value.bool (by rw [hol, hl2]; decide)) ?_
      refine WL.y rfl (Yd.pickT rfl rfl) ?_
      refine WL.y rfl (Yd.move rfl) ?_
      refine WL.gy (dj := 67) rfl rfl rfl (Yd.move rfl) ?_
      refine WL.gc (dj := 67) rfl rfl rfl (Ent.func Try.call20 rfl) (copy_tells p W4 C4 h4 hI4 0) (Sp.p (by repeat (first | exact Sp.here | exact Sp.sn | exact Sp.s0 | exact Fr.here | apply Sp.s2 | apply Sp.sx | apply Fr.fc | apply Fr.al | apply Fr.fa | apply Sp.sc | apply Sp.al | apply Sp.sa))) ?_
      rintro q C5 ⟨rfl, h5⟩
      obtain ⟨hc1, hc2, hc3⟩ := copy_room (W := W4) (by omega) (by omega)
      have hI5 := hI4.copy 0
      refine WL.renamed (t := 69) (v := .bool true) rfl (congrArg Value.bool (hc1)) ?_
      refine WL.y rfl (Yd.pickT rfl rfl) ?_
      refine WL.y rfl (Yd.move rfl) ?_
      refine WL.gy (dj := 71) rfl rfl rfl (Yd.move rfl) ?_
      refine WL.gr (dj := 71) rfl rfl rfl (Ent.func Try.call11 rfl) (letter_reads 0 1 7#64 _) ?_
      refine WL.gc (dj := 71) rfl rfl rfl (Ent.func Try.call10 rfl) (send_tells p (copyW W4 0) C5 [] h5 hI5 (ackL 0 1 7#64) _ _ (bsNil _) (bsNil _) (Nat.zero_le _) (Nat.zero_le _)) (Sp.p (by repeat (first | exact Sp.here | exact Sp.sn | exact Sp.s0 | exact Fr.here | apply Sp.s2 | apply Sp.sx | apply Fr.fc | apply Fr.al | apply Fr.fa | apply Sp.sc | apply Sp.al | apply Sp.sa))) ?_
      rintro q Hq ⟨C6, rfl, h6, rfl⟩
      have hn3 : (copyW W4 0).n = 3 := hc3.trans hon
      have hse2 := sendE_full (W := copyW W4 0) (f := 0) (t := 1) (x := 7#64) (by omega) (isNode_iff.2 (by omega)) (isNode_iff.2 (by omega))
      refine WL.gy (dj := 71) rfl rfl rfl (Yd.eql rfl rfl) ?_
      refine WL.renamed (t := 75) (v := .bool true) rfl (congrArg Value.bool (by rw [hse2.1]; decide)) ?_
      refine WL.y rfl (Yd.pickT rfl rfl) ?_
      refine WL.y rfl (Yd.move rfl) ?_
      refine WL.gr (dj := 77) rfl rfl rfl (Ent.func Try.call15 rfl) (known18 _) ?_
      refine WL.y rfl (Yd.pickT rfl rfl) ?_
      refine WL.y rfl (Yd.assign rfl) ?_
      refine WL.nil ?_
      refine DN.then_normal ?_
      refine WC.ret ?_
      refine DN.fit (C := H) (by repeat (first | exact Sp.here | exact Sp.sn | exact Sp.s0 | exact Fr.here | apply Sp.s2 | apply Sp.sx | apply Fr.fc | apply Fr.al | apply Fr.fa | apply Sp.sc | apply Sp.al | apply Sp.sa)) ?_
      refine DN.ret1 Try.results6 rfl ?_
      exact ⟨rfl, rfl⟩

/-- drayage/drayagelaw18.WiresCut -/
theorem law_WiresCut (n : Int) (back : Bool) (H : List Ck) : Reads Try.prog 4 [.int .i64 n, .bool back] H (.bool true) := by
  refine Tells.enter Try.func4 rfl Try.ntmps4 rfl ?_
  intro w0 R
  obtain ⟨r, hr, hr30⟩ : ∃ r : Nat, (BitVec.ofInt 64 n % 30#64).toNat = r ∧ r < 30 := ⟨_, rfl, by rw [BitVec.toNat_umod]; exact Nat.mod_lt _ (by decide)⟩
  refine WC.seq ?_
  refine WC.region ?_
  refine WL.y rfl (Yd.assign rfl) ?_
  refine WL.nil ?_
  refine DN.then_normal ?_
  refine WC.seq ?_
  refine WC.region ?_
  refine WL.c rfl (Ent.func Try.call9 rfl) (new_tells 3) (Sp.p (by repeat (first | exact Sp.here | exact Sp.sn | exact Sp.s0 | exact Fr.here | apply Sp.s2 | apply Sp.sx | apply Fr.fc | apply Fr.al | apply Fr.fa | apply Sp.sc | apply Sp.al | apply Sp.sa))) ?_
  rintro q C0 hq
  rw [if_pos (by decide)] at hq
  obtain ⟨p, rfl, h0⟩ := hq
  refine WL.y rfl (Yd.move rfl) ?_
  refine WL.y rfl (Yd.extract rfl rfl) ?_
  refine WL.y rfl (Yd.extract rfl rfl) ?_
  refine WL.y rfl (Yd.assign rfl) ?_
  refine WL.y rfl (Yd.assign rfl) ?_
  refine WL.nil ?_
  refine DN.then_normal ?_
  refine WC.seq ?_
  refine WC.seq ?_
  refine WC.region ?_
  refine WL.y rfl (Yd.move rfl) ?_
  refine WL.y rfl (Yd.neq rfl rfl) ?_
  refine WL.renamed (t := 20) (v := .bool false) rfl (congrArg Value.bool (by decide)) ?_
  refine WL.y rfl (Yd.move rfl) ?_
  refine WL.gy (dj := 21) rfl rfl rfl (Yd.move rfl) ?_
  refine WL.gy (dj := 21) rfl rfl rfl (Yd.eqlNil Try.underlying22 rfl rfl) ?_
  refine WL.renamed (t := 23) (v := .bool false) rfl (congrArg Value.bool (rfl)) ?_
  refine WL.y rfl (Yd.pickF rfl rfl) ?_
  refine WL.nil ?_
  refine DN.then_normal ?_
  refine WC.no rfl ?_
  refine WC.skip ?_
  refine DN.then_normal ?_
  refine WC.seq ?_
  refine WC.region ?_
  refine WL.y rfl (Yd.move rfl) ?_
  refine WL.y rfl (Yd.to64 _ (by kernel_rfl) (by kernel_rfl) rfl rfl) ?_
  refine WL.y rfl (Yd.rem64 _ (30#64) rfl rfl rfl rfl (by decide)) ?_
  refine WL.renamed (t := 27) (v := .int .u64 (r : Int)) rfl (by rw [hr]) ?_
  refine WL.y rfl (Yd.toInt (by kernel_rfl) (by kernel_rfl) rfl (by omega) (by omega)) ?_
  refine WL.y rfl (Yd.add rfl rfl (by omega) (by omega)) ?_
  refine WL.y rfl (Yd.assign rfl) ?_
  refine WL.nil ?_
  refine DN.then_normal ?_
  refine WC.seq ?_
  refine WC.seq ?_
  refine WC.region ?_
  refine WL.y rfl (Yd.assign rfl) ?_
  refine WL.nil ?_
  refine DN.then_normal ?_
  refine WC.block ?_
  refine WC.loopK (fun z : Nat × List Ck => z.1 ≤ 1 + r ∧ WAt 72 34 5 p (netW 3 (pairL z.1) (List.replicate 36 0)) z.2 ∧ WInv (netW 3 (pairL z.1) (List.replicate 36 0))) (fun z : Nat × List Ck => [(8, .int .i64 (z.1 : Int))]) (fun z : Nat × List Ck => z.2 ++ H) (fun z : Nat × List Ck => 1 + r - z.1) ((0, C0)) (⟨Nat.zero_le _, h0, newW_inv (n := 3) (by decide)⟩) (Sx.put rfl ((by repeat (first | exact Sx.refl | refine Sx.skip rfl ?_)))) (Sp.all (by repeat (first | exact Sp.here | exact Sp.sn | exact Sp.s0 | exact Fr.here | apply Sp.s2 | apply Sp.sx | apply Fr.fc | apply Fr.al | apply Fr.fa | apply Sp.sc | apply Sp.al | apply Sp.sa))) ?_
  rintro ⟨i, C1⟩ ⟨hi, h1, hI1⟩
  simp only at hi h1 hI1
  refine WC.seq ?_
  refine WC.seq ?_
  refine WC.region ?_
  refine WL.y rfl (Yd.move rfl) ?_
  refine WL.y rfl (Yd.move rfl) ?_
  refine WL.y rfl (Yd.lss rfl rfl) ?_
  refine WL.nil ?_
  refine DN.then_normal ?_
  refine WC.ite rfl (fun h33 => ?_) (fun h33 => ?_)
  · refine WC.skip ?_
    refine DN.then_normal ?_
    refine WC.seq ?_
    refine WC.block ?_
    refine WC.seq ?_
    refine WC.region ?_
    refine WL.y rfl (Yd.move rfl) ?_
    refine WL.y rfl (Yd.move rfl) ?_
    refine WL.y rfl (Yd.to64 _ (by kernel_rfl) (by kernel_rfl) rfl rfl) ?_
    refine WL.r rfl (Ent.func Try.call11 rfl) (letter_reads 0 1 (BitVec.ofInt 64 (i : Int)) _) ?_
    refine WL.c rfl (Ent.func Try.call10 rfl) (send_tells p (netW 3 (pairL i) (List.replicate 36 0)) C1 [] h1 hI1 (ackL 0 1 (BitVec.ofInt 64 (i : Int))) _ _ (bsNil _) (bsNil _) (Nat.zero_le _) (Nat.zero_le _)) (Sp.p (by repeat (first | exact Sp.here | exact Sp.sn | exact Sp.s0 | exact Fr.here | apply Sp.s2 | apply Sp.sx | apply Fr.fc | apply Fr.al | apply Fr.fa | apply Sp.sc | apply Sp.al | apply Sp.sa))) ?_
    rintro q Hq ⟨C2, rfl, h2, rfl⟩
    have hse := send_net (n := 3) (ls := pairL i) 0 1 (BitVec.ofInt 64 (i : Int)) (by decide) (by decide) (by rw [pairL_len]; omega)
    have hI2 := hI1.send (ackL 0 1 (BitVec.ofInt 64 (i : Int)))
    rw [hse.2] at h2 hI2
    refine WL.y rfl (Yd.neq rfl rfl) ?_
    refine WL.renamed (t := 40) (v := .bool false) rfl (congrArg Value.bool (by rw [hse.1]; decide)) ?_
    refine WL.y rfl (Yd.move rfl) ?_
    refine WL.gy (dj := 41) rfl rfl rfl (Yd.move rfl) ?_
    refine WL.gy (dj := 41) rfl rfl rfl (Yd.move rfl) ?_
    refine WL.gy (dj := 41) rfl rfl rfl (Yd.to64 _ (by kernel_rfl) (by kernel_rfl) rfl rfl) ?_
    refine WL.gr (dj := 41) rfl rfl rfl (Ent.func Try.call11 rfl) (letter_reads 1 0 (BitVec.ofInt 64 (i : Int)) _) ?_
    refine WL.gc (dj := 41) rfl rfl rfl (Ent.func Try.call10 rfl) (send_tells p (netW 3 (pairL i ++ [ackL 0 1 (BitVec.ofInt 64 (i : Int))]) (List.replicate 36 0)) C2 [] h2 hI2 (ackL 1 0 (BitVec.ofInt 64 (i : Int))) _ _ (bsNil _) (bsNil _) (Nat.zero_le _) (Nat.zero_le _)) (Sp.p (by repeat (first | exact Sp.here | exact Sp.sn | exact Sp.s0 | exact Fr.here | apply Sp.s2 | apply Sp.sx | apply Fr.fc | apply Fr.al | apply Fr.fa | apply Sp.sc | apply Sp.al | apply Sp.sa))) ?_
    rintro q Hq ⟨C3, rfl, h3, rfl⟩
    have hse2 := send_net (n := 3) (ls := pairL i ++ [ackL 0 1 (BitVec.ofInt 64 (i : Int))]) 1 0 (BitVec.ofInt 64 (i : Int)) (by decide) (by decide) (by rw [List.length_append, pairL_len]; simp; omega)
    have hI3 := hI2.send (ackL 1 0 (BitVec.ofInt 64 (i : Int)))
    rw [hse2.2, ← pairL_next] at h3 hI3
    refine WL.gy (dj := 41) rfl rfl rfl (Yd.neq rfl rfl) ?_
    refine WL.renamed (t := 47) (v := .bool false) rfl (congrArg Value.bool (by rw [hse2.1]; decide)) ?_
    refine WL.y rfl (Yd.pickF rfl rfl) ?_
    refine WL.nil ?_
    refine DN.then_normal ?_
    refine WC.no rfl ?_
    refine WC.skip ?_
    refine DN.block_normal ?_
    refine DN.then_normal ?_
    refine WC.region ?_
    refine WL.y rfl (Yd.move rfl) ?_
    refine WL.y rfl (Yd.add rfl rfl (by omega) (by omega)) ?_
    refine WL.y rfl (Yd.assign rfl) ?_
    refine WL.nil ?_
    exact DN.againK ((i + 1, C3)) (⟨by show i + 1 ≤ 1 + r; omega, h3, hI3⟩) (show 1 + r - (i + 1) < 1 + r - i by omega) (Sx.put rfl ((by repeat (first | exact Sx.refl | refine Sx.skip rfl ?_)))) (Sp.all (by repeat (first | exact Sp.here | exact Sp.sn | exact Sp.s0 | exact Fr.here | apply Sp.s2 | apply Sp.sx | apply Fr.fc | apply Fr.al | apply Fr.fa | apply Sp.sc | apply Sp.al | apply Sp.sa)))
  · have hie : i = 1 + r := by omega
    subst hie
    refine WC.exit ?_
    refine DN.then_exit ?_
    refine DN.then_exit ?_
    refine DN.block_exit ?_
    refine DN.then_normal ?_
    refine WC.seq ?_
    refine WC.region ?_
    refine WL.y rfl (Yd.move rfl) ?_
    refine WL.c rfl (Ent.func Try.call16 rfl) (cut_tells p _ C1 h1 hI1 0 1 true) (Sp.p (by repeat (first | exact Sp.here | exact Sp.sn | exact Sp.s0 | exact Fr.here | apply Sp.s2 | apply Sp.sx | apply Fr.fc | apply Fr.al | apply Fr.fa | apply Sp.sc | apply Sp.al | apply Sp.sa))) ?_
    rintro q C2 ⟨rfl, h2⟩
    have hI2 := hI1.cut' 0 1 true
    rw [cut_first] at h2 hI2
    refine WL.nil ?_
    refine DN.then_normal ?_
    refine WC.seq ?_
    refine WC.region ?_
    refine WL.y rfl (Yd.move rfl) ?_
    refine WL.r rfl (Ent.func Try.call11 rfl) (letter_reads 0 1 99#64 _) ?_
    refine WL.c rfl (Ent.func Try.call10 rfl) (send_tells p (netW 3 (pairL (1 + r)) (cutV false)) C2 [] h2 hI2 (ackL 0 1 99#64) _ _ (bsNil _) (bsNil _) (Nat.zero_le _) (Nat.zero_le _)) (Sp.p (by repeat (first | exact Sp.here | exact Sp.sn | exact Sp.s0 | exact Fr.here | apply Sp.s2 | apply Sp.sx | apply Fr.fc | apply Fr.al | apply Fr.fa | apply Sp.sc | apply Sp.al | apply Sp.sa))) ?_
    rintro q Hq ⟨C3, rfl, h3, rfl⟩
    have hse := send_shut (ls := pairL (1 + r)) 99#64 (by rw [pairL_len]; omega)
    rw [hse.2] at h3
    have hpl := pairL_len (1 + r)
    refine WL.y rfl (Yd.eql rfl rfl) ?_
    refine WL.renamed (t := 54) (v := .bool true) rfl (congrArg Value.bool (by rw [hse.1]; decide)) ?_
    refine WL.y rfl (Yd.move rfl) ?_
    refine WL.gy (dj := 55) rfl rfl rfl (Yd.move rfl) ?_
    refine WL.grf (dj := 55) rfl rfl rfl (Ent.func Try.call14 rfl) (len_reads p _ C3 h3) (by repeat (first | exact Sp.here | exact Sp.sn | exact Sp.s0 | exact Fr.here | apply Sp.s2 | apply Sp.sx | apply Fr.fc | apply Fr.al | apply Fr.fa | apply Sp.sc | apply Sp.al | apply Sp.sa)) ?_
    refine WL.gy (dj := 55) rfl rfl rfl (Yd.move rfl) ?_
    refine WL.gy (dj := 55) rfl rfl rfl (Yd.mul rfl rfl (by omega) (by omega)) ?_
    refine WL.gy (dj := 55) rfl rfl rfl (Yd.eql rfl rfl) ?_
    refine WL.renamed (t := 60) (v := .bool true) rfl (congrArg Value.bool (by simp [netW, hpl])) ?_
    refine WL.y rfl (Yd.pickT rfl rfl) ?_
    refine WL.y rfl (Yd.move rfl) ?_
    refine WL.gy (dj := 62) rfl rfl rfl (Yd.move rfl) ?_
    refine WL.gr (dj := 62) rfl rfl rfl (Ent.func Try.call11 rfl) (letter_reads 0 2 98#64 _) ?_
    refine WL.gc (dj := 62) rfl rfl rfl (Ent.func Try.call10 rfl) (send_tells p (netW 3 (pairL (1 + r)) (cutV false)) C3 [] h3 hI2 (ackL 0 2 98#64) _ _ (bsNil _) (bsNil _) (Nat.zero_le _) (Nat.zero_le _)) (Sp.p (by repeat (first | exact Sp.here | exact Sp.sn | exact Sp.s0 | exact Fr.here | apply Sp.s2 | apply Sp.sx | apply Fr.fc | apply Fr.al | apply Fr.fa | apply Sp.sc | apply Sp.al | apply Sp.sa))) ?_
    rintro q Hq ⟨C4, rfl, h4, rfl⟩
    have hse2 := send_02 (ls := pairL (1 + r)) 98#64 (by rw [pairL_len]; omega)
    have hI4 := hI2.send (ackL 0 2 98#64)
    rw [hse2.2] at h4 hI4
    change WAt 72 34 5 p (netW 3 (cutL (1 + r)) (cutV false)) C4 at h4
    change WInv (netW 3 (cutL (1 + r)) (cutV false)) at hI4
    have hcl := cutL_len (1 + r)
    refine WL.gy (dj := 62) rfl rfl rfl (Yd.eql rfl rfl) ?_
    refine WL.renamed (t := 66) (v := .bool true) rfl (congrArg Value.bool (by rw [hse2.1]; decide)) ?_
    refine WL.y rfl (Yd.pickT rfl rfl) ?_
    refine WL.y rfl (Yd.move rfl) ?_
    refine WL.gy (dj := 68) rfl rfl rfl (Yd.move rfl) ?_
    refine WL.grf (dj := 68) rfl rfl rfl (Ent.func Try.call14 rfl) (len_reads p _ C4 h4) (by repeat (first | exact Sp.here | exact Sp.sn | exact Sp.s0 | exact Fr.here | apply Sp.s2 | apply Sp.sx | apply Fr.fc | apply Fr.al | apply Fr.fa | apply Sp.sc | apply Sp.al | apply Sp.sa)) ?_
    refine WL.gy (dj := 68) rfl rfl rfl (Yd.move rfl) ?_
    refine WL.gy (dj := 68) rfl rfl rfl (Yd.mul rfl rfl (by omega) (by omega)) ?_
    refine WL.gy (dj := 68) rfl rfl rfl (Yd.add rfl rfl (by omega) (by omega)) ?_
    refine WL.gy (dj := 68) rfl rfl rfl (Yd.eql rfl rfl) ?_
    refine WL.renamed (t := 74) (v := .bool true) rfl (congrArg Value.bool (by simp [netW, hcl])) ?_
    refine WL.y rfl (Yd.pickT rfl rfl) ?_
    refine WL.y rfl (Yd.assign rfl) ?_
    refine WL.nil ?_
    refine DN.then_normal ?_
    refine WC.seq ?_
    refine WC.seq ?_
    refine WC.region ?_
    refine WL.y rfl (Yd.move rfl) ?_
    refine WL.nil ?_
    refine DN.then_normal ?_
    refine WC.cond rfl (fun h76 => ?_) (fun h76 => ?_)
    · refine WC.region ?_
      refine WL.y rfl (Yd.move rfl) ?_
      refine WL.c rfl (Ent.func Try.call16 rfl) (cut_tells p _ C4 h4 hI4 0 1 false) (Sp.p (by repeat (first | exact Sp.here | exact Sp.sn | exact Sp.s0 | exact Fr.here | apply Sp.s2 | apply Sp.sx | apply Fr.fc | apply Fr.al | apply Fr.fa | apply Sp.sc | apply Sp.al | apply Sp.sa))) ?_
      rintro q C5 ⟨rfl, h5⟩
      have hI5 := hI4.cut' 0 1 false
      rw [cut_again] at h5 hI5
      refine WL.nil ?_
      refine DN.then_normal ?_
      refine WC.seq ?_
      refine WC.region ?_
      refine WL.y rfl (Yd.assign rfl) ?_
      refine WL.nil ?_
      refine DN.then_normal ?_
      refine WC.seq ?_
      refine WC.seq ?_
      refine WC.region ?_
      refine WL.y rfl (Yd.assign rfl) ?_
      refine WL.nil ?_
      refine DN.then_normal ?_
      refine WC.block ?_
      refine WC.loopS (fun z : Nat × Nat × List Ck => z.1 ≤ 2 * (1 + r) + 1 ∧ z.2.1 = (if back then cnt01 ((cutL (1 + r)).take z.1) else 0) ∧ WAt 72 34 5 p (netW 3 ((cutL (1 + r)).drop z.1) (cutV back)) z.2.2 ∧ WInv (netW 3 ((cutL (1 + r)).drop z.1) (cutV back))) (fun z : Nat × Nat × List Ck => [(11, .int .i64 (z.1 : Int)), (10, .int .i64 (z.2.1 : Int))]) (fun z : Nat × Nat × List Ck => z.2.2 ++ H) (fun z : Nat × Nat × List Ck => 2 * (1 + r) + 1 - z.1) (⟨0, 0, C5⟩) (show 0 ≤ 2 * (1 + r) + 1 ∧ 0 = (if back then cnt01 ((cutL (1 + r)).take 0) else 0) ∧ WAt 72 34 5 p (netW 3 ((cutL (1 + r)).drop 0) (cutV back)) C5 ∧ WInv (netW 3 ((cutL (1 + r)).drop 0) (cutV back)) from ⟨Nat.zero_le _, by simp [cnt01], by rw [h76]; simpa using h5, by rw [h76]; simpa using hI5⟩) (Sx.put rfl (Sx.put rfl ((by repeat (first | exact Sx.refl | refine Sx.skip rfl ?_))))) (by repeat (first | exact Sp.here | exact Sp.sn | exact Sp.s0 | exact Fr.here | apply Sp.s2 | apply Sp.sx | apply Fr.fc | apply Fr.al | apply Fr.fa | apply Sp.sc | apply Sp.al | apply Sp.sa)) ?_
      rintro ⟨i, came, C6⟩ hI
      replace hI : i ≤ 2 * (1 + r) + 1 ∧ came = (if back then cnt01 ((cutL (1 + r)).take i) else 0) ∧ WAt 72 34 5 p (netW 3 ((cutL (1 + r)).drop i) (cutV back)) C6 ∧ WInv (netW 3 ((cutL (1 + r)).drop i) (cutV back)) := hI
      obtain ⟨hi, hcame, h6, hI6⟩ := hI
      change WC _ _ _ _ _ _ ([(11, .int .i64 (i : Int)), (10, .int .i64 (came : Int))] ++ _) (C6 ++ H)
      have hcb : cnt01 ((cutL (1 + r)).take i) ≤ i := Nat.le_trans List.countP_le_length (by rw [List.length_take]; omega)
      have hcb2 : came ≤ i := by rw [hcame]; split <;> omega
      refine WC.seq ?_
      refine WC.seq ?_
      refine WC.region ?_
      refine WL.y rfl (Yd.move rfl) ?_
      refine WL.y rfl (Yd.move rfl) ?_
      refine WL.y rfl (Yd.mul rfl rfl (by omega) (by omega)) ?_
      refine WL.y rfl (Yd.add rfl rfl (by omega) (by omega)) ?_
      refine WL.y rfl (Yd.lss rfl rfl) ?_
      refine WL.nil ?_
      refine DN.then_normal ?_
      refine WC.ite rfl (fun h83 => ?_) (fun h83 => ?_)
      · refine WC.skip ?_
        refine DN.then_normal ?_
        refine WC.seq ?_
        refine WC.block ?_
        refine WC.seq ?_
        obtain ⟨L, hdr, hcn, hcase, hp1, hp2, hout⟩ := cut_round (k := 1 + r) (i := i) back (by omega)
        rcases hcase with ⟨hw, hbk, hf, ht⟩ | ⟨hw, hbk⟩ | ⟨hw, hf⟩ | ⟨hw, hf, ht⟩
        · refine WC.region ?_
          refine WL.y rfl (Yd.move rfl) ?_
          refine WL.c rfl (Ent.func Try.call13 rfl) (pick_tells p _ C6 h6 hI6 0) (Sp.p (by repeat (first | exact Sp.here | exact Sp.sn | exact Sp.s0 | exact Fr.here | apply Sp.s2 | apply Sp.sx | apply Fr.fc | apply Fr.al | apply Fr.fa | apply Sp.sc | apply Sp.al | apply Sp.sa))) ?_
          rintro q Hq ⟨vk6, vd6, A6, B6, C7, rfl, hA6, hB6, h7, rfl⟩
          have o1 := hA6.one_cell
          have o2 := hB6.one_cell
          have hI7 := hI6.out 0
          rw [hdr] at h7 hI7 ⊢
          rw [hout] at h7 hI7
          rw [hp1, hp2]
          refine WL.y rfl (Yd.move rfl) ?_
          refine WL.y rfl (Yd.extract rfl rfl) ?_
          refine WL.y rfl (Yd.extract rfl rfl) ?_
          refine WL.renamed (t := 90) (v := .bool true) rfl (congrArg Value.bool (by rw [hbk]; rfl)) ?_
          refine WL.h rfl (Hd.alloc (zs := [.int .i64 0, .int .i64 0, .int .i64 0, .int .u32 0, .int .u32 0, .int .u64 0, .int .u64 0, .int .u32 0, .int .i64 0, .bool false, .int .i64 0, .slice none 0 0, .slice none 0 0]) (by kernel_rfl) fun b12 => ⟨_, rfl, ?_⟩)
          refine WL.s (Hd.storeAll (n := 13) (by kernel_rfl) rfl rfl (by rfl) (by repeat (first | exact fun _ h => absurd h List.not_mem_nil | refine List.forall_mem_cons.2 ⟨by first | rfl | assumption, ?_⟩)) (by repeat (first | exact Fr.here | apply Fr.fc | apply Fr.al | apply Fr.fa)) (by rfl) ⟨rfl, ?_⟩)
          refine WL.y rfl (Yd.assign rfl) ?_
          refine WL.nil ?_
          refine DN.then_normal ?_
          refine WC.seq ?_
          refine WC.region ?_
          refine WL.y rfl (Yd.move rfl) ?_
          refine WL.y rfl (Yd.move rfl) ?_
          refine WL.gy (dj := 92) rfl rfl rfl (Yd.fieldAddr (k := 0) (by kernel_rfl) rfl) ?_
          refine WL.gh (dj := 92) rfl rfl rfl (Hd.load1 (by kernel_rfl) rfl (by repeat (first | exact List.mem_cons_self | apply List.mem_cons_of_mem | apply List.mem_append_right)) (by rfl) ⟨_, rfl, ?_⟩)
          refine WL.gy (dj := 92) rfl rfl rfl (Yd.eql rfl rfl) ?_
          refine WL.renamed (t := 95) (v := .bool true) rfl (congrArg Value.bool (by simp [hf, hbk])) ?_
          refine WL.y rfl (Yd.pickT rfl rfl) ?_
          refine WL.y rfl (Yd.move rfl) ?_
          refine WL.gy (dj := 97) rfl rfl rfl (Yd.fieldAddr (k := 1) (by kernel_rfl) rfl) ?_
          refine WL.gh (dj := 97) rfl rfl rfl (Hd.load1 (by kernel_rfl) rfl (by repeat (first | exact List.mem_cons_self | apply List.mem_cons_of_mem | apply List.mem_append_right)) (by rfl) ⟨_, rfl, ?_⟩)
          refine WL.gy (dj := 97) rfl rfl rfl (Yd.eql rfl rfl) ?_
          refine WL.renamed (t := 100) (v := .bool true) rfl (congrArg Value.bool (by simp [ht, hbk])) ?_
          refine WL.y rfl (Yd.pickT rfl rfl) ?_
          refine WL.nil ?_
          refine DN.then_normal ?_
          refine WC.yes rfl ?_
          refine WC.region ?_
          refine WL.y rfl (Yd.move rfl) ?_
          refine WL.y rfl (Yd.add rfl rfl (by omega) (by omega)) ?_
          refine WL.y rfl (Yd.assign rfl) ?_
          refine WL.nil ?_
          refine DN.block_normal ?_
          refine DN.then_normal ?_
          refine WC.region ?_
          refine WL.y rfl (Yd.move rfl) ?_
          refine WL.y rfl (Yd.add rfl rfl (by omega) (by omega)) ?_
          refine WL.y rfl (Yd.assign rfl) ?_
          refine WL.nil ?_
          refine DN.fit (C := C7 ++ H) (by repeat (first | exact Sp.here | exact Sp.sn | exact Sp.s0 | exact Fr.here | apply Sp.s2 | apply Sp.sx | apply Fr.fc | apply Fr.al | apply Fr.fa | apply Sp.sc | apply Sp.al | apply Sp.sa)) ?_
          exact DN.againS (⟨i + 1, came + 1, C7⟩) (show (i + 1) ≤ 2 * (1 + r) + 1 ∧ (came + 1) = (if back then cnt01 ((cutL (1 + r)).take (i + 1)) else 0) ∧ WAt 72 34 5 p (netW 3 ((cutL (1 + r)).drop (i + 1)) (cutV back)) C7 ∧ WInv (netW 3 ((cutL (1 + r)).drop (i + 1)) (cutV back)) from ⟨by omega, by rw [hcn, hcame]; first | simp [hw, hbk] | simp [hw], h7, hI7⟩) (show 2 * (1 + r) + 1 - (i + 1) < 2 * (1 + r) + 1 - i by omega) (Sx.put rfl (Sx.put rfl ((by repeat (first | exact Sx.refl | refine Sx.skip rfl ?_))))) (by repeat (first | exact Sp.here | exact Sp.sn | exact Sp.s0 | exact Fr.here | apply Sp.s2 | apply Sp.sx | apply Fr.fc | apply Fr.al | apply Fr.fa | apply Sp.sc | apply Sp.al | apply Sp.sa))
        · refine WC.region ?_
          refine WL.y rfl (Yd.move rfl) ?_
          refine WL.c rfl (Ent.func Try.call13 rfl) (pick_tells p _ C6 h6 hI6 0) (Sp.p (by repeat (first | exact Sp.here | exact Sp.sn | exact Sp.s0 | exact Fr.here | apply Sp.s2 | apply Sp.sx | apply Fr.fc | apply Fr.al | apply Fr.fa | apply Sp.sc | apply Sp.al | apply Sp.sa))) ?_
          rintro q Hq ⟨vk6, vd6, A6, B6, C7, rfl, hA6, hB6, h7, rfl⟩
          have o1 := hA6.one_cell
          have o2 := hB6.one_cell
          have hI7 := hI6.out 0
          rw [hdr] at h7 hI7 ⊢
          rw [hout] at h7 hI7
          rw [hp1, hp2]
          refine WL.y rfl (Yd.move rfl) ?_
          refine WL.y rfl (Yd.extract rfl rfl) ?_
          refine WL.y rfl (Yd.extract rfl rfl) ?_
          refine WL.renamed (t := 90) (v := .bool false) rfl (congrArg Value.bool (by rw [hw, hbk]; rfl)) ?_
          refine WL.h rfl (Hd.alloc (zs := [.int .i64 0, .int .i64 0, .int .i64 0, .int .u32 0, .int .u32 0, .int .u64 0, .int .u64 0, .int .u32 0, .int .i64 0, .bool false, .int .i64 0, .slice none 0 0, .slice none 0 0]) (by kernel_rfl) fun b12 => ⟨_, rfl, ?_⟩)
          refine WL.s (Hd.storeAll (n := 13) (by kernel_rfl) rfl rfl (by rfl) (by repeat (first | exact fun _ h => absurd h List.not_mem_nil | refine List.forall_mem_cons.2 ⟨by first | rfl | assumption, ?_⟩)) (by repeat (first | exact Fr.here | apply Fr.fc | apply Fr.al | apply Fr.fa)) (by rfl) ⟨rfl, ?_⟩)
          refine WL.y rfl (Yd.assign rfl) ?_
          refine WL.nil ?_
          refine DN.then_normal ?_
          refine WC.seq ?_
          refine WC.region ?_
          refine WL.y rfl (Yd.move rfl) ?_
          refine WL.y rfl (Yd.move rfl) ?_
          refine WL.gn (dj := 92) rfl rfl rfl rfl ?_
          refine WL.gn (dj := 92) rfl rfl rfl rfl ?_
          refine WL.gn (dj := 92) rfl rfl rfl rfl ?_
          refine WL.y rfl (Yd.pickF rfl rfl) ?_
          refine WL.y rfl (Yd.move rfl) ?_
          refine WL.gn (dj := 97) rfl rfl rfl rfl ?_
          refine WL.gn (dj := 97) rfl rfl rfl rfl ?_
          refine WL.gn (dj := 97) rfl rfl rfl rfl ?_
          refine WL.y rfl (Yd.pickF rfl rfl) ?_
          refine WL.nil ?_
          refine DN.then_normal ?_
          refine WC.no rfl ?_
          refine WC.seq ?_
          refine WC.region ?_
          refine WL.y rfl (Yd.move rfl) ?_
          refine WL.y rfl (Yd.notB rfl) ?_
          refine WL.y rfl (Yd.move rfl) ?_
          refine WL.gy (dj := 106) rfl rfl rfl (Yd.move rfl) ?_
          refine WL.renamed (t := 107) (v := .bool false) rfl (congrArg Value.bool (hbk)) ?_
          refine WL.y rfl (Yd.pickT rfl rfl) ?_
          refine WL.nil ?_
          refine DN.then_normal ?_
          refine WC.no rfl ?_
          refine WC.skip ?_
          refine DN.block_normal ?_
          refine DN.then_normal ?_
          refine WC.region ?_
          refine WL.y rfl (Yd.move rfl) ?_
          refine WL.y rfl (Yd.add rfl rfl (by omega) (by omega)) ?_
          refine WL.y rfl (Yd.assign rfl) ?_
          refine WL.nil ?_
          refine DN.fit (C := C7 ++ H) (by repeat (first | exact Sp.here | exact Sp.sn | exact Sp.s0 | exact Fr.here | apply Sp.s2 | apply Sp.sx | apply Fr.fc | apply Fr.al | apply Fr.fa | apply Sp.sc | apply Sp.al | apply Sp.sa)) ?_
          exact DN.againS (⟨i + 1, came, C7⟩) (show (i + 1) ≤ 2 * (1 + r) + 1 ∧ came = (if back then cnt01 ((cutL (1 + r)).take (i + 1)) else 0) ∧ WAt 72 34 5 p (netW 3 ((cutL (1 + r)).drop (i + 1)) (cutV back)) C7 ∧ WInv (netW 3 ((cutL (1 + r)).drop (i + 1)) (cutV back)) from ⟨by omega, by rw [hcn, hcame]; first | simp [hw, hbk] | simp [hw], h7, hI7⟩) (show 2 * (1 + r) + 1 - (i + 1) < 2 * (1 + r) + 1 - i by omega) (Sx.put rfl (Sx.put rfl ((by repeat (first | exact Sx.refl | refine Sx.skip rfl ?_))))) (by repeat (first | exact Sp.here | exact Sp.sn | exact Sp.s0 | exact Fr.here | apply Sp.s2 | apply Sp.sx | apply Fr.fc | apply Fr.al | apply Fr.fa | apply Sp.sc | apply Sp.al | apply Sp.sa))
        · refine WC.region ?_
          refine WL.y rfl (Yd.move rfl) ?_
          refine WL.c rfl (Ent.func Try.call13 rfl) (pick_tells p _ C6 h6 hI6 0) (Sp.p (by repeat (first | exact Sp.here | exact Sp.sn | exact Sp.s0 | exact Fr.here | apply Sp.s2 | apply Sp.sx | apply Fr.fc | apply Fr.al | apply Fr.fa | apply Sp.sc | apply Sp.al | apply Sp.sa))) ?_
          rintro q Hq ⟨vk6, vd6, A6, B6, C7, rfl, hA6, hB6, h7, rfl⟩
          have o1 := hA6.one_cell
          have o2 := hB6.one_cell
          have hI7 := hI6.out 0
          rw [hdr] at h7 hI7 ⊢
          rw [hout] at h7 hI7
          rw [hp1, hp2]
          refine WL.y rfl (Yd.move rfl) ?_
          refine WL.y rfl (Yd.extract rfl rfl) ?_
          refine WL.y rfl (Yd.extract rfl rfl) ?_
          refine WL.renamed (t := 90) (v := .bool true) rfl (congrArg Value.bool (by rw [hw]; simp)) ?_
          refine WL.h rfl (Hd.alloc (zs := [.int .i64 0, .int .i64 0, .int .i64 0, .int .u32 0, .int .u32 0, .int .u64 0, .int .u64 0, .int .u32 0, .int .i64 0, .bool false, .int .i64 0, .slice none 0 0, .slice none 0 0]) (by kernel_rfl) fun b12 => ⟨_, rfl, ?_⟩)
          refine WL.s (Hd.storeAll (n := 13) (by kernel_rfl) rfl rfl (by rfl) (by repeat (first | exact fun _ h => absurd h List.not_mem_nil | refine List.forall_mem_cons.2 ⟨by first | rfl | assumption, ?_⟩)) (by repeat (first | exact Fr.here | apply Fr.fc | apply Fr.al | apply Fr.fa)) (by rfl) ⟨rfl, ?_⟩)
          refine WL.y rfl (Yd.assign rfl) ?_
          refine WL.nil ?_
          refine DN.then_normal ?_
          refine WC.seq ?_
          refine WC.region ?_
          refine WL.y rfl (Yd.move rfl) ?_
          refine WL.y rfl (Yd.move rfl) ?_
          refine WL.gy (dj := 92) rfl rfl rfl (Yd.fieldAddr (k := 0) (by kernel_rfl) rfl) ?_
          refine WL.gh (dj := 92) rfl rfl rfl (Hd.load1 (by kernel_rfl) rfl (by repeat (first | exact List.mem_cons_self | apply List.mem_cons_of_mem | apply List.mem_append_right)) (by rfl) ⟨_, rfl, ?_⟩)
          refine WL.gy (dj := 92) rfl rfl rfl (Yd.eql rfl rfl) ?_
          refine WL.renamed (t := 95) (v := .bool false) rfl (congrArg Value.bool (by simp [hw, hf])) ?_
          refine WL.y rfl (Yd.pickT rfl rfl) ?_
          refine WL.y rfl (Yd.move rfl) ?_
          refine WL.gn (dj := 97) rfl rfl rfl rfl ?_
          refine WL.gn (dj := 97) rfl rfl rfl rfl ?_
          refine WL.gn (dj := 97) rfl rfl rfl rfl ?_
          refine WL.y rfl (Yd.pickF rfl rfl) ?_
          refine WL.nil ?_
          refine DN.then_normal ?_
          refine WC.no rfl ?_
          refine WC.seq ?_
          refine WC.region ?_
          refine WL.y rfl (Yd.move rfl) ?_
          refine WL.y rfl (Yd.notB rfl) ?_
          refine WL.y rfl (Yd.move rfl) ?_
          refine WL.gn (dj := 106) rfl rfl rfl rfl ?_
          refine WL.y rfl (Yd.pickF rfl rfl) ?_
          refine WL.nil ?_
          refine DN.then_normal ?_
          refine WC.no rfl ?_
          refine WC.skip ?_
          refine DN.block_normal ?_
          refine DN.then_normal ?_
          refine WC.region ?_
          refine WL.y rfl (Yd.move rfl) ?_
          refine WL.y rfl (Yd.add rfl rfl (by omega) (by omega)) ?_
          refine WL.y rfl (Yd.assign rfl) ?_
          refine WL.nil ?_
          refine DN.fit (C := C7 ++ H) (by repeat (first | exact Sp.here | exact Sp.sn | exact Sp.s0 | exact Fr.here | apply Sp.s2 | apply Sp.sx | apply Fr.fc | apply Fr.al | apply Fr.fa | apply Sp.sc | apply Sp.al | apply Sp.sa)) ?_
          exact DN.againS (⟨i + 1, came, C7⟩) (show (i + 1) ≤ 2 * (1 + r) + 1 ∧ came = (if back then cnt01 ((cutL (1 + r)).take (i + 1)) else 0) ∧ WAt 72 34 5 p (netW 3 ((cutL (1 + r)).drop (i + 1)) (cutV back)) C7 ∧ WInv (netW 3 ((cutL (1 + r)).drop (i + 1)) (cutV back)) from ⟨by omega, by rw [hcn, hcame]; first | simp [hw, hbk] | simp [hw], h7, hI7⟩) (show 2 * (1 + r) + 1 - (i + 1) < 2 * (1 + r) + 1 - i by omega) (Sx.put rfl (Sx.put rfl ((by repeat (first | exact Sx.refl | refine Sx.skip rfl ?_))))) (by repeat (first | exact Sp.here | exact Sp.sn | exact Sp.s0 | exact Fr.here | apply Sp.s2 | apply Sp.sx | apply Fr.fc | apply Fr.al | apply Fr.fa | apply Sp.sc | apply Sp.al | apply Sp.sa))
        · refine WC.region ?_
          refine WL.y rfl (Yd.move rfl) ?_
          refine WL.c rfl (Ent.func Try.call13 rfl) (pick_tells p _ C6 h6 hI6 0) (Sp.p (by repeat (first | exact Sp.here | exact Sp.sn | exact Sp.s0 | exact Fr.here | apply Sp.s2 | apply Sp.sx | apply Fr.fc | apply Fr.al | apply Fr.fa | apply Sp.sc | apply Sp.al | apply Sp.sa))) ?_
          rintro q Hq ⟨vk6, vd6, A6, B6, C7, rfl, hA6, hB6, h7, rfl⟩
          have o1 := hA6.one_cell
          have o2 := hB6.one_cell
          have hI7 := hI6.out 0
          rw [hdr] at h7 hI7 ⊢
          rw [hout] at h7 hI7
          rw [hp1, hp2]
          refine WL.y rfl (Yd.move rfl) ?_
          refine WL.y rfl (Yd.extract rfl rfl) ?_
          refine WL.y rfl (Yd.extract rfl rfl) ?_
          refine WL.renamed (t := 90) (v := .bool true) rfl (congrArg Value.bool (by rw [hw]; simp)) ?_
          refine WL.h rfl (Hd.alloc (zs := [.int .i64 0, .int .i64 0, .int .i64 0, .int .u32 0, .int .u32 0, .int .u64 0, .int .u64 0, .int .u32 0, .int .i64 0, .bool false, .int .i64 0, .slice none 0 0, .slice none 0 0]) (by kernel_rfl) fun b12 => ⟨_, rfl, ?_⟩)
          refine WL.s (Hd.storeAll (n := 13) (by kernel_rfl) rfl rfl (by rfl) (by repeat (first | exact fun _ h => absurd h List.not_mem_nil | refine List.forall_mem_cons.2 ⟨by first | rfl | assumption, ?_⟩)) (by repeat (first | exact Fr.here | apply Fr.fc | apply Fr.al | apply Fr.fa)) (by rfl) ⟨rfl, ?_⟩)
          refine WL.y rfl (Yd.assign rfl) ?_
          refine WL.nil ?_
          refine DN.then_normal ?_
          refine WC.seq ?_
          refine WC.region ?_
          refine WL.y rfl (Yd.move rfl) ?_
          refine WL.y rfl (Yd.move rfl) ?_
          refine WL.gy (dj := 92) rfl rfl rfl (Yd.fieldAddr (k := 0) (by kernel_rfl) rfl) ?_
          refine WL.gh (dj := 92) rfl rfl rfl (Hd.load1 (by kernel_rfl) rfl (by repeat (first | exact List.mem_cons_self | apply List.mem_cons_of_mem | apply List.mem_append_right)) (by rfl) ⟨_, rfl, ?_⟩)
          refine WL.gy (dj := 92) rfl rfl rfl (Yd.eql rfl rfl) ?_
          refine WL.renamed (t := 95) (v := .bool true) rfl (congrArg Value.bool (by simp [hw, hf])) ?_
          refine WL.y rfl (Yd.pickT rfl rfl) ?_
          refine WL.y rfl (Yd.move rfl) ?_
          refine WL.gy (dj := 97) rfl rfl rfl (Yd.fieldAddr (k := 1) (by kernel_rfl) rfl) ?_
          refine WL.gh (dj := 97) rfl rfl rfl (Hd.load1 (by kernel_rfl) rfl (by repeat (first | exact List.mem_cons_self | apply List.mem_cons_of_mem | apply List.mem_append_right)) (by rfl) ⟨_, rfl, ?_⟩)
          refine WL.gy (dj := 97) rfl rfl rfl (Yd.eql rfl rfl) ?_
          refine WL.renamed (t := 100) (v := .bool false) rfl (congrArg Value.bool (by simp [hw, ht])) ?_
          refine WL.y rfl (Yd.pickT rfl rfl) ?_
          refine WL.nil ?_
          refine DN.then_normal ?_
          refine WC.no rfl ?_
          refine WC.seq ?_
          refine WC.region ?_
          refine WL.y rfl (Yd.move rfl) ?_
          refine WL.y rfl (Yd.notB rfl) ?_
          refine WL.y rfl (Yd.move rfl) ?_
          refine WL.gn (dj := 106) rfl rfl rfl rfl ?_
          refine WL.y rfl (Yd.pickF rfl rfl) ?_
          refine WL.nil ?_
          refine DN.then_normal ?_
          refine WC.no rfl ?_
          refine WC.skip ?_
          refine DN.block_normal ?_
          refine DN.then_normal ?_
          refine WC.region ?_
          refine WL.y rfl (Yd.move rfl) ?_
          refine WL.y rfl (Yd.add rfl rfl (by omega) (by omega)) ?_
          refine WL.y rfl (Yd.assign rfl) ?_
          refine WL.nil ?_
          refine DN.fit (C := C7 ++ H) (by repeat (first | exact Sp.here | exact Sp.sn | exact Sp.s0 | exact Fr.here | apply Sp.s2 | apply Sp.sx | apply Fr.fc | apply Fr.al | apply Fr.fa | apply Sp.sc | apply Sp.al | apply Sp.sa)) ?_
          exact DN.againS (⟨i + 1, came, C7⟩) (show (i + 1) ≤ 2 * (1 + r) + 1 ∧ came = (if back then cnt01 ((cutL (1 + r)).take (i + 1)) else 0) ∧ WAt 72 34 5 p (netW 3 ((cutL (1 + r)).drop (i + 1)) (cutV back)) C7 ∧ WInv (netW 3 ((cutL (1 + r)).drop (i + 1)) (cutV back)) from ⟨by omega, by rw [hcn, hcame]; first | simp [hw, hbk] | simp [hw], h7, hI7⟩) (show 2 * (1 + r) + 1 - (i + 1) < 2 * (1 + r) + 1 - i by omega) (Sx.put rfl (Sx.put rfl ((by repeat (first | exact Sx.refl | refine Sx.skip rfl ?_))))) (by repeat (first | exact Sp.here | exact Sp.sn | exact Sp.s0 | exact Fr.here | apply Sp.s2 | apply Sp.sx | apply Fr.fc | apply Fr.al | apply Fr.fa | apply Sp.sc | apply Sp.al | apply Sp.sa))
      · have hie : i = 2 * (1 + r) + 1 := by omega
        subst hie
        rw [List.take_of_length_le (by rw [hcl]; omega), cnt_cutL] at hcame
        refine WC.exit ?_
        refine DN.then_exit ?_
        refine DN.then_exit ?_
        refine DN.block_exit ?_
        refine DN.then_normal ?_
        refine WC.seq ?_
        refine WC.region ?_
        refine WL.y rfl (Yd.assign rfl) ?_
        refine WL.nil ?_
        refine DN.then_normal ?_
        refine WC.seq ?_
        refine WC.seq ?_
        refine WC.region ?_
        refine WL.y rfl (Yd.move rfl) ?_
        refine WL.nil ?_
        refine DN.then_normal ?_
        refine WC.cond rfl (fun h76 => ?_) (fun h76 => ?_)
        · refine WC.region ?_
          refine WL.y rfl (Yd.move rfl) ?_
          refine WL.y rfl (Yd.assign rfl) ?_
          refine WL.nil ?_
          refine DN.then_normal ?_
          refine WC.seq ?_
          refine WC.region ?_
          refine WL.y rfl (Yd.move rfl) ?_
          refine WL.renamed (t := 111) (v := .bool true) rfl (congrArg Value.bool (rfl)) ?_
          refine WL.y rfl (Yd.move rfl) ?_
          refine WL.gy (dj := 112) rfl rfl rfl (Yd.move rfl) ?_
          refine WL.gy (dj := 112) rfl rfl rfl (Yd.move rfl) ?_
          refine WL.gy (dj := 112) rfl rfl rfl (Yd.eql rfl rfl) ?_
          refine WL.renamed (t := 115) (v := .bool true) rfl (congrArg Value.bool (by rw [hcame]; cases back <;> first | contradiction | simp)) ?_
          refine WL.y rfl (Yd.pickT rfl rfl) ?_
          refine WL.y rfl (Yd.move rfl) ?_
          refine WL.gy (dj := 117) rfl rfl rfl (Yd.move rfl) ?_
          refine WL.grf (dj := 117) rfl rfl rfl (Ent.func Try.call14 rfl) (len_reads p _ C6 h6) (by repeat (first | exact Sp.here | exact Sp.sn | exact Sp.s0 | exact Fr.here | apply Sp.s2 | apply Sp.sx | apply Fr.fc | apply Fr.al | apply Fr.fa | apply Sp.sc | apply Sp.al | apply Sp.sa)) ?_
          refine WL.gy (dj := 117) rfl rfl rfl (Yd.eql rfl rfl) ?_
          refine WL.renamed (t := 120) (v := .bool true) rfl (congrArg Value.bool (by simp [netW]; omega)) ?_
          refine WL.y rfl (Yd.pickT rfl rfl) ?_
          refine WL.y rfl (Yd.move rfl) ?_
          refine WL.gr (dj := 122) rfl rfl rfl (Ent.func Try.call15 rfl) (known18 _) ?_
          refine WL.y rfl (Yd.pickT rfl rfl) ?_
          refine WL.y rfl (Yd.assign rfl) ?_
          refine WL.nil ?_
          refine DN.then_normal ?_
          refine WC.ret ?_
          refine DN.fit (C := H) (by repeat (first | exact Sp.here | exact Sp.sn | exact Sp.s0 | exact Fr.here | apply Sp.s2 | apply Sp.sx | apply Fr.fc | apply Fr.al | apply Fr.fa | apply Sp.sc | apply Sp.al | apply Sp.sa)) ?_
          refine DN.ret1 Try.results4 rfl ?_
          exact ⟨rfl, rfl⟩
        · refine WC.skip ?_
          refine DN.then_normal ?_
          refine WC.seq ?_
          refine WC.region ?_
          refine WL.y rfl (Yd.move rfl) ?_
          refine WL.renamed (t := 111) (v := .bool true) rfl (congrArg Value.bool (rfl)) ?_
          refine WL.y rfl (Yd.move rfl) ?_
          refine WL.gy (dj := 112) rfl rfl rfl (Yd.move rfl) ?_
          refine WL.gy (dj := 112) rfl rfl rfl (Yd.move rfl) ?_
          refine WL.gy (dj := 112) rfl rfl rfl (Yd.eql rfl rfl) ?_
          refine WL.renamed (t := 115) (v := .bool true) rfl (congrArg Value.bool (by rw [hcame]; cases back <;> first | contradiction | simp)) ?_
          refine WL.y rfl (Yd.pickT rfl rfl) ?_
          refine WL.y rfl (Yd.move rfl) ?_
          refine WL.gy (dj := 117) rfl rfl rfl (Yd.move rfl) ?_
          refine WL.grf (dj := 117) rfl rfl rfl (Ent.func Try.call14 rfl) (len_reads p _ C6 h6) (by repeat (first | exact Sp.here | exact Sp.sn | exact Sp.s0 | exact Fr.here | apply Sp.s2 | apply Sp.sx | apply Fr.fc | apply Fr.al | apply Fr.fa | apply Sp.sc | apply Sp.al | apply Sp.sa)) ?_
          refine WL.gy (dj := 117) rfl rfl rfl (Yd.eql rfl rfl) ?_
          refine WL.renamed (t := 120) (v := .bool true) rfl (congrArg Value.bool (by simp [netW]; omega)) ?_
          refine WL.y rfl (Yd.pickT rfl rfl) ?_
          refine WL.y rfl (Yd.move rfl) ?_
          refine WL.gr (dj := 122) rfl rfl rfl (Ent.func Try.call15 rfl) (known18 _) ?_
          refine WL.y rfl (Yd.pickT rfl rfl) ?_
          refine WL.y rfl (Yd.assign rfl) ?_
          refine WL.nil ?_
          refine DN.then_normal ?_
          refine WC.ret ?_
          refine DN.fit (C := H) (by repeat (first | exact Sp.here | exact Sp.sn | exact Sp.s0 | exact Fr.here | apply Sp.s2 | apply Sp.sx | apply Fr.fc | apply Fr.al | apply Fr.fa | apply Sp.sc | apply Sp.al | apply Sp.sa)) ?_
          refine DN.ret1 Try.results4 rfl ?_
          exact ⟨rfl, rfl⟩
    · have h5 := h4
      have hI5 := hI4
      obtain ⟨C5, hC5⟩ : ∃ C5, C5 = C4 := ⟨_, rfl⟩
      rw [← hC5] at h5 ⊢
      refine WC.skip ?_
      refine DN.then_normal ?_
      refine WC.seq ?_
      refine WC.region ?_
      refine WL.y rfl (Yd.assign rfl) ?_
      refine WL.nil ?_
      refine DN.then_normal ?_
      refine WC.seq ?_
      refine WC.seq ?_
      refine WC.region ?_
      refine WL.y rfl (Yd.assign rfl) ?_
      refine WL.nil ?_
      refine DN.then_normal ?_
      refine WC.block ?_
      refine WC.loopS (fun z : Nat × Nat × List Ck => z.1 ≤ 2 * (1 + r) + 1 ∧ z.2.1 = (if back then cnt01 ((cutL (1 + r)).take z.1) else 0) ∧ WAt 72 34 5 p (netW 3 ((cutL (1 + r)).drop z.1) (cutV back)) z.2.2 ∧ WInv (netW 3 ((cutL (1 + r)).drop z.1) (cutV back))) (fun z : Nat × Nat × List Ck => [(11, .int .i64 (z.1 : Int)), (10, .int .i64 (z.2.1 : Int))]) (fun z : Nat × Nat × List Ck => z.2.2 ++ H) (fun z : Nat × Nat × List Ck => 2 * (1 + r) + 1 - z.1) (⟨0, 0, C5⟩) (show 0 ≤ 2 * (1 + r) + 1 ∧ 0 = (if back then cnt01 ((cutL (1 + r)).take 0) else 0) ∧ WAt 72 34 5 p (netW 3 ((cutL (1 + r)).drop 0) (cutV back)) C5 ∧ WInv (netW 3 ((cutL (1 + r)).drop 0) (cutV back)) from ⟨Nat.zero_le _, by simp [cnt01], by rw [h76]; simpa using h5, by rw [h76]; simpa using hI5⟩) (Sx.put rfl (Sx.put rfl ((by repeat (first | exact Sx.refl | refine Sx.skip rfl ?_))))) (by repeat (first | exact Sp.here | exact Sp.sn | exact Sp.s0 | exact Fr.here | apply Sp.s2 | apply Sp.sx | apply Fr.fc | apply Fr.al | apply Fr.fa | apply Sp.sc | apply Sp.al | apply Sp.sa)) ?_
      rintro ⟨i, came, C6⟩ hI
      replace hI : i ≤ 2 * (1 + r) + 1 ∧ came = (if back then cnt01 ((cutL (1 + r)).take i) else 0) ∧ WAt 72 34 5 p (netW 3 ((cutL (1 + r)).drop i) (cutV back)) C6 ∧ WInv (netW 3 ((cutL (1 + r)).drop i) (cutV back)) := hI
      obtain ⟨hi, hcame, h6, hI6⟩ := hI
      change WC _ _ _ _ _ _ ([(11, .int .i64 (i : Int)), (10, .int .i64 (came : Int))] ++ _) (C6 ++ H)
      have hcb : cnt01 ((cutL (1 + r)).take i) ≤ i := Nat.le_trans List.countP_le_length (by rw [List.length_take]; omega)
      have hcb2 : came ≤ i := by rw [hcame]; split <;> omega
      refine WC.seq ?_
      refine WC.seq ?_
      refine WC.region ?_
      refine WL.y rfl (Yd.move rfl) ?_
      refine WL.y rfl (Yd.move rfl) ?_
      refine WL.y rfl (Yd.mul rfl rfl (by omega) (by omega)) ?_
      refine WL.y rfl (Yd.add rfl rfl (by omega) (by omega)) ?_
      refine WL.y rfl (Yd.lss rfl rfl) ?_
      refine WL.nil ?_
      refine DN.then_normal ?_
      refine WC.ite rfl (fun h83 => ?_) (fun h83 => ?_)
      · refine WC.skip ?_
        refine DN.then_normal ?_
        refine WC.seq ?_
        refine WC.block ?_
        refine WC.seq ?_
        obtain ⟨L, hdr, hcn, hcase, hp1, hp2, hout⟩ := cut_round (k := 1 + r) (i := i) back (by omega)
        rcases hcase with ⟨hw, hbk, hf, ht⟩ | ⟨hw, hbk⟩ | ⟨hw, hf⟩ | ⟨hw, hf, ht⟩
        · refine WC.region ?_
          refine WL.y rfl (Yd.move rfl) ?_
          refine WL.c rfl (Ent.func Try.call13 rfl) (pick_tells p _ C6 h6 hI6 0) (Sp.p (by repeat (first | exact Sp.here | exact Sp.sn | exact Sp.s0 | exact Fr.here | apply Sp.s2 | apply Sp.sx | apply Fr.fc | apply Fr.al | apply Fr.fa | apply Sp.sc | apply Sp.al | apply Sp.sa))) ?_
          rintro q Hq ⟨vk6, vd6, A6, B6, C7, rfl, hA6, hB6, h7, rfl⟩
          have o1 := hA6.one_cell
          have o2 := hB6.one_cell
          have hI7 := hI6.out 0
          rw [hdr] at h7 hI7 ⊢
          rw [hout] at h7 hI7
          rw [hp1, hp2]
          refine WL.y rfl (Yd.move rfl) ?_
          refine WL.y rfl (Yd.extract rfl rfl) ?_
          refine WL.y rfl (Yd.extract rfl rfl) ?_
          refine WL.renamed (t := 90) (v := .bool true) rfl (congrArg Value.bool (by rw [hbk]; rfl)) ?_
          refine WL.h rfl (Hd.alloc (zs := [.int .i64 0, .int .i64 0, .int .i64 0, .int .u32 0, .int .u32 0, .int .u64 0, .int .u64 0, .int .u32 0, .int .i64 0, .bool false, .int .i64 0, .slice none 0 0, .slice none 0 0]) (by kernel_rfl) fun b12 => ⟨_, rfl, ?_⟩)
          refine WL.s (Hd.storeAll (n := 13) (by kernel_rfl) rfl rfl (by rfl) (by repeat (first | exact fun _ h => absurd h List.not_mem_nil | refine List.forall_mem_cons.2 ⟨by first | rfl | assumption, ?_⟩)) (by repeat (first | exact Fr.here | apply Fr.fc | apply Fr.al | apply Fr.fa)) (by rfl) ⟨rfl, ?_⟩)
          refine WL.y rfl (Yd.assign rfl) ?_
          refine WL.nil ?_
          refine DN.then_normal ?_
          refine WC.seq ?_
          refine WC.region ?_
          refine WL.y rfl (Yd.move rfl) ?_
          refine WL.y rfl (Yd.move rfl) ?_
          refine WL.gy (dj := 92) rfl rfl rfl (Yd.fieldAddr (k := 0) (by kernel_rfl) rfl) ?_
          refine WL.gh (dj := 92) rfl rfl rfl (Hd.load1 (by kernel_rfl) rfl (by repeat (first | exact List.mem_cons_self | apply List.mem_cons_of_mem | apply List.mem_append_right)) (by rfl) ⟨_, rfl, ?_⟩)
          refine WL.gy (dj := 92) rfl rfl rfl (Yd.eql rfl rfl) ?_
          refine WL.renamed (t := 95) (v := .bool true) rfl (congrArg Value.bool (by simp [hf, hbk])) ?_
          refine WL.y rfl (Yd.pickT rfl rfl) ?_
          refine WL.y rfl (Yd.move rfl) ?_
          refine WL.gy (dj := 97) rfl rfl rfl (Yd.fieldAddr (k := 1) (by kernel_rfl) rfl) ?_
          refine WL.gh (dj := 97) rfl rfl rfl (Hd.load1 (by kernel_rfl) rfl (by repeat (first | exact List.mem_cons_self | apply List.mem_cons_of_mem | apply List.mem_append_right)) (by rfl) ⟨_, rfl, ?_⟩)
          refine WL.gy (dj := 97) rfl rfl rfl (Yd.eql rfl rfl) ?_
          refine WL.renamed (t := 100) (v := .bool true) rfl (congrArg Value.bool (by simp [ht, hbk])) ?_
          refine WL.y rfl (Yd.pickT rfl rfl) ?_
          refine WL.nil ?_
          refine DN.then_normal ?_
          refine WC.yes rfl ?_
          refine WC.region ?_
          refine WL.y rfl (Yd.move rfl) ?_
          refine WL.y rfl (Yd.add rfl rfl (by omega) (by omega)) ?_
          refine WL.y rfl (Yd.assign rfl) ?_
          refine WL.nil ?_
          refine DN.block_normal ?_
          refine DN.then_normal ?_
          refine WC.region ?_
          refine WL.y rfl (Yd.move rfl) ?_
          refine WL.y rfl (Yd.add rfl rfl (by omega) (by omega)) ?_
          refine WL.y rfl (Yd.assign rfl) ?_
          refine WL.nil ?_
          refine DN.fit (C := C7 ++ H) (by repeat (first | exact Sp.here | exact Sp.sn | exact Sp.s0 | exact Fr.here | apply Sp.s2 | apply Sp.sx | apply Fr.fc | apply Fr.al | apply Fr.fa | apply Sp.sc | apply Sp.al | apply Sp.sa)) ?_
          exact DN.againS (⟨i + 1, came + 1, C7⟩) (show (i + 1) ≤ 2 * (1 + r) + 1 ∧ (came + 1) = (if back then cnt01 ((cutL (1 + r)).take (i + 1)) else 0) ∧ WAt 72 34 5 p (netW 3 ((cutL (1 + r)).drop (i + 1)) (cutV back)) C7 ∧ WInv (netW 3 ((cutL (1 + r)).drop (i + 1)) (cutV back)) from ⟨by omega, by rw [hcn, hcame]; first | simp [hw, hbk] | simp [hw], h7, hI7⟩) (show 2 * (1 + r) + 1 - (i + 1) < 2 * (1 + r) + 1 - i by omega) (Sx.put rfl (Sx.put rfl ((by repeat (first | exact Sx.refl | refine Sx.skip rfl ?_))))) (by repeat (first | exact Sp.here | exact Sp.sn | exact Sp.s0 | exact Fr.here | apply Sp.s2 | apply Sp.sx | apply Fr.fc | apply Fr.al | apply Fr.fa | apply Sp.sc | apply Sp.al | apply Sp.sa))
        · refine WC.region ?_
          refine WL.y rfl (Yd.move rfl) ?_
          refine WL.c rfl (Ent.func Try.call13 rfl) (pick_tells p _ C6 h6 hI6 0) (Sp.p (by repeat (first | exact Sp.here | exact Sp.sn | exact Sp.s0 | exact Fr.here | apply Sp.s2 | apply Sp.sx | apply Fr.fc | apply Fr.al | apply Fr.fa | apply Sp.sc | apply Sp.al | apply Sp.sa))) ?_
          rintro q Hq ⟨vk6, vd6, A6, B6, C7, rfl, hA6, hB6, h7, rfl⟩
          have o1 := hA6.one_cell
          have o2 := hB6.one_cell
          have hI7 := hI6.out 0
          rw [hdr] at h7 hI7 ⊢
          rw [hout] at h7 hI7
          rw [hp1, hp2]
          refine WL.y rfl (Yd.move rfl) ?_
          refine WL.y rfl (Yd.extract rfl rfl) ?_
          refine WL.y rfl (Yd.extract rfl rfl) ?_
          refine WL.renamed (t := 90) (v := .bool false) rfl (congrArg Value.bool (by rw [hw, hbk]; rfl)) ?_
          refine WL.h rfl (Hd.alloc (zs := [.int .i64 0, .int .i64 0, .int .i64 0, .int .u32 0, .int .u32 0, .int .u64 0, .int .u64 0, .int .u32 0, .int .i64 0, .bool false, .int .i64 0, .slice none 0 0, .slice none 0 0]) (by kernel_rfl) fun b12 => ⟨_, rfl, ?_⟩)
          refine WL.s (Hd.storeAll (n := 13) (by kernel_rfl) rfl rfl (by rfl) (by repeat (first | exact fun _ h => absurd h List.not_mem_nil | refine List.forall_mem_cons.2 ⟨by first | rfl | assumption, ?_⟩)) (by repeat (first | exact Fr.here | apply Fr.fc | apply Fr.al | apply Fr.fa)) (by rfl) ⟨rfl, ?_⟩)
          refine WL.y rfl (Yd.assign rfl) ?_
          refine WL.nil ?_
          refine DN.then_normal ?_
          refine WC.seq ?_
          refine WC.region ?_
          refine WL.y rfl (Yd.move rfl) ?_
          refine WL.y rfl (Yd.move rfl) ?_
          refine WL.gn (dj := 92) rfl rfl rfl rfl ?_
          refine WL.gn (dj := 92) rfl rfl rfl rfl ?_
          refine WL.gn (dj := 92) rfl rfl rfl rfl ?_
          refine WL.y rfl (Yd.pickF rfl rfl) ?_
          refine WL.y rfl (Yd.move rfl) ?_
          refine WL.gn (dj := 97) rfl rfl rfl rfl ?_
          refine WL.gn (dj := 97) rfl rfl rfl rfl ?_
          refine WL.gn (dj := 97) rfl rfl rfl rfl ?_
          refine WL.y rfl (Yd.pickF rfl rfl) ?_
          refine WL.nil ?_
          refine DN.then_normal ?_
          refine WC.no rfl ?_
          refine WC.seq ?_
          refine WC.region ?_
          refine WL.y rfl (Yd.move rfl) ?_
          refine WL.y rfl (Yd.notB rfl) ?_
          refine WL.y rfl (Yd.move rfl) ?_
          refine WL.gy (dj := 106) rfl rfl rfl (Yd.move rfl) ?_
          refine WL.renamed (t := 107) (v := .bool false) rfl (congrArg Value.bool (hbk)) ?_
          refine WL.y rfl (Yd.pickT rfl rfl) ?_
          refine WL.nil ?_
          refine DN.then_normal ?_
          refine WC.no rfl ?_
          refine WC.skip ?_
          refine DN.block_normal ?_
          refine DN.then_normal ?_
          refine WC.region ?_
          refine WL.y rfl (Yd.move rfl) ?_
          refine WL.y rfl (Yd.add rfl rfl (by omega) (by omega)) ?_
          refine WL.y rfl (Yd.assign rfl) ?_
          refine WL.nil ?_
          refine DN.fit (C := C7 ++ H) (by repeat (first | exact Sp.here | exact Sp.sn | exact Sp.s0 | exact Fr.here | apply Sp.s2 | apply Sp.sx | apply Fr.fc | apply Fr.al | apply Fr.fa | apply Sp.sc | apply Sp.al | apply Sp.sa)) ?_
          exact DN.againS (⟨i + 1, came, C7⟩) (show (i + 1) ≤ 2 * (1 + r) + 1 ∧ came = (if back then cnt01 ((cutL (1 + r)).take (i + 1)) else 0) ∧ WAt 72 34 5 p (netW 3 ((cutL (1 + r)).drop (i + 1)) (cutV back)) C7 ∧ WInv (netW 3 ((cutL (1 + r)).drop (i + 1)) (cutV back)) from ⟨by omega, by rw [hcn, hcame]; first | simp [hw, hbk] | simp [hw], h7, hI7⟩) (show 2 * (1 + r) + 1 - (i + 1) < 2 * (1 + r) + 1 - i by omega) (Sx.put rfl (Sx.put rfl ((by repeat (first | exact Sx.refl | refine Sx.skip rfl ?_))))) (by repeat (first | exact Sp.here | exact Sp.sn | exact Sp.s0 | exact Fr.here | apply Sp.s2 | apply Sp.sx | apply Fr.fc | apply Fr.al | apply Fr.fa | apply Sp.sc | apply Sp.al | apply Sp.sa))
        · refine WC.region ?_
          refine WL.y rfl (Yd.move rfl) ?_
          refine WL.c rfl (Ent.func Try.call13 rfl) (pick_tells p _ C6 h6 hI6 0) (Sp.p (by repeat (first | exact Sp.here | exact Sp.sn | exact Sp.s0 | exact Fr.here | apply Sp.s2 | apply Sp.sx | apply Fr.fc | apply Fr.al | apply Fr.fa | apply Sp.sc | apply Sp.al | apply Sp.sa))) ?_
          rintro q Hq ⟨vk6, vd6, A6, B6, C7, rfl, hA6, hB6, h7, rfl⟩
          have o1 := hA6.one_cell
          have o2 := hB6.one_cell
          have hI7 := hI6.out 0
          rw [hdr] at h7 hI7 ⊢
          rw [hout] at h7 hI7
          rw [hp1, hp2]
          refine WL.y rfl (Yd.move rfl) ?_
          refine WL.y rfl (Yd.extract rfl rfl) ?_
          refine WL.y rfl (Yd.extract rfl rfl) ?_
          refine WL.renamed (t := 90) (v := .bool true) rfl (congrArg Value.bool (by rw [hw]; simp)) ?_
          refine WL.h rfl (Hd.alloc (zs := [.int .i64 0, .int .i64 0, .int .i64 0, .int .u32 0, .int .u32 0, .int .u64 0, .int .u64 0, .int .u32 0, .int .i64 0, .bool false, .int .i64 0, .slice none 0 0, .slice none 0 0]) (by kernel_rfl) fun b12 => ⟨_, rfl, ?_⟩)
          refine WL.s (Hd.storeAll (n := 13) (by kernel_rfl) rfl rfl (by rfl) (by repeat (first | exact fun _ h => absurd h List.not_mem_nil | refine List.forall_mem_cons.2 ⟨by first | rfl | assumption, ?_⟩)) (by repeat (first | exact Fr.here | apply Fr.fc | apply Fr.al | apply Fr.fa)) (by rfl) ⟨rfl, ?_⟩)
          refine WL.y rfl (Yd.assign rfl) ?_
          refine WL.nil ?_
          refine DN.then_normal ?_
          refine WC.seq ?_
          refine WC.region ?_
          refine WL.y rfl (Yd.move rfl) ?_
          refine WL.y rfl (Yd.move rfl) ?_
          refine WL.gy (dj := 92) rfl rfl rfl (Yd.fieldAddr (k := 0) (by kernel_rfl) rfl) ?_
          refine WL.gh (dj := 92) rfl rfl rfl (Hd.load1 (by kernel_rfl) rfl (by repeat (first | exact List.mem_cons_self | apply List.mem_cons_of_mem | apply List.mem_append_right)) (by rfl) ⟨_, rfl, ?_⟩)
          refine WL.gy (dj := 92) rfl rfl rfl (Yd.eql rfl rfl) ?_
          refine WL.renamed (t := 95) (v := .bool false) rfl (congrArg Value.bool (by simp [hw, hf])) ?_
          refine WL.y rfl (Yd.pickT rfl rfl) ?_
          refine WL.y rfl (Yd.move rfl) ?_
          refine WL.gn (dj := 97) rfl rfl rfl rfl ?_
          refine WL.gn (dj := 97) rfl rfl rfl rfl ?_
          refine WL.gn (dj := 97) rfl rfl rfl rfl ?_
          refine WL.y rfl (Yd.pickF rfl rfl) ?_
          refine WL.nil ?_
          refine DN.then_normal ?_
          refine WC.no rfl ?_
          refine WC.seq ?_
          refine WC.region ?_
          refine WL.y rfl (Yd.move rfl) ?_
          refine WL.y rfl (Yd.notB rfl) ?_
          refine WL.y rfl (Yd.move rfl) ?_
          refine WL.gn (dj := 106) rfl rfl rfl rfl ?_
          refine WL.y rfl (Yd.pickF rfl rfl) ?_
          refine WL.nil ?_
          refine DN.then_normal ?_
          refine WC.no rfl ?_
          refine WC.skip ?_
          refine DN.block_normal ?_
          refine DN.then_normal ?_
          refine WC.region ?_
          refine WL.y rfl (Yd.move rfl) ?_
          refine WL.y rfl (Yd.add rfl rfl (by omega) (by omega)) ?_
          refine WL.y rfl (Yd.assign rfl) ?_
          refine WL.nil ?_
          refine DN.fit (C := C7 ++ H) (by repeat (first | exact Sp.here | exact Sp.sn | exact Sp.s0 | exact Fr.here | apply Sp.s2 | apply Sp.sx | apply Fr.fc | apply Fr.al | apply Fr.fa | apply Sp.sc | apply Sp.al | apply Sp.sa)) ?_
          exact DN.againS (⟨i + 1, came, C7⟩) (show (i + 1) ≤ 2 * (1 + r) + 1 ∧ came = (if back then cnt01 ((cutL (1 + r)).take (i + 1)) else 0) ∧ WAt 72 34 5 p (netW 3 ((cutL (1 + r)).drop (i + 1)) (cutV back)) C7 ∧ WInv (netW 3 ((cutL (1 + r)).drop (i + 1)) (cutV back)) from ⟨by omega, by rw [hcn, hcame]; first | simp [hw, hbk] | simp [hw], h7, hI7⟩) (show 2 * (1 + r) + 1 - (i + 1) < 2 * (1 + r) + 1 - i by omega) (Sx.put rfl (Sx.put rfl ((by repeat (first | exact Sx.refl | refine Sx.skip rfl ?_))))) (by repeat (first | exact Sp.here | exact Sp.sn | exact Sp.s0 | exact Fr.here | apply Sp.s2 | apply Sp.sx | apply Fr.fc | apply Fr.al | apply Fr.fa | apply Sp.sc | apply Sp.al | apply Sp.sa))
        · refine WC.region ?_
          refine WL.y rfl (Yd.move rfl) ?_
          refine WL.c rfl (Ent.func Try.call13 rfl) (pick_tells p _ C6 h6 hI6 0) (Sp.p (by repeat (first | exact Sp.here | exact Sp.sn | exact Sp.s0 | exact Fr.here | apply Sp.s2 | apply Sp.sx | apply Fr.fc | apply Fr.al | apply Fr.fa | apply Sp.sc | apply Sp.al | apply Sp.sa))) ?_
          rintro q Hq ⟨vk6, vd6, A6, B6, C7, rfl, hA6, hB6, h7, rfl⟩
          have o1 := hA6.one_cell
          have o2 := hB6.one_cell
          have hI7 := hI6.out 0
          rw [hdr] at h7 hI7 ⊢
          rw [hout] at h7 hI7
          rw [hp1, hp2]
          refine WL.y rfl (Yd.move rfl) ?_
          refine WL.y rfl (Yd.extract rfl rfl) ?_
          refine WL.y rfl (Yd.extract rfl rfl) ?_
          refine WL.renamed (t := 90) (v := .bool true) rfl (congrArg Value.bool (by rw [hw]; simp)) ?_
          refine WL.h rfl (Hd.alloc (zs := [.int .i64 0, .int .i64 0, .int .i64 0, .int .u32 0, .int .u32 0, .int .u64 0, .int .u64 0, .int .u32 0, .int .i64 0, .bool false, .int .i64 0, .slice none 0 0, .slice none 0 0]) (by kernel_rfl) fun b12 => ⟨_, rfl, ?_⟩)
          refine WL.s (Hd.storeAll (n := 13) (by kernel_rfl) rfl rfl (by rfl) (by repeat (first | exact fun _ h => absurd h List.not_mem_nil | refine List.forall_mem_cons.2 ⟨by first | rfl | assumption, ?_⟩)) (by repeat (first | exact Fr.here | apply Fr.fc | apply Fr.al | apply Fr.fa)) (by rfl) ⟨rfl, ?_⟩)
          refine WL.y rfl (Yd.assign rfl) ?_
          refine WL.nil ?_
          refine DN.then_normal ?_
          refine WC.seq ?_
          refine WC.region ?_
          refine WL.y rfl (Yd.move rfl) ?_
          refine WL.y rfl (Yd.move rfl) ?_
          refine WL.gy (dj := 92) rfl rfl rfl (Yd.fieldAddr (k := 0) (by kernel_rfl) rfl) ?_
          refine WL.gh (dj := 92) rfl rfl rfl (Hd.load1 (by kernel_rfl) rfl (by repeat (first | exact List.mem_cons_self | apply List.mem_cons_of_mem | apply List.mem_append_right)) (by rfl) ⟨_, rfl, ?_⟩)
          refine WL.gy (dj := 92) rfl rfl rfl (Yd.eql rfl rfl) ?_
          refine WL.renamed (t := 95) (v := .bool true) rfl (congrArg Value.bool (by simp [hw, hf])) ?_
          refine WL.y rfl (Yd.pickT rfl rfl) ?_
          refine WL.y rfl (Yd.move rfl) ?_
          refine WL.gy (dj := 97) rfl rfl rfl (Yd.fieldAddr (k := 1) (by kernel_rfl) rfl) ?_
          refine WL.gh (dj := 97) rfl rfl rfl (Hd.load1 (by kernel_rfl) rfl (by repeat (first | exact List.mem_cons_self | apply List.mem_cons_of_mem | apply List.mem_append_right)) (by rfl) ⟨_, rfl, ?_⟩)
          refine WL.gy (dj := 97) rfl rfl rfl (Yd.eql rfl rfl) ?_
          refine WL.renamed (t := 100) (v := .bool false) rfl (congrArg Value.bool (by simp [hw, ht])) ?_
          refine WL.y rfl (Yd.pickT rfl rfl) ?_
          refine WL.nil ?_
          refine DN.then_normal ?_
          refine WC.no rfl ?_
          refine WC.seq ?_
          refine WC.region ?_
          refine WL.y rfl (Yd.move rfl) ?_
          refine WL.y rfl (Yd.notB rfl) ?_
          refine WL.y rfl (Yd.move rfl) ?_
          refine WL.gn (dj := 106) rfl rfl rfl rfl ?_
          refine WL.y rfl (Yd.pickF rfl rfl) ?_
          refine WL.nil ?_
          refine DN.then_normal ?_
          refine WC.no rfl ?_
          refine WC.skip ?_
          refine DN.block_normal ?_
          refine DN.then_normal ?_
          refine WC.region ?_
          refine WL.y rfl (Yd.move rfl) ?_
          refine WL.y rfl (Yd.add rfl rfl (by omega) (by omega)) ?_
          refine WL.y rfl (Yd.assign rfl) ?_
          refine WL.nil ?_
          refine DN.fit (C := C7 ++ H) (by repeat (first | exact Sp.here | exact Sp.sn | exact Sp.s0 | exact Fr.here | apply Sp.s2 | apply Sp.sx | apply Fr.fc | apply Fr.al | apply Fr.fa | apply Sp.sc | apply Sp.al | apply Sp.sa)) ?_
          exact DN.againS (⟨i + 1, came, C7⟩) (show (i + 1) ≤ 2 * (1 + r) + 1 ∧ came = (if back then cnt01 ((cutL (1 + r)).take (i + 1)) else 0) ∧ WAt 72 34 5 p (netW 3 ((cutL (1 + r)).drop (i + 1)) (cutV back)) C7 ∧ WInv (netW 3 ((cutL (1 + r)).drop (i + 1)) (cutV back)) from ⟨by omega, by rw [hcn, hcame]; first | simp [hw, hbk] | simp [hw], h7, hI7⟩) (show 2 * (1 + r) + 1 - (i + 1) < 2 * (1 + r) + 1 - i by omega) (Sx.put rfl (Sx.put rfl ((by repeat (first | exact Sx.refl | refine Sx.skip rfl ?_))))) (by repeat (first | exact Sp.here | exact Sp.sn | exact Sp.s0 | exact Fr.here | apply Sp.s2 | apply Sp.sx | apply Fr.fc | apply Fr.al | apply Fr.fa | apply Sp.sc | apply Sp.al | apply Sp.sa))
      · have hie : i = 2 * (1 + r) + 1 := by omega
        subst hie
        rw [List.take_of_length_le (by rw [hcl]; omega), cnt_cutL] at hcame
        refine WC.exit ?_
        refine DN.then_exit ?_
        refine DN.then_exit ?_
        refine DN.block_exit ?_
        refine DN.then_normal ?_
        refine WC.seq ?_
        refine WC.region ?_
        refine WL.y rfl (Yd.assign rfl) ?_
        refine WL.nil ?_
        refine DN.then_normal ?_
        refine WC.seq ?_
        refine WC.seq ?_
        refine WC.region ?_
        refine WL.y rfl (Yd.move rfl) ?_
        refine WL.nil ?_
        refine DN.then_normal ?_
        refine WC.cond rfl (fun h76 => ?_) (fun h76 => ?_)
        · refine WC.region ?_
          refine WL.y rfl (Yd.move rfl) ?_
          refine WL.y rfl (Yd.assign rfl) ?_
          refine WL.nil ?_
          refine DN.then_normal ?_
          refine WC.seq ?_
          refine WC.region ?_
          refine WL.y rfl (Yd.move rfl) ?_
          refine WL.renamed (t := 111) (v := .bool true) rfl (congrArg Value.bool (rfl)) ?_
          refine WL.y rfl (Yd.move rfl) ?_
          refine WL.gy (dj := 112) rfl rfl rfl (Yd.move rfl) ?_
          refine WL.gy (dj := 112) rfl rfl rfl (Yd.move rfl) ?_
          refine WL.gy (dj := 112) rfl rfl rfl (Yd.eql rfl rfl) ?_
          refine WL.renamed (t := 115) (v := .bool true) rfl (congrArg Value.bool (by rw [hcame]; cases back <;> first | contradiction | simp)) ?_
          refine WL.y rfl (Yd.pickT rfl rfl) ?_
          refine WL.y rfl (Yd.move rfl) ?_
          refine WL.gy (dj := 117) rfl rfl rfl (Yd.move rfl) ?_
          refine WL.grf (dj := 117) rfl rfl rfl (Ent.func Try.call14 rfl) (len_reads p _ C6 h6) (by repeat (first | exact Sp.here | exact Sp.sn | exact Sp.s0 | exact Fr.here | apply Sp.s2 | apply Sp.sx | apply Fr.fc | apply Fr.al | apply Fr.fa | apply Sp.sc | apply Sp.al | apply Sp.sa)) ?_
          refine WL.gy (dj := 117) rfl rfl rfl (Yd.eql rfl rfl) ?_
          refine WL.renamed (t := 120) (v := .bool true) rfl (congrArg Value.bool (by simp [netW]; omega)) ?_
          refine WL.y rfl (Yd.pickT rfl rfl) ?_
          refine WL.y rfl (Yd.move rfl) ?_
          refine WL.gr (dj := 122) rfl rfl rfl (Ent.func Try.call15 rfl) (known18 _) ?_
          refine WL.y rfl (Yd.pickT rfl rfl) ?_
          refine WL.y rfl (Yd.assign rfl) ?_
          refine WL.nil ?_
          refine DN.then_normal ?_
          refine WC.ret ?_
          refine DN.fit (C := H) (by repeat (first | exact Sp.here | exact Sp.sn | exact Sp.s0 | exact Fr.here | apply Sp.s2 | apply Sp.sx | apply Fr.fc | apply Fr.al | apply Fr.fa | apply Sp.sc | apply Sp.al | apply Sp.sa)) ?_
          refine DN.ret1 Try.results4 rfl ?_
          exact ⟨rfl, rfl⟩
        · refine WC.skip ?_
          refine DN.then_normal ?_
          refine WC.seq ?_
          refine WC.region ?_
          refine WL.y rfl (Yd.move rfl) ?_
          refine WL.renamed (t := 111) (v := .bool true) rfl (congrArg Value.bool (rfl)) ?_
          refine WL.y rfl (Yd.move rfl) ?_
          refine WL.gy (dj := 112) rfl rfl rfl (Yd.move rfl) ?_
          refine WL.gy (dj := 112) rfl rfl rfl (Yd.move rfl) ?_
          refine WL.gy (dj := 112) rfl rfl rfl (Yd.eql rfl rfl) ?_
          refine WL.renamed (t := 115) (v := .bool true) rfl (congrArg Value.bool (by rw [hcame]; cases back <;> first | contradiction | simp)) ?_
          refine WL.y rfl (Yd.pickT rfl rfl) ?_
          refine WL.y rfl (Yd.move rfl) ?_
          refine WL.gy (dj := 117) rfl rfl rfl (Yd.move rfl) ?_
          refine WL.grf (dj := 117) rfl rfl rfl (Ent.func Try.call14 rfl) (len_reads p _ C6 h6) (by repeat (first | exact Sp.here | exact Sp.sn | exact Sp.s0 | exact Fr.here | apply Sp.s2 | apply Sp.sx | apply Fr.fc | apply Fr.al | apply Fr.fa | apply Sp.sc | apply Sp.al | apply Sp.sa)) ?_
          refine WL.gy (dj := 117) rfl rfl rfl (Yd.eql rfl rfl) ?_
          refine WL.renamed (t := 120) (v := .bool true) rfl (congrArg Value.bool (by simp [netW]; omega)) ?_
          refine WL.y rfl (Yd.pickT rfl rfl) ?_
          refine WL.y rfl (Yd.move rfl) ?_
          refine WL.gr (dj := 122) rfl rfl rfl (Ent.func Try.call15 rfl) (known18 _) ?_
          refine WL.y rfl (Yd.pickT rfl rfl) ?_
          refine WL.y rfl (Yd.assign rfl) ?_
          refine WL.nil ?_
          refine DN.then_normal ?_
          refine WC.ret ?_
          refine DN.fit (C := H) (by repeat (first | exact Sp.here | exact Sp.sn | exact Sp.s0 | exact Fr.here | apply Sp.s2 | apply Sp.sx | apply Fr.fc | apply Fr.al | apply Fr.fa | apply Sp.sc | apply Sp.al | apply Sp.sa)) ?_
          refine DN.ret1 Try.results4 rfl ?_
          exact ⟨rfl, rfl⟩

end Go.Proofs.Ytgpegfmonmdhoaa
