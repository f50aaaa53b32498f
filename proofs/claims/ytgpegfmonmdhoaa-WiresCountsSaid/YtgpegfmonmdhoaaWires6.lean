/-
  The walks of the net's laws: the examples, WiresOrder.
-/
import Derived.Test.YtgpegfmonmdhoaaWires5
import Derived.Test.YtgpegfmonmdhoaaWireMath2
set_option linter.unusedVariables false
set_option linter.unusedSimpArgs false
set_option maxHeartbeats 4000000
set_option maxRecDepth 100000
namespace Go.Proofs.Ytgpegfmonmdhoaa
open Go.SL
def kW1 : Wn := sendW (newW 3) (ackL 0 1 1#64)
def kW2 : Wn := sendW kW1 (ackL 0 2 2#64)
def kW3 : Wn := lateW kW2 0
def kW4 : Wn := cutW kW3 0 1 true
def kW5 : Wn := outW kW4 1
def kW6 : Wn := outW kW5 0
def kW7 : Wn := tickW kW6 2
theorem kI0 : WInv (newW 3) := newW_inv (by decide)
theorem kI1 : WInv kW1 := kI0.send _
theorem kI2 : WInv kW2 := kI1.send _
theorem kI3 : WInv kW3 := kI2.late _
theorem kI4 : WInv kW4 := kI3.cut' _ _ _
theorem kI5 : WInv kW5 := kI4.out _
theorem kI6 : WInv kW6 := kI5.out _
theorem kI7 : WInv kW7 := kI6.tick _
theorem bsNil (H : List Ck) : Bs (.slice none 0 0) [] H := .inl ⟨_, _, rfl, rfl, rfl⟩


/-- drayage/drayagelaw18.known -/
theorem known18 (H : List Ck) : Reads Try.prog 15 [] H (.bool true) := by
  refine Tells.enter Try.func15 rfl Try.ntmps15 rfl ?_
  intro w0 R
  refine WC.seq ?_
  refine WC.region ?_
  refine WL.y rfl (Yd.assign rfl) ?_
  refine WL.nil ?_
  refine DN.then_normal ?_
  refine WC.seq ?_
  refine WC.region ?_
  refine WL.c rfl (Ent.func Try.call9 rfl) (new_tells 3) (Sp.p (by repeat (first | exact Sp.here | exact Sp.sn | exact Sp.s0 | exact Fr.here | apply Sp.s2 | apply Sp.sx | apply Fr.fc | apply Fr.al | apply Fr.fa | apply Sp.sc | apply Sp.al | apply Sp.sa))) ?_
  rintro q C0 hq
  rw [if_pos (by decide)] at hq
  obtain ⟨p, rfl, h0⟩ := hq
  refine WL.y rfl (Yd.move rfl) ?_
  refine WL.y rfl (Yd.extract rfl rfl) ?_
  refine WL.y rfl (Yd.extract rfl rfl) ?_
  refine WL.y rfl (Yd.assign rfl) ?_
  refine WL.y rfl (Yd.assign rfl) ?_
  refine WL.nil ?_
  refine DN.then_normal ?_
  refine WC.seq ?_
  refine WC.seq ?_
  refine WC.region ?_
  refine WL.y rfl (Yd.move rfl) ?_
  refine WL.y rfl (Yd.neq rfl rfl) ?_
  refine WL.renamed (t := 17) (v := .bool false) rfl (congrArg Value.bool (by decide)) ?_
  refine WL.y rfl (Yd.move rfl) ?_
  refine WL.gy (dj := 18) rfl rfl rfl (Yd.move rfl) ?_
  refine WL.gy (dj := 18) rfl rfl rfl (Yd.eqlNil Try.underlying22 rfl rfl) ?_
  refine WL.renamed (t := 20) (v := .bool false) rfl (congrArg Value.bool (rfl)) ?_
  refine WL.y rfl (Yd.pickF rfl rfl) ?_
  refine WL.nil ?_
  refine DN.then_normal ?_
  refine WC.no rfl ?_
  refine WC.skip ?_
  refine DN.then_normal ?_
  refine WC.seq ?_
  refine WC.region ?_
  refine WL.y rfl (Yd.move rfl) ?_
  refine WL.r rfl (Ent.func Try.call11 rfl) (letter_reads 0 1 1#64 _) ?_
  refine WL.c rfl (Ent.func Try.call10 rfl) (send_tells p (newW 3) C0 [] h0 kI0 (ackL 0 1 1#64) _ _ (bsNil _) (bsNil _) (Nat.zero_le _) (Nat.zero_le _)) (Sp.p (by repeat (first | exact Sp.here | exact Sp.sn | exact Sp.s0 | exact Fr.here | apply Sp.s2 | apply Sp.sx | apply Fr.fc | apply Fr.al | apply Fr.fa | apply Sp.sc | apply Sp.al | apply Sp.sa))) ?_
  rintro q Hq ⟨C1, rfl, h1, rfl⟩
  replace h1 : WAt 72 34 5 p kW1 C1 := h1
  refine WL.y rfl (Yd.assign rfl) ?_
  refine WL.nil ?_
  refine DN.then_normal ?_
  refine WC.seq ?_
  refine WC.region ?_
  refine WL.y rfl (Yd.move rfl) ?_
  refine WL.r rfl (Ent.func Try.call11 rfl) (letter_reads 0 2 2#64 _) ?_
  refine WL.c rfl (Ent.func Try.call10 rfl) (send_tells p kW1 C1 [] h1 kI1 (ackL 0 2 2#64) _ _ (bsNil _) (bsNil _) (Nat.zero_le _) (Nat.zero_le _)) (Sp.p (by repeat (first | exact Sp.here | exact Sp.sn | exact Sp.s0 | exact Fr.here | apply Sp.s2 | apply Sp.sx | apply Fr.fc | apply Fr.al | apply Fr.fa | apply Sp.sc | apply Sp.al | apply Sp.sa))) ?_
  rintro q Hq ⟨C2, rfl, h2, rfl⟩
  replace h2 : WAt 72 34 5 p kW2 C2 := h2
  refine WL.y rfl (Yd.assign rfl) ?_
  refine WL.nil ?_
  refine DN.then_normal ?_
  refine WC.seq ?_
  refine WC.region ?_
  refine WL.y rfl (Yd.move rfl) ?_
  refine WL.c rfl (Ent.func Try.call12 rfl) (late_tells p kW2 C2 h2 kI2 0) (Sp.p (by repeat (first | exact Sp.here | exact Sp.sn | exact Sp.s0 | exact Fr.here | apply Sp.s2 | apply Sp.sx | apply Fr.fc | apply Fr.al | apply Fr.fa | apply Sp.sc | apply Sp.al | apply Sp.sa))) ?_
  rintro q C3 ⟨rfl, h3⟩
  replace h3 : WAt 72 34 5 p kW3 C3 := h3
  refine WL.y rfl (Yd.assign rfl) ?_
  refine WL.nil ?_
  refine DN.then_normal ?_
  refine WC.seq ?_
  refine WC.region ?_
  refine WL.y rfl (Yd.move rfl) ?_
  refine WL.c rfl (Ent.func Try.call16 rfl) (cut_tells p kW3 C3 h3 kI3 0 1 true) (Sp.p (by repeat (first | exact Sp.here | exact Sp.sn | exact Sp.s0 | exact Fr.here | apply Sp.s2 | apply Sp.sx | apply Fr.fc | apply Fr.al | apply Fr.fa | apply Sp.sc | apply Sp.al | apply Sp.sa))) ?_
  rintro q C4 ⟨rfl, h4⟩
  replace h4 : WAt 72 34 5 p kW4 C4 := h4
  refine WL.nil ?_
  refine DN.then_normal ?_
  refine WC.seq ?_
  refine WC.region ?_
  refine WL.y rfl (Yd.move rfl) ?_
  refine WL.c rfl (Ent.func Try.call13 rfl) (pick_tells p kW4 C4 h4 kI4 1) (Sp.p (by repeat (first | exact Sp.here | exact Sp.sn | exact Sp.s0 | exact Fr.here | apply Sp.s2 | apply Sp.sx | apply Fr.fc | apply Fr.al | apply Fr.fa | apply Sp.sc | apply Sp.al | apply Sp.sa))) ?_
  rintro q Hq ⟨vk5, vd5, A5, B5, C5, rfl, hA5, hB5, h5, rfl⟩
  replace h5 : WAt 72 34 5 p kW5 C5 := h5
  have o1 := hA5.one_cell
  have o2 := hB5.one_cell
  refine WL.y rfl (Yd.move rfl) ?_
  refine WL.y rfl (Yd.extract rfl rfl) ?_
  refine WL.y rfl (Yd.extract rfl rfl) ?_
  refine WL.h rfl (Hd.alloc (zs := [.int .i64 0, .int .i64 0, .int .i64 0, .int .u32 0, .int .u32 0, .int .u64 0, .int .u64 0, .int .u32 0, .int .i64 0, .bool false, .int .i64 0, .slice none 0 0, .slice none 0 0]) (by kernel_rfl) fun b6 => ⟨_, rfl, ?_⟩)
  refine WL.s (Hd.storeAll (n := 13) (by kernel_rfl) rfl rfl (by rfl) (by repeat (first | exact fun _ h => absurd h List.not_mem_nil | refine List.forall_mem_cons.2 ⟨by first | rfl | assumption, ?_⟩)) (by repeat (first | exact Fr.here | apply Fr.fc | apply Fr.al | apply Fr.fa)) (by rfl) ⟨rfl, ?_⟩)
  refine WL.y rfl (Yd.assign rfl) ?_
  refine WL.nil ?_
  refine DN.then_normal ?_
  refine WC.seq ?_
  refine WC.region ?_
  refine WL.y rfl (Yd.move rfl) ?_
  refine WL.c rfl (Ent.func Try.call13 rfl) (pick_tells p kW5 C5 h5 kI5 0) (Sp.p (by repeat (first | exact Sp.here | exact Sp.sn | exact Sp.s0 | exact Fr.here | apply Sp.s2 | apply Sp.sx | apply Fr.fc | apply Fr.al | apply Fr.fa | apply Sp.sc | apply Sp.al | apply Sp.sa))) ?_
  rintro q Hq ⟨vk6, vd6, A6, B6, C6, rfl, hA6, hB6, h6, rfl⟩
  replace h6 : WAt 72 34 5 p kW6 C6 := h6
  have o3 := hA6.one_cell
  have o4 := hB6.one_cell
  refine WL.y rfl (Yd.move rfl) ?_
  refine WL.y rfl (Yd.extract rfl rfl) ?_
  refine WL.y rfl (Yd.extract rfl rfl) ?_
  refine WL.h rfl (Hd.alloc (zs := [.int .i64 0, .int .i64 0, .int .i64 0, .int .u32 0, .int .u32 0, .int .u64 0, .int .u64 0, .int .u32 0, .int .i64 0, .bool false, .int .i64 0, .slice none 0 0, .slice none 0 0]) (by kernel_rfl) fun b8 => ⟨_, rfl, ?_⟩)
  refine WL.s (Hd.storeAll (n := 13) (by kernel_rfl) rfl rfl (by rfl) (by repeat (first | exact fun _ h => absurd h List.not_mem_nil | refine List.forall_mem_cons.2 ⟨by first | rfl | assumption, ?_⟩)) (by repeat (first | exact Fr.here | apply Fr.fc | apply Fr.al | apply Fr.fa)) (by rfl) ⟨rfl, ?_⟩)
  refine WL.y rfl (Yd.assign rfl) ?_
  refine WL.nil ?_
  refine DN.then_normal ?_
  refine WC.seq ?_
  refine WC.region ?_
  refine WL.y rfl (Yd.move rfl) ?_
  refine WL.c rfl (Ent.func Try.call27 rfl) (tick_tells p kW6 C6 h6 kI6 2) (Sp.p (by repeat (first | exact Sp.here | exact Sp.sn | exact Sp.s0 | exact Fr.here | apply Sp.s2 | apply Sp.sx | apply Fr.fc | apply Fr.al | apply Fr.fa | apply Sp.sc | apply Sp.al | apply Sp.sa))) ?_
  rintro q C7 ⟨rfl, h7⟩
  replace h7 : WAt 72 34 5 p kW7 C7 := h7
  refine WL.y rfl (Yd.move rfl) ?_
  refine WL.y rfl (Yd.extract rfl rfl) ?_
  refine WL.y rfl (Yd.extract rfl rfl) ?_
  refine WL.y rfl (Yd.assign rfl) ?_
  refine WL.y rfl (Yd.assign rfl) ?_
  refine WL.nil ?_
  refine DN.then_normal ?_
  refine WC.seq ?_
  refine WC.region ?_
  refine WL.y rfl (Yd.move rfl) ?_
  refine WL.y rfl (Yd.eql rfl rfl) ?_
  refine WL.renamed (t := 48) (v := .bool true) rfl (congrArg Value.bool (by kernel_rfl)) ?_
  refine WL.y rfl (Yd.move rfl) ?_
  refine WL.gy (dj := 49) rfl rfl rfl (Yd.move rfl) ?_
  refine WL.gy (dj := 49) rfl rfl rfl (Yd.eql rfl rfl) ?_
  refine WL.renamed (t := 51) (v := .bool true) rfl (congrArg Value.bool (by kernel_rfl)) ?_
  refine WL.y rfl (Yd.pickT rfl rfl) ?_
  refine WL.y rfl (Yd.move rfl) ?_
  refine WL.gy (dj := 53) rfl rfl rfl (Yd.move rfl) ?_
  refine WL.renamed (t := 54) (v := .bool true) rfl (congrArg Value.bool (by kernel_rfl)) ?_
  refine WL.y rfl (Yd.pickT rfl rfl) ?_
  refine WL.y rfl (Yd.move rfl) ?_
  refine WL.gy (dj := 56) rfl rfl rfl (Yd.move rfl) ?_
  refine WL.gy (dj := 56) rfl rfl rfl (Yd.notB rfl) ?_
  refine WL.renamed (t := 58) (v := .bool true) rfl (congrArg Value.bool (by kernel_rfl)) ?_
  refine WL.y rfl (Yd.pickT rfl rfl) ?_
  refine WL.y rfl (Yd.move rfl) ?_
  refine WL.gy (dj := 60) rfl rfl rfl (Yd.move rfl) ?_
  refine WL.renamed (t := 61) (v := .bool true) rfl (congrArg Value.bool (by kernel_rfl)) ?_
  refine WL.y rfl (Yd.pickT rfl rfl) ?_
  refine WL.y rfl (Yd.move rfl) ?_
  refine WL.gy (dj := 63) rfl rfl rfl (Yd.fieldAddr (k := 1) (by kernel_rfl) rfl) ?_
  refine WL.gh (dj := 63) rfl rfl rfl (Hd.load1 (by kernel_rfl) rfl (by repeat (first | exact List.mem_cons_self | apply List.mem_cons_of_mem | apply List.mem_append_right)) (by rfl) ⟨_, rfl, ?_⟩)
  refine WL.gy (dj := 63) rfl rfl rfl (Yd.eql rfl rfl) ?_
  refine WL.renamed (t := 66) (v := .bool true) rfl (congrArg Value.bool (by kernel_rfl)) ?_
  refine WL.y rfl (Yd.pickT rfl rfl) ?_
  refine WL.y rfl (Yd.move rfl) ?_
  refine WL.gy (dj := 68) rfl rfl rfl (Yd.fieldAddr (k := 2) (by kernel_rfl) rfl) ?_
  refine WL.gy (dj := 68) rfl rfl rfl (Yd.fieldAddr (k := 3) (by kernel_rfl) rfl) ?_
  refine WL.gh (dj := 68) rfl rfl rfl (Hd.load1 (by kernel_rfl) rfl (by repeat (first | exact List.mem_cons_self | apply List.mem_cons_of_mem | apply List.mem_append_right)) (by rfl) ⟨_, rfl, ?_⟩)
  refine WL.gy (dj := 68) rfl rfl rfl (Yd.eql64 _ (2#64) rfl rfl rfl rfl) ?_
  refine WL.renamed (t := 72) (v := .bool true) rfl (congrArg Value.bool (by kernel_rfl)) ?_
  refine WL.y rfl (Yd.pickT rfl rfl) ?_
  refine WL.y rfl (Yd.move rfl) ?_
  refine WL.gy (dj := 74) rfl rfl rfl (Yd.move rfl) ?_
  refine WL.grf (dj := 74) rfl rfl rfl (Ent.func Try.call14 rfl) (len_reads p kW7 C7 h7) (by repeat (first | exact Sp.here | exact Sp.sn | exact Sp.s0 | exact Fr.here | apply Sp.s2 | apply Sp.sx | apply Fr.fc | apply Fr.al | apply Fr.fa | apply Sp.sc | apply Sp.al | apply Sp.sa)) ?_
  refine WL.gy (dj := 74) rfl rfl rfl (Yd.eql rfl rfl) ?_
  refine WL.renamed (t := 77) (v := .bool true) rfl (congrArg Value.bool (by kernel_rfl)) ?_
  refine WL.y rfl (Yd.pickT rfl rfl) ?_
  refine WL.y rfl (Yd.move rfl) ?_
  refine WL.gy (dj := 79) rfl rfl rfl (Yd.move rfl) ?_
  refine WL.gy (dj := 79) rfl rfl rfl (Yd.eql64 _ (1#64) rfl rfl rfl rfl) ?_
  refine WL.renamed (t := 81) (v := .bool true) rfl (congrArg Value.bool (by kernel_rfl)) ?_
  refine WL.y rfl (Yd.pickT rfl rfl) ?_
  refine WL.y rfl (Yd.move rfl) ?_
  refine WL.gy (dj := 83) rfl rfl rfl (Yd.move rfl) ?_
  refine WL.gy (dj := 83) rfl rfl rfl (Yd.eql rfl rfl) ?_
  refine WL.renamed (t := 85) (v := .bool true) rfl (congrArg Value.bool (by kernel_rfl)) ?_
  refine WL.y rfl (Yd.pickT rfl rfl) ?_
  refine WL.y rfl (Yd.move rfl) ?_
  refine WL.gy (dj := 87) rfl rfl rfl (Yd.move rfl) ?_
  refine WL.grf (dj := 87) rfl rfl rfl (Ent.func Try.call28 rfl) (clock_reads p kW7 C7 h7 kI7 2) (by repeat (first | exact Sp.here | exact Sp.sn | exact Sp.s0 | exact Fr.here | apply Sp.s2 | apply Sp.sx | apply Fr.fc | apply Fr.al | apply Fr.fa | apply Sp.sc | apply Sp.al | apply Sp.sa)) ?_
  refine WL.gy (dj := 87) rfl rfl rfl (Yd.eql64 _ (1#64) rfl rfl rfl rfl) ?_
  refine WL.renamed (t := 90) (v := .bool true) rfl (congrArg Value.bool (by kernel_rfl)) ?_
  refine WL.y rfl (Yd.pickT rfl rfl) ?_
  refine WL.y rfl (Yd.assign rfl) ?_
  refine WL.nil ?_
  refine DN.then_normal ?_
  refine WC.ret ?_
  refine DN.fit (C := H) (by repeat (first | exact Sp.here | exact Sp.sn | exact Sp.s0 | exact Fr.here | apply Sp.s2 | apply Sp.sx | apply Fr.fc | apply Fr.al | apply Fr.fa | apply Sp.sc | apply Sp.al | apply Sp.sa)) ?_
  refine DN.ret1 Try.results15 rfl ?_
  exact ⟨rfl, rfl⟩

/-- drayage/drayagelaw18.WiresOrder -/
theorem law_WiresOrder (n late : Int) (H : List Ck) : Reads Try.prog 3 [.int .i64 n, .int .i64 late] H (.bool true) := by
  refine Tells.enter Try.func3 rfl Try.ntmps3 rfl ?_
  intro w0 R
  obtain ⟨r, hr, hr60⟩ : ∃ r : Nat, (BitVec.ofInt 64 n % 60#64).toNat = r ∧ r < 60 := ⟨_, rfl, by rw [BitVec.toNat_umod]; exact Nat.mod_lt _ (by decide)⟩
  have hk64 : (BitVec.ofInt 64 (1 + (r : Int))).toNat = 1 + r := by rw [show (1 + (r : Int)) = ((1 + r : Nat) : Int) by omega, BitVec.ofInt_natCast, BitVec.toNat_ofNat]; omega
  obtain ⟨a, ha, hak⟩ : ∃ a : Nat, (BitVec.ofInt 64 late % BitVec.ofInt 64 (1 + (r : Int))).toNat = a ∧ a < 1 + r := ⟨_, rfl, by rw [BitVec.toNat_umod, hk64]; exact Nat.mod_lt _ (by omega)⟩
  refine WC.seq ?_
  refine WC.region ?_
  refine WL.y rfl (Yd.assign rfl) ?_
  refine WL.nil ?_
  refine DN.then_normal ?_
  refine WC.seq ?_
  refine WC.region ?_
  refine WL.c rfl (Ent.func Try.call9 rfl) (new_tells 2) (Sp.p (by repeat (first | exact Sp.here | exact Sp.sn | exact Sp.s0 | exact Fr.here | apply Sp.s2 | apply Sp.sx | apply Fr.fc | apply Fr.al | apply Fr.fa | apply Sp.sc | apply Sp.al | apply Sp.sa))) ?_
  rintro q C0 hq
  rw [if_pos (by decide)] at hq
  obtain ⟨p, rfl, h0⟩ := hq
  refine WL.y rfl (Yd.move rfl) ?_
  refine WL.y rfl (Yd.extract rfl rfl) ?_
  refine WL.y rfl (Yd.extract rfl rfl) ?_
  refine WL.y rfl (Yd.assign rfl) ?_
  refine WL.y rfl (Yd.assign rfl) ?_
  refine WL.nil ?_
  refine DN.then_normal ?_
  refine WC.seq ?_
  refine WC.seq ?_
  refine WC.region ?_
  refine WL.y rfl (Yd.move rfl) ?_
  refine WL.y rfl (Yd.neq rfl rfl) ?_
  refine WL.renamed (t := 21) (v := .bool false) rfl (congrArg Value.bool (by decide)) ?_
  refine WL.y rfl (Yd.move rfl) ?_
  refine WL.gy (dj := 22) rfl rfl rfl (Yd.move rfl) ?_
  refine WL.gy (dj := 22) rfl rfl rfl (Yd.eqlNil Try.underlying22 rfl rfl) ?_
  refine WL.renamed (t := 24) (v := .bool false) rfl (congrArg Value.bool (rfl)) ?_
  refine WL.y rfl (Yd.pickF rfl rfl) ?_
  refine WL.nil ?_
  refine DN.then_normal ?_
  refine WC.no rfl ?_
  refine WC.skip ?_
  refine DN.then_normal ?_
  refine WC.seq ?_
  refine WC.region ?_
  refine WL.y rfl (Yd.move rfl) ?_
  refine WL.y rfl (Yd.to64 _ (by kernel_rfl) (by kernel_rfl) rfl rfl) ?_
  refine WL.y rfl (Yd.rem64 _ (60#64) rfl rfl rfl rfl (by decide)) ?_
  refine WL.renamed (t := 28) (v := .int .u64 (r : Int)) rfl (by rw [hr]) ?_
  refine WL.y rfl (Yd.toInt (by kernel_rfl) (by kernel_rfl) rfl (by omega) (by omega)) ?_
  refine WL.y rfl (Yd.add rfl rfl (by omega) (by omega)) ?_
  refine WL.y rfl (Yd.assign rfl) ?_
  refine WL.nil ?_
  refine DN.then_normal ?_
  refine WC.seq ?_
  refine WC.seq ?_
  refine WC.region ?_
  refine WL.y rfl (Yd.assign rfl) ?_
  refine WL.nil ?_
  refine DN.then_normal ?_
  refine WC.block ?_
  refine WC.loopK (fun z : Nat × List Ck => z.1 ≤ 1 + r ∧ WAt 72 34 5 p (netW 2 (sentL z.1) (List.replicate 36 0)) z.2 ∧ WInv (netW 2 (sentL z.1) (List.replicate 36 0))) (fun z : Nat × List Ck => [(8, .int .i64 (z.1 : Int))]) (fun z : Nat × List Ck => z.2 ++ H) (fun z : Nat × List Ck => 1 + r - z.1) ((0, C0)) (⟨Nat.zero_le _, h0, newW_inv (n := 2) (by decide)⟩) (Sx.put rfl ((by repeat (first | exact Sx.refl | refine Sx.skip rfl ?_)))) (Sp.all (by repeat (first | exact Sp.here | exact Sp.sn | exact Sp.s0 | exact Fr.here | apply Sp.s2 | apply Sp.sx | apply Fr.fc | apply Fr.al | apply Fr.fa | apply Sp.sc | apply Sp.al | apply Sp.sa))) ?_
  rintro ⟨i, C1⟩ ⟨hi, h1, hI1⟩
  simp only at hi h1 hI1
  refine WC.seq ?_
  refine WC.seq ?_
  refine WC.region ?_
  refine WL.y rfl (Yd.move rfl) ?_
  refine WL.y rfl (Yd.move rfl) ?_
  refine WL.y rfl (Yd.lss rfl rfl) ?_
  refine WL.nil ?_
  refine DN.then_normal ?_
  refine WC.ite rfl (fun h33 => ?_) (fun h33 => ?_)
  · refine WC.skip ?_
    refine DN.then_normal ?_
    refine WC.seq ?_
    refine WC.block ?_
    refine WC.seq ?_
    refine WC.region ?_
    refine WL.y rfl (Yd.move rfl) ?_
    refine WL.y rfl (Yd.move rfl) ?_
    refine WL.y rfl (Yd.to64 _ (by kernel_rfl) (by kernel_rfl) rfl rfl) ?_
    refine WL.r rfl (Ent.func Try.call11 rfl) (letter_reads 0 1 (BitVec.ofInt 64 (i : Int)) _) ?_
    refine WL.c rfl (Ent.func Try.call10 rfl) (send_tells p (netW 2 (sentL i) (List.replicate 36 0)) C1 [] h1 hI1 (ackL 0 1 (BitVec.ofInt 64 (i : Int))) _ _ (bsNil _) (bsNil _) (Nat.zero_le _) (Nat.zero_le _)) (Sp.p (by repeat (first | exact Sp.here | exact Sp.sn | exact Sp.s0 | exact Fr.here | apply Sp.s2 | apply Sp.sx | apply Fr.fc | apply Fr.al | apply Fr.fa | apply Sp.sc | apply Sp.al | apply Sp.sa))) ?_
    rintro q Hq ⟨C2, rfl, h2, rfl⟩
    have hse := send_net (n := 2) (ls := sentL i) 0 1 (BitVec.ofInt 64 (i : Int)) (by decide) (by decide) (by rw [sentL_len]; omega)
    have hI2 := hI1.send (ackL 0 1 (BitVec.ofInt 64 (i : Int)))
    rw [hse.2, ← sentL_next] at h2 hI2
    refine WL.y rfl (Yd.neq rfl rfl) ?_
    refine WL.renamed (t := 41) (v := .bool false) rfl (congrArg Value.bool (by rw [hse.1]; decide)) ?_
    refine WL.nil ?_
    refine DN.then_normal ?_
    refine WC.no rfl ?_
    refine WC.skip ?_
    refine DN.block_normal ?_
    refine DN.then_normal ?_
    refine WC.region ?_
    refine WL.y rfl (Yd.move rfl) ?_
    refine WL.y rfl (Yd.add rfl rfl (by omega) (by omega)) ?_
    refine WL.y rfl (Yd.assign rfl) ?_
    refine WL.nil ?_
    exact DN.againK ((i + 1, C2)) (⟨by show i + 1 ≤ 1 + r; omega, h2, hI2⟩) (show 1 + r - (i + 1) < 1 + r - i by omega) (Sx.put rfl ((by repeat (first | exact Sx.refl | refine Sx.skip rfl ?_)))) (Sp.all (by repeat (first | exact Sp.here | exact Sp.sn | exact Sp.s0 | exact Fr.here | apply Sp.s2 | apply Sp.sx | apply Fr.fc | apply Fr.al | apply Fr.fa | apply Sp.sc | apply Sp.al | apply Sp.sa)))
  · have hie : i = 1 + r := by omega
    subst hie
    refine WC.exit ?_
    refine DN.then_exit ?_
    refine DN.then_exit ?_
    refine DN.block_exit ?_
    refine DN.then_normal ?_
    refine WC.seq ?_
    refine WC.region ?_
    refine WL.y rfl (Yd.move rfl) ?_
    refine WL.y rfl (Yd.to64 _ (by kernel_rfl) (by kernel_rfl) rfl rfl) ?_
    refine WL.y rfl (Yd.move rfl) ?_
    refine WL.y rfl (Yd.to64 _ (by kernel_rfl) (by kernel_rfl) rfl rfl) ?_
    refine WL.y rfl (Yd.rem64 (BitVec.ofInt 64 late) (BitVec.ofInt 64 (1 + (r : Int))) rfl rfl rfl rfl (by rw [hk64]; omega)) ?_
    refine WL.renamed (t := 46) (v := .int .u64 (a : Int)) rfl (by rw [ha]) ?_
    refine WL.y rfl (Yd.toInt (by kernel_rfl) (by kernel_rfl) rfl (by omega) (by omega)) ?_
    refine WL.y rfl (Yd.assign rfl) ?_
    refine WL.nil ?_
    refine DN.then_normal ?_
    refine WC.seq ?_
    refine WC.seq ?_
    refine WC.region ?_
    refine WL.y rfl (Yd.move rfl) ?_
    refine WL.y rfl (Yd.move rfl) ?_
    refine WL.c rfl (Ent.func Try.call12 rfl) (late_tells p _ C1 h1 hI1 (a : Int)) (Sp.p (by repeat (first | exact Sp.here | exact Sp.sn | exact Sp.s0 | exact Fr.here | apply Sp.s2 | apply Sp.sx | apply Fr.fc | apply Fr.al | apply Fr.fa | apply Sp.sc | apply Sp.al | apply Sp.sa))) ?_
    rintro q C2 ⟨rfl, h2⟩
    have hI2 := hI1.late (a : Int)
    rw [late_net hak] at h2 hI2
    have ht1 : thereB (netW 2 (sentL (1 + r)) (List.replicate 36 0)) (a : Int) = true := by rw [thereB_net, sentL_len]; simpa using hak
    refine WL.renamed (t := 50) (v := .bool true) rfl (congrArg Value.bool (ht1)) ?_
    refine WL.y rfl (Yd.notB rfl) ?_
    refine WL.y rfl (Yd.move rfl) ?_
    refine WL.gy (dj := 52) rfl rfl rfl (Yd.move rfl) ?_
    refine WL.gy (dj := 52) rfl rfl rfl (Yd.move rfl) ?_
    refine WL.gc (dj := 52) rfl rfl rfl (Ent.func Try.call12 rfl) (late_tells p _ C2 h2 hI2 (1 + (r : Int))) (Sp.p (by repeat (first | exact Sp.here | exact Sp.sn | exact Sp.s0 | exact Fr.here | apply Sp.s2 | apply Sp.sx | apply Fr.fc | apply Fr.al | apply Fr.fa | apply Sp.sc | apply Sp.al | apply Sp.sa))) ?_
    rintro q C3 ⟨rfl, h3⟩
    have ht2 : thereB (netW 2 (lateL (1 + r) a) (List.replicate 36 0)) (1 + (r : Int)) = false := by rw [show (1 + (r : Int)) = ((1 + r : Nat) : Int) by omega, thereB_net, lateL_len hak]; simp
    have hW3 : lateW (netW 2 (lateL (1 + r) a) (List.replicate 36 0)) (1 + (r : Int)) = netW 2 (lateL (1 + r) a) (List.replicate 36 0) := by simp only [lateW, ht2, Bool.false_eq_true, if_false]
    rw [hW3] at h3
    refine WL.renamed (t := 55) (v := .bool false) rfl (congrArg Value.bool (ht2)) ?_
    refine WL.y rfl (Yd.pickF rfl rfl) ?_
    refine WL.y rfl (Yd.move rfl) ?_
    refine WL.gy (dj := 57) rfl rfl rfl (Yd.move rfl) ?_
    refine WL.gc (dj := 57) rfl rfl rfl (Ent.func Try.call12 rfl) (late_tells p _ C3 h3 hI2 (-1)) (Sp.p (by repeat (first | exact Sp.here | exact Sp.sn | exact Sp.s0 | exact Fr.here | apply Sp.s2 | apply Sp.sx | apply Fr.fc | apply Fr.al | apply Fr.fa | apply Sp.sc | apply Sp.al | apply Sp.sa))) ?_
    rintro q C4 ⟨rfl, h4⟩
    have ht3 : thereB (netW 2 (lateL (1 + r) a) (List.replicate 36 0)) (-1) = false := by simp [thereB]
    have hW4 : lateW (netW 2 (lateL (1 + r) a) (List.replicate 36 0)) (-1) = netW 2 (lateL (1 + r) a) (List.replicate 36 0) := by simp only [lateW, ht3, Bool.false_eq_true, if_false]
    rw [hW4] at h4
    refine WL.renamed (t := 59) (v := .bool false) rfl (congrArg Value.bool (ht3)) ?_
    refine WL.y rfl (Yd.pickF rfl rfl) ?_
    refine WL.nil ?_
    refine DN.then_normal ?_
    refine WC.no rfl ?_
    refine WC.skip ?_
    refine DN.then_normal ?_
    refine WC.seq ?_
    refine WC.seq ?_
    refine WC.region ?_
    refine WL.y rfl (Yd.assign rfl) ?_
    refine WL.nil ?_
    refine DN.then_normal ?_
    refine WC.block ?_
    refine WC.loopK (fun z : Nat × List Ck => z.1 ≤ 1 + r ∧ WAt 72 34 5 p (netW 2 ((lateL (1 + r) a).drop z.1) (List.replicate 36 0)) z.2 ∧ WInv (netW 2 ((lateL (1 + r) a).drop z.1) (List.replicate 36 0))) (fun z : Nat × List Ck => [(10, .int .i64 (z.1 : Int))]) (fun z : Nat × List Ck => z.2 ++ H) (fun z : Nat × List Ck => 1 + r - z.1) ((0, C4)) (⟨Nat.zero_le _, by simpa using h4, by simpa using hI2⟩) (Sx.put rfl ((by repeat (first | exact Sx.refl | refine Sx.skip rfl ?_)))) (Sp.all (by repeat (first | exact Sp.here | exact Sp.sn | exact Sp.s0 | exact Fr.here | apply Sp.s2 | apply Sp.sx | apply Fr.fc | apply Fr.al | apply Fr.fa | apply Sp.sc | apply Sp.al | apply Sp.sa))) ?_
    rintro ⟨i, C5⟩ ⟨hi, h5, hI5⟩
    simp only at hi h5 hI5
    refine WC.seq ?_
    refine WC.seq ?_
    refine WC.region ?_
    refine WL.y rfl (Yd.move rfl) ?_
    refine WL.y rfl (Yd.move rfl) ?_
    refine WL.y rfl (Yd.lss rfl rfl) ?_
    refine WL.nil ?_
    refine DN.then_normal ?_
    refine WC.ite rfl (fun h63 => ?_) (fun h63 => ?_)
    · refine WC.skip ?_
      refine DN.then_normal ?_
      refine WC.seq ?_
      refine WC.block ?_
      refine WC.seq ?_
      refine WC.region ?_
      refine WL.y rfl (Yd.move rfl) ?_
      refine WL.y rfl (Yd.assign rfl) ?_
      refine WL.nil ?_
      refine DN.then_normal ?_
      refine WC.seq ?_
      refine WC.seq ?_
      refine WC.region ?_
      refine WL.y rfl (Yd.move rfl) ?_
      refine WL.y rfl (Yd.move rfl) ?_
      refine WL.y rfl (Yd.geq rfl rfl) ?_
      refine WL.nil ?_
      refine DN.then_normal ?_
      refine WC.ite rfl (fun h69 => ?_) (fun h69 => ?_)
      · refine WC.region ?_
        refine WL.y rfl (Yd.move rfl) ?_
        refine WL.y rfl (Yd.add rfl rfl (by omega) (by omega)) ?_
        refine WL.y rfl (Yd.assign rfl) ?_
        refine WL.nil ?_
        refine DN.then_normal ?_
        refine WC.seq ?_
        refine WC.seq ?_
        refine WC.region ?_
        refine WL.y rfl (Yd.move rfl) ?_
        refine WL.y rfl (Yd.move rfl) ?_
        refine WL.y rfl (Yd.sub rfl rfl (by omega) (by omega)) ?_
        refine WL.y rfl (Yd.eql rfl rfl) ?_
        refine WL.nil ?_
        refine DN.then_normal ?_
        refine WC.ite rfl (fun h75 => ?_) (fun h75 => ?_)
        · refine WC.region ?_
          refine WL.y rfl (Yd.move rfl) ?_
          refine WL.y rfl (Yd.assign rfl) ?_
          refine WL.nil ?_
          refine DN.then_normal ?_
          refine WC.seq ?_
          refine WC.region ?_
          refine WL.y rfl (Yd.move rfl) ?_
          refine WL.c rfl (Ent.func Try.call13 rfl) (pick_tells p _ C5 h5 hI5 0) (Sp.p (by repeat (first | exact Sp.here | exact Sp.sn | exact Sp.s0 | exact Fr.here | apply Sp.s2 | apply Sp.sx | apply Fr.fc | apply Fr.al | apply Fr.fa | apply Sp.sc | apply Sp.al | apply Sp.sa))) ?_
          rintro q Hq ⟨vk6, vd6, A6, B6, C6, rfl, hA6, hB6, h6, rfl⟩
          have o1 := hA6.one_cell
          have o2 := hB6.one_cell
          have hI6 := hI5.out 0
          rw [lateL_drop hak (by omega)] at h6 hI6 ⊢
          obtain ⟨hp1, hp2, hp3⟩ := pick_net (n := 2) (L := ackL 0 1 (BitVec.ofInt 64 (wantAt (1 + r) a i : Int))) (ls := (lateL (1 + r) a).drop (i + 1))
          rw [hp3] at h6 hI6
          rw [hp2, hp1]
          refine WL.y rfl (Yd.move rfl) ?_
          refine WL.y rfl (Yd.extract rfl rfl) ?_
          refine WL.y rfl (Yd.extract rfl rfl) ?_
          refine WL.renamed (t := 81) (v := .bool true) rfl (congrArg Value.bool (rfl)) ?_
          refine WL.h rfl (Hd.alloc (zs := [.int .i64 0, .int .i64 0, .int .i64 0, .int .u32 0, .int .u32 0, .int .u64 0, .int .u64 0, .int .u32 0, .int .i64 0, .bool false, .int .i64 0, .slice none 0 0, .slice none 0 0]) (by kernel_rfl) fun b12 => ⟨_, rfl, ?_⟩)
          refine WL.s (Hd.storeAll (n := 13) (by kernel_rfl) rfl rfl (by rfl) (by repeat (first | exact fun _ h => absurd h List.not_mem_nil | refine List.forall_mem_cons.2 ⟨by first | rfl | assumption, ?_⟩)) (by repeat (first | exact Fr.here | apply Fr.fc | apply Fr.al | apply Fr.fa)) (by rfl) ⟨rfl, ?_⟩)
          refine WL.y rfl (Yd.assign rfl) ?_
          refine WL.nil ?_
          refine DN.then_normal ?_
          refine WC.seq ?_
          refine WC.region ?_
          refine WL.y rfl (Yd.move rfl) ?_
          refine WL.y rfl (Yd.notB rfl) ?_
          refine WL.y rfl (Yd.move rfl) ?_
          refine WL.gy (dj := 84) rfl rfl rfl (Yd.fieldAddr (k := 2) (by kernel_rfl) rfl) ?_
          refine WL.gy (dj := 84) rfl rfl rfl (Yd.fieldAddr (k := 3) (by kernel_rfl) rfl) ?_
          refine WL.gh (dj := 84) rfl rfl rfl (Hd.load1 (by kernel_rfl) rfl (by repeat (first | exact List.mem_cons_self | apply List.mem_cons_of_mem | apply List.mem_append_right)) (by rfl) ⟨_, rfl, ?_⟩)
          refine WL.gy (dj := 84) rfl rfl rfl (Yd.move rfl) ?_
          refine WL.gy (dj := 84) rfl rfl rfl (Yd.to64 _ (by kernel_rfl) (by kernel_rfl) rfl rfl) ?_
          refine WL.gy (dj := 84) rfl rfl rfl (Yd.neq64 _ _ rfl rfl rfl rfl) ?_
          refine WL.renamed (t := 90) (v := .bool false) rfl (congrArg Value.bool (by rw [decide_eq_false_iff_not, Classical.not_not]; show BitVec.ofInt 64 (wantAt (1 + r) a i : Int) = _; congr 1; by_cases e1 : i + 1 = 1 + r <;> by_cases e2 : a ≤ i <;> simp only [wantAt, e1, e2, if_true, if_false] <;> omega)) ?_
          refine WL.y rfl (Yd.pickF rfl rfl) ?_
          refine WL.nil ?_
          refine DN.then_normal ?_
          refine WC.no rfl ?_
          refine WC.skip ?_
          refine DN.block_normal ?_
          refine DN.then_normal ?_
          refine WC.region ?_
          refine WL.y rfl (Yd.move rfl) ?_
          refine WL.y rfl (Yd.add rfl rfl (by omega) (by omega)) ?_
          refine WL.y rfl (Yd.assign rfl) ?_
          refine WL.nil ?_
          refine DN.fit (C := C6 ++ H) (by repeat (first | exact Sp.here | exact Sp.sn | exact Sp.s0 | exact Fr.here | apply Sp.s2 | apply Sp.sx | apply Fr.fc | apply Fr.al | apply Fr.fa | apply Sp.sc | apply Sp.al | apply Sp.sa)) ?_
          exact DN.againK ((i + 1, C6)) (⟨by show i + 1 ≤ 1 + r; omega, h6, hI6⟩) (show 1 + r - (i + 1) < 1 + r - i by omega) (Sx.put rfl ((by repeat (first | exact Sx.refl | refine Sx.skip rfl ?_)))) (Sp.all (by repeat (first | exact Sp.here | exact Sp.sn | exact Sp.s0 | exact Fr.here | apply Sp.s2 | apply Sp.sx | apply Fr.fc | apply Fr.al | apply Fr.fa | apply Sp.sc | apply Sp.al | apply Sp.sa)))
        · refine WC.skip ?_
          refine DN.then_normal ?_
          refine WC.seq ?_
          refine WC.region ?_
          refine WL.y rfl (Yd.move rfl) ?_
          refine WL.c rfl (Ent.func Try.call13 rfl) (pick_tells p _ C5 h5 hI5 0) (Sp.p (by repeat (first | exact Sp.here | exact Sp.sn | exact Sp.s0 | exact Fr.here | apply Sp.s2 | apply Sp.sx | apply Fr.fc | apply Fr.al | apply Fr.fa | apply Sp.sc | apply Sp.al | apply Sp.sa))) ?_
          rintro q Hq ⟨vk6, vd6, A6, B6, C6, rfl, hA6, hB6, h6, rfl⟩
          have o1 := hA6.one_cell
          have o2 := hB6.one_cell
          have hI6 := hI5.out 0
          rw [lateL_drop hak (by omega)] at h6 hI6 ⊢
          obtain ⟨hp1, hp2, hp3⟩ := pick_net (n := 2) (L := ackL 0 1 (BitVec.ofInt 64 (wantAt (1 + r) a i : Int))) (ls := (lateL (1 + r) a).drop (i + 1))
          rw [hp3] at h6 hI6
          rw [hp2, hp1]
          refine WL.y rfl (Yd.move rfl) ?_
          refine WL.y rfl (Yd.extract rfl rfl) ?_
          refine WL.y rfl (Yd.extract rfl rfl) ?_
          refine WL.renamed (t := 81) (v := .bool true) rfl (congrArg Value.bool (rfl)) ?_
          refine WL.h rfl (Hd.alloc (zs := [.int .i64 0, .int .i64 0, .int .i64 0, .int .u32 0, .int .u32 0, .int .u64 0, .int .u64 0, .int .u32 0, .int .i64 0, .bool false, .int .i64 0, .slice none 0 0, .slice none 0 0]) (by kernel_rfl) fun b12 => ⟨_, rfl, ?_⟩)
          refine WL.s (Hd.storeAll (n := 13) (by kernel_rfl) rfl rfl (by rfl) (by repeat (first | exact fun _ h => absurd h List.not_mem_nil | refine List.forall_mem_cons.2 ⟨by first | rfl | assumption, ?_⟩)) (by repeat (first | exact Fr.here | apply Fr.fc | apply Fr.al | apply Fr.fa)) (by rfl) ⟨rfl, ?_⟩)
          refine WL.y rfl (Yd.assign rfl) ?_
          refine WL.nil ?_
          refine DN.then_normal ?_
          refine WC.seq ?_
          refine WC.region ?_
          refine WL.y rfl (Yd.move rfl) ?_
          refine WL.y rfl (Yd.notB rfl) ?_
          refine WL.y rfl (Yd.move rfl) ?_
          refine WL.gy (dj := 84) rfl rfl rfl (Yd.fieldAddr (k := 2) (by kernel_rfl) rfl) ?_
          refine WL.gy (dj := 84) rfl rfl rfl (Yd.fieldAddr (k := 3) (by kernel_rfl) rfl) ?_
          refine WL.gh (dj := 84) rfl rfl rfl (Hd.load1 (by kernel_rfl) rfl (by repeat (first | exact List.mem_cons_self | apply List.mem_cons_of_mem | apply List.mem_append_right)) (by rfl) ⟨_, rfl, ?_⟩)
          refine WL.gy (dj := 84) rfl rfl rfl (Yd.move rfl) ?_
          refine WL.gy (dj := 84) rfl rfl rfl (Yd.to64 _ (by kernel_rfl) (by kernel_rfl) rfl rfl) ?_
          refine WL.gy (dj := 84) rfl rfl rfl (Yd.neq64 _ _ rfl rfl rfl rfl) ?_
          refine WL.renamed (t := 90) (v := .bool false) rfl (congrArg Value.bool (by rw [decide_eq_false_iff_not, Classical.not_not]; show BitVec.ofInt 64 (wantAt (1 + r) a i : Int) = _; congr 1; by_cases e1 : i + 1 = 1 + r <;> by_cases e2 : a ≤ i <;> simp only [wantAt, e1, e2, if_true, if_false] <;> omega)) ?_
          refine WL.y rfl (Yd.pickF rfl rfl) ?_
          refine WL.nil ?_
          refine DN.then_normal ?_
          refine WC.no rfl ?_
          refine WC.skip ?_
          refine DN.block_normal ?_
          refine DN.then_normal ?_
          refine WC.region ?_
          refine WL.y rfl (Yd.move rfl) ?_
          refine WL.y rfl (Yd.add rfl rfl (by omega) (by omega)) ?_
          refine WL.y rfl (Yd.assign rfl) ?_
          refine WL.nil ?_
          refine DN.fit (C := C6 ++ H) (by repeat (first | exact Sp.here | exact Sp.sn | exact Sp.s0 | exact Fr.here | apply Sp.s2 | apply Sp.sx | apply Fr.fc | apply Fr.al | apply Fr.fa | apply Sp.sc | apply Sp.al | apply Sp.sa)) ?_
          exact DN.againK ((i + 1, C6)) (⟨by show i + 1 ≤ 1 + r; omega, h6, hI6⟩) (show 1 + r - (i + 1) < 1 + r - i by omega) (Sx.put rfl ((by repeat (first | exact Sx.refl | refine Sx.skip rfl ?_)))) (Sp.all (by repeat (first | exact Sp.here | exact Sp.sn | exact Sp.s0 | exact Fr.here | apply Sp.s2 | apply Sp.sx | apply Fr.fc | apply Fr.al | apply Fr.fa | apply Sp.sc | apply Sp.al | apply Sp.sa)))
      · refine WC.skip ?_
        refine DN.then_normal ?_
        refine WC.seq ?_
        refine WC.seq ?_
        refine WC.region ?_
        refine WL.y rfl (Yd.move rfl) ?_
        refine WL.y rfl (Yd.move rfl) ?_
        refine WL.y rfl (Yd.sub rfl rfl (by omega) (by omega)) ?_
        refine WL.y rfl (Yd.eql rfl rfl) ?_
        refine WL.nil ?_
        refine DN.then_normal ?_
        refine WC.ite rfl (fun h75 => ?_) (fun h75 => ?_)
        · refine WC.region ?_
          refine WL.y rfl (Yd.move rfl) ?_
          refine WL.y rfl (Yd.assign rfl) ?_
          refine WL.nil ?_
          refine DN.then_normal ?_
          refine WC.seq ?_
          refine WC.region ?_
          refine WL.y rfl (Yd.move rfl) ?_
          refine WL.c rfl (Ent.func Try.call13 rfl) (pick_tells p _ C5 h5 hI5 0) (Sp.p (by repeat (first | exact Sp.here | exact Sp.sn | exact Sp.s0 | exact Fr.here | apply Sp.s2 | apply Sp.sx | apply Fr.fc | apply Fr.al | apply Fr.fa | apply Sp.sc | apply Sp.al | apply Sp.sa))) ?_
          rintro q Hq ⟨vk6, vd6, A6, B6, C6, rfl, hA6, hB6, h6, rfl⟩
          have o1 := hA6.one_cell
          have o2 := hB6.one_cell
          have hI6 := hI5.out 0
          rw [lateL_drop hak (by omega)] at h6 hI6 ⊢
          obtain ⟨hp1, hp2, hp3⟩ := pick_net (n := 2) (L := ackL 0 1 (BitVec.ofInt 64 (wantAt (1 + r) a i : Int))) (ls := (lateL (1 + r) a).drop (i + 1))
          rw [hp3] at h6 hI6
          rw [hp2, hp1]
          refine WL.y rfl (Yd.move rfl) ?_
          refine WL.y rfl (Yd.extract rfl rfl) ?_
          refine WL.y rfl (Yd.extract rfl rfl) ?_
          refine WL.renamed (t := 81) (v := .bool true) rfl (congrArg Value.bool (rfl)) ?_
          refine WL.h rfl (Hd.alloc (zs := [.int .i64 0, .int .i64 0, .int .i64 0, .int .u32 0, .int .u32 0, .int .u64 0, .int .u64 0, .int .u32 0, .int .i64 0, .bool false, .int .i64 0, .slice none 0 0, .slice none 0 0]) (by kernel_rfl) fun b12 => ⟨_, rfl, ?_⟩)
          refine WL.s (Hd.storeAll (n := 13) (by kernel_rfl) rfl rfl (by rfl) (by repeat (first | exact fun _ h => absurd h List.not_mem_nil | refine List.forall_mem_cons.2 ⟨by first | rfl | assumption, ?_⟩)) (by repeat (first | exact Fr.here | apply Fr.fc | apply Fr.al | apply Fr.fa)) (by rfl) ⟨rfl, ?_⟩)
          refine WL.y rfl (Yd.assign rfl) ?_
          refine WL.nil ?_
          refine DN.then_normal ?_
          refine WC.seq ?_
          refine WC.region ?_
          refine WL.y rfl (Yd.move rfl) ?_
          refine WL.y rfl (Yd.notB rfl) ?_
          refine WL.y rfl (Yd.move rfl) ?_
          refine WL.gy (dj := 84) rfl rfl rfl (Yd.fieldAddr (k := 2) (by kernel_rfl) rfl) ?_
          refine WL.gy (dj := 84) rfl rfl rfl (Yd.fieldAddr (k := 3) (by kernel_rfl) rfl) ?_
          refine WL.gh (dj := 84) rfl rfl rfl (Hd.load1 (by kernel_rfl) rfl (by repeat (first | exact List.mem_cons_self | apply List.mem_cons_of_mem | apply List.mem_append_right)) (by rfl) ⟨_, rfl, ?_⟩)
          refine WL.gy (dj := 84) rfl rfl rfl (Yd.move rfl) ?_
          refine WL.gy (dj := 84) rfl rfl rfl (Yd.to64 _ (by kernel_rfl) (by kernel_rfl) rfl rfl) ?_
          refine WL.gy (dj := 84) rfl rfl rfl (Yd.neq64 _ _ rfl rfl rfl rfl) ?_
          refine WL.renamed (t := 90) (v := .bool false) rfl (congrArg Value.bool (by rw [decide_eq_false_iff_not, Classical.not_not]; show BitVec.ofInt 64 (wantAt (1 + r) a i : Int) = _; congr 1; by_cases e1 : i + 1 = 1 + r <;> by_cases e2 : a ≤ i <;> simp only [wantAt, e1, e2, if_true, if_false] <;> omega)) ?_
          refine WL.y rfl (Yd.pickF rfl rfl) ?_
          refine WL.nil ?_
          refine DN.then_normal ?_
          refine WC.no rfl ?_
          refine WC.skip ?_
          refine DN.block_normal ?_
          refine DN.then_normal ?_
          refine WC.region ?_
          refine WL.y rfl (Yd.move rfl) ?_
          refine WL.y rfl (Yd.add rfl rfl (by omega) (by omega)) ?_
          refine WL.y rfl (Yd.assign rfl) ?_
          refine WL.nil ?_
          refine DN.fit (C := C6 ++ H) (by repeat (first | exact Sp.here | exact Sp.sn | exact Sp.s0 | exact Fr.here | apply Sp.s2 | apply Sp.sx | apply Fr.fc | apply Fr.al | apply Fr.fa | apply Sp.sc | apply Sp.al | apply Sp.sa)) ?_
          exact DN.againK ((i + 1, C6)) (⟨by show i + 1 ≤ 1 + r; omega, h6, hI6⟩) (show 1 + r - (i + 1) < 1 + r - i by omega) (Sx.put rfl ((by repeat (first | exact Sx.refl | refine Sx.skip rfl ?_)))) (Sp.all (by repeat (first | exact Sp.here | exact Sp.sn | exact Sp.s0 | exact Fr.here | apply Sp.s2 | apply Sp.sx | apply Fr.fc | apply Fr.al | apply Fr.fa | apply Sp.sc | apply Sp.al | apply Sp.sa)))
        · refine WC.skip ?_
          refine DN.then_normal ?_
          refine WC.seq ?_
          refine WC.region ?_
          refine WL.y rfl (Yd.move rfl) ?_
          refine WL.c rfl (Ent.func Try.call13 rfl) (pick_tells p _ C5 h5 hI5 0) (Sp.p (by repeat (first | exact Sp.here | exact Sp.sn | exact Sp.s0 | exact Fr.here | apply Sp.s2 | apply Sp.sx | apply Fr.fc | apply Fr.al | apply Fr.fa | apply Sp.sc | apply Sp.al | apply Sp.sa))) ?_
          rintro q Hq ⟨vk6, vd6, A6, B6, C6, rfl, hA6, hB6, h6, rfl⟩
          have o1 := hA6.one_cell
          have o2 := hB6.one_cell
          have hI6 := hI5.out 0
          rw [lateL_drop hak (by omega)] at h6 hI6 ⊢
          obtain ⟨hp1, hp2, hp3⟩ := pick_net (n := 2) (L := ackL 0 1 (BitVec.ofInt 64 (wantAt (1 + r) a i : Int))) (ls := (lateL (1 + r) a).drop (i + 1))
          rw [hp3] at h6 hI6
          rw [hp2, hp1]
          refine WL.y rfl (Yd.move rfl) ?_
          refine WL.y rfl (Yd.extract rfl rfl) ?_
          refine WL.y rfl (Yd.extract rfl rfl) ?_
          refine WL.renamed (t := 81) (v := .bool true) rfl (congrArg Value.bool (rfl)) ?_
          refine WL.h rfl (Hd.alloc (zs := [.int .i64 0, .int .i64 0, .int .i64 0, .int .u32 0, .int .u32 0, .int .u64 0, .int .u64 0, .int .u32 0, .int .i64 0, .bool false, .int .i64 0, .slice none 0 0, .slice none 0 0]) (by kernel_rfl) fun b12 => ⟨_, rfl, ?_⟩)
          refine WL.s (Hd.storeAll (n := 13) (by kernel_rfl) rfl rfl (by rfl) (by repeat (first | exact fun _ h => absurd h List.not_mem_nil | refine List.forall_mem_cons.2 ⟨by first | rfl | assumption, ?_⟩)) (by repeat (first | exact Fr.here | apply Fr.fc | apply Fr.al | apply Fr.fa)) (by rfl) ⟨rfl, ?_⟩)
          refine WL.y rfl (Yd.assign rfl) ?_
          refine WL.nil ?_
          refine DN.then_normal ?_
          refine WC.seq ?_
          refine WC.region ?_
          refine WL.y rfl (Yd.move rfl) ?_
          refine WL.y rfl (Yd.notB rfl) ?_
          refine WL.y rfl (Yd.move rfl) ?_
          refine WL.gy (dj := 84) rfl rfl rfl (Yd.fieldAddr (k := 2) (by kernel_rfl) rfl) ?_
          refine WL.gy (dj := 84) rfl rfl rfl (Yd.fieldAddr (k := 3) (by kernel_rfl) rfl) ?_
          refine WL.gh (dj := 84) rfl rfl rfl (Hd.load1 (by kernel_rfl) rfl (by repeat (first | exact List.mem_cons_self | apply List.mem_cons_of_mem | apply List.mem_append_right)) (by rfl) ⟨_, rfl, ?_⟩)
          refine WL.gy (dj := 84) rfl rfl rfl (Yd.move rfl) ?_
          refine WL.gy (dj := 84) rfl rfl rfl (Yd.to64 _ (by kernel_rfl) (by kernel_rfl) rfl rfl) ?_
          refine WL.gy (dj := 84) rfl rfl rfl (Yd.neq64 _ _ rfl rfl rfl rfl) ?_
          refine WL.renamed (t := 90) (v := .bool false) rfl (congrArg Value.bool (by rw [decide_eq_false_iff_not, Classical.not_not]; show BitVec.ofInt 64 (wantAt (1 + r) a i : Int) = _; congr 1; by_cases e1 : i + 1 = 1 + r <;> by_cases e2 : a ≤ i <;> simp only [wantAt, e1, e2, if_true, if_false] <;> omega)) ?_
          refine WL.y rfl (Yd.pickF rfl rfl) ?_
          refine WL.nil ?_
          refine DN.then_normal ?_
          refine WC.no rfl ?_
          refine WC.skip ?_
          refine DN.block_normal ?_
          refine DN.then_normal ?_
          refine WC.region ?_
          refine WL.y rfl (Yd.move rfl) ?_
          refine WL.y rfl (Yd.add rfl rfl (by omega) (by omega)) ?_
          refine WL.y rfl (Yd.assign rfl) ?_
          refine WL.nil ?_
          refine DN.fit (C := C6 ++ H) (by repeat (first | exact Sp.here | exact Sp.sn | exact Sp.s0 | exact Fr.here | apply Sp.s2 | apply Sp.sx | apply Fr.fc | apply Fr.al | apply Fr.fa | apply Sp.sc | apply Sp.al | apply Sp.sa)) ?_
          exact DN.againK ((i + 1, C6)) (⟨by show i + 1 ≤ 1 + r; omega, h6, hI6⟩) (show 1 + r - (i + 1) < 1 + r - i by omega) (Sx.put rfl ((by repeat (first | exact Sx.refl | refine Sx.skip rfl ?_)))) (Sp.all (by repeat (first | exact Sp.here | exact Sp.sn | exact Sp.s0 | exact Fr.here | apply Sp.s2 | apply Sp.sx | apply Fr.fc | apply Fr.al | apply Fr.fa | apply Sp.sc | apply Sp.al | apply Sp.sa)))
    · refine WC.exit ?_
      refine DN.then_exit ?_
      refine DN.then_exit ?_
      refine DN.block_exit ?_
      refine DN.then_normal ?_
      refine WC.seq ?_
      refine WC.region ?_
      refine WL.y rfl (Yd.move rfl) ?_
      refine WL.c rfl (Ent.func Try.call13 rfl) (pick_tells p _ C5 h5 hI5 0) (Sp.p (by repeat (first | exact Sp.here | exact Sp.sn | exact Sp.s0 | exact Fr.here | apply Sp.s2 | apply Sp.sx | apply Fr.fc | apply Fr.al | apply Fr.fa | apply Sp.sc | apply Sp.al | apply Sp.sa))) ?_
      rintro q Hq ⟨vk6, vd6, A6, B6, C6, rfl, hA6, hB6, h6, rfl⟩
      have o1 := hA6.one_cell
      have o2 := hB6.one_cell
      have hnil : (lateL (1 + r) a).drop i = [] := List.drop_eq_nil_of_le (by rw [lateL_len hak]; omega)
      rw [hnil] at h6 ⊢
      obtain ⟨hp1, hp2⟩ := pick_none (n := 2) (cut := (List.replicate 36 0)) 0
      rw [hp2] at h6
      rw [hp1]
      refine WL.y rfl (Yd.move rfl) ?_
      refine WL.y rfl (Yd.extract rfl rfl) ?_
      refine WL.y rfl (Yd.extract rfl rfl) ?_
      refine WL.renamed (t := 96) (v := .bool false) rfl (congrArg Value.bool (rfl)) ?_
      refine WL.h rfl (Hd.alloc (zs := [.int .i64 0, .int .i64 0, .int .i64 0, .int .u32 0, .int .u32 0, .int .u64 0, .int .u64 0, .int .u32 0, .int .i64 0, .bool false, .int .i64 0, .slice none 0 0, .slice none 0 0]) (by kernel_rfl) fun b14 => ⟨_, rfl, ?_⟩)
      refine WL.s (Hd.storeAll (n := 13) (by kernel_rfl) rfl rfl (by rfl) (by repeat (first | exact fun _ h => absurd h List.not_mem_nil | refine List.forall_mem_cons.2 ⟨by first | rfl | assumption, ?_⟩)) (by repeat (first | exact Fr.here | apply Fr.fc | apply Fr.al | apply Fr.fa)) (by rfl) ⟨rfl, ?_⟩)
      refine WL.y rfl (Yd.assign rfl) ?_
      refine WL.nil ?_
      refine DN.then_normal ?_
      refine WC.seq ?_
      refine WC.region ?_
      refine WL.y rfl (Yd.move rfl) ?_
      refine WL.y rfl (Yd.notB rfl) ?_
      refine WL.y rfl (Yd.move rfl) ?_
      refine WL.gy (dj := 99) rfl rfl rfl (Yd.move rfl) ?_
      refine WL.grf (dj := 99) rfl rfl rfl (Ent.func Try.call14 rfl) (len_reads p _ C6 h6) (by repeat (first | exact Sp.here | exact Sp.sn | exact Sp.s0 | exact Fr.here | apply Sp.s2 | apply Sp.sx | apply Fr.fc | apply Fr.al | apply Fr.fa | apply Sp.sc | apply Sp.al | apply Sp.sa)) ?_
      refine WL.gy (dj := 99) rfl rfl rfl (Yd.eql rfl rfl) ?_
      refine WL.renamed (t := 102) (v := .bool true) rfl (congrArg Value.bool (by simp [netW])) ?_
      refine WL.y rfl (Yd.pickT rfl rfl) ?_
      refine WL.y rfl (Yd.move rfl) ?_
      refine WL.gr (dj := 104) rfl rfl rfl (Ent.func Try.call15 rfl) (known18 _) ?_
      refine WL.y rfl (Yd.pickT rfl rfl) ?_
      refine WL.y rfl (Yd.assign rfl) ?_
      refine WL.nil ?_
      refine DN.then_normal ?_
      refine WC.ret ?_
      refine DN.fit (C := H) (by repeat (first | exact Sp.here | exact Sp.sn | exact Sp.s0 | exact Fr.here | apply Sp.s2 | apply Sp.sx | apply Fr.fc | apply Fr.al | apply Fr.fa | apply Sp.sc | apply Sp.al | apply Sp.sa)) ?_
      refine DN.ret1 Try.results3 rfl ?_
      exact ⟨rfl, rfl⟩

end Go.Proofs.Ytgpegfmonmdhoaa
