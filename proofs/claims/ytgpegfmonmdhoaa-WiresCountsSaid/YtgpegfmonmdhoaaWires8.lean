/-
  The walks of the net's laws: WiresNil.
-/
import Derived.Test.YtgpegfmonmdhoaaWires7
import Derived.Test.YtgpegfmonmdhoaaWireMath4
set_option linter.unusedVariables false
set_option linter.unusedSimpArgs false
set_option maxHeartbeats 4000000
set_option maxRecDepth 100000
namespace Go.Proofs.Ytgpegfmonmdhoaa
open Go.SL
theorem tickN_new : newW 3 = tickN (List.replicate 3 0#64) := rfl


/-- (*drayage/wires.Wires).there -/
theorem nil_there (k : Int) (H : List Ck) : Reads Try.prog 33 [.pointer none, .int .i64 k] H (.bool false) := by
  refine Tells.enter Try.func33 rfl Try.ntmps33 rfl ?_
  intro w0 R
  refine WC.seq ?_
  refine WC.region ?_
  refine WL.y rfl (Yd.assign rfl) ?_
  refine WL.nil ?_
  refine DN.then_normal ?_
  refine WC.seq ?_
  refine WC.region ?_
  refine WL.y rfl (Yd.move rfl) ?_
  refine WL.y rfl (Yd.neqNil Try.underlying22 rfl rfl) ?_
  refine WL.renamed (t := 6) (v := .bool false) rfl (congrArg Value.bool (rfl)) ?_
  refine WL.y rfl (Yd.move rfl) ?_
  refine WL.gn (dj := 7) rfl rfl rfl rfl ?_
  refine WL.gn (dj := 7) rfl rfl rfl rfl ?_
  refine WL.y rfl (Yd.pickF rfl rfl) ?_
  refine WL.y rfl (Yd.move rfl) ?_
  refine WL.gn (dj := 11) rfl rfl rfl rfl ?_
  refine WL.gn (dj := 11) rfl rfl rfl rfl ?_
  refine WL.gn (dj := 11) rfl rfl rfl rfl ?_
  refine WL.gn (dj := 11) rfl rfl rfl rfl ?_
  refine WL.gn (dj := 11) rfl rfl rfl rfl ?_
  refine WL.gn (dj := 11) rfl rfl rfl rfl ?_
  refine WL.gn (dj := 11) rfl rfl rfl rfl ?_
  refine WL.y rfl (Yd.pickF rfl rfl) ?_
  refine WL.y rfl (Yd.assign rfl) ?_
  refine WL.nil ?_
  refine DN.then_normal ?_
  refine WC.ret ?_
  refine DN.ret1 Try.results33 rfl ?_
  exact ⟨rfl, rfl⟩

/-- (*drayage/wires.Wires).Pick -/
theorem nil_pick (k : Int) (H : List Ck) : Reads Try.prog 13 [.pointer none, .int .i64 k] H (.tuple #[.agg (ltc zeroL (.slice none 0 0) (.slice none 0 0)).toArray, .bool false]) := by
  refine Tells.enter Try.func13 rfl Try.ntmps13 rfl ?_
  intro w0 R
  refine WC.seq ?_
  refine WC.region ?_
  refine WL.h rfl (Hd.alloc (zs := [.int .i64 0, .int .i64 0, .int .i64 0, .int .u32 0, .int .u32 0, .int .u64 0, .int .u64 0, .int .u32 0, .int .i64 0, .bool false, .int .i64 0, .slice none 0 0, .slice none 0 0]) (by kernel_rfl) fun b4 => ⟨_, rfl, ?_⟩)
  refine WL.y rfl (Yd.assign rfl) ?_
  refine WL.nil ?_
  refine DN.then_normal ?_
  refine WC.seq ?_
  refine WC.seq ?_
  refine WC.region ?_
  refine WL.y rfl (Yd.move rfl) ?_
  refine WL.y rfl (Yd.move rfl) ?_
  refine WL.r rfl (Ent.func Try.call33 rfl) (nil_there k _) ?_
  refine WL.renamed (t := 9) (v := .bool false) rfl (congrArg Value.bool (rfl)) ?_
  refine WL.y rfl (Yd.notB rfl) ?_
  refine WL.nil ?_
  refine DN.then_normal ?_
  refine WC.yes rfl ?_
  refine WC.seq ?_
  refine WC.region ?_
  refine WL.y rfl (Yd.buildL (pl := [(0, 1), (1, 1), (2, 11)]) (zs := [.int .i64 0, .int .i64 0, .int .i64 0, .int .u32 0, .int .u32 0, .int .u64 0, .int .u64 0, .int .u32 0, .int .i64 0, .bool false, .int .i64 0, .slice none 0 0, .slice none 0 0]) (parts := []) (vs := []) (cells := [.int .i64 0, .int .i64 0, .int .i64 0, .int .u32 0, .int .u32 0, .int .u64 0, .int .u64 0, .int .u32 0, .int .i64 0, .bool false, .int .i64 0, .slice none 0 0, .slice none 0 0]) (by kernel_rfl) (by kernel_rfl) rfl rfl) ?_
  refine WL.s (Hd.storeAll (n := 13) (by kernel_rfl) rfl rfl (by rfl) (by repeat (first | exact fun _ h => absurd h List.not_mem_nil | refine List.forall_mem_cons.2 ⟨by first | rfl | assumption, ?_⟩)) (by repeat (first | exact Fr.here | apply Fr.fc | apply Fr.al | apply Fr.fa)) (by rfl) ⟨rfl, ?_⟩)
  refine WL.y rfl (Yd.assign rfl) ?_
  refine WL.nil ?_
  refine DN.then_normal ?_
  refine WC.ret ?_
  refine DN.then_ret ?_
  refine DN.retCT (s := 13) H Try.results13 (by kernel_rfl) rfl rfl (by repeat (first | exact List.mem_cons_self | apply List.mem_cons_of_mem | apply List.mem_append_right)) (by rfl) (by repeat (first | exact Sp.here | exact Sp.sn | exact Sp.s0 | exact Fr.here | apply Sp.s2 | apply Sp.sx | apply Fr.fc | apply Fr.al | apply Fr.fa | apply Sp.sc | apply Sp.al | apply Sp.sa)) ?_
  exact ⟨rfl, rfl⟩

/-- (*drayage/wires.Wires).Look -/
theorem nil_look (k : Int) (H : List Ck) : Reads Try.prog 23 [.pointer none, .int .i64 k] H (.tuple #[.agg (ltc zeroL (.slice none 0 0) (.slice none 0 0)).toArray, .bool false]) := by
  refine Tells.enter Try.func23 rfl Try.ntmps23 rfl ?_
  intro w0 R
  refine WC.seq ?_
  refine WC.region ?_
  refine WL.h rfl (Hd.alloc (zs := [.int .i64 0, .int .i64 0, .int .i64 0, .int .u32 0, .int .u32 0, .int .u64 0, .int .u64 0, .int .u32 0, .int .i64 0, .bool false, .int .i64 0, .slice none 0 0, .slice none 0 0]) (by kernel_rfl) fun b4 => ⟨_, rfl, ?_⟩)
  refine WL.y rfl (Yd.assign rfl) ?_
  refine WL.nil ?_
  refine DN.then_normal ?_
  refine WC.seq ?_
  refine WC.seq ?_
  refine WC.region ?_
  refine WL.y rfl (Yd.move rfl) ?_
  refine WL.y rfl (Yd.move rfl) ?_
  refine WL.r rfl (Ent.func Try.call33 rfl) (nil_there k _) ?_
  refine WL.renamed (t := 8) (v := .bool false) rfl (congrArg Value.bool (rfl)) ?_
  refine WL.y rfl (Yd.notB rfl) ?_
  refine WL.nil ?_
  refine DN.then_normal ?_
  refine WC.yes rfl ?_
  refine WC.seq ?_
  refine WC.region ?_
  refine WL.y rfl (Yd.buildL (pl := [(0, 1), (1, 1), (2, 11)]) (zs := [.int .i64 0, .int .i64 0, .int .i64 0, .int .u32 0, .int .u32 0, .int .u64 0, .int .u64 0, .int .u32 0, .int .i64 0, .bool false, .int .i64 0, .slice none 0 0, .slice none 0 0]) (parts := []) (vs := []) (cells := [.int .i64 0, .int .i64 0, .int .i64 0, .int .u32 0, .int .u32 0, .int .u64 0, .int .u64 0, .int .u32 0, .int .i64 0, .bool false, .int .i64 0, .slice none 0 0, .slice none 0 0]) (by kernel_rfl) (by kernel_rfl) rfl rfl) ?_
  refine WL.s (Hd.storeAll (n := 13) (by kernel_rfl) rfl rfl (by rfl) (by repeat (first | exact fun _ h => absurd h List.not_mem_nil | refine List.forall_mem_cons.2 ⟨by first | rfl | assumption, ?_⟩)) (by repeat (first | exact Fr.here | apply Fr.fc | apply Fr.al | apply Fr.fa)) (by rfl) ⟨rfl, ?_⟩)
  refine WL.y rfl (Yd.assign rfl) ?_
  refine WL.nil ?_
  refine DN.then_normal ?_
  refine WC.ret ?_
  refine DN.then_ret ?_
  refine DN.retCT (s := 13) H Try.results23 (by kernel_rfl) rfl rfl (by repeat (first | exact List.mem_cons_self | apply List.mem_cons_of_mem | apply List.mem_append_right)) (by rfl) (by repeat (first | exact Sp.here | exact Sp.sn | exact Sp.s0 | exact Fr.here | apply Sp.s2 | apply Sp.sx | apply Fr.fc | apply Fr.al | apply Fr.fa | apply Sp.sc | apply Sp.al | apply Sp.sa)) ?_
  exact ⟨rfl, rfl⟩

/-- (*drayage/wires.Wires).Lose -/
theorem nil_lose (k : Int) (H : List Ck) : Reads Try.prog 19 [.pointer none, .int .i64 k] H (.bool false) := by
  refine Tells.enter Try.func19 rfl Try.ntmps19 rfl ?_
  intro w0 R
  refine WC.seq ?_
  refine WC.region ?_
  refine WL.y rfl (Yd.assign rfl) ?_
  refine WL.nil ?_
  refine DN.then_normal ?_
  refine WC.seq ?_
  refine WC.seq ?_
  refine WC.region ?_
  refine WL.y rfl (Yd.move rfl) ?_
  refine WL.y rfl (Yd.move rfl) ?_
  refine WL.r rfl (Ent.func Try.call33 rfl) (nil_there k _) ?_
  refine WL.renamed (t := 7) (v := .bool false) rfl (congrArg Value.bool (rfl)) ?_
  refine WL.y rfl (Yd.notB rfl) ?_
  refine WL.nil ?_
  refine DN.then_normal ?_
  refine WC.yes rfl ?_
  refine WC.seq ?_
  refine WC.region ?_
  refine WL.y rfl (Yd.assign rfl) ?_
  refine WL.nil ?_
  refine DN.then_normal ?_
  refine WC.ret ?_
  refine DN.then_ret ?_
  refine DN.ret1 Try.results19 rfl ?_
  exact ⟨rfl, rfl⟩

/-- (*drayage/wires.Wires).Late -/
theorem nil_late (k : Int) (H : List Ck) : Reads Try.prog 12 [.pointer none, .int .i64 k] H (.bool false) := by
  refine Tells.enter Try.func12 rfl Try.ntmps12 rfl ?_
  intro w0 R
  refine WC.seq ?_
  refine WC.region ?_
  refine WL.y rfl (Yd.assign rfl) ?_
  refine WL.nil ?_
  refine DN.then_normal ?_
  refine WC.seq ?_
  refine WC.seq ?_
  refine WC.region ?_
  refine WL.y rfl (Yd.move rfl) ?_
  refine WL.y rfl (Yd.move rfl) ?_
  refine WL.r rfl (Ent.func Try.call33 rfl) (nil_there k _) ?_
  refine WL.renamed (t := 8) (v := .bool false) rfl (congrArg Value.bool (rfl)) ?_
  refine WL.y rfl (Yd.notB rfl) ?_
  refine WL.nil ?_
  refine DN.then_normal ?_
  refine WC.yes rfl ?_
  refine WC.seq ?_
  refine WC.region ?_
  refine WL.y rfl (Yd.assign rfl) ?_
  refine WL.nil ?_
  refine DN.then_normal ?_
  refine WC.ret ?_
  refine DN.then_ret ?_
  refine DN.ret1 Try.results12 rfl ?_
  exact ⟨rfl, rfl⟩

/-- (*drayage/wires.Wires).Copy -/
theorem nil_copy (k : Int) (H : List Ck) : Reads Try.prog 20 [.pointer none, .int .i64 k] H (.bool false) := by
  refine Tells.enter Try.func20 rfl Try.ntmps20 rfl ?_
  intro w0 R
  refine WC.seq ?_
  refine WC.region ?_
  refine WL.y rfl (Yd.assign rfl) ?_
  refine WL.nil ?_
  refine DN.then_normal ?_
  refine WC.seq ?_
  refine WC.seq ?_
  refine WC.region ?_
  refine WL.y rfl (Yd.move rfl) ?_
  refine WL.y rfl (Yd.move rfl) ?_
  refine WL.r rfl (Ent.func Try.call33 rfl) (nil_there k _) ?_
  refine WL.renamed (t := 7) (v := .bool false) rfl (congrArg Value.bool (rfl)) ?_
  refine WL.y rfl (Yd.notB rfl) ?_
  refine WL.y rfl (Yd.move rfl) ?_
  refine WL.gn (dj := 9) rfl rfl rfl rfl ?_
  refine WL.gn (dj := 9) rfl rfl rfl rfl ?_
  refine WL.gn (dj := 9) rfl rfl rfl rfl ?_
  refine WL.gn (dj := 9) rfl rfl rfl rfl ?_
  refine WL.gn (dj := 9) rfl rfl rfl rfl ?_
  refine WL.gn (dj := 9) rfl rfl rfl rfl ?_
  refine WL.y rfl (Yd.pickT rfl rfl) ?_
  refine WL.nil ?_
  refine DN.then_normal ?_
  refine WC.yes rfl ?_
  refine WC.seq ?_
  refine WC.region ?_
  refine WL.y rfl (Yd.assign rfl) ?_
  refine WL.nil ?_
  refine DN.then_normal ?_
  refine WC.ret ?_
  refine DN.then_ret ?_
  refine DN.ret1 Try.results20 rfl ?_
  exact ⟨rfl, rfl⟩

/-- (*drayage/wires.Wires).Len -/
theorem nil_len (H : List Ck) : Reads Try.prog 14 [.pointer none] H (.int .i64 0) := by
  refine Tells.enter Try.func14 rfl Try.ntmps14 rfl ?_
  intro w0 R
  refine WC.seq ?_
  refine WC.region ?_
  refine WL.y rfl (Yd.assign rfl) ?_
  refine WL.nil ?_
  refine DN.then_normal ?_
  refine WC.seq ?_
  refine WC.seq ?_
  refine WC.region ?_
  refine WL.y rfl (Yd.move rfl) ?_
  refine WL.y rfl (Yd.eqlNil Try.underlying22 rfl rfl) ?_
  refine WL.renamed (t := 4) (v := .bool true) rfl (congrArg Value.bool (rfl)) ?_
  refine WL.nil ?_
  refine DN.then_normal ?_
  refine WC.yes rfl ?_
  refine WC.seq ?_
  refine WC.region ?_
  refine WL.y rfl (Yd.assign rfl) ?_
  refine WL.nil ?_
  refine DN.then_normal ?_
  refine WC.ret ?_
  refine DN.then_ret ?_
  refine DN.ret1 Try.results14 rfl ?_
  exact ⟨rfl, rfl⟩

/-- (*drayage/wires.Wires).Tick -/
theorem nil_tick (k : Int) (H : List Ck) : Reads Try.prog 27 [.pointer none, .int .i64 k] H (.tuple #[.int .u64 (0#64).toNat, .int .i64 1]) := by
  refine Tells.enter Try.func27 rfl Try.ntmps27 rfl ?_
  intro w0 R
  refine WC.seq ?_
  refine WC.region ?_
  refine WL.y rfl (Yd.assign (v := .int .u64 ((0#64).toNat : Int)) rfl) ?_
  refine WL.y rfl (Yd.assign rfl) ?_
  refine WL.nil ?_
  refine DN.then_normal ?_
  refine WC.seq ?_
  refine WC.block ?_
  refine WC.seq ?_
  refine WC.region ?_
  refine WL.y rfl (Yd.move rfl) ?_
  refine WL.y rfl (Yd.eqlNil Try.underlying22 rfl rfl) ?_
  refine WL.renamed (t := 8) (v := .bool true) rfl (congrArg Value.bool (rfl)) ?_
  refine WL.y rfl (Yd.assign rfl) ?_
  refine WL.nil ?_
  refine DN.then_normal ?_
  refine WC.yes rfl ?_
  refine WC.seq ?_
  refine WC.region ?_
  refine WL.y rfl (Yd.assign (v := .int .u64 ((0#64).toNat : Int)) rfl) ?_
  refine WL.y rfl (Yd.assign rfl) ?_
  refine WL.nil ?_
  refine DN.then_normal ?_
  refine WC.ret ?_
  refine DN.block_ret ?_
  refine DN.then_ret ?_
  refine DN.ret2 Try.results27 rfl rfl ?_
  exact ⟨rfl, rfl⟩

/-- (*drayage/wires.Wires).Clock -/
theorem nil_clock (k : Int) (H : List Ck) : Reads Try.prog 28 [.pointer none, .int .i64 k] H (.int .u64 (0#64).toNat) := by
  refine Tells.enter Try.func28 rfl Try.ntmps28 rfl ?_
  intro w0 R
  refine WC.seq ?_
  refine WC.region ?_
  refine WL.y rfl (Yd.assign (v := .int .u64 ((0#64).toNat : Int)) rfl) ?_
  refine WL.nil ?_
  refine DN.then_normal ?_
  refine WC.seq ?_
  refine WC.seq ?_
  refine WC.region ?_
  refine WL.y rfl (Yd.move rfl) ?_
  refine WL.y rfl (Yd.eqlNil Try.underlying22 rfl rfl) ?_
  refine WL.renamed (t := 6) (v := .bool true) rfl (congrArg Value.bool (rfl)) ?_
  refine WL.y rfl (Yd.move rfl) ?_
  refine WL.gn (dj := 7) rfl rfl rfl rfl ?_
  refine WL.gn (dj := 7) rfl rfl rfl rfl ?_
  refine WL.gn (dj := 7) rfl rfl rfl rfl ?_
  refine WL.gn (dj := 7) rfl rfl rfl rfl ?_
  refine WL.y rfl (Yd.pickT rfl rfl) ?_
  refine WL.nil ?_
  refine DN.then_normal ?_
  refine WC.yes rfl ?_
  refine WC.seq ?_
  refine WC.region ?_
  refine WL.y rfl (Yd.assign (v := .int .u64 ((0#64).toNat : Int)) rfl) ?_
  refine WL.nil ?_
  refine DN.then_normal ?_
  refine WC.ret ?_
  refine DN.then_ret ?_
  refine DN.ret1 Try.results28 rfl ?_
  exact ⟨rfl, rfl⟩

/-- (*drayage/wires.Wires).Cut -/
theorem nil_cut (f t : Int) (b : Bool) (H : List Ck) : Reads Try.prog 16 [.pointer none, .int .i64 f, .int .i64 t, .bool b] H (.int .i64 1) := by
  refine Tells.enter Try.func16 rfl Try.ntmps16 rfl ?_
  intro w0 R
  refine WC.seq ?_
  refine WC.region ?_
  refine WL.y rfl (Yd.assign rfl) ?_
  refine WL.nil ?_
  refine DN.then_normal ?_
  refine WC.seq ?_
  refine WC.block ?_
  refine WC.seq ?_
  refine WC.region ?_
  refine WL.y rfl (Yd.move rfl) ?_
  refine WL.y rfl (Yd.eqlNil Try.underlying22 rfl rfl) ?_
  refine WL.renamed (t := 11) (v := .bool true) rfl (congrArg Value.bool (rfl)) ?_
  refine WL.y rfl (Yd.assign rfl) ?_
  refine WL.nil ?_
  refine DN.then_normal ?_
  refine WC.yes rfl ?_
  refine WC.seq ?_
  refine WC.region ?_
  refine WL.y rfl (Yd.assign rfl) ?_
  refine WL.nil ?_
  refine DN.then_normal ?_
  refine WC.ret ?_
  refine DN.block_ret ?_
  refine DN.then_ret ?_
  refine DN.ret1 Try.results16 rfl ?_
  exact ⟨rfl, rfl⟩

/-- (*drayage/wires.Wires).Send -/
theorem nil_send (L : Lt) (ko eo : Option Addr) (kn kc en ec : Nat) (H : List Ck) : Reads Try.prog 10 [.pointer none, .agg (ltc L (.slice ko kn kc) (.slice eo en ec)).toArray] H (.int .i64 1) := by
  refine Tells.enter Try.func10 rfl Try.ntmps10 rfl ?_
  intro w0 R
  refine WC.seq ?_
  refine WC.region ?_
  refine WL.h rfl (Hd.boxA rfl fun b3 => ⟨_, rfl, ?_⟩)
  refine WL.y rfl (Yd.assign rfl) ?_
  refine WL.nil ?_
  refine DN.then_normal ?_
  refine WC.seq ?_
  refine WC.block ?_
  refine WC.seq ?_
  refine WC.region ?_
  refine WL.y rfl (Yd.move rfl) ?_
  refine WL.y rfl (Yd.eqlNil Try.underlying22 rfl rfl) ?_
  refine WL.renamed (t := 7) (v := .bool true) rfl (congrArg Value.bool (rfl)) ?_
  refine WL.y rfl (Yd.assign rfl) ?_
  refine WL.nil ?_
  refine DN.then_normal ?_
  refine WC.yes rfl ?_
  refine WC.seq ?_
  refine WC.region ?_
  refine WL.y rfl (Yd.assign rfl) ?_
  refine WL.nil ?_
  refine DN.then_normal ?_
  refine WC.ret ?_
  refine DN.block_ret ?_
  refine DN.then_ret ?_
  refine DN.fit (C := H) (by repeat (first | exact Sp.here | exact Sp.sn | exact Sp.s0 | exact Fr.here | apply Sp.s2 | apply Sp.sx | apply Fr.fc | apply Fr.al | apply Fr.fa | apply Sp.sc | apply Sp.al | apply Sp.sa)) ?_
  refine DN.ret1 Try.results10 rfl ?_
  exact ⟨rfl, rfl⟩

/-- drayage/drayagelaw18.WiresNil -/
theorem law_WiresNil (L : Lt) (ko eo : Option Addr) (kn kc en ec : Nat) (vt : Value) (ts : List Int) (H : List Ck) (ht : Rs vt ts.length (ic ts) H) (hl : ts.length ≤ 9223372036854775807) : Reads Try.prog 8 [.agg (ltc L (.slice ko kn kc) (.slice eo en ec)).toArray, vt] H (.bool true) := by
  refine Tells.enter Try.func8 rfl Try.ntmps8 rfl ?_
  intro w0 R
  obtain ⟨to, tc, rfl, _⟩ := ht.form
  refine WC.seq ?_
  refine WC.region ?_
  refine WL.h rfl (Hd.boxA rfl fun b2 => ⟨_, rfl, ?_⟩)
  refine WL.y rfl (Yd.assign rfl) ?_
  refine WL.nil ?_
  refine DN.then_normal ?_
  refine WC.seq ?_
  refine WC.seq ?_
  refine WC.region ?_
  refine WL.y rfl (Yd.fieldAddr (k := 2) (by kernel_rfl) rfl) ?_
  refine WL.y rfl (Yd.fieldAddr (k := 9) (by kernel_rfl) rfl) ?_
  refine WL.h rfl (Hd.load1 (by kernel_rfl) rfl (by repeat (first | exact List.mem_cons_self | apply List.mem_cons_of_mem | apply List.mem_append_right)) (by rfl) ⟨_, rfl, ?_⟩)
  refine WL.y rfl (Yd.len (e := 5) (by kernel_rfl) rfl) ?_
  refine WL.y rfl (Yd.gtr rfl rfl) ?_
  refine WL.y rfl (Yd.move rfl) ?_
  refine WL.partP (t := 29) rfl (fun hg29 => ?_) (fun hg29 => ?_)
  · refine WL.gn (dj := 29) rfl rfl rfl rfl ?_
    refine WL.gn (dj := 29) rfl rfl rfl rfl ?_
    refine WL.gn (dj := 29) rfl rfl rfl rfl ?_
    refine WL.gn (dj := 29) rfl rfl rfl rfl ?_
    refine WL.gn (dj := 29) rfl rfl rfl rfl ?_
    refine WL.y rfl (Yd.pickT rfl rfl) ?_
    refine WL.nil ?_
    refine DN.then_normal ?_
    refine WC.yes rfl ?_
    refine WC.seq ?_
    refine WC.region ?_
    refine WL.r rfl (Ent.func Try.call15 rfl) (known18 _) ?_
    refine WL.y rfl (Yd.assign rfl) ?_
    refine WL.nil ?_
    refine DN.then_normal ?_
    refine WC.ret ?_
    refine DN.then_ret ?_
    refine DN.fit (C := H) (by repeat (first | exact Sp.here | exact Sp.sn | exact Sp.s0 | exact Fr.here | apply Sp.s2 | apply Sp.sx | apply Fr.fc | apply Fr.al | apply Fr.fa | apply Sp.sc | apply Sp.al | apply Sp.sa)) ?_
    refine DN.ret1 Try.results8 rfl ?_
    exact ⟨rfl, rfl⟩
  · refine WL.gy (dj := 29) rfl rfl rfl (Yd.fieldAddr (k := 2) (by kernel_rfl) rfl) ?_
    refine WL.gy (dj := 29) rfl rfl rfl (Yd.fieldAddr (k := 10) (by kernel_rfl) rfl) ?_
    refine WL.gh (dj := 29) rfl rfl rfl (Hd.load1 (by kernel_rfl) rfl (by repeat (first | exact List.mem_cons_self | apply List.mem_cons_of_mem | apply List.mem_append_right)) (by rfl) ⟨_, rfl, ?_⟩)
    refine WL.gy (dj := 29) rfl rfl rfl (Yd.len (e := 5) (by kernel_rfl) rfl) ?_
    refine WL.gy (dj := 29) rfl rfl rfl (Yd.gtr rfl rfl) ?_
    refine WL.y rfl (Yd.pickF rfl rfl) ?_
    refine WL.nil ?_
    refine DN.then_normal ?_
    refine WC.ite rfl (fun h35 => ?_) (fun h35 => ?_)
    · refine WC.seq ?_
      refine WC.region ?_
      refine WL.r rfl (Ent.func Try.call15 rfl) (known18 _) ?_
      refine WL.y rfl (Yd.assign rfl) ?_
      refine WL.nil ?_
      refine DN.then_normal ?_
      refine WC.ret ?_
      refine DN.then_ret ?_
      refine DN.fit (C := H) (by repeat (first | exact Sp.here | exact Sp.sn | exact Sp.s0 | exact Fr.here | apply Sp.s2 | apply Sp.sx | apply Fr.fc | apply Fr.al | apply Fr.fa | apply Sp.sc | apply Sp.al | apply Sp.sa)) ?_
      refine DN.ret1 Try.results8 rfl ?_
      exact ⟨rfl, rfl⟩
    · refine WC.skip ?_
      refine DN.then_normal ?_
      refine WC.seq ?_
      refine WC.region ?_
      refine WL.y rfl (Yd.assign rfl) ?_
      refine WL.nil ?_
      refine DN.then_normal ?_
      refine WC.seq ?_
      refine WC.region ?_
      refine WL.y rfl (Yd.move rfl) ?_
      refine WL.r rfl (Ent.func Try.call13 rfl) (nil_pick 0 _) ?_
      refine WL.y rfl (Yd.move rfl) ?_
      refine WL.y rfl (Yd.extract rfl rfl) ?_
      refine WL.y rfl (Yd.extract rfl rfl) ?_
      refine WL.renamed (t := 41) (v := .bool false) rfl (congrArg Value.bool (rfl)) ?_
      refine WL.h rfl (Hd.alloc (zs := [.int .i64 0, .int .i64 0, .int .i64 0, .int .u32 0, .int .u32 0, .int .u64 0, .int .u64 0, .int .u32 0, .int .i64 0, .bool false, .int .i64 0, .slice none 0 0, .slice none 0 0]) (by kernel_rfl) fun b6 => ⟨_, rfl, ?_⟩)
      refine WL.s (Hd.storeAll (n := 13) (by kernel_rfl) rfl rfl (by rfl) (by repeat (first | exact fun _ h => absurd h List.not_mem_nil | refine List.forall_mem_cons.2 ⟨by first | rfl | assumption, ?_⟩)) (by repeat (first | exact Fr.here | apply Fr.fc | apply Fr.al | apply Fr.fa)) (by rfl) ⟨rfl, ?_⟩)
      refine WL.y rfl (Yd.assign rfl) ?_
      refine WL.nil ?_
      refine DN.then_normal ?_
      refine WC.seq ?_
      refine WC.region ?_
      refine WL.y rfl (Yd.move rfl) ?_
      refine WL.r rfl (Ent.func Try.call23 rfl) (nil_look 0 _) ?_
      refine WL.y rfl (Yd.move rfl) ?_
      refine WL.y rfl (Yd.extract rfl rfl) ?_
      refine WL.y rfl (Yd.extract rfl rfl) ?_
      refine WL.renamed (t := 46) (v := .bool false) rfl (congrArg Value.bool (rfl)) ?_
      refine WL.h rfl (Hd.alloc (zs := [.int .i64 0, .int .i64 0, .int .i64 0, .int .u32 0, .int .u32 0, .int .u64 0, .int .u64 0, .int .u32 0, .int .i64 0, .bool false, .int .i64 0, .slice none 0 0, .slice none 0 0]) (by kernel_rfl) fun b8 => ⟨_, rfl, ?_⟩)
      refine WL.s (Hd.storeAll (n := 13) (by kernel_rfl) rfl rfl (by rfl) (by repeat (first | exact fun _ h => absurd h List.not_mem_nil | refine List.forall_mem_cons.2 ⟨by first | rfl | assumption, ?_⟩)) (by repeat (first | exact Fr.here | apply Fr.fc | apply Fr.al | apply Fr.fa)) (by rfl) ⟨rfl, ?_⟩)
      refine WL.y rfl (Yd.assign rfl) ?_
      refine WL.nil ?_
      refine DN.then_normal ?_
      refine WC.seq ?_
      refine WC.region ?_
      refine WL.y rfl (Yd.move rfl) ?_
      refine WL.r rfl (Ent.func Try.call27 rfl) (nil_tick 0 _) ?_
      refine WL.y rfl (Yd.move rfl) ?_
      refine WL.y rfl (Yd.extract rfl rfl) ?_
      refine WL.y rfl (Yd.extract rfl rfl) ?_
      refine WL.y rfl (Yd.assign rfl) ?_
      refine WL.y rfl (Yd.assign rfl) ?_
      refine WL.nil ?_
      refine DN.then_normal ?_
      refine WC.seq ?_
      refine WC.region ?_
      refine WL.y rfl (Yd.move rfl) ?_
      refine WL.h rfl (Hd.loadAll (n := 13) (by kernel_rfl) rfl (by repeat (first | exact List.mem_cons_self | apply List.mem_cons_of_mem | apply List.mem_append_right)) (by rfl) ⟨_, rfl, ?_⟩)
      refine WL.r rfl (Ent.func Try.call10 rfl) (nil_send L ko eo kn kc en ec _) ?_
      refine WL.y rfl (Yd.eql rfl rfl) ?_
      refine WL.renamed (t := 55) (v := .bool true) rfl (congrArg Value.bool (rfl)) ?_
      refine WL.y rfl (Yd.move rfl) ?_
      refine WL.gy (dj := 56) rfl rfl rfl (Yd.move rfl) ?_
      refine WL.renamed (t := 57) (v := .bool false) rfl (congrArg Value.bool (rfl)) ?_
      refine WL.gy (dj := 56) rfl rfl rfl (Yd.notB rfl) ?_
      refine WL.y rfl (Yd.pickT rfl rfl) ?_
      refine WL.y rfl (Yd.move rfl) ?_
      refine WL.gy (dj := 60) rfl rfl rfl (Yd.move rfl) ?_
      refine WL.renamed (t := 61) (v := .bool false) rfl (congrArg Value.bool (rfl)) ?_
      refine WL.gy (dj := 60) rfl rfl rfl (Yd.notB rfl) ?_
      refine WL.y rfl (Yd.pickT rfl rfl) ?_
      refine WL.y rfl (Yd.move rfl) ?_
      refine WL.gy (dj := 64) rfl rfl rfl (Yd.move rfl) ?_
      refine WL.gr (dj := 64) rfl rfl rfl (Ent.func Try.call19 rfl) (nil_lose 0 _) ?_
      refine WL.renamed (t := 66) (v := .bool false) rfl (congrArg Value.bool (rfl)) ?_
      refine WL.gy (dj := 64) rfl rfl rfl (Yd.notB rfl) ?_
      refine WL.y rfl (Yd.pickT rfl rfl) ?_
      refine WL.y rfl (Yd.move rfl) ?_
      refine WL.gy (dj := 69) rfl rfl rfl (Yd.move rfl) ?_
      refine WL.gr (dj := 69) rfl rfl rfl (Ent.func Try.call20 rfl) (nil_copy 0 _) ?_
      refine WL.renamed (t := 71) (v := .bool false) rfl (congrArg Value.bool (rfl)) ?_
      refine WL.gy (dj := 69) rfl rfl rfl (Yd.notB rfl) ?_
      refine WL.y rfl (Yd.pickT rfl rfl) ?_
      refine WL.y rfl (Yd.move rfl) ?_
      refine WL.gy (dj := 74) rfl rfl rfl (Yd.move rfl) ?_
      refine WL.gr (dj := 74) rfl rfl rfl (Ent.func Try.call12 rfl) (nil_late 0 _) ?_
      refine WL.renamed (t := 76) (v := .bool false) rfl (congrArg Value.bool (rfl)) ?_
      refine WL.gy (dj := 74) rfl rfl rfl (Yd.notB rfl) ?_
      refine WL.y rfl (Yd.pickT rfl rfl) ?_
      refine WL.y rfl (Yd.move rfl) ?_
      refine WL.gy (dj := 79) rfl rfl rfl (Yd.move rfl) ?_
      refine WL.gr (dj := 79) rfl rfl rfl (Ent.func Try.call14 rfl) (nil_len _) ?_
      refine WL.gy (dj := 79) rfl rfl rfl (Yd.eql rfl rfl) ?_
      refine WL.renamed (t := 82) (v := .bool true) rfl (congrArg Value.bool (rfl)) ?_
      refine WL.y rfl (Yd.pickT rfl rfl) ?_
      refine WL.y rfl (Yd.move rfl) ?_
      refine WL.gy (dj := 84) rfl rfl rfl (Yd.move rfl) ?_
      refine WL.gr (dj := 84) rfl rfl rfl (Ent.func Try.call16 rfl) (nil_cut 0 1 true _) ?_
      refine WL.gy (dj := 84) rfl rfl rfl (Yd.eql rfl rfl) ?_
      refine WL.renamed (t := 87) (v := .bool true) rfl (congrArg Value.bool (rfl)) ?_
      refine WL.y rfl (Yd.pickT rfl rfl) ?_
      refine WL.y rfl (Yd.move rfl) ?_
      refine WL.gy (dj := 89) rfl rfl rfl (Yd.move rfl) ?_
      refine WL.gy (dj := 89) rfl rfl rfl (Yd.eql64 _ (0#64) rfl rfl rfl rfl) ?_
      refine WL.renamed (t := 91) (v := .bool true) rfl (congrArg Value.bool (rfl)) ?_
      refine WL.y rfl (Yd.pickT rfl rfl) ?_
      refine WL.y rfl (Yd.move rfl) ?_
      refine WL.gy (dj := 93) rfl rfl rfl (Yd.move rfl) ?_
      refine WL.gy (dj := 93) rfl rfl rfl (Yd.eql rfl rfl) ?_
      refine WL.renamed (t := 95) (v := .bool true) rfl (congrArg Value.bool (rfl)) ?_
      refine WL.y rfl (Yd.pickT rfl rfl) ?_
      refine WL.y rfl (Yd.move rfl) ?_
      refine WL.gy (dj := 97) rfl rfl rfl (Yd.move rfl) ?_
      refine WL.gr (dj := 97) rfl rfl rfl (Ent.func Try.call28 rfl) (nil_clock 0 _) ?_
      refine WL.gy (dj := 97) rfl rfl rfl (Yd.eql64 _ (0#64) rfl rfl rfl rfl) ?_
      refine WL.renamed (t := 100) (v := .bool true) rfl (congrArg Value.bool (rfl)) ?_
      refine WL.y rfl (Yd.pickT rfl rfl) ?_
      refine WL.y rfl (Yd.assign rfl) ?_
      refine WL.nil ?_
      refine DN.then_normal ?_
      refine WC.seq ?_
      refine WC.region ?_
      refine WL.c rfl (Ent.func Try.call9 rfl) (new_tells 3) (Sp.p (by repeat (first | exact Sp.here | exact Sp.sn | exact Sp.s0 | exact Fr.here | apply Sp.s2 | apply Sp.sx | apply Fr.fc | apply Fr.al | apply Fr.fa | apply Sp.sc | apply Sp.al | apply Sp.sa))) ?_
      rintro q C0 hq
      rw [if_pos (by decide)] at hq
      obtain ⟨p, rfl, h0⟩ := hq
      rw [tickN_new] at h0
      refine WL.y rfl (Yd.move rfl) ?_
      refine WL.y rfl (Yd.extract rfl rfl) ?_
      refine WL.y rfl (Yd.extract rfl rfl) ?_
      refine WL.y rfl (Yd.assign rfl) ?_
      refine WL.y rfl (Yd.assign rfl) ?_
      refine WL.nil ?_
      refine DN.then_normal ?_
      refine WC.seq ?_
      refine WC.region ?_
      refine WL.c rfl (Ent.func Try.call9 rfl) (new_tells 3) (Sp.p (by repeat (first | exact Sp.here | exact Sp.sn | exact Sp.s0 | exact Fr.here | apply Sp.s2 | apply Sp.sx | apply Fr.fc | apply Fr.al | apply Fr.fa | apply Sp.sc | apply Sp.al | apply Sp.sa))) ?_
      rintro q V0 hq
      rw [if_pos (by decide)] at hq
      obtain ⟨pv, rfl, g0⟩ := hq
      refine WL.y rfl (Yd.move rfl) ?_
      refine WL.y rfl (Yd.extract rfl rfl) ?_
      refine WL.y rfl (Yd.extract rfl rfl) ?_
      refine WL.y rfl (Yd.assign rfl) ?_
      refine WL.y rfl (Yd.assign rfl) ?_
      refine WL.nil ?_
      refine DN.then_normal ?_
      refine WC.seq ?_
      refine WC.seq ?_
      refine WC.region ?_
      refine WL.y rfl (Yd.move rfl) ?_
      refine WL.y rfl (Yd.neq rfl rfl) ?_
      refine WL.renamed (t := 111) (v := .bool false) rfl (congrArg Value.bool (by decide)) ?_
      refine WL.y rfl (Yd.move rfl) ?_
      refine WL.gy (dj := 112) rfl rfl rfl (Yd.move rfl) ?_
      refine WL.gy (dj := 112) rfl rfl rfl (Yd.neq rfl rfl) ?_
      refine WL.renamed (t := 114) (v := .bool false) rfl (congrArg Value.bool (by decide)) ?_
      refine WL.y rfl (Yd.pickF rfl rfl) ?_
      refine WL.y rfl (Yd.move rfl) ?_
      refine WL.gy (dj := 116) rfl rfl rfl (Yd.move rfl) ?_
      refine WL.gy (dj := 116) rfl rfl rfl (Yd.eqlNil Try.underlying22 rfl rfl) ?_
      refine WL.renamed (t := 118) (v := .bool false) rfl (congrArg Value.bool (rfl)) ?_
      refine WL.y rfl (Yd.pickF rfl rfl) ?_
      refine WL.y rfl (Yd.move rfl) ?_
      refine WL.gy (dj := 120) rfl rfl rfl (Yd.move rfl) ?_
      refine WL.gy (dj := 120) rfl rfl rfl (Yd.eqlNil Try.underlying22 rfl rfl) ?_
      refine WL.renamed (t := 122) (v := .bool false) rfl (congrArg Value.bool (rfl)) ?_
      refine WL.y rfl (Yd.pickF rfl rfl) ?_
      refine WL.nil ?_
      refine DN.then_normal ?_
      refine WC.no rfl ?_
      refine WC.skip ?_
      refine DN.then_normal ?_
      refine WC.seq ?_
      refine WC.region ?_
      refine WL.h rfl (Hd.alloc (zs := [.int .u64 0, .int .u64 0, .int .u64 0]) (by kernel_rfl) fun b17 => ⟨_, rfl, ?_⟩)
      refine WL.nil ?_
      refine DN.then_normal ?_
      refine WC.seq ?_
      refine WC.seq ?_
      rw [show [Value.int .u64 0, .int .u64 0, .int .u64 0] = uc (List.replicate 3 0#64) from rfl]
      refine WC.region ?_
      refine WL.y rfl (Yd.assign rfl) ?_
      refine WL.nil ?_
      refine DN.then_normal ?_
      refine WC.block ?_
      refine WC.loopS (fun z : Nat × List (BitVec 64) × List Ck => z.1 ≤ ts.length ∧ z.2.1.length = 3 ∧ WAt 72 34 5 p (tickN z.2.1) z.2.2) (fun z : Nat × List (BitVec 64) × List Ck => [(18, .int .i64 (z.1 : Int))]) (fun z : Nat × List (BitVec 64) × List Ck => row b17 (uc z.2.1) 66 :: (z.2.2 ++ (V0 ++ H))) (fun z : Nat × List (BitVec 64) × List Ck => ts.length - z.1) (⟨0, List.replicate 3 0#64, C0⟩) (show 0 ≤ ts.length ∧ (List.replicate 3 0#64).length = 3 ∧ WAt 72 34 5 p (tickN (List.replicate 3 0#64)) C0 from ⟨Nat.zero_le _, rfl, h0⟩) (Sx.put rfl ((by repeat (first | exact Sx.refl | refine Sx.skip rfl ?_)))) (by repeat (first | exact Sp.here | exact Sp.sn | exact Sp.s0 | exact Fr.here | apply Sp.s2 | apply Sp.sx | apply Fr.fc | apply Fr.al | apply Fr.fa | apply Sp.sc | apply Sp.al | apply Sp.sa)) ?_
      rintro ⟨i, ns, C1⟩ hI
      replace hI : i ≤ ts.length ∧ ns.length = 3 ∧ WAt 72 34 5 p (tickN ns) C1 := hI
      obtain ⟨hi, hns, h1⟩ := hI
      change WC _ _ _ _ _ _ ([(18, .int .i64 (i : Int))] ++ _) (row b17 (uc ns) 66 :: (C1 ++ (V0 ++ H)))
      refine WC.seq ?_
      refine WC.seq ?_
      refine WC.region ?_
      refine WL.y rfl (Yd.move rfl) ?_
      refine WL.y rfl (Yd.move rfl) ?_
      refine WL.y rfl (Yd.len (e := 3) (by kernel_rfl) rfl) ?_
      refine WL.y rfl (Yd.lss rfl rfl) ?_
      refine WL.y rfl (Yd.move rfl) ?_
      refine WL.partP (t := 128) rfl (fun hg128 => ?_) (fun hg128 => ?_)
      · refine WL.gy (dj := 128) rfl rfl rfl (Yd.move rfl) ?_
        refine WL.gy (dj := 128) rfl rfl rfl (Yd.lss rfl rfl) ?_
        refine WL.y rfl (Yd.pickT rfl rfl) ?_
        refine WL.nil ?_
        refine DN.then_normal ?_
        refine WC.ite rfl (fun h131 => ?_) (fun h131 => ?_)
        · have hlt : i < ts.length := by omega
          obtain ⟨q, hq, hq3⟩ : ∃ q : Nat, (BitVec.ofInt 64 (ts.getD i 0) % 3#64).toNat = q ∧ q < 3 := ⟨_, rfl, by rw [BitVec.toNat_umod]; exact Nat.mod_lt _ (by decide)⟩
          refine WC.skip ?_
          refine DN.then_normal ?_
          refine WC.seq ?_
          refine WC.block ?_
          refine WC.seq ?_
          refine WC.region ?_
          refine WL.y rfl (Yd.move rfl) ?_
          refine WL.y rfl (Yd.move rfl) ?_
          refine WL.elem (e := 3) (by kernel_rfl) (by kernel_rfl) (by kernel_rfl) rfl rfl (rfl) (ht.mono (by repeat (first | exact Gr.refl | exact Gr.left Gr.refl | exact Gr.nil | exact Gr.app (Gr.left Gr.refl) | refine Gr.cons ?_ | refine Gr.app ?_ | refine Gr.both ?_ ?_ | refine Gr.put (by repeat (first | exact List.mem_cons_self | apply List.mem_cons_of_mem | apply List.mem_append_right)) ?_))) (ic_getD hlt) (hlt) rfl rfl ?_
          intro _
          refine WL.y rfl (Yd.to64 _ (by kernel_rfl) (by kernel_rfl) rfl rfl) ?_
          refine WL.y rfl (Yd.rem64 _ (3#64) rfl rfl rfl rfl (by decide)) ?_
          refine WL.renamed (t := 139) (v := .int .u64 (q : Int)) rfl (by rw [hq]) ?_
          refine WL.y rfl (Yd.toInt (by kernel_rfl) (by kernel_rfl) rfl (by omega) (by omega)) ?_
          refine WL.y rfl (Yd.assign rfl) ?_
          refine WL.nil ?_
          refine DN.then_normal ?_
          refine WC.seq ?_
          refine WC.region ?_
          refine WL.y rfl (Yd.move rfl) ?_
          refine WL.y rfl (Yd.indexArr (n := 3) (e := 29) (s := 1) (by kernel_rfl) (by kernel_rfl) rfl rfl (by omega) (by omega)) ?_
          refine WL.h rfl (Hd.load1 (v := .int .u64 (ns.getD q 0#64).toNat) (by kernel_rfl) rfl (by repeat (first | exact List.mem_cons_self | apply List.mem_cons_of_mem | apply List.mem_append_right)) (by rw [show 0 + (q : Int).toNat * 1 = q by omega]; exact uc_getD (by omega)) ⟨_, rfl, ?_⟩)
          refine WL.y rfl (Yd.add64 _ (1#64) rfl rfl rfl rfl) ?_
          refine WL.y rfl (Yd.indexArr (n := 3) (e := 29) (s := 1) (by kernel_rfl) (by kernel_rfl) rfl rfl (by omega) (by omega)) ?_
          refine WL.s (Hd.store1s (cs' := uc (ns.set q (ns.getD q 0#64 + 1#64))) (by kernel_rfl) rfl rfl (by rfl) (by repeat (first | exact Fr.here | apply Fr.fc | apply Fr.al | apply Fr.fa)) (by simp [uc_len, hns]; omega) (by rw [show 0 + (q : Int).toNat * 1 = q by omega]; exact uc_setW _ _ _) ⟨rfl, ?_⟩)
          refine WL.nil ?_
          refine DN.then_normal ?_
          refine WC.seq ?_
          refine WC.region ?_
          refine WL.y rfl (Yd.move rfl) ?_
          refine WL.y rfl (Yd.move rfl) ?_
          refine WL.c rfl (Ent.func Try.call27 rfl) (tick_tells p (tickN ns) C1 h1 (tickN_inv hns) (q : Int)) (Sp.p (by repeat (first | exact Sp.here | exact Sp.sn | exact Sp.s0 | exact Fr.here | apply Sp.s2 | apply Sp.sx | apply Fr.fc | apply Fr.al | apply Fr.fa | apply Sp.sc | apply Sp.al | apply Sp.sa))) ?_
          rintro w1 C2 ⟨rfl, h2⟩
          obtain ⟨htv, hte, htw⟩ := tickN_tick hns hq3
          rw [htw] at h2
          rw [htv, hte]
          refine WL.y rfl (Yd.move rfl) ?_
          refine WL.y rfl (Yd.extract rfl rfl) ?_
          refine WL.y rfl (Yd.extract rfl rfl) ?_
          refine WL.y rfl (Yd.assign rfl) ?_
          refine WL.y rfl (Yd.assign rfl) ?_
          refine WL.nil ?_
          refine DN.then_normal ?_
          refine WC.seq ?_
          refine WC.region ?_
          refine WL.y rfl (Yd.move rfl) ?_
          refine WL.y rfl (Yd.move rfl) ?_
          refine WL.y rfl (Yd.indexArr (n := 3) (e := 29) (s := 1) (by kernel_rfl) (by kernel_rfl) rfl rfl (by omega) (by omega)) ?_
          refine WL.h rfl (Hd.load1 (v := .int .u64 (ns.getD q 0#64 + 1#64).toNat) (by kernel_rfl) rfl (by repeat (first | exact List.mem_cons_self | apply List.mem_cons_of_mem | apply List.mem_append_right)) (by rw [show 0 + (q : Int).toNat * 1 = q by omega, uc_getD (by rw [List.length_set]; omega)]; simp [List.getD, show q < ns.length by omega]) ⟨_, rfl, ?_⟩)
          refine WL.y rfl (Yd.neq64 _ _ rfl rfl rfl rfl) ?_
          refine WL.renamed (t := 156) (v := .bool false) rfl (congrArg Value.bool (by simp)) ?_
          refine WL.y rfl (Yd.move rfl) ?_
          refine WL.gy (dj := 157) rfl rfl rfl (Yd.move rfl) ?_
          refine WL.gy (dj := 157) rfl rfl rfl (Yd.neq rfl rfl) ?_
          refine WL.renamed (t := 159) (v := .bool false) rfl (congrArg Value.bool (by simp)) ?_
          refine WL.y rfl (Yd.pickF rfl rfl) ?_
          refine WL.nil ?_
          refine DN.then_normal ?_
          refine WC.no rfl ?_
          refine WC.skip ?_
          refine DN.block_normal ?_
          refine DN.then_normal ?_
          refine WC.region ?_
          refine WL.y rfl (Yd.move rfl) ?_
          refine WL.y rfl (Yd.add rfl rfl (by omega) (by omega)) ?_
          refine WL.y rfl (Yd.assign rfl) ?_
          refine WL.nil ?_
          exact DN.againS (⟨i + 1, ns.set q (ns.getD q 0#64 + 1#64), C2⟩) (show (i + 1) ≤ ts.length ∧ (ns.set q (ns.getD q 0#64 + 1#64)).length = 3 ∧ WAt 72 34 5 p (tickN (ns.set q (ns.getD q 0#64 + 1#64))) C2 from ⟨by omega, by rw [List.length_set]; exact hns, h2⟩) (show ts.length - (i + 1) < ts.length - i by omega) (Sx.put rfl ((by repeat (first | exact Sx.refl | refine Sx.skip rfl ?_)))) (by repeat (first | exact Sp.here | exact Sp.sn | exact Sp.s0 | exact Fr.here | apply Sp.s2 | apply Sp.sx | apply Fr.fc | apply Fr.al | apply Fr.fa | apply Sp.sc | apply Sp.al | apply Sp.sa))
        · refine WC.exit ?_
          refine DN.then_exit ?_
          refine DN.then_exit ?_
          refine DN.block_exit ?_
          refine DN.then_normal ?_
          refine WC.seq ?_
          refine WC.region ?_
          refine WL.y rfl (Yd.move rfl) ?_
          refine WL.c rfl (Ent.func Try.call16 rfl) (cut_tells p (tickN ns) C1 h1 (tickN_inv hns) 0 1 true) (Sp.p (by repeat (first | exact Sp.here | exact Sp.sn | exact Sp.s0 | exact Fr.here | apply Sp.s2 | apply Sp.sx | apply Fr.fc | apply Fr.al | apply Fr.fa | apply Sp.sc | apply Sp.al | apply Sp.sa))) ?_
          rintro w1 C2 ⟨rfl, h2⟩
          rw [tickN_cut] at h2
          have hI2 : WInv (tickC ns) := (tickN_inv hns).cut' 0 1 true
          refine WL.nil ?_
          refine DN.then_normal ?_
          refine WC.seq ?_
          refine WC.region ?_
          refine WL.y rfl (Yd.move rfl) ?_
          refine WL.r rfl (Ent.func Try.call11 rfl) (letter_reads 0 1 1#64 _) ?_
          refine WL.c rfl (Ent.func Try.call10 rfl) (send_tells pv (newW 3) V0 [] g0 (newW_inv (by decide)) (ackL 0 1 1#64) _ _ (bsNil _) (bsNil _) (Nat.zero_le _) (Nat.zero_le _)) (Sp.p (by repeat (first | exact Sp.here | exact Sp.sn | exact Sp.s0 | exact Fr.here | apply Sp.s2 | apply Sp.sx | apply Fr.fc | apply Fr.al | apply Fr.fa | apply Sp.sc | apply Sp.al | apply Sp.sa))) ?_
          rintro w1 Hq ⟨V1, rfl, g1, rfl⟩
          obtain ⟨se1, se2⟩ := send_net (n := 3) (ls := []) 0 1 1#64 (by decide) (by decide) (by decide)
          change WAt 72 34 5 pv (sendW (netW 3 [] (List.replicate 36 0)) (ackL 0 1 1#64)) V1 at g1
          rw [se2] at g1
          change WL _ _ _ _ _ _ _ ((165, .int .i64 (sendE (netW 3 [] (List.replicate 36 0)) (ackL 0 1 1#64))) :: _) _
          rw [se1]
          refine WL.y rfl (Yd.assign rfl) ?_
          refine WL.nil ?_
          refine DN.then_normal ?_
          refine WC.seq ?_
          refine WC.region ?_
          refine WL.y rfl (Yd.move rfl) ?_
          refine WL.r rfl (Ent.func Try.call11 rfl) (letter_reads 0 1 1#64 _) ?_
          refine WL.c rfl (Ent.func Try.call10 rfl) (send_tells p (tickC ns) C2 [] h2 hI2 (ackL 0 1 1#64) _ _ (bsNil _) (bsNil _) (Nat.zero_le _) (Nat.zero_le _)) (Sp.p (by repeat (first | exact Sp.here | exact Sp.sn | exact Sp.s0 | exact Fr.here | apply Sp.s2 | apply Sp.sx | apply Fr.fc | apply Fr.al | apply Fr.fa | apply Sp.sc | apply Sp.al | apply Sp.sa))) ?_
          rintro w1 Hq ⟨C3, rfl, h3, rfl⟩
          obtain ⟨te1, te2⟩ := tickC_send ns 1#64
          rw [te2] at h3
          rw [te1]
          refine WL.y rfl (Yd.assign rfl) ?_
          refine WL.nil ?_
          refine DN.then_normal ?_
          refine WC.seq ?_
          have gI1 : WInv (netW 3 ([] ++ [ackL 0 1 1#64]) (List.replicate 36 0)) := (newW_inv (n := 3) (by decide)).send (ackL 0 1 1#64)
          have c0 : clockV (tickC ns) 0 = ns.getD 0 0#64 := tickC_clock hns (q := 0) (by decide)
          have c1 : clockV (tickC ns) 1 = ns.getD 1 0#64 := tickC_clock hns (q := 1) (by decide)
          have c2 : clockV (tickC ns) 2 = ns.getD 2 0#64 := tickC_clock hns (q := 2) (by decide)
          refine WC.draw 49 (by kernel_rfl) rfl ?_
          refine WA.y (i := 0) (NoPanic.then (NoPanic.body)) rfl (by kernel_rfl) (by kernel_rfl) (by kernel_rfl) rfl (Yd.move rfl) ?_
          refine WA.renamed (t := 169) (v := .bool true) rfl (congrArg Value.bool (rfl)) ?_
          refine WA.y (i := 1) (NoPanic.then (NoPanic.body)) rfl (by kernel_rfl) (by kernel_rfl) (by kernel_rfl) rfl (Yd.move rfl) ?_
          refine WA.gy (i := 2) (dj := 170) (NoPanic.then (NoPanic.body)) rfl (by kernel_rfl) (by kernel_rfl) (by kernel_rfl) rfl rfl rfl (Yd.move rfl) ?_
          refine WA.gy (i := 4) (dj := 170) (NoPanic.then (NoPanic.body)) rfl (by kernel_rfl) (by kernel_rfl) (by kernel_rfl) rfl rfl rfl (Yd.indexArr (n := 3) (e := 29) (s := 1) (by kernel_rfl) (by kernel_rfl) rfl rfl (by omega) (by omega)) ?_
          refine WA.two (i := 3) (j := 5) (by kernel_rfl) ?_ ?_
          · refine WO.rf rfl (Wt.yes (dj := 170) rfl rfl) rfl (Ent.func Try.call28 rfl) (clock_reads p (tickC ns) C3 h3 hI2 0) (by repeat (first | exact Sp.here | exact Sp.sn | exact Sp.s0 | exact Fr.here | apply Sp.s2 | apply Sp.sx | apply Fr.fc | apply Fr.al | apply Fr.fa | apply Sp.sc | apply Sp.al | apply Sp.sa)) ?_
            refine WA.one (i := 5) (by kernel_rfl) ?_
            refine WO.h rfl (Wt.yes (dj := 170) rfl rfl) rfl (Hd.load1 (v := .int .u64 (ns.getD 0 0#64).toNat) (by kernel_rfl) rfl (by repeat (first | exact List.mem_cons_self | apply List.mem_cons_of_mem | apply List.mem_append_right)) (by rw [show 0 + (0 : Int).toNat * 1 = 0 by omega]; exact uc_getD (by omega)) ⟨_, rfl, ?_⟩)
            refine WA.gy (i := 6) (dj := 170) (NoPanic.then (NoPanic.body)) rfl (by kernel_rfl) (by kernel_rfl) (by kernel_rfl) rfl rfl rfl (Yd.eql64 _ _ rfl rfl rfl rfl) ?_
            refine WA.renamed (t := 175) (v := .bool true) rfl (congrArg Value.bool (by rw [c0]; simp)) ?_
            refine WA.y (i := 7) (NoPanic.then (NoPanic.body)) rfl (by kernel_rfl) (by kernel_rfl) (by kernel_rfl) rfl (Yd.pickT rfl rfl) ?_
            refine WA.y (i := 8) (NoPanic.then (NoPanic.body)) rfl (by kernel_rfl) (by kernel_rfl) (by kernel_rfl) rfl (Yd.move rfl) ?_
            refine WA.gy (i := 9) (dj := 177) (NoPanic.then (NoPanic.body)) rfl (by kernel_rfl) (by kernel_rfl) (by kernel_rfl) rfl rfl rfl (Yd.move rfl) ?_
            refine WA.gy (i := 11) (dj := 177) (NoPanic.then (NoPanic.body)) rfl (by kernel_rfl) (by kernel_rfl) (by kernel_rfl) rfl rfl rfl (Yd.indexArr (n := 3) (e := 29) (s := 1) (by kernel_rfl) (by kernel_rfl) rfl rfl (by omega) (by omega)) ?_
            refine WA.two (i := 10) (j := 12) (by kernel_rfl) ?_ ?_
            · refine WO.rf rfl (Wt.yes (dj := 177) rfl rfl) rfl (Ent.func Try.call28 rfl) (clock_reads p (tickC ns) C3 h3 hI2 1) (by repeat (first | exact Sp.here | exact Sp.sn | exact Sp.s0 | exact Fr.here | apply Sp.s2 | apply Sp.sx | apply Fr.fc | apply Fr.al | apply Fr.fa | apply Sp.sc | apply Sp.al | apply Sp.sa)) ?_
              refine WA.one (i := 12) (by kernel_rfl) ?_
              refine WO.h rfl (Wt.yes (dj := 177) rfl rfl) rfl (Hd.load1 (v := .int .u64 (ns.getD 1 0#64).toNat) (by kernel_rfl) rfl (by repeat (first | exact List.mem_cons_self | apply List.mem_cons_of_mem | apply List.mem_append_right)) (by rw [show 0 + (1 : Int).toNat * 1 = 1 by omega]; exact uc_getD (by omega)) ⟨_, rfl, ?_⟩)
              refine WA.gy (i := 13) (dj := 177) (NoPanic.then (NoPanic.body)) rfl (by kernel_rfl) (by kernel_rfl) (by kernel_rfl) rfl rfl rfl (Yd.eql64 _ _ rfl rfl rfl rfl) ?_
              refine WA.renamed (t := 182) (v := .bool true) rfl (congrArg Value.bool (by rw [c1]; simp)) ?_
              refine WA.y (i := 14) (NoPanic.then (NoPanic.body)) rfl (by kernel_rfl) (by kernel_rfl) (by kernel_rfl) rfl (Yd.pickT rfl rfl) ?_
              refine WA.y (i := 15) (NoPanic.then (NoPanic.body)) rfl (by kernel_rfl) (by kernel_rfl) (by kernel_rfl) rfl (Yd.move rfl) ?_
              refine WA.gy (i := 16) (dj := 184) (NoPanic.then (NoPanic.body)) rfl (by kernel_rfl) (by kernel_rfl) (by kernel_rfl) rfl rfl rfl (Yd.move rfl) ?_
              refine WA.gy (i := 18) (dj := 184) (NoPanic.then (NoPanic.body)) rfl (by kernel_rfl) (by kernel_rfl) (by kernel_rfl) rfl rfl rfl (Yd.indexArr (n := 3) (e := 29) (s := 1) (by kernel_rfl) (by kernel_rfl) rfl rfl (by omega) (by omega)) ?_
              refine WA.two (i := 17) (j := 19) (by kernel_rfl) ?_ ?_
              · refine WO.rf rfl (Wt.yes (dj := 184) rfl rfl) rfl (Ent.func Try.call28 rfl) (clock_reads p (tickC ns) C3 h3 hI2 2) (by repeat (first | exact Sp.here | exact Sp.sn | exact Sp.s0 | exact Fr.here | apply Sp.s2 | apply Sp.sx | apply Fr.fc | apply Fr.al | apply Fr.fa | apply Sp.sc | apply Sp.al | apply Sp.sa)) ?_
                refine WA.one (i := 19) (by kernel_rfl) ?_
                refine WO.h rfl (Wt.yes (dj := 184) rfl rfl) rfl (Hd.load1 (v := .int .u64 (ns.getD 2 0#64).toNat) (by kernel_rfl) rfl (by repeat (first | exact List.mem_cons_self | apply List.mem_cons_of_mem | apply List.mem_append_right)) (by rw [show 0 + (2 : Int).toNat * 1 = 2 by omega]; exact uc_getD (by omega)) ⟨_, rfl, ?_⟩)
                refine WA.gy (i := 20) (dj := 184) (NoPanic.then (NoPanic.body)) rfl (by kernel_rfl) (by kernel_rfl) (by kernel_rfl) rfl rfl rfl (Yd.eql64 _ _ rfl rfl rfl rfl) ?_
                refine WA.renamed (t := 189) (v := .bool true) rfl (congrArg Value.bool (by rw [c2]; simp)) ?_
                refine WA.y (i := 21) (NoPanic.then (NoPanic.body)) rfl (by kernel_rfl) (by kernel_rfl) (by kernel_rfl) rfl (Yd.pickT rfl rfl) ?_
                refine WA.y (i := 22) (NoPanic.then (NoPanic.body)) rfl (by kernel_rfl) (by kernel_rfl) (by kernel_rfl) rfl (Yd.move rfl) ?_
                refine WA.gy (i := 23) (dj := 191) (NoPanic.then (NoPanic.body)) rfl (by kernel_rfl) (by kernel_rfl) (by kernel_rfl) rfl rfl rfl (Yd.move rfl) ?_
                refine WA.one (i := 24) (by kernel_rfl) ?_
                refine WO.rf rfl (Wt.yes (dj := 191) rfl rfl) rfl (Ent.func Try.call28 rfl) (clock_reads pv _ V1 g1 gI1 0) (by repeat (first | exact Sp.here | exact Sp.sn | exact Sp.s0 | exact Fr.here | apply Sp.s2 | apply Sp.sx | apply Fr.fc | apply Fr.al | apply Fr.fa | apply Sp.sc | apply Sp.al | apply Sp.sa)) ?_
                refine WA.gy (i := 25) (dj := 191) (NoPanic.then (NoPanic.body)) rfl (by kernel_rfl) (by kernel_rfl) (by kernel_rfl) rfl rfl rfl (Yd.eql64 _ (0#64) rfl rfl rfl rfl) ?_
                refine WA.renamed (t := 194) (v := .bool true) rfl (congrArg Value.bool (rfl)) ?_
                refine WA.y (i := 26) (NoPanic.then (NoPanic.body)) rfl (by kernel_rfl) (by kernel_rfl) (by kernel_rfl) rfl (Yd.pickT rfl rfl) ?_
                refine WA.y (i := 27) (NoPanic.then (NoPanic.body)) rfl (by kernel_rfl) (by kernel_rfl) (by kernel_rfl) rfl (Yd.move rfl) ?_
                refine WA.gy (i := 28) (dj := 196) (NoPanic.then (NoPanic.body)) rfl (by kernel_rfl) (by kernel_rfl) (by kernel_rfl) rfl rfl rfl (Yd.move rfl) ?_
                refine WA.gy (i := 29) (dj := 196) (NoPanic.then (NoPanic.body)) rfl (by kernel_rfl) (by kernel_rfl) (by kernel_rfl) rfl rfl rfl (Yd.eql rfl rfl) ?_
                refine WA.renamed (t := 198) (v := .bool true) rfl (congrArg Value.bool (rfl)) ?_
                refine WA.y (i := 30) (NoPanic.then (NoPanic.body)) rfl (by kernel_rfl) (by kernel_rfl) (by kernel_rfl) rfl (Yd.pickT rfl rfl) ?_
                refine WA.y (i := 31) (NoPanic.then (NoPanic.body)) rfl (by kernel_rfl) (by kernel_rfl) (by kernel_rfl) rfl (Yd.move rfl) ?_
                refine WA.gy (i := 32) (dj := 200) (NoPanic.then (NoPanic.body)) rfl (by kernel_rfl) (by kernel_rfl) (by kernel_rfl) rfl rfl rfl (Yd.move rfl) ?_
                refine WA.one (i := 33) (by kernel_rfl) ?_
                refine WO.rf rfl (Wt.yes (dj := 200) rfl rfl) rfl (Ent.func Try.call14 rfl) (len_reads pv _ V1 g1) (by repeat (first | exact Sp.here | exact Sp.sn | exact Sp.s0 | exact Fr.here | apply Sp.s2 | apply Sp.sx | apply Fr.fc | apply Fr.al | apply Fr.fa | apply Sp.sc | apply Sp.al | apply Sp.sa)) ?_
                refine WA.gy (i := 34) (dj := 200) (NoPanic.then (NoPanic.body)) rfl (by kernel_rfl) (by kernel_rfl) (by kernel_rfl) rfl rfl rfl (Yd.eql rfl rfl) ?_
                refine WA.renamed (t := 203) (v := .bool true) rfl (congrArg Value.bool (rfl)) ?_
                refine WA.y (i := 35) (NoPanic.then (NoPanic.body)) rfl (by kernel_rfl) (by kernel_rfl) (by kernel_rfl) rfl (Yd.pickT rfl rfl) ?_
                refine WA.y (i := 36) (NoPanic.then (NoPanic.body)) rfl (by kernel_rfl) (by kernel_rfl) (by kernel_rfl) rfl (Yd.move rfl) ?_
                refine WA.gy (i := 37) (dj := 205) (NoPanic.then (NoPanic.body)) rfl (by kernel_rfl) (by kernel_rfl) (by kernel_rfl) rfl rfl rfl (Yd.move rfl) ?_
                refine WA.gy (i := 38) (dj := 205) (NoPanic.then (NoPanic.body)) rfl (by kernel_rfl) (by kernel_rfl) (by kernel_rfl) rfl rfl rfl (Yd.eql rfl rfl) ?_
                refine WA.renamed (t := 207) (v := .bool true) rfl (congrArg Value.bool (rfl)) ?_
                refine WA.y (i := 39) (NoPanic.then (NoPanic.body)) rfl (by kernel_rfl) (by kernel_rfl) (by kernel_rfl) rfl (Yd.pickT rfl rfl) ?_
                refine WA.y (i := 40) (NoPanic.then (NoPanic.body)) rfl (by kernel_rfl) (by kernel_rfl) (by kernel_rfl) rfl (Yd.move rfl) ?_
                refine WA.gy (i := 41) (dj := 209) (NoPanic.then (NoPanic.body)) rfl (by kernel_rfl) (by kernel_rfl) (by kernel_rfl) rfl rfl rfl (Yd.move rfl) ?_
                refine WA.one (i := 42) (by kernel_rfl) ?_
                refine WO.rf rfl (Wt.yes (dj := 209) rfl rfl) rfl (Ent.func Try.call14 rfl) (len_reads p _ C3 h3) (by repeat (first | exact Sp.here | exact Sp.sn | exact Sp.s0 | exact Fr.here | apply Sp.s2 | apply Sp.sx | apply Fr.fc | apply Fr.al | apply Fr.fa | apply Sp.sc | apply Sp.al | apply Sp.sa)) ?_
                refine WA.gy (i := 43) (dj := 209) (NoPanic.then (NoPanic.body)) rfl (by kernel_rfl) (by kernel_rfl) (by kernel_rfl) rfl rfl rfl (Yd.eql rfl rfl) ?_
                refine WA.renamed (t := 212) (v := .bool true) rfl (congrArg Value.bool (rfl)) ?_
                refine WA.y (i := 44) (NoPanic.then (NoPanic.body)) rfl (by kernel_rfl) (by kernel_rfl) (by kernel_rfl) rfl (Yd.pickT rfl rfl) ?_
                refine WA.y (i := 45) (NoPanic.then (NoPanic.body)) rfl (by kernel_rfl) (by kernel_rfl) (by kernel_rfl) rfl (Yd.move rfl) ?_
                refine WA.one (i := 46) (by kernel_rfl) ?_
                refine WO.r rfl (Wt.yes (dj := 214) rfl rfl) rfl (Ent.func Try.call15 rfl) (known18 _) ?_
                refine WA.y (i := 47) (NoPanic.then (NoPanic.body)) rfl (by kernel_rfl) (by kernel_rfl) (by kernel_rfl) rfl (Yd.pickT rfl rfl) ?_
                refine WA.y (i := 48) (NoPanic.then (NoPanic.body)) rfl (by kernel_rfl) (by kernel_rfl) (by kernel_rfl) rfl (Yd.assign rfl) ?_
                refine WA.done (by kernel_rfl) ?_
                refine DN.then_normal ?_
                refine WC.ret ?_
                refine DN.fit (C := H) (by repeat (first | exact Sp.here | exact Sp.sn | exact Sp.s0 | exact Fr.here | apply Sp.s2 | apply Sp.sx | apply Fr.fc | apply Fr.al | apply Fr.fa | apply Sp.sc | apply Sp.al | apply Sp.sa)) ?_
                refine DN.ret1 Try.results8 rfl ?_
                exact ⟨rfl, rfl⟩
              · refine WO.h rfl (Wt.yes (dj := 184) rfl rfl) rfl (Hd.load1 (v := .int .u64 (ns.getD 2 0#64).toNat) (by kernel_rfl) rfl (by repeat (first | exact List.mem_cons_self | apply List.mem_cons_of_mem | apply List.mem_append_right)) (by rw [show 0 + (2 : Int).toNat * 1 = 2 by omega]; exact uc_getD (by omega)) ⟨_, rfl, ?_⟩)
                refine WA.one (i := 17) (by kernel_rfl) ?_
                refine WO.rf rfl (Wt.yes (dj := 184) rfl rfl) rfl (Ent.func Try.call28 rfl) (clock_reads p (tickC ns) C3 h3 hI2 2) (by repeat (first | exact Sp.here | exact Sp.sn | exact Sp.s0 | exact Fr.here | apply Sp.s2 | apply Sp.sx | apply Fr.fc | apply Fr.al | apply Fr.fa | apply Sp.sc | apply Sp.al | apply Sp.sa)) ?_
                refine WA.gy (i := 20) (dj := 184) (NoPanic.then (NoPanic.body)) rfl (by kernel_rfl) (by kernel_rfl) (by kernel_rfl) rfl rfl rfl (Yd.eql64 _ _ rfl rfl rfl rfl) ?_
                refine WA.renamed (t := 189) (v := .bool true) rfl (congrArg Value.bool (by rw [c2]; simp)) ?_
                refine WA.y (i := 21) (NoPanic.then (NoPanic.body)) rfl (by kernel_rfl) (by kernel_rfl) (by kernel_rfl) rfl (Yd.pickT rfl rfl) ?_
                refine WA.y (i := 22) (NoPanic.then (NoPanic.body)) rfl (by kernel_rfl) (by kernel_rfl) (by kernel_rfl) rfl (Yd.move rfl) ?_
                refine WA.gy (i := 23) (dj := 191) (NoPanic.then (NoPanic.body)) rfl (by kernel_rfl) (by kernel_rfl) (by kernel_rfl) rfl rfl rfl (Yd.move rfl) ?_
                refine WA.one (i := 24) (by kernel_rfl) ?_
                refine WO.rf rfl (Wt.yes (dj := 191) rfl rfl) rfl (Ent.func Try.call28 rfl) (clock_reads pv _ V1 g1 gI1 0) (by repeat (first | exact Sp.here | exact Sp.sn | exact Sp.s0 | exact Fr.here | apply Sp.s2 | apply Sp.sx | apply Fr.fc | apply Fr.al | apply Fr.fa | apply Sp.sc | apply Sp.al | apply Sp.sa)) ?_
                refine WA.gy (i := 25) (dj := 191) (NoPanic.then (NoPanic.body)) rfl (by kernel_rfl) (by kernel_rfl) (by kernel_rfl) rfl rfl rfl (Yd.eql64 _ (0#64) rfl rfl rfl rfl) ?_
                refine WA.renamed (t := 194) (v := .bool true) rfl (congrArg Value.bool (rfl)) ?_
                refine WA.y (i := 26) (NoPanic.then (NoPanic.body)) rfl (by kernel_rfl) (by kernel_rfl) (by kernel_rfl) rfl (Yd.pickT rfl rfl) ?_
                refine WA.y (i := 27) (NoPanic.then (NoPanic.body)) rfl (by kernel_rfl) (by kernel_rfl) (by kernel_rfl) rfl (Yd.move rfl) ?_
                refine WA.gy (i := 28) (dj := 196) (NoPanic.then (NoPanic.body)) rfl (by kernel_rfl) (by kernel_rfl) (by kernel_rfl) rfl rfl rfl (Yd.move rfl) ?_
                refine WA.gy (i := 29) (dj := 196) (NoPanic.then (NoPanic.body)) rfl (by kernel_rfl) (by kernel_rfl) (by kernel_rfl) rfl rfl rfl (Yd.eql rfl rfl) ?_
                refine WA.renamed (t := 198) (v := .bool true) rfl (congrArg Value.bool (rfl)) ?_
                refine WA.y (i := 30) (NoPanic.then (NoPanic.body)) rfl (by kernel_rfl) (by kernel_rfl) (by kernel_rfl) rfl (Yd.pickT rfl rfl) ?_
                refine WA.y (i := 31) (NoPanic.then (NoPanic.body)) rfl (by kernel_rfl) (by kernel_rfl) (by kernel_rfl) rfl (Yd.move rfl) ?_
                refine WA.gy (i := 32) (dj := 200) (NoPanic.then (NoPanic.body)) rfl (by kernel_rfl) (by kernel_rfl) (by kernel_rfl) rfl rfl rfl (Yd.move rfl) ?_
                refine WA.one (i := 33) (by kernel_rfl) ?_
                refine WO.rf rfl (Wt.yes (dj := 200) rfl rfl) rfl (Ent.func Try.call14 rfl) (len_reads pv _ V1 g1) (by repeat (first | exact Sp.here | exact Sp.sn | exact Sp.s0 | exact Fr.here | apply Sp.s2 | apply Sp.sx | apply Fr.fc | apply Fr.al | apply Fr.fa | apply Sp.sc | apply Sp.al | apply Sp.sa)) ?_
                refine WA.gy (i := 34) (dj := 200) (NoPanic.then (NoPanic.body)) rfl (by kernel_rfl) (by kernel_rfl) (by kernel_rfl) rfl rfl rfl (Yd.eql rfl rfl) ?_
                refine WA.renamed (t := 203) (v := .bool true) rfl (congrArg Value.bool (rfl)) ?_
                refine WA.y (i := 35) (NoPanic.then (NoPanic.body)) rfl (by kernel_rfl) (by kernel_rfl) (by kernel_rfl) rfl (Yd.pickT rfl rfl) ?_
                refine WA.y (i := 36) (NoPanic.then (NoPanic.body)) rfl (by kernel_rfl) (by kernel_rfl) (by kernel_rfl) rfl (Yd.move rfl) ?_
                refine WA.gy (i := 37) (dj := 205) (NoPanic.then (NoPanic.body)) rfl (by kernel_rfl) (by kernel_rfl) (by kernel_rfl) rfl rfl rfl (Yd.move rfl) ?_
                refine WA.gy (i := 38) (dj := 205) (NoPanic.then (NoPanic.body)) rfl (by kernel_rfl) (by kernel_rfl) (by kernel_rfl) rfl rfl rfl (Yd.eql rfl rfl) ?_
                refine WA.renamed (t := 207) (v := .bool true) rfl (congrArg Value.bool (rfl)) ?_
                refine WA.y (i := 39) (NoPanic.then (NoPanic.body)) rfl (by kernel_rfl) (by kernel_rfl) (by kernel_rfl) rfl (Yd.pickT rfl rfl) ?_
                refine WA.y (i := 40) (NoPanic.then (NoPanic.body)) rfl (by kernel_rfl) (by kernel_rfl) (by kernel_rfl) rfl (Yd.move rfl) ?_
                refine WA.gy (i := 41) (dj := 209) (NoPanic.then (NoPanic.body)) rfl (by kernel_rfl) (by kernel_rfl) (by kernel_rfl) rfl rfl rfl (Yd.move rfl) ?_
                refine WA.one (i := 42) (by kernel_rfl) ?_
                refine WO.rf rfl (Wt.yes (dj := 209) rfl rfl) rfl (Ent.func Try.call14 rfl) (len_reads p _ C3 h3) (by repeat (first | exact Sp.here | exact Sp.sn | exact Sp.s0 | exact Fr.here | apply Sp.s2 | apply Sp.sx | apply Fr.fc | apply Fr.al | apply Fr.fa | apply Sp.sc | apply Sp.al | apply Sp.sa)) ?_
                refine WA.gy (i := 43) (dj := 209) (NoPanic.then (NoPanic.body)) rfl (by kernel_rfl) (by kernel_rfl) (by kernel_rfl) rfl rfl rfl (Yd.eql rfl rfl) ?_
                refine WA.renamed (t := 212) (v := .bool true) rfl (congrArg Value.bool (rfl)) ?_
                refine WA.y (i := 44) (NoPanic.then (NoPanic.body)) rfl (by kernel_rfl) (by kernel_rfl) (by kernel_rfl) rfl (Yd.pickT rfl rfl) ?_
                refine WA.y (i := 45) (NoPanic.then (NoPanic.body)) rfl (by kernel_rfl) (by kernel_rfl) (by kernel_rfl) rfl (Yd.move rfl) ?_
                refine WA.one (i := 46) (by kernel_rfl) ?_
                refine WO.r rfl (Wt.yes (dj := 214) rfl rfl) rfl (Ent.func Try.call15 rfl) (known18 _) ?_
                refine WA.y (i := 47) (NoPanic.then (NoPanic.body)) rfl (by kernel_rfl) (by kernel_rfl) (by kernel_rfl) rfl (Yd.pickT rfl rfl) ?_
                refine WA.y (i := 48) (NoPanic.then (NoPanic.body)) rfl (by kernel_rfl) (by kernel_rfl) (by kernel_rfl) rfl (Yd.assign rfl) ?_
                refine WA.done (by kernel_rfl) ?_
                refine DN.then_normal ?_
                refine WC.ret ?_
                refine DN.fit (C := H) (by repeat (first | exact Sp.here | exact Sp.sn | exact Sp.s0 | exact Fr.here | apply Sp.s2 | apply Sp.sx | apply Fr.fc | apply Fr.al | apply Fr.fa | apply Sp.sc | apply Sp.al | apply Sp.sa)) ?_
                refine DN.ret1 Try.results8 rfl ?_
                exact ⟨rfl, rfl⟩
            · refine WO.h rfl (Wt.yes (dj := 177) rfl rfl) rfl (Hd.load1 (v := .int .u64 (ns.getD 1 0#64).toNat) (by kernel_rfl) rfl (by repeat (first | exact List.mem_cons_self | apply List.mem_cons_of_mem | apply List.mem_append_right)) (by rw [show 0 + (1 : Int).toNat * 1 = 1 by omega]; exact uc_getD (by omega)) ⟨_, rfl, ?_⟩)
              refine WA.one (i := 10) (by kernel_rfl) ?_
              refine WO.rf rfl (Wt.yes (dj := 177) rfl rfl) rfl (Ent.func Try.call28 rfl) (clock_reads p (tickC ns) C3 h3 hI2 1) (by repeat (first | exact Sp.here | exact Sp.sn | exact Sp.s0 | exact Fr.here | apply Sp.s2 | apply Sp.sx | apply Fr.fc | apply Fr.al | apply Fr.fa | apply Sp.sc | apply Sp.al | apply Sp.sa)) ?_
              refine WA.gy (i := 13) (dj := 177) (NoPanic.then (NoPanic.body)) rfl (by kernel_rfl) (by kernel_rfl) (by kernel_rfl) rfl rfl rfl (Yd.eql64 _ _ rfl rfl rfl rfl) ?_
              refine WA.renamed (t := 182) (v := .bool true) rfl (congrArg Value.bool (by rw [c1]; simp)) ?_
              refine WA.y (i := 14) (NoPanic.then (NoPanic.body)) rfl (by kernel_rfl) (by kernel_rfl) (by kernel_rfl) rfl (Yd.pickT rfl rfl) ?_
              refine WA.y (i := 15) (NoPanic.then (NoPanic.body)) rfl (by kernel_rfl) (by kernel_rfl) (by kernel_rfl) rfl (Yd.move rfl) ?_
              refine WA.gy (i := 16) (dj := 184) (NoPanic.then (NoPanic.body)) rfl (by kernel_rfl) (by kernel_rfl) (by kernel_rfl) rfl rfl rfl (Yd.move rfl) ?_
              refine WA.gy (i := 18) (dj := 184) (NoPanic.then (NoPanic.body)) rfl (by kernel_rfl) (by kernel_rfl) (by kernel_rfl) rfl rfl rfl (Yd.indexArr (n := 3) (e := 29) (s := 1) (by kernel_rfl) (by kernel_rfl) rfl rfl (by omega) (by omega)) ?_
              refine WA.two (i := 17) (j := 19) (by kernel_rfl) ?_ ?_
              · refine WO.rf rfl (Wt.yes (dj := 184) rfl rfl) rfl (Ent.func Try.call28 rfl) (clock_reads p (tickC ns) C3 h3 hI2 2) (by repeat (first | exact Sp.here | exact Sp.sn | exact Sp.s0 | exact Fr.here | apply Sp.s2 | apply Sp.sx | apply Fr.fc | apply Fr.al | apply Fr.fa | apply Sp.sc | apply Sp.al | apply Sp.sa)) ?_
                refine WA.one (i := 19) (by kernel_rfl) ?_
                refine WO.h rfl (Wt.yes (dj := 184) rfl rfl) rfl (Hd.load1 (v := .int .u64 (ns.getD 2 0#64).toNat) (by kernel_rfl) rfl (by repeat (first | exact List.mem_cons_self | apply List.mem_cons_of_mem | apply List.mem_append_right)) (by rw [show 0 + (2 : Int).toNat * 1 = 2 by omega]; exact uc_getD (by omega)) ⟨_, rfl, ?_⟩)
                refine WA.gy (i := 20) (dj := 184) (NoPanic.then (NoPanic.body)) rfl (by kernel_rfl) (by kernel_rfl) (by kernel_rfl) rfl rfl rfl (Yd.eql64 _ _ rfl rfl rfl rfl) ?_
                refine WA.renamed (t := 189) (v := .bool true) rfl (congrArg Value.bool (by rw [c2]; simp)) ?_
                refine WA.y (i := 21) (NoPanic.then (NoPanic.body)) rfl (by kernel_rfl) (by kernel_rfl) (by kernel_rfl) rfl (Yd.pickT rfl rfl) ?_
                refine WA.y (i := 22) (NoPanic.then (NoPanic.body)) rfl (by kernel_rfl) (by kernel_rfl) (by kernel_rfl) rfl (Yd.move rfl) ?_
                refine WA.gy (i := 23) (dj := 191) (NoPanic.then (NoPanic.body)) rfl (by kernel_rfl) (by kernel_rfl) (by kernel_rfl) rfl rfl rfl (Yd.move rfl) ?_
                refine WA.one (i := 24) (by kernel_rfl) ?_
                refine WO.rf rfl (Wt.yes (dj := 191) rfl rfl) rfl (Ent.func Try.call28 rfl) (clock_reads pv _ V1 g1 gI1 0) (by repeat (first | exact Sp.here | exact Sp.sn | exact Sp.s0 | exact Fr.here | apply Sp.s2 | apply Sp.sx | apply Fr.fc | apply Fr.al | apply Fr.fa | apply Sp.sc | apply Sp.al | apply Sp.sa)) ?_
                refine WA.gy (i := 25) (dj := 191) (NoPanic.then (NoPanic.body)) rfl (by kernel_rfl) (by kernel_rfl) (by kernel_rfl) rfl rfl rfl (Yd.eql64 _ (0#64) rfl rfl rfl rfl) ?_
                refine WA.renamed (t := 194) (v := .bool true) rfl (congrArg Value.bool (rfl)) ?_
                refine WA.y (i := 26) (NoPanic.then (NoPanic.body)) rfl (by kernel_rfl) (by kernel_rfl) (by kernel_rfl) rfl (Yd.pickT rfl rfl) ?_
                refine WA.y (i := 27) (NoPanic.then (NoPanic.body)) rfl (by kernel_rfl) (by kernel_rfl) (by kernel_rfl) rfl (Yd.move rfl) ?_
                refine WA.gy (i := 28) (dj := 196) (NoPanic.then (NoPanic.body)) rfl (by kernel_rfl) (by kernel_rfl) (by kernel_rfl) rfl rfl rfl (Yd.move rfl) ?_
                refine WA.gy (i := 29) (dj := 196) (NoPanic.then (NoPanic.body)) rfl (by kernel_rfl) (by kernel_rfl) (by kernel_rfl) rfl rfl rfl (Yd.eql rfl rfl) ?_
                refine WA.renamed (t := 198) (v := .bool true) rfl (congrArg Value.bool (rfl)) ?_
                refine WA.y (i := 30) (NoPanic.then (NoPanic.body)) rfl (by kernel_rfl) (by kernel_rfl) (by kernel_rfl) rfl (Yd.pickT rfl rfl) ?_
                refine WA.y (i := 31) (NoPanic.then (NoPanic.body)) rfl (by kernel_rfl) (by kernel_rfl) (by kernel_rfl) rfl (Yd.move rfl) ?_
                refine WA.gy (i := 32) (dj := 200) (NoPanic.then (NoPanic.body)) rfl (by kernel_rfl) (by kernel_rfl) (by kernel_rfl) rfl rfl rfl (Yd.move rfl) ?_
                refine WA.one (i := 33) (by kernel_rfl) ?_
                refine WO.rf rfl (Wt.yes (dj := 200) rfl rfl) rfl (Ent.func Try.call14 rfl) (len_reads pv _ V1 g1) (by repeat (first | exact Sp.here | exact Sp.sn | exact Sp.s0 | exact Fr.here | apply Sp.s2 | apply Sp.sx | apply Fr.fc | apply Fr.al | apply Fr.fa | apply Sp.sc | apply Sp.al | apply Sp.sa)) ?_
                refine WA.gy (i := 34) (dj := 200) (NoPanic.then (NoPanic.body)) rfl (by kernel_rfl) (by kernel_rfl) (by kernel_rfl) rfl rfl rfl (Yd.eql rfl rfl) ?_
                refine WA.renamed (t := 203) (v := .bool true) rfl (congrArg Value.bool (rfl)) ?_
                refine WA.y (i := 35) (NoPanic.then (NoPanic.body)) rfl (by kernel_rfl) (by kernel_rfl) (by kernel_rfl) rfl (Yd.pickT rfl rfl) ?_
                refine WA.y (i := 36) (NoPanic.then (NoPanic.body)) rfl (by kernel_rfl) (by kernel_rfl) (by kernel_rfl) rfl (Yd.move rfl) ?_
                refine WA.gy (i := 37) (dj := 205) (NoPanic.then (NoPanic.body)) rfl (by kernel_rfl) (by kernel_rfl) (by kernel_rfl) rfl rfl rfl (Yd.move rfl) ?_
                refine WA.gy (i := 38) (dj := 205) (NoPanic.then (NoPanic.body)) rfl (by kernel_rfl) (by kernel_rfl) (by kernel_rfl) rfl rfl rfl (Yd.eql rfl rfl) ?_
                refine WA.renamed (t := 207) (v := .bool true) rfl (congrArg Value.bool (rfl)) ?_
                refine WA.y (i := 39) (NoPanic.then (NoPanic.body)) rfl (by kernel_rfl) (by kernel_rfl) (by kernel_rfl) rfl (Yd.pickT rfl rfl) ?_
                refine WA.y (i := 40) (NoPanic.then (NoPanic.body)) rfl (by kernel_rfl) (by kernel_rfl) (by kernel_rfl) rfl (Yd.move rfl) ?_
                refine WA.gy (i := 41) (dj := 209) (NoPanic.then (NoPanic.body)) rfl (by kernel_rfl) (by kernel_rfl) (by kernel_rfl) rfl rfl rfl (Yd.move rfl) ?_
                refine WA.one (i := 42) (by kernel_rfl) ?_
                refine WO.rf rfl (Wt.yes (dj := 209) rfl rfl) rfl (Ent.func Try.call14 rfl) (len_reads p _ C3 h3) (by repeat (first | exact Sp.here | exact Sp.sn | exact Sp.s0 | exact Fr.here | apply Sp.s2 | apply Sp.sx | apply Fr.fc | apply Fr.al | apply Fr.fa | apply Sp.sc | apply Sp.al | apply Sp.sa)) ?_
                refine WA.gy (i := 43) (dj := 209) (NoPanic.then (NoPanic.body)) rfl (by kernel_rfl) (by kernel_rfl) (by kernel_rfl) rfl rfl rfl (Yd.eql rfl rfl) ?_
                refine WA.renamed (t := 212) (v := .bool true) rfl (congrArg Value.bool (rfl)) ?_
                refine WA.y (i := 44) (NoPanic.then (NoPanic.body)) rfl (by kernel_rfl) (by kernel_rfl) (by kernel_rfl) rfl (Yd.pickT rfl rfl) ?_
                refine WA.y (i := 45) (NoPanic.then (NoPanic.body)) rfl (by kernel_rfl) (by kernel_rfl) (by kernel_rfl) rfl (Yd.move rfl) ?_
                refine WA.one (i := 46) (by kernel_rfl) ?_
                refine WO.r rfl (Wt.yes (dj := 214) rfl rfl) rfl (Ent.func Try.call15 rfl) (known18 _) ?_
                refine WA.y (i := 47) (NoPanic.then (NoPanic.body)) rfl (by kernel_rfl) (by kernel_rfl) (by kernel_rfl) rfl (Yd.pickT rfl rfl) ?_
                refine WA.y (i := 48) (NoPanic.then (NoPanic.body)) rfl (by kernel_rfl) (by kernel_rfl) (by kernel_rfl) rfl (Yd.assign rfl) ?_
                refine WA.done (by kernel_rfl) ?_
                refine DN.then_normal ?_
                refine WC.ret ?_
                refine DN.fit (C := H) (by repeat (first | exact Sp.here | exact Sp.sn | exact Sp.s0 | exact Fr.here | apply Sp.s2 | apply Sp.sx | apply Fr.fc | apply Fr.al | apply Fr.fa | apply Sp.sc | apply Sp.al | apply Sp.sa)) ?_
                refine DN.ret1 Try.results8 rfl ?_
                exact ⟨rfl, rfl⟩
              · refine WO.h rfl (Wt.yes (dj := 184) rfl rfl) rfl (Hd.load1 (v := .int .u64 (ns.getD 2 0#64).toNat) (by kernel_rfl) rfl (by repeat (first | exact List.mem_cons_self | apply List.mem_cons_of_mem | apply List.mem_append_right)) (by rw [show 0 + (2 : Int).toNat * 1 = 2 by omega]; exact uc_getD (by omega)) ⟨_, rfl, ?_⟩)
                refine WA.one (i := 17) (by kernel_rfl) ?_
                refine WO.rf rfl (Wt.yes (dj := 184) rfl rfl) rfl (Ent.func Try.call28 rfl) (clock_reads p (tickC ns) C3 h3 hI2 2) (by repeat (first | exact Sp.here | exact Sp.sn | exact Sp.s0 | exact Fr.here | apply Sp.s2 | apply Sp.sx | apply Fr.fc | apply Fr.al | apply Fr.fa | apply Sp.sc | apply Sp.al | apply Sp.sa)) ?_
                refine WA.gy (i := 20) (dj := 184) (NoPanic.then (NoPanic.body)) rfl (by kernel_rfl) (by kernel_rfl) (by kernel_rfl) rfl rfl rfl (Yd.eql64 _ _ rfl rfl rfl rfl) ?_
                refine WA.renamed (t := 189) (v := .bool true) rfl (congrArg Value.bool (by rw [c2]; simp)) ?_
                refine WA.y (i := 21) (NoPanic.then (NoPanic.body)) rfl (by kernel_rfl) (by kernel_rfl) (by kernel_rfl) rfl (Yd.pickT rfl rfl) ?_
                refine WA.y (i := 22) (NoPanic.then (NoPanic.body)) rfl (by kernel_rfl) (by kernel_rfl) (by kernel_rfl) rfl (Yd.move rfl) ?_
                refine WA.gy (i := 23) (dj := 191) (NoPanic.then (NoPanic.body)) rfl (by kernel_rfl) (by kernel_rfl) (by kernel_rfl) rfl rfl rfl (Yd.move rfl) ?_
                refine WA.one (i := 24) (by kernel_rfl) ?_
                refine WO.rf rfl (Wt.yes (dj := 191) rfl rfl) rfl (Ent.func Try.call28 rfl) (clock_reads pv _ V1 g1 gI1 0) (by repeat (first | exact Sp.here | exact Sp.sn | exact Sp.s0 | exact Fr.here | apply Sp.s2 | apply Sp.sx | apply Fr.fc | apply Fr.al | apply Fr.fa | apply Sp.sc | apply Sp.al | apply Sp.sa)) ?_
                refine WA.gy (i := 25) (dj := 191) (NoPanic.then (NoPanic.body)) rfl (by kernel_rfl) (by kernel_rfl) (by kernel_rfl) rfl rfl rfl (Yd.eql64 _ (0#64) rfl rfl rfl rfl) ?_
                refine WA.renamed (t := 194) (v := .bool true) rfl (congrArg Value.bool (rfl)) ?_
                refine WA.y (i := 26) (NoPanic.then (NoPanic.body)) rfl (by kernel_rfl) (by kernel_rfl) (by kernel_rfl) rfl (Yd.pickT rfl rfl) ?_
                refine WA.y (i := 27) (NoPanic.then (NoPanic.body)) rfl (by kernel_rfl) (by kernel_rfl) (by kernel_rfl) rfl (Yd.move rfl) ?_
                refine WA.gy (i := 28) (dj := 196) (NoPanic.then (NoPanic.body)) rfl (by kernel_rfl) (by kernel_rfl) (by kernel_rfl) rfl rfl rfl (Yd.move rfl) ?_
                refine WA.gy (i := 29) (dj := 196) (NoPanic.then (NoPanic.body)) rfl (by kernel_rfl) (by kernel_rfl) (by kernel_rfl) rfl rfl rfl (Yd.eql rfl rfl) ?_
                refine WA.renamed (t := 198) (v := .bool true) rfl (congrArg Value.bool (rfl)) ?_
                refine WA.y (i := 30) (NoPanic.then (NoPanic.body)) rfl (by kernel_rfl) (by kernel_rfl) (by kernel_rfl) rfl (Yd.pickT rfl rfl) ?_
                refine WA.y (i := 31) (NoPanic.then (NoPanic.body)) rfl (by kernel_rfl) (by kernel_rfl) (by kernel_rfl) rfl (Yd.move rfl) ?_
                refine WA.gy (i := 32) (dj := 200) (NoPanic.then (NoPanic.body)) rfl (by kernel_rfl) (by kernel_rfl) (by kernel_rfl) rfl rfl rfl (Yd.move rfl) ?_
                refine WA.one (i := 33) (by kernel_rfl) ?_
                refine WO.rf rfl (Wt.yes (dj := 200) rfl rfl) rfl (Ent.func Try.call14 rfl) (len_reads pv _ V1 g1) (by repeat (first | exact Sp.here | exact Sp.sn | exact Sp.s0 | exact Fr.here | apply Sp.s2 | apply Sp.sx | apply Fr.fc | apply Fr.al | apply Fr.fa | apply Sp.sc | apply Sp.al | apply Sp.sa)) ?_
                refine WA.gy (i := 34) (dj := 200) (NoPanic.then (NoPanic.body)) rfl (by kernel_rfl) (by kernel_rfl) (by kernel_rfl) rfl rfl rfl (Yd.eql rfl rfl) ?_
                refine WA.renamed (t := 203) (v := .bool true) rfl (congrArg Value.bool (rfl)) ?_
                refine WA.y (i := 35) (NoPanic.then (NoPanic.body)) rfl (by kernel_rfl) (by kernel_rfl) (by kernel_rfl) rfl (Yd.pickT rfl rfl) ?_
                refine WA.y (i := 36) (NoPanic.then (NoPanic.body)) rfl (by kernel_rfl) (by kernel_rfl) (by kernel_rfl) rfl (Yd.move rfl) ?_
                refine WA.gy (i := 37) (dj := 205) (NoPanic.then (NoPanic.body)) rfl (by kernel_rfl) (by kernel_rfl) (by kernel_rfl) rfl rfl rfl (Yd.move rfl) ?_
                refine WA.gy (i := 38) (dj := 205) (NoPanic.then (NoPanic.body)) rfl (by kernel_rfl) (by kernel_rfl) (by kernel_rfl) rfl rfl rfl (Yd.eql rfl rfl) ?_
                refine WA.renamed (t := 207) (v := .bool true) rfl (congrArg Value.bool (rfl)) ?_
                refine WA.y (i := 39) (NoPanic.then (NoPanic.body)) rfl (by kernel_rfl) (by kernel_rfl) (by kernel_rfl) rfl (Yd.pickT rfl rfl) ?_
                refine WA.y (i := 40) (NoPanic.then (NoPanic.body)) rfl (by kernel_rfl) (by kernel_rfl) (by kernel_rfl) rfl (Yd.move rfl) ?_
                refine WA.gy (i := 41) (dj := 209) (NoPanic.then (NoPanic.body)) rfl (by kernel_rfl) (by kernel_rfl) (by kernel_rfl) rfl rfl rfl (Yd.move rfl) ?_
                refine WA.one (i := 42) (by kernel_rfl) ?_
                refine WO.rf rfl (Wt.yes (dj := 209) rfl rfl) rfl (Ent.func Try.call14 rfl) (len_reads p _ C3 h3) (by repeat (first | exact Sp.here | exact Sp.sn | exact Sp.s0 | exact Fr.here | apply Sp.s2 | apply Sp.sx | apply Fr.fc | apply Fr.al | apply Fr.fa | apply Sp.sc | apply Sp.al | apply Sp.sa)) ?_
                refine WA.gy (i := 43) (dj := 209) (NoPanic.then (NoPanic.body)) rfl (by kernel_rfl) (by kernel_rfl) (by kernel_rfl) rfl rfl rfl (Yd.eql rfl rfl) ?_
                refine WA.renamed (t := 212) (v := .bool true) rfl (congrArg Value.bool (rfl)) ?_
                refine WA.y (i := 44) (NoPanic.then (NoPanic.body)) rfl (by kernel_rfl) (by kernel_rfl) (by kernel_rfl) rfl (Yd.pickT rfl rfl) ?_
                refine WA.y (i := 45) (NoPanic.then (NoPanic.body)) rfl (by kernel_rfl) (by kernel_rfl) (by kernel_rfl) rfl (Yd.move rfl) ?_
                refine WA.one (i := 46) (by kernel_rfl) ?_
                refine WO.r rfl (Wt.yes (dj := 214) rfl rfl) rfl (Ent.func Try.call15 rfl) (known18 _) ?_
                refine WA.y (i := 47) (NoPanic.then (NoPanic.body)) rfl (by kernel_rfl) (by kernel_rfl) (by kernel_rfl) rfl (Yd.pickT rfl rfl) ?_
                refine WA.y (i := 48) (NoPanic.then (NoPanic.body)) rfl (by kernel_rfl) (by kernel_rfl) (by kernel_rfl) rfl (Yd.assign rfl) ?_
                refine WA.done (by kernel_rfl) ?_
                refine DN.then_normal ?_
                refine WC.ret ?_
                refine DN.fit (C := H) (by repeat (first | exact Sp.here | exact Sp.sn | exact Sp.s0 | exact Fr.here | apply Sp.s2 | apply Sp.sx | apply Fr.fc | apply Fr.al | apply Fr.fa | apply Sp.sc | apply Sp.al | apply Sp.sa)) ?_
                refine DN.ret1 Try.results8 rfl ?_
                exact ⟨rfl, rfl⟩
          · refine WO.h rfl (Wt.yes (dj := 170) rfl rfl) rfl (Hd.load1 (v := .int .u64 (ns.getD 0 0#64).toNat) (by kernel_rfl) rfl (by repeat (first | exact List.mem_cons_self | apply List.mem_cons_of_mem | apply List.mem_append_right)) (by rw [show 0 + (0 : Int).toNat * 1 = 0 by omega]; exact uc_getD (by omega)) ⟨_, rfl, ?_⟩)
            refine WA.one (i := 3) (by kernel_rfl) ?_
            refine WO.rf rfl (Wt.yes (dj := 170) rfl rfl) rfl (Ent.func Try.call28 rfl) (clock_reads p (tickC ns) C3 h3 hI2 0) (by repeat (first | exact Sp.here | exact Sp.sn | exact Sp.s0 | exact Fr.here | apply Sp.s2 | apply Sp.sx | apply Fr.fc | apply Fr.al | apply Fr.fa | apply Sp.sc | apply Sp.al | apply Sp.sa)) ?_
            refine WA.gy (i := 6) (dj := 170) (NoPanic.then (NoPanic.body)) rfl (by kernel_rfl) (by kernel_rfl) (by kernel_rfl) rfl rfl rfl (Yd.eql64 _ _ rfl rfl rfl rfl) ?_
            refine WA.renamed (t := 175) (v := .bool true) rfl (congrArg Value.bool (by rw [c0]; simp)) ?_
            refine WA.y (i := 7) (NoPanic.then (NoPanic.body)) rfl (by kernel_rfl) (by kernel_rfl) (by kernel_rfl) rfl (Yd.pickT rfl rfl) ?_
            refine WA.y (i := 8) (NoPanic.then (NoPanic.body)) rfl (by kernel_rfl) (by kernel_rfl) (by kernel_rfl) rfl (Yd.move rfl) ?_
            refine WA.gy (i := 9) (dj := 177) (NoPanic.then (NoPanic.body)) rfl (by kernel_rfl) (by kernel_rfl) (by kernel_rfl) rfl rfl rfl (Yd.move rfl) ?_
            refine WA.gy (i := 11) (dj := 177) (NoPanic.then (NoPanic.body)) rfl (by kernel_rfl) (by kernel_rfl) (by kernel_rfl) rfl rfl rfl (Yd.indexArr (n := 3) (e := 29) (s := 1) (by kernel_rfl) (by kernel_rfl) rfl rfl (by omega) (by omega)) ?_
            refine WA.two (i := 10) (j := 12) (by kernel_rfl) ?_ ?_
            · refine WO.rf rfl (Wt.yes (dj := 177) rfl rfl) rfl (Ent.func Try.call28 rfl) (clock_reads p (tickC ns) C3 h3 hI2 1) (by repeat (first | exact Sp.here | exact Sp.sn | exact Sp.s0 | exact Fr.here | apply Sp.s2 | apply Sp.sx | apply Fr.fc | apply Fr.al | apply Fr.fa | apply Sp.sc | apply Sp.al | apply Sp.sa)) ?_
              refine WA.one (i := 12) (by kernel_rfl) ?_
              refine WO.h rfl (Wt.yes (dj := 177) rfl rfl) rfl (Hd.load1 (v := .int .u64 (ns.getD 1 0#64).toNat) (by kernel_rfl) rfl (by repeat (first | exact List.mem_cons_self | apply List.mem_cons_of_mem | apply List.mem_append_right)) (by rw [show 0 + (1 : Int).toNat * 1 = 1 by omega]; exact uc_getD (by omega)) ⟨_, rfl, ?_⟩)
              refine WA.gy (i := 13) (dj := 177) (NoPanic.then (NoPanic.body)) rfl (by kernel_rfl) (by kernel_rfl) (by kernel_rfl) rfl rfl rfl (Yd.eql64 _ _ rfl rfl rfl rfl) ?_
              refine WA.renamed (t := 182) (v := .bool true) rfl (congrArg Value.bool (by rw [c1]; simp)) ?_
              refine WA.y (i := 14) (NoPanic.then (NoPanic.body)) rfl (by kernel_rfl) (by kernel_rfl) (by kernel_rfl) rfl (Yd.pickT rfl rfl) ?_
              refine WA.y (i := 15) (NoPanic.then (NoPanic.body)) rfl (by kernel_rfl) (by kernel_rfl) (by kernel_rfl) rfl (Yd.move rfl) ?_
              refine WA.gy (i := 16) (dj := 184) (NoPanic.then (NoPanic.body)) rfl (by kernel_rfl) (by kernel_rfl) (by kernel_rfl) rfl rfl rfl (Yd.move rfl) ?_
              refine WA.gy (i := 18) (dj := 184) (NoPanic.then (NoPanic.body)) rfl (by kernel_rfl) (by kernel_rfl) (by kernel_rfl) rfl rfl rfl (Yd.indexArr (n := 3) (e := 29) (s := 1) (by kernel_rfl) (by kernel_rfl) rfl rfl (by omega) (by omega)) ?_
              refine WA.two (i := 17) (j := 19) (by kernel_rfl) ?_ ?_
              · refine WO.rf rfl (Wt.yes (dj := 184) rfl rfl) rfl (Ent.func Try.call28 rfl) (clock_reads p (tickC ns) C3 h3 hI2 2) (by repeat (first | exact Sp.here | exact Sp.sn | exact Sp.s0 | exact Fr.here | apply Sp.s2 | apply Sp.sx | apply Fr.fc | apply Fr.al | apply Fr.fa | apply Sp.sc | apply Sp.al | apply Sp.sa)) ?_
                refine WA.one (i := 19) (by kernel_rfl) ?_
                refine WO.h rfl (Wt.yes (dj := 184) rfl rfl) rfl (Hd.load1 (v := .int .u64 (ns.getD 2 0#64).toNat) (by kernel_rfl) rfl (by repeat (first | exact List.mem_cons_self | apply List.mem_cons_of_mem | apply List.mem_append_right)) (by rw [show 0 + (2 : Int).toNat * 1 = 2 by omega]; exact uc_getD (by omega)) ⟨_, rfl, ?_⟩)
                refine WA.gy (i := 20) (dj := 184) (NoPanic.then (NoPanic.body)) rfl (by kernel_rfl) (by kernel_rfl) (by kernel_rfl) rfl rfl rfl (Yd.eql64 _ _ rfl rfl rfl rfl) ?_
                refine WA.renamed (t := 189) (v := .bool true) rfl (congrArg Value.bool (by rw [c2]; simp)) ?_
                refine WA.y (i := 21) (NoPanic.then (NoPanic.body)) rfl (by kernel_rfl) (by kernel_rfl) (by kernel_rfl) rfl (Yd.pickT rfl rfl) ?_
                refine WA.y (i := 22) (NoPanic.then (NoPanic.body)) rfl (by kernel_rfl) (by kernel_rfl) (by kernel_rfl) rfl (Yd.move rfl) ?_
                refine WA.gy (i := 23) (dj := 191) (NoPanic.then (NoPanic.body)) rfl (by kernel_rfl) (by kernel_rfl) (by kernel_rfl) rfl rfl rfl (Yd.move rfl) ?_
                refine WA.one (i := 24) (by kernel_rfl) ?_
                refine WO.rf rfl (Wt.yes (dj := 191) rfl rfl) rfl (Ent.func Try.call28 rfl) (clock_reads pv _ V1 g1 gI1 0) (by repeat (first | exact Sp.here | exact Sp.sn | exact Sp.s0 | exact Fr.here | apply Sp.s2 | apply Sp.sx | apply Fr.fc | apply Fr.al | apply Fr.fa | apply Sp.sc | apply Sp.al | apply Sp.sa)) ?_
                refine WA.gy (i := 25) (dj := 191) (NoPanic.then (NoPanic.body)) rfl (by kernel_rfl) (by kernel_rfl) (by kernel_rfl) rfl rfl rfl (Yd.eql64 _ (0#64) rfl rfl rfl rfl) ?_
                refine WA.renamed (t := 194) (v := .bool true) rfl (congrArg Value.bool (rfl)) ?_
                refine WA.y (i := 26) (NoPanic.then (NoPanic.body)) rfl (by kernel_rfl) (by kernel_rfl) (by kernel_rfl) rfl (Yd.pickT rfl rfl) ?_
                refine WA.y (i := 27) (NoPanic.then (NoPanic.body)) rfl (by kernel_rfl) (by kernel_rfl) (by kernel_rfl) rfl (Yd.move rfl) ?_
                refine WA.gy (i := 28) (dj := 196) (NoPanic.then (NoPanic.body)) rfl (by kernel_rfl) (by kernel_rfl) (by kernel_rfl) rfl rfl rfl (Yd.move rfl) ?_
                refine WA.gy (i := 29) (dj := 196) (NoPanic.then (NoPanic.body)) rfl (by kernel_rfl) (by kernel_rfl) (by kernel_rfl) rfl rfl rfl (Yd.eql rfl rfl) ?_
                refine WA.renamed (t := 198) (v := .bool true) rfl (congrArg Value.bool (rfl)) ?_
                refine WA.y (i := 30) (NoPanic.then (NoPanic.body)) rfl (by kernel_rfl) (by kernel_rfl) (by kernel_rfl) rfl (Yd.pickT rfl rfl) ?_
                refine WA.y (i := 31) (NoPanic.then (NoPanic.body)) rfl (by kernel_rfl) (by kernel_rfl) (by kernel_rfl) rfl (Yd.move rfl) ?_
                refine WA.gy (i := 32) (dj := 200) (NoPanic.then (NoPanic.body)) rfl (by kernel_rfl) (by kernel_rfl) (by kernel_rfl) rfl rfl rfl (Yd.move rfl) ?_
                refine WA.one (i := 33) (by kernel_rfl) ?_
                refine WO.rf rfl (Wt.yes (dj := 200) rfl rfl) rfl (Ent.func Try.call14 rfl) (len_reads pv _ V1 g1) (by repeat (first | exact Sp.here | exact Sp.sn | exact Sp.s0 | exact Fr.here | apply Sp.s2 | apply Sp.sx | apply Fr.fc | apply Fr.al | apply Fr.fa | apply Sp.sc | apply Sp.al | apply Sp.sa)) ?_
                refine WA.gy (i := 34) (dj := 200) (NoPanic.then (NoPanic.body)) rfl (by kernel_rfl) (by kernel_rfl) (by kernel_rfl) rfl rfl rfl (Yd.eql rfl rfl) ?_
                refine WA.renamed (t := 203) (v := .bool true) rfl (congrArg Value.bool (rfl)) ?_
                refine WA.y (i := 35) (NoPanic.then (NoPanic.body)) rfl (by kernel_rfl) (by kernel_rfl) (by kernel_rfl) rfl (Yd.pickT rfl rfl) ?_
                refine WA.y (i := 36) (NoPanic.then (NoPanic.body)) rfl (by kernel_rfl) (by kernel_rfl) (by kernel_rfl) rfl (Yd.move rfl) ?_
                refine WA.gy (i := 37) (dj := 205) (NoPanic.then (NoPanic.body)) rfl (by kernel_rfl) (by kernel_rfl) (by kernel_rfl) rfl rfl rfl (Yd.move rfl) ?_
                refine WA.gy (i := 38) (dj := 205) (NoPanic.then (NoPanic.body)) rfl (by kernel_rfl) (by kernel_rfl) (by kernel_rfl) rfl rfl rfl (Yd.eql rfl rfl) ?_
                refine WA.renamed (t := 207) (v := .bool true) rfl (congrArg Value.bool (rfl)) ?_
                refine WA.y (i := 39) (NoPanic.then (NoPanic.body)) rfl (by kernel_rfl) (by kernel_rfl) (by kernel_rfl) rfl (Yd.pickT rfl rfl) ?_
                refine WA.y (i := 40) (NoPanic.then (NoPanic.body)) rfl (by kernel_rfl) (by kernel_rfl) (by kernel_rfl) rfl (Yd.move rfl) ?_
                refine WA.gy (i := 41) (dj := 209) (NoPanic.then (NoPanic.body)) rfl (by kernel_rfl) (by kernel_rfl) (by kernel_rfl) rfl rfl rfl (Yd.move rfl) ?_
                refine WA.one (i := 42) (by kernel_rfl) ?_
                refine WO.rf rfl (Wt.yes (dj := 209) rfl rfl) rfl (Ent.func Try.call14 rfl) (len_reads p _ C3 h3) (by repeat (first | exact Sp.here | exact Sp.sn | exact Sp.s0 | exact Fr.here | apply Sp.s2 | apply Sp.sx | apply Fr.fc | apply Fr.al | apply Fr.fa | apply Sp.sc | apply Sp.al | apply Sp.sa)) ?_
                refine WA.gy (i := 43) (dj := 209) (NoPanic.then (NoPanic.body)) rfl (by kernel_rfl) (by kernel_rfl) (by kernel_rfl) rfl rfl rfl (Yd.eql rfl rfl) ?_
                refine WA.renamed (t := 212) (v := .bool true) rfl (congrArg Value.bool (rfl)) ?_
                refine WA.y (i := 44) (NoPanic.then (NoPanic.body)) rfl (by kernel_rfl) (by kernel_rfl) (by kernel_rfl) rfl (Yd.pickT rfl rfl) ?_
                refine WA.y (i := 45) (NoPanic.then (NoPanic.body)) rfl (by kernel_rfl) (by kernel_rfl) (by kernel_rfl) rfl (Yd.move rfl) ?_
                refine WA.one (i := 46) (by kernel_rfl) ?_
                refine WO.r rfl (Wt.yes (dj := 214) rfl rfl) rfl (Ent.func Try.call15 rfl) (known18 _) ?_
                refine WA.y (i := 47) (NoPanic.then (NoPanic.body)) rfl (by kernel_rfl) (by kernel_rfl) (by kernel_rfl) rfl (Yd.pickT rfl rfl) ?_
                refine WA.y (i := 48) (NoPanic.then (NoPanic.body)) rfl (by kernel_rfl) (by kernel_rfl) (by kernel_rfl) rfl (Yd.assign rfl) ?_
                refine WA.done (by kernel_rfl) ?_
                refine DN.then_normal ?_
                refine WC.ret ?_
                refine DN.fit (C := H) (by repeat (first | exact Sp.here | exact Sp.sn | exact Sp.s0 | exact Fr.here | apply Sp.s2 | apply Sp.sx | apply Fr.fc | apply Fr.al | apply Fr.fa | apply Sp.sc | apply Sp.al | apply Sp.sa)) ?_
                refine DN.ret1 Try.results8 rfl ?_
                exact ⟨rfl, rfl⟩
              · refine WO.h rfl (Wt.yes (dj := 184) rfl rfl) rfl (Hd.load1 (v := .int .u64 (ns.getD 2 0#64).toNat) (by kernel_rfl) rfl (by repeat (first | exact List.mem_cons_self | apply List.mem_cons_of_mem | apply List.mem_append_right)) (by rw [show 0 + (2 : Int).toNat * 1 = 2 by omega]; exact uc_getD (by omega)) ⟨_, rfl, ?_⟩)
                refine WA.one (i := 17) (by kernel_rfl) ?_
                refine WO.rf rfl (Wt.yes (dj := 184) rfl rfl) rfl (Ent.func Try.call28 rfl) (clock_reads p (tickC ns) C3 h3 hI2 2) (by repeat (first | exact Sp.here | exact Sp.sn | exact Sp.s0 | exact Fr.here | apply Sp.s2 | apply Sp.sx | apply Fr.fc | apply Fr.al | apply Fr.fa | apply Sp.sc | apply Sp.al | apply Sp.sa)) ?_
                refine WA.gy (i := 20) (dj := 184) (NoPanic.then (NoPanic.body)) rfl (by kernel_rfl) (by kernel_rfl) (by kernel_rfl) rfl rfl rfl (Yd.eql64 _ _ rfl rfl rfl rfl) ?_
                refine WA.renamed (t := 189) (v := .bool true) rfl (congrArg Value.bool (by rw [c2]; simp)) ?_
                refine WA.y (i := 21) (NoPanic.then (NoPanic.body)) rfl (by kernel_rfl) (by kernel_rfl) (by kernel_rfl) rfl (Yd.pickT rfl rfl) ?_
                refine WA.y (i := 22) (NoPanic.then (NoPanic.body)) rfl (by kernel_rfl) (by kernel_rfl) (by kernel_rfl) rfl (Yd.move rfl) ?_
                refine WA.gy (i := 23) (dj := 191) (NoPanic.then (NoPanic.body)) rfl (by kernel_rfl) (by kernel_rfl) (by kernel_rfl) rfl rfl rfl (Yd.move rfl) ?_
                refine WA.one (i := 24) (by kernel_rfl) ?_
                refine WO.rf rfl (Wt.yes (dj := 191) rfl rfl) rfl (Ent.func Try.call28 rfl) (clock_reads pv _ V1 g1 gI1 0) (by repeat (first | exact Sp.here | exact Sp.sn | exact Sp.s0 | exact Fr.here | apply Sp.s2 | apply Sp.sx | apply Fr.fc | apply Fr.al | apply Fr.fa | apply Sp.sc | apply Sp.al | apply Sp.sa)) ?_
                refine WA.gy (i := 25) (dj := 191) (NoPanic.then (NoPanic.body)) rfl (by kernel_rfl) (by kernel_rfl) (by kernel_rfl) rfl rfl rfl (Yd.eql64 _ (0#64) rfl rfl rfl rfl) ?_
                refine WA.renamed (t := 194) (v := .bool true) rfl (congrArg Value.bool (rfl)) ?_
                refine WA.y (i := 26) (NoPanic.then (NoPanic.body)) rfl (by kernel_rfl) (by kernel_rfl) (by kernel_rfl) rfl (Yd.pickT rfl rfl) ?_
                refine WA.y (i := 27) (NoPanic.then (NoPanic.body)) rfl (by kernel_rfl) (by kernel_rfl) (by kernel_rfl) rfl (Yd.move rfl) ?_
                refine WA.gy (i := 28) (dj := 196) (NoPanic.then (NoPanic.body)) rfl (by kernel_rfl) (by kernel_rfl) (by kernel_rfl) rfl rfl rfl (Yd.move rfl) ?_
                refine WA.gy (i := 29) (dj := 196) (NoPanic.then (NoPanic.body)) rfl (by kernel_rfl) (by kernel_rfl) (by kernel_rfl) rfl rfl rfl (Yd.eql rfl rfl) ?_
                refine WA.renamed (t := 198) (v := .bool true) rfl (congrArg Value.bool (rfl)) ?_
                refine WA.y (i := 30) (NoPanic.then (NoPanic.body)) rfl (by kernel_rfl) (by kernel_rfl) (by kernel_rfl) rfl (Yd.pickT rfl rfl) ?_
                refine WA.y (i := 31) (NoPanic.then (NoPanic.body)) rfl (by kernel_rfl) (by kernel_rfl) (by kernel_rfl) rfl (Yd.move rfl) ?_
                refine WA.gy (i := 32) (dj := 200) (NoPanic.then (NoPanic.body)) rfl (by kernel_rfl) (by kernel_rfl) (by kernel_rfl) rfl rfl rfl (Yd.move rfl) ?_
                refine WA.one (i := 33) (by kernel_rfl) ?_
                refine WO.rf rfl (Wt.yes (dj := 200) rfl rfl) rfl (Ent.func Try.call14 rfl) (len_reads pv _ V1 g1) (by repeat (first | exact Sp.here | exact Sp.sn | exact Sp.s0 | exact Fr.here | apply Sp.s2 | apply Sp.sx | apply Fr.fc | apply Fr.al | apply Fr.fa | apply Sp.sc | apply Sp.al | apply Sp.sa)) ?_
                refine WA.gy (i := 34) (dj := 200) (NoPanic.then (NoPanic.body)) rfl (by kernel_rfl) (by kernel_rfl) (by kernel_rfl) rfl rfl rfl (Yd.eql rfl rfl) ?_
                refine WA.renamed (t := 203) (v := .bool true) rfl (congrArg Value.bool (rfl)) ?_
                refine WA.y (i := 35) (NoPanic.then (NoPanic.body)) rfl (by kernel_rfl) (by kernel_rfl) (by kernel_rfl) rfl (Yd.pickT rfl rfl) ?_
                refine WA.y (i := 36) (NoPanic.then (NoPanic.body)) rfl (by kernel_rfl) (by kernel_rfl) (by kernel_rfl) rfl (Yd.move rfl) ?_
                refine WA.gy (i := 37) (dj := 205) (NoPanic.then (NoPanic.body)) rfl (by kernel_rfl) (by kernel_rfl) (by kernel_rfl) rfl rfl rfl (Yd.move rfl) ?_
                refine WA.gy (i := 38) (dj := 205) (NoPanic.then (NoPanic.body)) rfl (by kernel_rfl) (by kernel_rfl) (by kernel_rfl) rfl rfl rfl (Yd.eql rfl rfl) ?_
                refine WA.renamed (t := 207) (v := .bool true) rfl (congrArg Value.bool (rfl)) ?_
                refine WA.y (i := 39) (NoPanic.then (NoPanic.body)) rfl (by kernel_rfl) (by kernel_rfl) (by kernel_rfl) rfl (Yd.pickT rfl rfl) ?_
                refine WA.y (i := 40) (NoPanic.then (NoPanic.body)) rfl (by kernel_rfl) (by kernel_rfl) (by kernel_rfl) rfl (Yd.move rfl) ?_
                refine WA.gy (i := 41) (dj := 209) (NoPanic.then (NoPanic.body)) rfl (by kernel_rfl) (by kernel_rfl) (by kernel_rfl) rfl rfl rfl (Yd.move rfl) ?_
                refine WA.one (i := 42) (by kernel_rfl) ?_
                refine WO.rf rfl (Wt.yes (dj := 209) rfl rfl) rfl (Ent.func Try.call14 rfl) (len_reads p _ C3 h3) (by repeat (first | exact Sp.here | exact Sp.sn | exact Sp.s0 | exact Fr.here | apply Sp.s2 | apply Sp.sx | apply Fr.fc | apply Fr.al | apply Fr.fa | apply Sp.sc | apply Sp.al | apply Sp.sa)) ?_
                refine WA.gy (i := 43) (dj := 209) (NoPanic.then (NoPanic.body)) rfl (by kernel_rfl) (by kernel_rfl) (by kernel_rfl) rfl rfl rfl (Yd.eql rfl rfl) ?_
                refine WA.renamed (t := 212) (v := .bool true) rfl (congrArg Value.bool (rfl)) ?_
                refine WA.y (i := 44) (NoPanic.then (NoPanic.body)) rfl (by kernel_rfl) (by kernel_rfl) (by kernel_rfl) rfl (Yd.pickT rfl rfl) ?_
                refine WA.y (i := 45) (NoPanic.then (NoPanic.body)) rfl (by kernel_rfl) (by kernel_rfl) (by kernel_rfl) rfl (Yd.move rfl) ?_
                refine WA.one (i := 46) (by kernel_rfl) ?_
                refine WO.r rfl (Wt.yes (dj := 214) rfl rfl) rfl (Ent.func Try.call15 rfl) (known18 _) ?_
                refine WA.y (i := 47) (NoPanic.then (NoPanic.body)) rfl (by kernel_rfl) (by kernel_rfl) (by kernel_rfl) rfl (Yd.pickT rfl rfl) ?_
                refine WA.y (i := 48) (NoPanic.then (NoPanic.body)) rfl (by kernel_rfl) (by kernel_rfl) (by kernel_rfl) rfl (Yd.assign rfl) ?_
                refine WA.done (by kernel_rfl) ?_
                refine DN.then_normal ?_
                refine WC.ret ?_
                refine DN.fit (C := H) (by repeat (first | exact Sp.here | exact Sp.sn | exact Sp.s0 | exact Fr.here | apply Sp.s2 | apply Sp.sx | apply Fr.fc | apply Fr.al | apply Fr.fa | apply Sp.sc | apply Sp.al | apply Sp.sa)) ?_
                refine DN.ret1 Try.results8 rfl ?_
                exact ⟨rfl, rfl⟩
            · refine WO.h rfl (Wt.yes (dj := 177) rfl rfl) rfl (Hd.load1 (v := .int .u64 (ns.getD 1 0#64).toNat) (by kernel_rfl) rfl (by repeat (first | exact List.mem_cons_self | apply List.mem_cons_of_mem | apply List.mem_append_right)) (by rw [show 0 + (1 : Int).toNat * 1 = 1 by omega]; exact uc_getD (by omega)) ⟨_, rfl, ?_⟩)
              refine WA.one (i := 10) (by kernel_rfl) ?_
              refine WO.rf rfl (Wt.yes (dj := 177) rfl rfl) rfl (Ent.func Try.call28 rfl) (clock_reads p (tickC ns) C3 h3 hI2 1) (by repeat (first | exact Sp.here | exact Sp.sn | exact Sp.s0 | exact Fr.here | apply Sp.s2 | apply Sp.sx | apply Fr.fc | apply Fr.al | apply Fr.fa | apply Sp.sc | apply Sp.al | apply Sp.sa)) ?_
              refine WA.gy (i := 13) (dj := 177) (NoPanic.then (NoPanic.body)) rfl (by kernel_rfl) (by kernel_rfl) (by kernel_rfl) rfl rfl rfl (Yd.eql64 _ _ rfl rfl rfl rfl) ?_
              refine WA.renamed (t := 182) (v := .bool true) rfl (congrArg Value.bool (by rw [c1]; simp)) ?_
              refine WA.y (i := 14) (NoPanic.then (NoPanic.body)) rfl (by kernel_rfl) (by kernel_rfl) (by kernel_rfl) rfl (Yd.pickT rfl rfl) ?_
              refine WA.y (i := 15) (NoPanic.then (NoPanic.body)) rfl (by kernel_rfl) (by kernel_rfl) (by kernel_rfl) rfl (Yd.move rfl) ?_
              refine WA.gy (i := 16) (dj := 184) (NoPanic.then (NoPanic.body)) rfl (by kernel_rfl) (by kernel_rfl) (by kernel_rfl) rfl rfl rfl (Yd.move rfl) ?_
              refine WA.gy (i := 18) (dj := 184) (NoPanic.then (NoPanic.body)) rfl (by kernel_rfl) (by kernel_rfl) (by kernel_rfl) rfl rfl rfl (Yd.indexArr (n := 3) (e := 29) (s := 1) (by kernel_rfl) (by kernel_rfl) rfl rfl (by omega) (by omega)) ?_
              refine WA.two (i := 17) (j := 19) (by kernel_rfl) ?_ ?_
              · refine WO.rf rfl (Wt.yes (dj := 184) rfl rfl) rfl (Ent.func Try.call28 rfl) (clock_reads p (tickC ns) C3 h3 hI2 2) (by repeat (first | exact Sp.here | exact Sp.sn | exact Sp.s0 | exact Fr.here | apply Sp.s2 | apply Sp.sx | apply Fr.fc | apply Fr.al | apply Fr.fa | apply Sp.sc | apply Sp.al | apply Sp.sa)) ?_
                refine WA.one (i := 19) (by kernel_rfl) ?_
                refine WO.h rfl (Wt.yes (dj := 184) rfl rfl) rfl (Hd.load1 (v := .int .u64 (ns.getD 2 0#64).toNat) (by kernel_rfl) rfl (by repeat (first | exact List.mem_cons_self | apply List.mem_cons_of_mem | apply List.mem_append_right)) (by rw [show 0 + (2 : Int).toNat * 1 = 2 by omega]; exact uc_getD (by omega)) ⟨_, rfl, ?_⟩)
                refine WA.gy (i := 20) (dj := 184) (NoPanic.then (NoPanic.body)) rfl (by kernel_rfl) (by kernel_rfl) (by kernel_rfl) rfl rfl rfl (Yd.eql64 _ _ rfl rfl rfl rfl) ?_
                refine WA.renamed (t := 189) (v := .bool true) rfl (congrArg Value.bool (by rw [c2]; simp)) ?_
                refine WA.y (i := 21) (NoPanic.then (NoPanic.body)) rfl (by kernel_rfl) (by kernel_rfl) (by kernel_rfl) rfl (Yd.pickT rfl rfl) ?_
                refine WA.y (i := 22) (NoPanic.then (NoPanic.body)) rfl (by kernel_rfl) (by kernel_rfl) (by kernel_rfl) rfl (Yd.move rfl) ?_
                refine WA.gy (i := 23) (dj := 191) (NoPanic.then (NoPanic.body)) rfl (by kernel_rfl) (by kernel_rfl) (by kernel_rfl) rfl rfl rfl (Yd.move rfl) ?_
                refine WA.one (i := 24) (by kernel_rfl) ?_
                refine WO.rf rfl (Wt.yes (dj := 191) rfl rfl) rfl (Ent.func Try.call28 rfl) (clock_reads pv _ V1 g1 gI1 0) (by repeat (first | exact Sp.here | exact Sp.sn | exact Sp.s0 | exact Fr.here | apply Sp.s2 | apply Sp.sx | apply Fr.fc | apply Fr.al | apply Fr.fa | apply Sp.sc | apply Sp.al | apply Sp.sa)) ?_
                refine WA.gy (i := 25) (dj := 191) (NoPanic.then (NoPanic.body)) rfl (by kernel_rfl) (by kernel_rfl) (by kernel_rfl) rfl rfl rfl (Yd.eql64 _ (0#64) rfl rfl rfl rfl) ?_
                refine WA.renamed (t := 194) (v := .bool true) rfl (congrArg Value.bool (rfl)) ?_
                refine WA.y (i := 26) (NoPanic.then (NoPanic.body)) rfl (by kernel_rfl) (by kernel_rfl) (by kernel_rfl) rfl (Yd.pickT rfl rfl) ?_
                refine WA.y (i := 27) (NoPanic.then (NoPanic.body)) rfl (by kernel_rfl) (by kernel_rfl) (by kernel_rfl) rfl (Yd.move rfl) ?_
                refine WA.gy (i := 28) (dj := 196) (NoPanic.then (NoPanic.body)) rfl (by kernel_rfl) (by kernel_rfl) (by kernel_rfl) rfl rfl rfl (Yd.move rfl) ?_
                refine WA.gy (i := 29) (dj := 196) (NoPanic.then (NoPanic.body)) rfl (by kernel_rfl) (by kernel_rfl) (by kernel_rfl) rfl rfl rfl (Yd.eql rfl rfl) ?_
                refine WA.renamed (t := 198) (v := .bool true) rfl (congrArg Value.bool (rfl)) ?_
                refine WA.y (i := 30) (NoPanic.then (NoPanic.body)) rfl (by kernel_rfl) (by kernel_rfl) (by kernel_rfl) rfl (Yd.pickT rfl rfl) ?_
                refine WA.y (i := 31) (NoPanic.then (NoPanic.body)) rfl (by kernel_rfl) (by kernel_rfl) (by kernel_rfl) rfl (Yd.move rfl) ?_
                refine WA.gy (i := 32) (dj := 200) (NoPanic.then (NoPanic.body)) rfl (by kernel_rfl) (by kernel_rfl) (by kernel_rfl) rfl rfl rfl (Yd.move rfl) ?_
                refine WA.one (i := 33) (by kernel_rfl) ?_
                refine WO.rf rfl (Wt.yes (dj := 200) rfl rfl) rfl (Ent.func Try.call14 rfl) (len_reads pv _ V1 g1) (by repeat (first | exact Sp.here | exact Sp.sn | exact Sp.s0 | exact Fr.here | apply Sp.s2 | apply Sp.sx | apply Fr.fc | apply Fr.al | apply Fr.fa | apply Sp.sc | apply Sp.al | apply Sp.sa)) ?_
                refine WA.gy (i := 34) (dj := 200) (NoPanic.then (NoPanic.body)) rfl (by kernel_rfl) (by kernel_rfl) (by kernel_rfl) rfl rfl rfl (Yd.eql rfl rfl) ?_
                refine WA.renamed (t := 203) (v := .bool true) rfl (congrArg Value.bool (rfl)) ?_
                refine WA.y (i := 35) (NoPanic.then (NoPanic.body)) rfl (by kernel_rfl) (by kernel_rfl) (by kernel_rfl) rfl (Yd.pickT rfl rfl) ?_
                refine WA.y (i := 36) (NoPanic.then (NoPanic.body)) rfl (by kernel_rfl) (by kernel_rfl) (by kernel_rfl) rfl (Yd.move rfl) ?_
                refine WA.gy (i := 37) (dj := 205) (NoPanic.then (NoPanic.body)) rfl (by kernel_rfl) (by kernel_rfl) (by kernel_rfl) rfl rfl rfl (Yd.move rfl) ?_
                refine WA.gy (i := 38) (dj := 205) (NoPanic.then (NoPanic.body)) rfl (by kernel_rfl) (by kernel_rfl) (by kernel_rfl) rfl rfl rfl (Yd.eql rfl rfl) ?_
                refine WA.renamed (t := 207) (v := .bool true) rfl (congrArg Value.bool (rfl)) ?_
                refine WA.y (i := 39) (NoPanic.then (NoPanic.body)) rfl (by kernel_rfl) (by kernel_rfl) (by kernel_rfl) rfl (Yd.pickT rfl rfl) ?_
                refine WA.y (i := 40) (NoPanic.then (NoPanic.body)) rfl (by kernel_rfl) (by kernel_rfl) (by kernel_rfl) rfl (Yd.move rfl) ?_
                refine WA.gy (i := 41) (dj := 209) (NoPanic.then (NoPanic.body)) rfl (by kernel_rfl) (by kernel_rfl) (by kernel_rfl) rfl rfl rfl (Yd.move rfl) ?_
                refine WA.one (i := 42) (by kernel_rfl) ?_
                refine WO.rf rfl (Wt.yes (dj := 209) rfl rfl) rfl (Ent.func Try.call14 rfl) (len_reads p _ C3 h3) (by repeat (first | exact Sp.here | exact Sp.sn | exact Sp.s0 | exact Fr.here | apply Sp.s2 | apply Sp.sx | apply Fr.fc | apply Fr.al | apply Fr.fa | apply Sp.sc | apply Sp.al | apply Sp.sa)) ?_
                refine WA.gy (i := 43) (dj := 209) (NoPanic.then (NoPanic.body)) rfl (by kernel_rfl) (by kernel_rfl) (by kernel_rfl) rfl rfl rfl (Yd.eql rfl rfl) ?_
                refine WA.renamed (t := 212) (v := .bool true) rfl (congrArg Value.bool (rfl)) ?_
                refine WA.y (i := 44) (NoPanic.then (NoPanic.body)) rfl (by kernel_rfl) (by kernel_rfl) (by kernel_rfl) rfl (Yd.pickT rfl rfl) ?_
                refine WA.y (i := 45) (NoPanic.then (NoPanic.body)) rfl (by kernel_rfl) (by kernel_rfl) (by kernel_rfl) rfl (Yd.move rfl) ?_
                refine WA.one (i := 46) (by kernel_rfl) ?_
                refine WO.r rfl (Wt.yes (dj := 214) rfl rfl) rfl (Ent.func Try.call15 rfl) (known18 _) ?_
                refine WA.y (i := 47) (NoPanic.then (NoPanic.body)) rfl (by kernel_rfl) (by kernel_rfl) (by kernel_rfl) rfl (Yd.pickT rfl rfl) ?_
                refine WA.y (i := 48) (NoPanic.then (NoPanic.body)) rfl (by kernel_rfl) (by kernel_rfl) (by kernel_rfl) rfl (Yd.assign rfl) ?_
                refine WA.done (by kernel_rfl) ?_
                refine DN.then_normal ?_
                refine WC.ret ?_
                refine DN.fit (C := H) (by repeat (first | exact Sp.here | exact Sp.sn | exact Sp.s0 | exact Fr.here | apply Sp.s2 | apply Sp.sx | apply Fr.fc | apply Fr.al | apply Fr.fa | apply Sp.sc | apply Sp.al | apply Sp.sa)) ?_
                refine DN.ret1 Try.results8 rfl ?_
                exact ⟨rfl, rfl⟩
              · refine WO.h rfl (Wt.yes (dj := 184) rfl rfl) rfl (Hd.load1 (v := .int .u64 (ns.getD 2 0#64).toNat) (by kernel_rfl) rfl (by repeat (first | exact List.mem_cons_self | apply List.mem_cons_of_mem | apply List.mem_append_right)) (by rw [show 0 + (2 : Int).toNat * 1 = 2 by omega]; exact uc_getD (by omega)) ⟨_, rfl, ?_⟩)
                refine WA.one (i := 17) (by kernel_rfl) ?_
                refine WO.rf rfl (Wt.yes (dj := 184) rfl rfl) rfl (Ent.func Try.call28 rfl) (clock_reads p (tickC ns) C3 h3 hI2 2) (by repeat (first | exact Sp.here | exact Sp.sn | exact Sp.s0 | exact Fr.here | apply Sp.s2 | apply Sp.sx | apply Fr.fc | apply Fr.al | apply Fr.fa | apply Sp.sc | apply Sp.al | apply Sp.sa)) ?_
                refine WA.gy (i := 20) (dj := 184) (NoPanic.then (NoPanic.body)) rfl (by kernel_rfl) (by kernel_rfl) (by kernel_rfl) rfl rfl rfl (Yd.eql64 _ _ rfl rfl rfl rfl) ?_
                refine WA.renamed (t := 189) (v := .bool true) rfl (congrArg Value.bool (by rw [c2]; simp)) ?_
                refine WA.y (i := 21) (NoPanic.then (NoPanic.body)) rfl (by kernel_rfl) (by kernel_rfl) (by kernel_rfl) rfl (Yd.pickT rfl rfl) ?_
                refine WA.y (i := 22) (NoPanic.then (NoPanic.body)) rfl (by kernel_rfl) (by kernel_rfl) (by kernel_rfl) rfl (Yd.move rfl) ?_
                refine WA.gy (i := 23) (dj := 191) (NoPanic.then (NoPanic.body)) rfl (by kernel_rfl) (by kernel_rfl) (by kernel_rfl) rfl rfl rfl (Yd.move rfl) ?_
                refine WA.one (i := 24) (by kernel_rfl) ?_
                refine WO.rf rfl (Wt.yes (dj := 191) rfl rfl) rfl (Ent.func Try.call28 rfl) (clock_reads pv _ V1 g1 gI1 0) (by repeat (first | exact Sp.here | exact Sp.sn | exact Sp.s0 | exact Fr.here | apply Sp.s2 | apply Sp.sx | apply Fr.fc | apply Fr.al | apply Fr.fa | apply Sp.sc | apply Sp.al | apply Sp.sa)) ?_
                refine WA.gy (i := 25) (dj := 191) (NoPanic.then (NoPanic.body)) rfl (by kernel_rfl) (by kernel_rfl) (by kernel_rfl) rfl rfl rfl (Yd.eql64 _ (0#64) rfl rfl rfl rfl) ?_
                refine WA.renamed (t := 194) (v := .bool true) rfl (congrArg Value.bool (rfl)) ?_
                refine WA.y (i := 26) (NoPanic.then (NoPanic.body)) rfl (by kernel_rfl) (by kernel_rfl) (by kernel_rfl) rfl (Yd.pickT rfl rfl) ?_
                refine WA.y (i := 27) (NoPanic.then (NoPanic.body)) rfl (by kernel_rfl) (by kernel_rfl) (by kernel_rfl) rfl (Yd.move rfl) ?_
                refine WA.gy (i := 28) (dj := 196) (NoPanic.then (NoPanic.body)) rfl (by kernel_rfl) (by kernel_rfl) (by kernel_rfl) rfl rfl rfl (Yd.move rfl) ?_
                refine WA.gy (i := 29) (dj := 196) (NoPanic.then (NoPanic.body)) rfl (by kernel_rfl) (by kernel_rfl) (by kernel_rfl) rfl rfl rfl (Yd.eql rfl rfl) ?_
                refine WA.renamed (t := 198) (v := .bool true) rfl (congrArg Value.bool (rfl)) ?_
                refine WA.y (i := 30) (NoPanic.then (NoPanic.body)) rfl (by kernel_rfl) (by kernel_rfl) (by kernel_rfl) rfl (Yd.pickT rfl rfl) ?_
                refine WA.y (i := 31) (NoPanic.then (NoPanic.body)) rfl (by kernel_rfl) (by kernel_rfl) (by kernel_rfl) rfl (Yd.move rfl) ?_
                refine WA.gy (i := 32) (dj := 200) (NoPanic.then (NoPanic.body)) rfl (by kernel_rfl) (by kernel_rfl) (by kernel_rfl) rfl rfl rfl (Yd.move rfl) ?_
                refine WA.one (i := 33) (by kernel_rfl) ?_
                refine WO.rf rfl (Wt.yes (dj := 200) rfl rfl) rfl (Ent.func Try.call14 rfl) (len_reads pv _ V1 g1) (by repeat (first | exact Sp.here | exact Sp.sn | exact Sp.s0 | exact Fr.here | apply Sp.s2 | apply Sp.sx | apply Fr.fc | apply Fr.al | apply Fr.fa | apply Sp.sc | apply Sp.al | apply Sp.sa)) ?_
                refine WA.gy (i := 34) (dj := 200) (NoPanic.then (NoPanic.body)) rfl (by kernel_rfl) (by kernel_rfl) (by kernel_rfl) rfl rfl rfl (Yd.eql rfl rfl) ?_
                refine WA.renamed (t := 203) (v := .bool true) rfl (congrArg Value.bool (rfl)) ?_
                refine WA.y (i := 35) (NoPanic.then (NoPanic.body)) rfl (by kernel_rfl) (by kernel_rfl) (by kernel_rfl) rfl (Yd.pickT rfl rfl) ?_
                refine WA.y (i := 36) (NoPanic.then (NoPanic.body)) rfl (by kernel_rfl) (by kernel_rfl) (by kernel_rfl) rfl (Yd.move rfl) ?_
                refine WA.gy (i := 37) (dj := 205) (NoPanic.then (NoPanic.body)) rfl (by kernel_rfl) (by kernel_rfl) (by kernel_rfl) rfl rfl rfl (Yd.move rfl) ?_
                refine WA.gy (i := 38) (dj := 205) (NoPanic.then (NoPanic.body)) rfl (by kernel_rfl) (by kernel_rfl) (by kernel_rfl) rfl rfl rfl (Yd.eql rfl rfl) ?_
                refine WA.renamed (t := 207) (v := .bool true) rfl (congrArg Value.bool (rfl)) ?_
                refine WA.y (i := 39) (NoPanic.then (NoPanic.body)) rfl (by kernel_rfl) (by kernel_rfl) (by kernel_rfl) rfl (Yd.pickT rfl rfl) ?_
                refine WA.y (i := 40) (NoPanic.then (NoPanic.body)) rfl (by kernel_rfl) (by kernel_rfl) (by kernel_rfl) rfl (Yd.move rfl) ?_
                refine WA.gy (i := 41) (dj := 209) (NoPanic.then (NoPanic.body)) rfl (by kernel_rfl) (by kernel_rfl) (by kernel_rfl) rfl rfl rfl (Yd.move rfl) ?_
                refine WA.one (i := 42) (by kernel_rfl) ?_
                refine WO.rf rfl (Wt.yes (dj := 209) rfl rfl) rfl (Ent.func Try.call14 rfl) (len_reads p _ C3 h3) (by repeat (first | exact Sp.here | exact Sp.sn | exact Sp.s0 | exact Fr.here | apply Sp.s2 | apply Sp.sx | apply Fr.fc | apply Fr.al | apply Fr.fa | apply Sp.sc | apply Sp.al | apply Sp.sa)) ?_
                refine WA.gy (i := 43) (dj := 209) (NoPanic.then (NoPanic.body)) rfl (by kernel_rfl) (by kernel_rfl) (by kernel_rfl) rfl rfl rfl (Yd.eql rfl rfl) ?_
                refine WA.renamed (t := 212) (v := .bool true) rfl (congrArg Value.bool (rfl)) ?_
                refine WA.y (i := 44) (NoPanic.then (NoPanic.body)) rfl (by kernel_rfl) (by kernel_rfl) (by kernel_rfl) rfl (Yd.pickT rfl rfl) ?_
                refine WA.y (i := 45) (NoPanic.then (NoPanic.body)) rfl (by kernel_rfl) (by kernel_rfl) (by kernel_rfl) rfl (Yd.move rfl) ?_
                refine WA.one (i := 46) (by kernel_rfl) ?_
                refine WO.r rfl (Wt.yes (dj := 214) rfl rfl) rfl (Ent.func Try.call15 rfl) (known18 _) ?_
                refine WA.y (i := 47) (NoPanic.then (NoPanic.body)) rfl (by kernel_rfl) (by kernel_rfl) (by kernel_rfl) rfl (Yd.pickT rfl rfl) ?_
                refine WA.y (i := 48) (NoPanic.then (NoPanic.body)) rfl (by kernel_rfl) (by kernel_rfl) (by kernel_rfl) rfl (Yd.assign rfl) ?_
                refine WA.done (by kernel_rfl) ?_
                refine DN.then_normal ?_
                refine WC.ret ?_
                refine DN.fit (C := H) (by repeat (first | exact Sp.here | exact Sp.sn | exact Sp.s0 | exact Fr.here | apply Sp.s2 | apply Sp.sx | apply Fr.fc | apply Fr.al | apply Fr.fa | apply Sp.sc | apply Sp.al | apply Sp.sa)) ?_
                refine DN.ret1 Try.results8 rfl ?_
                exact ⟨rfl, rfl⟩
      · refine WL.gn (dj := 128) rfl rfl rfl rfl ?_
        refine WL.gn (dj := 128) rfl rfl rfl rfl ?_
        refine WL.y rfl (Yd.pickF rfl rfl) ?_
        refine WL.nil ?_
        refine DN.then_normal ?_
        refine WC.no rfl ?_
        refine WC.exit ?_
        refine DN.then_exit ?_
        refine DN.then_exit ?_
        refine DN.block_exit ?_
        refine DN.then_normal ?_
        refine WC.seq ?_
        refine WC.region ?_
        refine WL.y rfl (Yd.move rfl) ?_
        refine WL.c rfl (Ent.func Try.call16 rfl) (cut_tells p (tickN ns) C1 h1 (tickN_inv hns) 0 1 true) (Sp.p (by repeat (first | exact Sp.here | exact Sp.sn | exact Sp.s0 | exact Fr.here | apply Sp.s2 | apply Sp.sx | apply Fr.fc | apply Fr.al | apply Fr.fa | apply Sp.sc | apply Sp.al | apply Sp.sa))) ?_
        rintro w1 C2 ⟨rfl, h2⟩
        rw [tickN_cut] at h2
        have hI2 : WInv (tickC ns) := (tickN_inv hns).cut' 0 1 true
        refine WL.nil ?_
        refine DN.then_normal ?_
        refine WC.seq ?_
        refine WC.region ?_
        refine WL.y rfl (Yd.move rfl) ?_
        refine WL.r rfl (Ent.func Try.call11 rfl) (letter_reads 0 1 1#64 _) ?_
        refine WL.c rfl (Ent.func Try.call10 rfl) (send_tells pv (newW 3) V0 [] g0 (newW_inv (by decide)) (ackL 0 1 1#64) _ _ (bsNil _) (bsNil _) (Nat.zero_le _) (Nat.zero_le _)) (Sp.p (by repeat (first | exact Sp.here | exact Sp.sn | exact Sp.s0 | exact Fr.here | apply Sp.s2 | apply Sp.sx | apply Fr.fc | apply Fr.al | apply Fr.fa | apply Sp.sc | apply Sp.al | apply Sp.sa))) ?_
        rintro w1 Hq ⟨V1, rfl, g1, rfl⟩
        obtain ⟨se1, se2⟩ := send_net (n := 3) (ls := []) 0 1 1#64 (by decide) (by decide) (by decide)
        change WAt 72 34 5 pv (sendW (netW 3 [] (List.replicate 36 0)) (ackL 0 1 1#64)) V1 at g1
        rw [se2] at g1
        change WL _ _ _ _ _ _ _ ((165, .int .i64 (sendE (netW 3 [] (List.replicate 36 0)) (ackL 0 1 1#64))) :: _) _
        rw [se1]
        refine WL.y rfl (Yd.assign rfl) ?_
        refine WL.nil ?_
        refine DN.then_normal ?_
        refine WC.seq ?_
        refine WC.region ?_
        refine WL.y rfl (Yd.move rfl) ?_
        refine WL.r rfl (Ent.func Try.call11 rfl) (letter_reads 0 1 1#64 _) ?_
        refine WL.c rfl (Ent.func Try.call10 rfl) (send_tells p (tickC ns) C2 [] h2 hI2 (ackL 0 1 1#64) _ _ (bsNil _) (bsNil _) (Nat.zero_le _) (Nat.zero_le _)) (Sp.p (by repeat (first | exact Sp.here | exact Sp.sn | exact Sp.s0 | exact Fr.here | apply Sp.s2 | apply Sp.sx | apply Fr.fc | apply Fr.al | apply Fr.fa | apply Sp.sc | apply Sp.al | apply Sp.sa))) ?_
        rintro w1 Hq ⟨C3, rfl, h3, rfl⟩
        obtain ⟨te1, te2⟩ := tickC_send ns 1#64
        rw [te2] at h3
        rw [te1]
        refine WL.y rfl (Yd.assign rfl) ?_
        refine WL.nil ?_
        refine DN.then_normal ?_
        refine WC.seq ?_
        have gI1 : WInv (netW 3 ([] ++ [ackL 0 1 1#64]) (List.replicate 36 0)) := (newW_inv (n := 3) (by decide)).send (ackL 0 1 1#64)
        have c0 : clockV (tickC ns) 0 = ns.getD 0 0#64 := tickC_clock hns (q := 0) (by decide)
        have c1 : clockV (tickC ns) 1 = ns.getD 1 0#64 := tickC_clock hns (q := 1) (by decide)
        have c2 : clockV (tickC ns) 2 = ns.getD 2 0#64 := tickC_clock hns (q := 2) (by decide)
        refine WC.draw 49 (by kernel_rfl) rfl ?_
        refine WA.y (i := 0) (NoPanic.then (NoPanic.body)) rfl (by kernel_rfl) (by kernel_rfl) (by kernel_rfl) rfl (Yd.move rfl) ?_
        refine WA.renamed (t := 169) (v := .bool true) rfl (congrArg Value.bool (rfl)) ?_
        refine WA.y (i := 1) (NoPanic.then (NoPanic.body)) rfl (by kernel_rfl) (by kernel_rfl) (by kernel_rfl) rfl (Yd.move rfl) ?_
        refine WA.gy (i := 2) (dj := 170) (NoPanic.then (NoPanic.body)) rfl (by kernel_rfl) (by kernel_rfl) (by kernel_rfl) rfl rfl rfl (Yd.move rfl) ?_
        refine WA.gy (i := 4) (dj := 170) (NoPanic.then (NoPanic.body)) rfl (by kernel_rfl) (by kernel_rfl) (by kernel_rfl) rfl rfl rfl (Yd.indexArr (n := 3) (e := 29) (s := 1) (by kernel_rfl) (by kernel_rfl) rfl rfl (by omega) (by omega)) ?_
        refine WA.two (i := 3) (j := 5) (by kernel_rfl) ?_ ?_
        · refine WO.rf rfl (Wt.yes (dj := 170) rfl rfl) rfl (Ent.func Try.call28 rfl) (clock_reads p (tickC ns) C3 h3 hI2 0) (by repeat (first | exact Sp.here | exact Sp.sn | exact Sp.s0 | exact Fr.here | apply Sp.s2 | apply Sp.sx | apply Fr.fc | apply Fr.al | apply Fr.fa | apply Sp.sc | apply Sp.al | apply Sp.sa)) ?_
          refine WA.one (i := 5) (by kernel_rfl) ?_
          refine WO.h rfl (Wt.yes (dj := 170) rfl rfl) rfl (Hd.load1 (v := .int .u64 (ns.getD 0 0#64).toNat) (by kernel_rfl) rfl (by repeat (first | exact List.mem_cons_self | apply List.mem_cons_of_mem | apply List.mem_append_right)) (by rw [show 0 + (0 : Int).toNat * 1 = 0 by omega]; exact uc_getD (by omega)) ⟨_, rfl, ?_⟩)
          refine WA.gy (i := 6) (dj := 170) (NoPanic.then (NoPanic.body)) rfl (by kernel_rfl) (by kernel_rfl) (by kernel_rfl) rfl rfl rfl (Yd.eql64 _ _ rfl rfl rfl rfl) ?_
          refine WA.renamed (t := 175) (v := .bool true) rfl (congrArg Value.bool (by rw [c0]; simp)) ?_
          refine WA.y (i := 7) (NoPanic.then (NoPanic.body)) rfl (by kernel_rfl) (by kernel_rfl) (by kernel_rfl) rfl (Yd.pickT rfl rfl) ?_
          refine WA.y (i := 8) (NoPanic.then (NoPanic.body)) rfl (by kernel_rfl) (by kernel_rfl) (by kernel_rfl) rfl (Yd.move rfl) ?_
          refine WA.gy (i := 9) (dj := 177) (NoPanic.then (NoPanic.body)) rfl (by kernel_rfl) (by kernel_rfl) (by kernel_rfl) rfl rfl rfl (Yd.move rfl) ?_
          refine WA.gy (i := 11) (dj := 177) (NoPanic.then (NoPanic.body)) rfl (by kernel_rfl) (by kernel_rfl) (by kernel_rfl) rfl rfl rfl (Yd.indexArr (n := 3) (e := 29) (s := 1) (by kernel_rfl) (by kernel_rfl) rfl rfl (by omega) (by omega)) ?_
          refine WA.two (i := 10) (j := 12) (by kernel_rfl) ?_ ?_
          · refine WO.rf rfl (Wt.yes (dj := 177) rfl rfl) rfl (Ent.func Try.call28 rfl) (clock_reads p (tickC ns) C3 h3 hI2 1) (by repeat (first | exact Sp.here | exact Sp.sn | exact Sp.s0 | exact Fr.here | apply Sp.s2 | apply Sp.sx | apply Fr.fc | apply Fr.al | apply Fr.fa | apply Sp.sc | apply Sp.al | apply Sp.sa)) ?_
            refine WA.one (i := 12) (by kernel_rfl) ?_
            refine WO.h rfl (Wt.yes (dj := 177) rfl rfl) rfl (Hd.load1 (v := .int .u64 (ns.getD 1 0#64).toNat) (by kernel_rfl) rfl (by repeat (first | exact List.mem_cons_self | apply List.mem_cons_of_mem | apply List.mem_append_right)) (by rw [show 0 + (1 : Int).toNat * 1 = 1 by omega]; exact uc_getD (by omega)) ⟨_, rfl, ?_⟩)
            refine WA.gy (i := 13) (dj := 177) (NoPanic.then (NoPanic.body)) rfl (by kernel_rfl) (by kernel_rfl) (by kernel_rfl) rfl rfl rfl (Yd.eql64 _ _ rfl rfl rfl rfl) ?_
            refine WA.renamed (t := 182) (v := .bool true) rfl (congrArg Value.bool (by rw [c1]; simp)) ?_
            refine WA.y (i := 14) (NoPanic.then (NoPanic.body)) rfl (by kernel_rfl) (by kernel_rfl) (by kernel_rfl) rfl (Yd.pickT rfl rfl) ?_
            refine WA.y (i := 15) (NoPanic.then (NoPanic.body)) rfl (by kernel_rfl) (by kernel_rfl) (by kernel_rfl) rfl (Yd.move rfl) ?_
            refine WA.gy (i := 16) (dj := 184) (NoPanic.then (NoPanic.body)) rfl (by kernel_rfl) (by kernel_rfl) (by kernel_rfl) rfl rfl rfl (Yd.move rfl) ?_
            refine WA.gy (i := 18) (dj := 184) (NoPanic.then (NoPanic.body)) rfl (by kernel_rfl) (by kernel_rfl) (by kernel_rfl) rfl rfl rfl (Yd.indexArr (n := 3) (e := 29) (s := 1) (by kernel_rfl) (by kernel_rfl) rfl rfl (by omega) (by omega)) ?_
            refine WA.two (i := 17) (j := 19) (by kernel_rfl) ?_ ?_
            · refine WO.rf rfl (Wt.yes (dj := 184) rfl rfl) rfl (Ent.func Try.call28 rfl) (clock_reads p (tickC ns) C3 h3 hI2 2) (by repeat (first | exact Sp.here | exact Sp.sn | exact Sp.s0 | exact Fr.here | apply Sp.s2 | apply Sp.sx | apply Fr.fc | apply Fr.al | apply Fr.fa | apply Sp.sc | apply Sp.al | apply Sp.sa)) ?_
              refine WA.one (i := 19) (by kernel_rfl) ?_
              refine WO.h rfl (Wt.yes (dj := 184) rfl rfl) rfl (Hd.load1 (v := .int .u64 (ns.getD 2 0#64).toNat) (by kernel_rfl) rfl (by repeat (first | exact List.mem_cons_self | apply List.mem_cons_of_mem | apply List.mem_append_right)) (by rw [show 0 + (2 : Int).toNat * 1 = 2 by omega]; exact uc_getD (by omega)) ⟨_, rfl, ?_⟩)
              refine WA.gy (i := 20) (dj := 184) (NoPanic.then (NoPanic.body)) rfl (by kernel_rfl) (by kernel_rfl) (by kernel_rfl) rfl rfl rfl (Yd.eql64 _ _ rfl rfl rfl rfl) ?_
              refine WA.renamed (t := 189) (v := .bool true) rfl (congrArg Value.bool (by rw [c2]; simp)) ?_
              refine WA.y (i := 21) (NoPanic.then (NoPanic.body)) rfl (by kernel_rfl) (by kernel_rfl) (by kernel_rfl) rfl (Yd.pickT rfl rfl) ?_
              refine WA.y (i := 22) (NoPanic.then (NoPanic.body)) rfl (by kernel_rfl) (by kernel_rfl) (by kernel_rfl) rfl (Yd.move rfl) ?_
              refine WA.gy (i := 23) (dj := 191) (NoPanic.then (NoPanic.body)) rfl (by kernel_rfl) (by kernel_rfl) (by kernel_rfl) rfl rfl rfl (Yd.move rfl) ?_
              refine WA.one (i := 24) (by kernel_rfl) ?_
              refine WO.rf rfl (Wt.yes (dj := 191) rfl rfl) rfl (Ent.func Try.call28 rfl) (clock_reads pv _ V1 g1 gI1 0) (by repeat (first | exact Sp.here | exact Sp.sn | exact Sp.s0 | exact Fr.here | apply Sp.s2 | apply Sp.sx | apply Fr.fc | apply Fr.al | apply Fr.fa | apply Sp.sc | apply Sp.al | apply Sp.sa)) ?_
              refine WA.gy (i := 25) (dj := 191) (NoPanic.then (NoPanic.body)) rfl (by kernel_rfl) (by kernel_rfl) (by kernel_rfl) rfl rfl rfl (Yd.eql64 _ (0#64) rfl rfl rfl rfl) ?_
              refine WA.renamed (t := 194) (v := .bool true) rfl (congrArg Value.bool (rfl)) ?_
              refine WA.y (i := 26) (NoPanic.then (NoPanic.body)) rfl (by kernel_rfl) (by kernel_rfl) (by kernel_rfl) rfl (Yd.pickT rfl rfl) ?_
              refine WA.y (i := 27) (NoPanic.then (NoPanic.body)) rfl (by kernel_rfl) (by kernel_rfl) (by kernel_rfl) rfl (Yd.move rfl) ?_
              refine WA.gy (i := 28) (dj := 196) (NoPanic.then (NoPanic.body)) rfl (by kernel_rfl) (by kernel_rfl) (by kernel_rfl) rfl rfl rfl (Yd.move rfl) ?_
              refine WA.gy (i := 29) (dj := 196) (NoPanic.then (NoPanic.body)) rfl (by kernel_rfl) (by kernel_rfl) (by kernel_rfl) rfl rfl rfl (Yd.eql rfl rfl) ?_
              refine WA.renamed (t := 198) (v := .bool true) rfl (congrArg Value.bool (rfl)) ?_
              refine WA.y (i := 30) (NoPanic.then (NoPanic.body)) rfl (by kernel_rfl) (by kernel_rfl) (by kernel_rfl) rfl (Yd.pickT rfl rfl) ?_
              refine WA.y (i := 31) (NoPanic.then (NoPanic.body)) rfl (by kernel_rfl) (by kernel_rfl) (by kernel_rfl) rfl (Yd.move rfl) ?_
              refine WA.gy (i := 32) (dj := 200) (NoPanic.then (NoPanic.body)) rfl (by kernel_rfl) (by kernel_rfl) (by kernel_rfl) rfl rfl rfl (Yd.move rfl) ?_
              refine WA.one (i := 33) (by kernel_rfl) ?_
              refine WO.rf rfl (Wt.yes (dj := 200) rfl rfl) rfl (Ent.func Try.call14 rfl) (len_reads pv _ V1 g1) (by repeat (first | exact Sp.here | exact Sp.sn | exact Sp.s0 | exact Fr.here | apply Sp.s2 | apply Sp.sx | apply Fr.fc | apply Fr.al | apply Fr.fa | apply Sp.sc | apply Sp.al | apply Sp.sa)) ?_
              refine WA.gy (i := 34) (dj := 200) (NoPanic.then (NoPanic.body)) rfl (by kernel_rfl) (by kernel_rfl) (by kernel_rfl) rfl rfl rfl (Yd.eql rfl rfl) ?_
              refine WA.renamed (t := 203) (v := .bool true) rfl (congrArg Value.bool (rfl)) ?_
              refine WA.y (i := 35) (NoPanic.then (NoPanic.body)) rfl (by kernel_rfl) (by kernel_rfl) (by kernel_rfl) rfl (Yd.pickT rfl rfl) ?_
              refine WA.y (i := 36) (NoPanic.then (NoPanic.body)) rfl (by kernel_rfl) (by kernel_rfl) (by kernel_rfl) rfl (Yd.move rfl) ?_
              refine WA.gy (i := 37) (dj := 205) (NoPanic.then (NoPanic.body)) rfl (by kernel_rfl) (by kernel_rfl) (by kernel_rfl) rfl rfl rfl (Yd.move rfl) ?_
              refine WA.gy (i := 38) (dj := 205) (NoPanic.then (NoPanic.body)) rfl (by kernel_rfl) (by kernel_rfl) (by kernel_rfl) rfl rfl rfl (Yd.eql rfl rfl) ?_
              refine WA.renamed (t := 207) (v := .bool true) rfl (congrArg Value.bool (rfl)) ?_
              refine WA.y (i := 39) (NoPanic.then (NoPanic.body)) rfl (by kernel_rfl) (by kernel_rfl) (by kernel_rfl) rfl (Yd.pickT rfl rfl) ?_
              refine WA.y (i := 40) (NoPanic.then (NoPanic.body)) rfl (by kernel_rfl) (by kernel_rfl) (by kernel_rfl) rfl (Yd.move rfl) ?_
              refine WA.gy (i := 41) (dj := 209) (NoPanic.then (NoPanic.body)) rfl (by kernel_rfl) (by kernel_rfl) (by kernel_rfl) rfl rfl rfl (Yd.move rfl) ?_
              refine WA.one (i := 42) (by kernel_rfl) ?_
              refine WO.rf rfl (Wt.yes (dj := 209) rfl rfl) rfl (Ent.func Try.call14 rfl) (len_reads p _ C3 h3) (by repeat (first | exact Sp.here | exact Sp.sn | exact Sp.s0 | exact Fr.here | apply Sp.s2 | apply Sp.sx | apply Fr.fc | apply Fr.al | apply Fr.fa | apply Sp.sc | apply Sp.al | apply Sp.sa)) ?_
              refine WA.gy (i := 43) (dj := 209) (NoPanic.then (NoPanic.body)) rfl (by kernel_rfl) (by kernel_rfl) (by kernel_rfl) rfl rfl rfl (Yd.eql rfl rfl) ?_
              refine WA.renamed (t := 212) (v := .bool true) rfl (congrArg Value.bool (rfl)) ?_
              refine WA.y (i := 44) (NoPanic.then (NoPanic.body)) rfl (by kernel_rfl) (by kernel_rfl) (by kernel_rfl) rfl (Yd.pickT rfl rfl) ?_
              refine WA.y (i := 45) (NoPanic.then (NoPanic.body)) rfl (by kernel_rfl) (by kernel_rfl) (by kernel_rfl) rfl (Yd.move rfl) ?_
              refine WA.one (i := 46) (by kernel_rfl) ?_
              refine WO.r rfl (Wt.yes (dj := 214) rfl rfl) rfl (Ent.func Try.call15 rfl) (known18 _) ?_
              refine WA.y (i := 47) (NoPanic.then (NoPanic.body)) rfl (by kernel_rfl) (by kernel_rfl) (by kernel_rfl) rfl (Yd.pickT rfl rfl) ?_
              refine WA.y (i := 48) (NoPanic.then (NoPanic.body)) rfl (by kernel_rfl) (by kernel_rfl) (by kernel_rfl) rfl (Yd.assign rfl) ?_
              refine WA.done (by kernel_rfl) ?_
              refine DN.then_normal ?_
              refine WC.ret ?_
              refine DN.fit (C := H) (by repeat (first | exact Sp.here | exact Sp.sn | exact Sp.s0 | exact Fr.here | apply Sp.s2 | apply Sp.sx | apply Fr.fc | apply Fr.al | apply Fr.fa | apply Sp.sc | apply Sp.al | apply Sp.sa)) ?_
              refine DN.ret1 Try.results8 rfl ?_
              exact ⟨rfl, rfl⟩
            · refine WO.h rfl (Wt.yes (dj := 184) rfl rfl) rfl (Hd.load1 (v := .int .u64 (ns.getD 2 0#64).toNat) (by kernel_rfl) rfl (by repeat (first | exact List.mem_cons_self | apply List.mem_cons_of_mem | apply List.mem_append_right)) (by rw [show 0 + (2 : Int).toNat * 1 = 2 by omega]; exact uc_getD (by omega)) ⟨_, rfl, ?_⟩)
              refine WA.one (i := 17) (by kernel_rfl) ?_
              refine WO.rf rfl (Wt.yes (dj := 184) rfl rfl) rfl (Ent.func Try.call28 rfl) (clock_reads p (tickC ns) C3 h3 hI2 2) (by repeat (first | exact Sp.here | exact Sp.sn | exact Sp.s0 | exact Fr.here | apply Sp.s2 | apply Sp.sx | apply Fr.fc | apply Fr.al | apply Fr.fa | apply Sp.sc | apply Sp.al | apply Sp.sa)) ?_
              refine WA.gy (i := 20) (dj := 184) (NoPanic.then (NoPanic.body)) rfl (by kernel_rfl) (by kernel_rfl) (by kernel_rfl) rfl rfl rfl (Yd.eql64 _ _ rfl rfl rfl rfl) ?_
              refine WA.renamed (t := 189) (v := .bool true) rfl (congrArg Value.bool (by rw [c2]; simp)) ?_
              refine WA.y (i := 21) (NoPanic.then (NoPanic.body)) rfl (by kernel_rfl) (by kernel_rfl) (by kernel_rfl) rfl (Yd.pickT rfl rfl) ?_
              refine WA.y (i := 22) (NoPanic.then (NoPanic.body)) rfl (by kernel_rfl) (by kernel_rfl) (by kernel_rfl) rfl (Yd.move rfl) ?_
              refine WA.gy (i := 23) (dj := 191) (NoPanic.then (NoPanic.body)) rfl (by kernel_rfl) (by kernel_rfl) (by kernel_rfl) rfl rfl rfl (Yd.move rfl) ?_
              refine WA.one (i := 24) (by kernel_rfl) ?_
              refine WO.rf rfl (Wt.yes (dj := 191) rfl rfl) rfl (Ent.func Try.call28 rfl) (clock_reads pv _ V1 g1 gI1 0) (by repeat (first | exact Sp.here | exact Sp.sn | exact Sp.s0 | exact Fr.here | apply Sp.s2 | apply Sp.sx | apply Fr.fc | apply Fr.al | apply Fr.fa | apply Sp.sc | apply Sp.al | apply Sp.sa)) ?_
              refine WA.gy (i := 25) (dj := 191) (NoPanic.then (NoPanic.body)) rfl (by kernel_rfl) (by kernel_rfl) (by kernel_rfl) rfl rfl rfl (Yd.eql64 _ (0#64) rfl rfl rfl rfl) ?_
              refine WA.renamed (t := 194) (v := .bool true) rfl (congrArg Value.bool (rfl)) ?_
              refine WA.y (i := 26) (NoPanic.then (NoPanic.body)) rfl (by kernel_rfl) (by kernel_rfl) (by kernel_rfl) rfl (Yd.pickT rfl rfl) ?_
              refine WA.y (i := 27) (NoPanic.then (NoPanic.body)) rfl (by kernel_rfl) (by kernel_rfl) (by kernel_rfl) rfl (Yd.move rfl) ?_
              refine WA.gy (i := 28) (dj := 196) (NoPanic.then (NoPanic.body)) rfl (by kernel_rfl) (by kernel_rfl) (by kernel_rfl) rfl rfl rfl (Yd.move rfl) ?_
              refine WA.gy (i := 29) (dj := 196) (NoPanic.then (NoPanic.body)) rfl (by kernel_rfl) (by kernel_rfl) (by kernel_rfl) rfl rfl rfl (Yd.eql rfl rfl) ?_
              refine WA.renamed (t := 198) (v := .bool true) rfl (congrArg Value.bool (rfl)) ?_
              refine WA.y (i := 30) (NoPanic.then (NoPanic.body)) rfl (by kernel_rfl) (by kernel_rfl) (by kernel_rfl) rfl (Yd.pickT rfl rfl) ?_
              refine WA.y (i := 31) (NoPanic.then (NoPanic.body)) rfl (by kernel_rfl) (by kernel_rfl) (by kernel_rfl) rfl (Yd.move rfl) ?_
              refine WA.gy (i := 32) (dj := 200) (NoPanic.then (NoPanic.body)) rfl (by kernel_rfl) (by kernel_rfl) (by kernel_rfl) rfl rfl rfl (Yd.move rfl) ?_
              refine WA.one (i := 33) (by kernel_rfl) ?_
              refine WO.rf rfl (Wt.yes (dj := 200) rfl rfl) rfl (Ent.func Try.call14 rfl) (len_reads pv _ V1 g1) (by repeat (first | exact Sp.here | exact Sp.sn | exact Sp.s0 | exact Fr.here | apply Sp.s2 | apply Sp.sx | apply Fr.fc | apply Fr.al | apply Fr.fa | apply Sp.sc | apply Sp.al | apply Sp.sa)) ?_
              refine WA.gy (i := 34) (dj := 200) (NoPanic.then (NoPanic.body)) rfl (by kernel_rfl) (by kernel_rfl) (by kernel_rfl) rfl rfl rfl (Yd.eql rfl rfl) ?_
              refine WA.renamed (t := 203) (v := .bool true) rfl (congrArg Value.bool (rfl)) ?_
              refine WA.y (i := 35) (NoPanic.then (NoPanic.body)) rfl (by kernel_rfl) (by kernel_rfl) (by kernel_rfl) rfl (Yd.pickT rfl rfl) ?_
              refine WA.y (i := 36) (NoPanic.then (NoPanic.body)) rfl (by kernel_rfl) (by kernel_rfl) (by kernel_rfl) rfl (Yd.move rfl) ?_
              refine WA.gy (i := 37) (dj := 205) (NoPanic.then (NoPanic.body)) rfl (by kernel_rfl) (by kernel_rfl) (by kernel_rfl) rfl rfl rfl (Yd.move rfl) ?_
              refine WA.gy (i := 38) (dj := 205) (NoPanic.then (NoPanic.body)) rfl (by kernel_rfl) (by kernel_rfl) (by kernel_rfl) rfl rfl rfl (Yd.eql rfl rfl) ?_
              refine WA.renamed (t := 207) (v := .bool true) rfl (congrArg Value.bool (rfl)) ?_
              refine WA.y (i := 39) (NoPanic.then (NoPanic.body)) rfl (by kernel_rfl) (by kernel_rfl) (by kernel_rfl) rfl (Yd.pickT rfl rfl) ?_
              refine WA.y (i := 40) (NoPanic.then (NoPanic.body)) rfl (by kernel_rfl) (by kernel_rfl) (by kernel_rfl) rfl (Yd.move rfl) ?_
              refine WA.gy (i := 41) (dj := 209) (NoPanic.then (NoPanic.body)) rfl (by kernel_rfl) (by kernel_rfl) (by kernel_rfl) rfl rfl rfl (Yd.move rfl) ?_
              refine WA.one (i := 42) (by kernel_rfl) ?_
              refine WO.rf rfl (Wt.yes (dj := 209) rfl rfl) rfl (Ent.func Try.call14 rfl) (len_reads p _ C3 h3) (by repeat (first | exact Sp.here | exact Sp.sn | exact Sp.s0 | exact Fr.here | apply Sp.s2 | apply Sp.sx | apply Fr.fc | apply Fr.al | apply Fr.fa | apply Sp.sc | apply Sp.al | apply Sp.sa)) ?_
              refine WA.gy (i := 43) (dj := 209) (NoPanic.then (NoPanic.body)) rfl (by kernel_rfl) (by kernel_rfl) (by kernel_rfl) rfl rfl rfl (Yd.eql rfl rfl) ?_
              refine WA.renamed (t := 212) (v := .bool true) rfl (congrArg Value.bool (rfl)) ?_
              refine WA.y (i := 44) (NoPanic.then (NoPanic.body)) rfl (by kernel_rfl) (by kernel_rfl) (by kernel_rfl) rfl (Yd.pickT rfl rfl) ?_
              refine WA.y (i := 45) (NoPanic.then (NoPanic.body)) rfl (by kernel_rfl) (by kernel_rfl) (by kernel_rfl) rfl (Yd.move rfl) ?_
              refine WA.one (i := 46) (by kernel_rfl) ?_
              refine WO.r rfl (Wt.yes (dj := 214) rfl rfl) rfl (Ent.func Try.call15 rfl) (known18 _) ?_
              refine WA.y (i := 47) (NoPanic.then (NoPanic.body)) rfl (by kernel_rfl) (by kernel_rfl) (by kernel_rfl) rfl (Yd.pickT rfl rfl) ?_
              refine WA.y (i := 48) (NoPanic.then (NoPanic.body)) rfl (by kernel_rfl) (by kernel_rfl) (by kernel_rfl) rfl (Yd.assign rfl) ?_
              refine WA.done (by kernel_rfl) ?_
              refine DN.then_normal ?_
              refine WC.ret ?_
              refine DN.fit (C := H) (by repeat (first | exact Sp.here | exact Sp.sn | exact Sp.s0 | exact Fr.here | apply Sp.s2 | apply Sp.sx | apply Fr.fc | apply Fr.al | apply Fr.fa | apply Sp.sc | apply Sp.al | apply Sp.sa)) ?_
              refine DN.ret1 Try.results8 rfl ?_
              exact ⟨rfl, rfl⟩
          · refine WO.h rfl (Wt.yes (dj := 177) rfl rfl) rfl (Hd.load1 (v := .int .u64 (ns.getD 1 0#64).toNat) (by kernel_rfl) rfl (by repeat (first | exact List.mem_cons_self | apply List.mem_cons_of_mem | apply List.mem_append_right)) (by rw [show 0 + (1 : Int).toNat * 1 = 1 by omega]; exact uc_getD (by omega)) ⟨_, rfl, ?_⟩)
            refine WA.one (i := 10) (by kernel_rfl) ?_
            refine WO.rf rfl (Wt.yes (dj := 177) rfl rfl) rfl (Ent.func Try.call28 rfl) (clock_reads p (tickC ns) C3 h3 hI2 1) (by repeat (first | exact Sp.here | exact Sp.sn | exact Sp.s0 | exact Fr.here | apply Sp.s2 | apply Sp.sx | apply Fr.fc | apply Fr.al | apply Fr.fa | apply Sp.sc | apply Sp.al | apply Sp.sa)) ?_
            refine WA.gy (i := 13) (dj := 177) (NoPanic.then (NoPanic.body)) rfl (by kernel_rfl) (by kernel_rfl) (by kernel_rfl) rfl rfl rfl (Yd.eql64 _ _ rfl rfl rfl rfl) ?_
            refine WA.renamed (t := 182) (v := .bool true) rfl (congrArg Value.bool (by rw [c1]; simp)) ?_
            refine WA.y (i := 14) (NoPanic.then (NoPanic.body)) rfl (by kernel_rfl) (by kernel_rfl) (by kernel_rfl) rfl (Yd.pickT rfl rfl) ?_
            refine WA.y (i := 15) (NoPanic.then (NoPanic.body)) rfl (by kernel_rfl) (by kernel_rfl) (by kernel_rfl) rfl (Yd.move rfl) ?_
            refine WA.gy (i := 16) (dj := 184) (NoPanic.then (NoPanic.body)) rfl (by kernel_rfl) (by kernel_rfl) (by kernel_rfl) rfl rfl rfl (Yd.move rfl) ?_
            refine WA.gy (i := 18) (dj := 184) (NoPanic.then (NoPanic.body)) rfl (by kernel_rfl) (by kernel_rfl) (by kernel_rfl) rfl rfl rfl (Yd.indexArr (n := 3) (e := 29) (s := 1) (by kernel_rfl) (by kernel_rfl) rfl rfl (by omega) (by omega)) ?_
            refine WA.two (i := 17) (j := 19) (by kernel_rfl) ?_ ?_
            · refine WO.rf rfl (Wt.yes (dj := 184) rfl rfl) rfl (Ent.func Try.call28 rfl) (clock_reads p (tickC ns) C3 h3 hI2 2) (by repeat (first | exact Sp.here | exact Sp.sn | exact Sp.s0 | exact Fr.here | apply Sp.s2 | apply Sp.sx | apply Fr.fc | apply Fr.al | apply Fr.fa | apply Sp.sc | apply Sp.al | apply Sp.sa)) ?_
              refine WA.one (i := 19) (by kernel_rfl) ?_
              refine WO.h rfl (Wt.yes (dj := 184) rfl rfl) rfl (Hd.load1 (v := .int .u64 (ns.getD 2 0#64).toNat) (by kernel_rfl) rfl (by repeat (first | exact List.mem_cons_self | apply List.mem_cons_of_mem | apply List.mem_append_right)) (by rw [show 0 + (2 : Int).toNat * 1 = 2 by omega]; exact uc_getD (by omega)) ⟨_, rfl, ?_⟩)
              refine WA.gy (i := 20) (dj := 184) (NoPanic.then (NoPanic.body)) rfl (by kernel_rfl) (by kernel_rfl) (by kernel_rfl) rfl rfl rfl (Yd.eql64 _ _ rfl rfl rfl rfl) ?_
              refine WA.renamed (t := 189) (v := .bool true) rfl (congrArg Value.bool (by rw [c2]; simp)) ?_
              refine WA.y (i := 21) (NoPanic.then (NoPanic.body)) rfl (by kernel_rfl) (by kernel_rfl) (by kernel_rfl) rfl (Yd.pickT rfl rfl) ?_
              refine WA.y (i := 22) (NoPanic.then (NoPanic.body)) rfl (by kernel_rfl) (by kernel_rfl) (by kernel_rfl) rfl (Yd.move rfl) ?_
              refine WA.gy (i := 23) (dj := 191) (NoPanic.then (NoPanic.body)) rfl (by kernel_rfl) (by kernel_rfl) (by kernel_rfl) rfl rfl rfl (Yd.move rfl) ?_
              refine WA.one (i := 24) (by kernel_rfl) ?_
              refine WO.rf rfl (Wt.yes (dj := 191) rfl rfl) rfl (Ent.func Try.call28 rfl) (clock_reads pv _ V1 g1 gI1 0) (by repeat (first | exact Sp.here | exact Sp.sn | exact Sp.s0 | exact Fr.here | apply Sp.s2 | apply Sp.sx | apply Fr.fc | apply Fr.al | apply Fr.fa | apply Sp.sc | apply Sp.al | apply Sp.sa)) ?_
              refine WA.gy (i := 25) (dj := 191) (NoPanic.then (NoPanic.body)) rfl (by kernel_rfl) (by kernel_rfl) (by kernel_rfl) rfl rfl rfl (Yd.eql64 _ (0#64) rfl rfl rfl rfl) ?_
              refine WA.renamed (t := 194) (v := .bool true) rfl (congrArg Value.bool (rfl)) ?_
              refine WA.y (i := 26) (NoPanic.then (NoPanic.body)) rfl (by kernel_rfl) (by kernel_rfl) (by kernel_rfl) rfl (Yd.pickT rfl rfl) ?_
              refine WA.y (i := 27) (NoPanic.then (NoPanic.body)) rfl (by kernel_rfl) (by kernel_rfl) (by kernel_rfl) rfl (Yd.move rfl) ?_
              refine WA.gy (i := 28) (dj := 196) (NoPanic.then (NoPanic.body)) rfl (by kernel_rfl) (by kernel_rfl) (by kernel_rfl) rfl rfl rfl (Yd.move rfl) ?_
              refine WA.gy (i := 29) (dj := 196) (NoPanic.then (NoPanic.body)) rfl (by kernel_rfl) (by kernel_rfl) (by kernel_rfl) rfl rfl rfl (Yd.eql rfl rfl) ?_
              refine WA.renamed (t := 198) (v := .bool true) rfl (congrArg Value.bool (rfl)) ?_
              refine WA.y (i := 30) (NoPanic.then (NoPanic.body)) rfl (by kernel_rfl) (by kernel_rfl) (by kernel_rfl) rfl (Yd.pickT rfl rfl) ?_
              refine WA.y (i := 31) (NoPanic.then (NoPanic.body)) rfl (by kernel_rfl) (by kernel_rfl) (by kernel_rfl) rfl (Yd.move rfl) ?_
              refine WA.gy (i := 32) (dj := 200) (NoPanic.then (NoPanic.body)) rfl (by kernel_rfl) (by kernel_rfl) (by kernel_rfl) rfl rfl rfl (Yd.move rfl) ?_
              refine WA.one (i := 33) (by kernel_rfl) ?_
              refine WO.rf rfl (Wt.yes (dj := 200) rfl rfl) rfl (Ent.func Try.call14 rfl) (len_reads pv _ V1 g1) (by repeat (first | exact Sp.here | exact Sp.sn | exact Sp.s0 | exact Fr.here | apply Sp.s2 | apply Sp.sx | apply Fr.fc | apply Fr.al | apply Fr.fa | apply Sp.sc | apply Sp.al | apply Sp.sa)) ?_
              refine WA.gy (i := 34) (dj := 200) (NoPanic.then (NoPanic.body)) rfl (by kernel_rfl) (by kernel_rfl) (by kernel_rfl) rfl rfl rfl (Yd.eql rfl rfl) ?_
              refine WA.renamed (t := 203) (v := .bool true) rfl (congrArg Value.bool (rfl)) ?_
              refine WA.y (i := 35) (NoPanic.then (NoPanic.body)) rfl (by kernel_rfl) (by kernel_rfl) (by kernel_rfl) rfl (Yd.pickT rfl rfl) ?_
              refine WA.y (i := 36) (NoPanic.then (NoPanic.body)) rfl (by kernel_rfl) (by kernel_rfl) (by kernel_rfl) rfl (Yd.move rfl) ?_
              refine WA.gy (i := 37) (dj := 205) (NoPanic.then (NoPanic.body)) rfl (by kernel_rfl) (by kernel_rfl) (by kernel_rfl) rfl rfl rfl (Yd.move rfl) ?_
              refine WA.gy (i := 38) (dj := 205) (NoPanic.then (NoPanic.body)) rfl (by kernel_rfl) (by kernel_rfl) (by kernel_rfl) rfl rfl rfl (Yd.eql rfl rfl) ?_
              refine WA.renamed (t := 207) (v := .bool true) rfl (congrArg Value.bool (rfl)) ?_
              refine WA.y (i := 39) (NoPanic.then (NoPanic.body)) rfl (by kernel_rfl) (by kernel_rfl) (by kernel_rfl) rfl (Yd.pickT rfl rfl) ?_
              refine WA.y (i := 40) (NoPanic.then (NoPanic.body)) rfl (by kernel_rfl) (by kernel_rfl) (by kernel_rfl) rfl (Yd.move rfl) ?_
              refine WA.gy (i := 41) (dj := 209) (NoPanic.then (NoPanic.body)) rfl (by kernel_rfl) (by kernel_rfl) (by kernel_rfl) rfl rfl rfl (Yd.move rfl) ?_
              refine WA.one (i := 42) (by kernel_rfl) ?_
              refine WO.rf rfl (Wt.yes (dj := 209) rfl rfl) rfl (Ent.func Try.call14 rfl) (len_reads p _ C3 h3) (by repeat (first | exact Sp.here | exact Sp.sn | exact Sp.s0 | exact Fr.here | apply Sp.s2 | apply Sp.sx | apply Fr.fc | apply Fr.al | apply Fr.fa | apply Sp.sc | apply Sp.al | apply Sp.sa)) ?_
              refine WA.gy (i := 43) (dj := 209) (NoPanic.then (NoPanic.body)) rfl (by kernel_rfl) (by kernel_rfl) (by kernel_rfl) rfl rfl rfl (Yd.eql rfl rfl) ?_
              refine WA.renamed (t := 212) (v := .bool true) rfl (congrArg Value.bool (rfl)) ?_
              refine WA.y (i := 44) (NoPanic.then (NoPanic.body)) rfl (by kernel_rfl) (by kernel_rfl) (by kernel_rfl) rfl (Yd.pickT rfl rfl) ?_
              refine WA.y (i := 45) (NoPanic.then (NoPanic.body)) rfl (by kernel_rfl) (by kernel_rfl) (by kernel_rfl) rfl (Yd.move rfl) ?_
              refine WA.one (i := 46) (by kernel_rfl) ?_
              refine WO.r rfl (Wt.yes (dj := 214) rfl rfl) rfl (Ent.func Try.call15 rfl) (known18 _) ?_
              refine WA.y (i := 47) (NoPanic.then (NoPanic.body)) rfl (by kernel_rfl) (by kernel_rfl) (by kernel_rfl) rfl (Yd.pickT rfl rfl) ?_
              refine WA.y (i := 48) (NoPanic.then (NoPanic.body)) rfl (by kernel_rfl) (by kernel_rfl) (by kernel_rfl) rfl (Yd.assign rfl) ?_
              refine WA.done (by kernel_rfl) ?_
              refine DN.then_normal ?_
              refine WC.ret ?_
              refine DN.fit (C := H) (by repeat (first | exact Sp.here | exact Sp.sn | exact Sp.s0 | exact Fr.here | apply Sp.s2 | apply Sp.sx | apply Fr.fc | apply Fr.al | apply Fr.fa | apply Sp.sc | apply Sp.al | apply Sp.sa)) ?_
              refine DN.ret1 Try.results8 rfl ?_
              exact ⟨rfl, rfl⟩
            · refine WO.h rfl (Wt.yes (dj := 184) rfl rfl) rfl (Hd.load1 (v := .int .u64 (ns.getD 2 0#64).toNat) (by kernel_rfl) rfl (by repeat (first | exact List.mem_cons_self | apply List.mem_cons_of_mem | apply List.mem_append_right)) (by rw [show 0 + (2 : Int).toNat * 1 = 2 by omega]; exact uc_getD (by omega)) ⟨_, rfl, ?_⟩)
              refine WA.one (i := 17) (by kernel_rfl) ?_
              refine WO.rf rfl (Wt.yes (dj := 184) rfl rfl) rfl (Ent.func Try.call28 rfl) (clock_reads p (tickC ns) C3 h3 hI2 2) (by repeat (first | exact Sp.here | exact Sp.sn | exact Sp.s0 | exact Fr.here | apply Sp.s2 | apply Sp.sx | apply Fr.fc | apply Fr.al | apply Fr.fa | apply Sp.sc | apply Sp.al | apply Sp.sa)) ?_
              refine WA.gy (i := 20) (dj := 184) (NoPanic.then (NoPanic.body)) rfl (by kernel_rfl) (by kernel_rfl) (by kernel_rfl) rfl rfl rfl (Yd.eql64 _ _ rfl rfl rfl rfl) ?_
              refine WA.renamed (t := 189) (v := .bool true) rfl (congrArg Value.bool (by rw [c2]; simp)) ?_
              refine WA.y (i := 21) (NoPanic.then (NoPanic.body)) rfl (by kernel_rfl) (by kernel_rfl) (by kernel_rfl) rfl (Yd.pickT rfl rfl) ?_
              refine WA.y (i := 22) (NoPanic.then (NoPanic.body)) rfl (by kernel_rfl) (by kernel_rfl) (by kernel_rfl) rfl (Yd.move rfl) ?_
              refine WA.gy (i := 23) (dj := 191) (NoPanic.then (NoPanic.body)) rfl (by kernel_rfl) (by kernel_rfl) (by kernel_rfl) rfl rfl rfl (Yd.move rfl) ?_
              refine WA.one (i := 24) (by kernel_rfl) ?_
              refine WO.rf rfl (Wt.yes (dj := 191) rfl rfl) rfl (Ent.func Try.call28 rfl) (clock_reads pv _ V1 g1 gI1 0) (by repeat (first | exact Sp.here | exact Sp.sn | exact Sp.s0 | exact Fr.here | apply Sp.s2 | apply Sp.sx | apply Fr.fc | apply Fr.al | apply Fr.fa | apply Sp.sc | apply Sp.al | apply Sp.sa)) ?_
              refine WA.gy (i := 25) (dj := 191) (NoPanic.then (NoPanic.body)) rfl (by kernel_rfl) (by kernel_rfl) (by kernel_rfl) rfl rfl rfl (Yd.eql64 _ (0#64) rfl rfl rfl rfl) ?_
              refine WA.renamed (t := 194) (v := .bool true) rfl (congrArg Value.bool (rfl)) ?_
              refine WA.y (i := 26) (NoPanic.then (NoPanic.body)) rfl (by kernel_rfl) (by kernel_rfl) (by kernel_rfl) rfl (Yd.pickT rfl rfl) ?_
              refine WA.y (i := 27) (NoPanic.then (NoPanic.body)) rfl (by kernel_rfl) (by kernel_rfl) (by kernel_rfl) rfl (Yd.move rfl) ?_
              refine WA.gy (i := 28) (dj := 196) (NoPanic.then (NoPanic.body)) rfl (by kernel_rfl) (by kernel_rfl) (by kernel_rfl) rfl rfl rfl (Yd.move rfl) ?_
              refine WA.gy (i := 29) (dj := 196) (NoPanic.then (NoPanic.body)) rfl (by kernel_rfl) (by kernel_rfl) (by kernel_rfl) rfl rfl rfl (Yd.eql rfl rfl) ?_
              refine WA.renamed (t := 198) (v := .bool true) rfl (congrArg Value.bool (rfl)) ?_
              refine WA.y (i := 30) (NoPanic.then (NoPanic.body)) rfl (by kernel_rfl) (by kernel_rfl) (by kernel_rfl) rfl (Yd.pickT rfl rfl) ?_
              refine WA.y (i := 31) (NoPanic.then (NoPanic.body)) rfl (by kernel_rfl) (by kernel_rfl) (by kernel_rfl) rfl (Yd.move rfl) ?_
              refine WA.gy (i := 32) (dj := 200) (NoPanic.then (NoPanic.body)) rfl (by kernel_rfl) (by kernel_rfl) (by kernel_rfl) rfl rfl rfl (Yd.move rfl) ?_
              refine WA.one (i := 33) (by kernel_rfl) ?_
              refine WO.rf rfl (Wt.yes (dj := 200) rfl rfl) rfl (Ent.func Try.call14 rfl) (len_reads pv _ V1 g1) (by repeat (first | exact Sp.here | exact Sp.sn | exact Sp.s0 | exact Fr.here | apply Sp.s2 | apply Sp.sx | apply Fr.fc | apply Fr.al | apply Fr.fa | apply Sp.sc | apply Sp.al | apply Sp.sa)) ?_
              refine WA.gy (i := 34) (dj := 200) (NoPanic.then (NoPanic.body)) rfl (by kernel_rfl) (by kernel_rfl) (by kernel_rfl) rfl rfl rfl (Yd.eql rfl rfl) ?_
              refine WA.renamed (t := 203) (v := .bool true) rfl (congrArg Value.bool (rfl)) ?_
              refine WA.y (i := 35) (NoPanic.then (NoPanic.body)) rfl (by kernel_rfl) (by kernel_rfl) (by kernel_rfl) rfl (Yd.pickT rfl rfl) ?_
              refine WA.y (i := 36) (NoPanic.then (NoPanic.body)) rfl (by kernel_rfl) (by kernel_rfl) (by kernel_rfl) rfl (Yd.move rfl) ?_
              refine WA.gy (i := 37) (dj := 205) (NoPanic.then (NoPanic.body)) rfl (by kernel_rfl) (by kernel_rfl) (by kernel_rfl) rfl rfl rfl (Yd.move rfl) ?_
              refine WA.gy (i := 38) (dj := 205) (NoPanic.then (NoPanic.body)) rfl (by kernel_rfl) (by kernel_rfl) (by kernel_rfl) rfl rfl rfl (Yd.eql rfl rfl) ?_
              refine WA.renamed (t := 207) (v := .bool true) rfl (congrArg Value.bool (rfl)) ?_
              refine WA.y (i := 39) (NoPanic.then (NoPanic.body)) rfl (by kernel_rfl) (by kernel_rfl) (by kernel_rfl) rfl (Yd.pickT rfl rfl) ?_
              refine WA.y (i := 40) (NoPanic.then (NoPanic.body)) rfl (by kernel_rfl) (by kernel_rfl) (by kernel_rfl) rfl (Yd.move rfl) ?_
              refine WA.gy (i := 41) (dj := 209) (NoPanic.then (NoPanic.body)) rfl (by kernel_rfl) (by kernel_rfl) (by kernel_rfl) rfl rfl rfl (Yd.move rfl) ?_
              refine WA.one (i := 42) (by kernel_rfl) ?_
              refine WO.rf rfl (Wt.yes (dj := 209) rfl rfl) rfl (Ent.func Try.call14 rfl) (len_reads p _ C3 h3) (by repeat (first | exact Sp.here | exact Sp.sn | exact Sp.s0 | exact Fr.here | apply Sp.s2 | apply Sp.sx | apply Fr.fc | apply Fr.al | apply Fr.fa | apply Sp.sc | apply Sp.al | apply Sp.sa)) ?_
              refine WA.gy (i := 43) (dj := 209) (NoPanic.then (NoPanic.body)) rfl (by kernel_rfl) (by kernel_rfl) (by kernel_rfl) rfl rfl rfl (Yd.eql rfl rfl) ?_
              refine WA.renamed (t := 212) (v := .bool true) rfl (congrArg Value.bool (rfl)) ?_
              refine WA.y (i := 44) (NoPanic.then (NoPanic.body)) rfl (by kernel_rfl) (by kernel_rfl) (by kernel_rfl) rfl (Yd.pickT rfl rfl) ?_
              refine WA.y (i := 45) (NoPanic.then (NoPanic.body)) rfl (by kernel_rfl) (by kernel_rfl) (by kernel_rfl) rfl (Yd.move rfl) ?_
              refine WA.one (i := 46) (by kernel_rfl) ?_
              refine WO.r rfl (Wt.yes (dj := 214) rfl rfl) rfl (Ent.func Try.call15 rfl) (known18 _) ?_
              refine WA.y (i := 47) (NoPanic.then (NoPanic.body)) rfl (by kernel_rfl) (by kernel_rfl) (by kernel_rfl) rfl (Yd.pickT rfl rfl) ?_
              refine WA.y (i := 48) (NoPanic.then (NoPanic.body)) rfl (by kernel_rfl) (by kernel_rfl) (by kernel_rfl) rfl (Yd.assign rfl) ?_
              refine WA.done (by kernel_rfl) ?_
              refine DN.then_normal ?_
              refine WC.ret ?_
              refine DN.fit (C := H) (by repeat (first | exact Sp.here | exact Sp.sn | exact Sp.s0 | exact Fr.here | apply Sp.s2 | apply Sp.sx | apply Fr.fc | apply Fr.al | apply Fr.fa | apply Sp.sc | apply Sp.al | apply Sp.sa)) ?_
              refine DN.ret1 Try.results8 rfl ?_
              exact ⟨rfl, rfl⟩
        · refine WO.h rfl (Wt.yes (dj := 170) rfl rfl) rfl (Hd.load1 (v := .int .u64 (ns.getD 0 0#64).toNat) (by kernel_rfl) rfl (by repeat (first | exact List.mem_cons_self | apply List.mem_cons_of_mem | apply List.mem_append_right)) (by rw [show 0 + (0 : Int).toNat * 1 = 0 by omega]; exact uc_getD (by omega)) ⟨_, rfl, ?_⟩)
          refine WA.one (i := 3) (by kernel_rfl) ?_
          refine WO.rf rfl (Wt.yes (dj := 170) rfl rfl) rfl (Ent.func Try.call28 rfl) (clock_reads p (tickC ns) C3 h3 hI2 0) (by repeat (first | exact Sp.here | exact Sp.sn | exact Sp.s0 | exact Fr.here | apply Sp.s2 | apply Sp.sx | apply Fr.fc | apply Fr.al | apply Fr.fa | apply Sp.sc | apply Sp.al | apply Sp.sa)) ?_
          refine WA.gy (i := 6) (dj := 170) (NoPanic.then (NoPanic.body)) rfl (by kernel_rfl) (by kernel_rfl) (by kernel_rfl) rfl rfl rfl (Yd.eql64 _ _ rfl rfl rfl rfl) ?_
          refine WA.renamed (t := 175) (v := .bool true) rfl (congrArg Value.bool (by rw [c0]; simp)) ?_
          refine WA.y (i := 7) (NoPanic.then (NoPanic.body)) rfl (by kernel_rfl) (by kernel_rfl) (by kernel_rfl) rfl (Yd.pickT rfl rfl) ?_
          refine WA.y (i := 8) (NoPanic.then (NoPanic.body)) rfl (by kernel_rfl) (by kernel_rfl) (by kernel_rfl) rfl (Yd.move rfl) ?_
          refine WA.gy (i := 9) (dj := 177) (NoPanic.then (NoPanic.body)) rfl (by kernel_rfl) (by kernel_rfl) (by kernel_rfl) rfl rfl rfl (Yd.move rfl) ?_
          refine WA.gy (i := 11) (dj := 177) (NoPanic.then (NoPanic.body)) rfl (by kernel_rfl) (by kernel_rfl) (by kernel_rfl) rfl rfl rfl (Yd.indexArr (n := 3) (e := 29) (s := 1) (by kernel_rfl) (by kernel_rfl) rfl rfl (by omega) (by omega)) ?_
          refine WA.two (i := 10) (j := 12) (by kernel_rfl) ?_ ?_
          · refine WO.rf rfl (Wt.yes (dj := 177) rfl rfl) rfl (Ent.func Try.call28 rfl) (clock_reads p (tickC ns) C3 h3 hI2 1) (by repeat (first | exact Sp.here | exact Sp.sn | exact Sp.s0 | exact Fr.here | apply Sp.s2 | apply Sp.sx | apply Fr.fc | apply Fr.al | apply Fr.fa | apply Sp.sc | apply Sp.al | apply Sp.sa)) ?_
            refine WA.one (i := 12) (by kernel_rfl) ?_
            refine WO.h rfl (Wt.yes (dj := 177) rfl rfl) rfl (Hd.load1 (v := .int .u64 (ns.getD 1 0#64).toNat) (by kernel_rfl) rfl (by repeat (first | exact List.mem_cons_self | apply List.mem_cons_of_mem | apply List.mem_append_right)) (by rw [show 0 + (1 : Int).toNat * 1 = 1 by omega]; exact uc_getD (by omega)) ⟨_, rfl, ?_⟩)
            refine WA.gy (i := 13) (dj := 177) (NoPanic.then (NoPanic.body)) rfl (by kernel_rfl) (by kernel_rfl) (by kernel_rfl) rfl rfl rfl (Yd.eql64 _ _ rfl rfl rfl rfl) ?_
            refine WA.renamed (t := 182) (v := .bool true) rfl (congrArg Value.bool (by rw [c1]; simp)) ?_
            refine WA.y (i := 14) (NoPanic.then (NoPanic.body)) rfl (by kernel_rfl) (by kernel_rfl) (by kernel_rfl) rfl (Yd.pickT rfl rfl) ?_
            refine WA.y (i := 15) (NoPanic.then (NoPanic.body)) rfl (by kernel_rfl) (by kernel_rfl) (by kernel_rfl) rfl (Yd.move rfl) ?_
            refine WA.gy (i := 16) (dj := 184) (NoPanic.then (NoPanic.body)) rfl (by kernel_rfl) (by kernel_rfl) (by kernel_rfl) rfl rfl rfl (Yd.move rfl) ?_
            refine WA.gy (i := 18) (dj := 184) (NoPanic.then (NoPanic.body)) rfl (by kernel_rfl) (by kernel_rfl) (by kernel_rfl) rfl rfl rfl (Yd.indexArr (n := 3) (e := 29) (s := 1) (by kernel_rfl) (by kernel_rfl) rfl rfl (by omega) (by omega)) ?_
            refine WA.two (i := 17) (j := 19) (by kernel_rfl) ?_ ?_
            · refine WO.rf rfl (Wt.yes (dj := 184) rfl rfl) rfl (Ent.func Try.call28 rfl) (clock_reads p (tickC ns) C3 h3 hI2 2) (by repeat (first | exact Sp.here | exact Sp.sn | exact Sp.s0 | exact Fr.here | apply Sp.s2 | apply Sp.sx | apply Fr.fc | apply Fr.al | apply Fr.fa | apply Sp.sc | apply Sp.al | apply Sp.sa)) ?_
              refine WA.one (i := 19) (by kernel_rfl) ?_
              refine WO.h rfl (Wt.yes (dj := 184) rfl rfl) rfl (Hd.load1 (v := .int .u64 (ns.getD 2 0#64).toNat) (by kernel_rfl) rfl (by repeat (first | exact List.mem_cons_self | apply List.mem_cons_of_mem | apply List.mem_append_right)) (by rw [show 0 + (2 : Int).toNat * 1 = 2 by omega]; exact uc_getD (by omega)) ⟨_, rfl, ?_⟩)
              refine WA.gy (i := 20) (dj := 184) (NoPanic.then (NoPanic.body)) rfl (by kernel_rfl) (by kernel_rfl) (by kernel_rfl) rfl rfl rfl (Yd.eql64 _ _ rfl rfl rfl rfl) ?_
              refine WA.renamed (t := 189) (v := .bool true) rfl (congrArg Value.bool (by rw [c2]; simp)) ?_
              refine WA.y (i := 21) (NoPanic.then (NoPanic.body)) rfl (by kernel_rfl) (by kernel_rfl) (by kernel_rfl) rfl (Yd.pickT rfl rfl) ?_
              refine WA.y (i := 22) (NoPanic.then (NoPanic.body)) rfl (by kernel_rfl) (by kernel_rfl) (by kernel_rfl) rfl (Yd.move rfl) ?_
              refine WA.gy (i := 23) (dj := 191) (NoPanic.then (NoPanic.body)) rfl (by kernel_rfl) (by kernel_rfl) (by kernel_rfl) rfl rfl rfl (Yd.move rfl) ?_
              refine WA.one (i := 24) (by kernel_rfl) ?_
              refine WO.rf rfl (Wt.yes (dj := 191) rfl rfl) rfl (Ent.func Try.call28 rfl) (clock_reads pv _ V1 g1 gI1 0) (by repeat (first | exact Sp.here | exact Sp.sn | exact Sp.s0 | exact Fr.here | apply Sp.s2 | apply Sp.sx | apply Fr.fc | apply Fr.al | apply Fr.fa | apply Sp.sc | apply Sp.al | apply Sp.sa)) ?_
              refine WA.gy (i := 25) (dj := 191) (NoPanic.then (NoPanic.body)) rfl (by kernel_rfl) (by kernel_rfl) (by kernel_rfl) rfl rfl rfl (Yd.eql64 _ (0#64) rfl rfl rfl rfl) ?_
              refine WA.renamed (t := 194) (v := .bool true) rfl (congrArg Value.bool (rfl)) ?_
              refine WA.y (i := 26) (NoPanic.then (NoPanic.body)) rfl (by kernel_rfl) (by kernel_rfl) (by kernel_rfl) rfl (Yd.pickT rfl rfl) ?_
              refine WA.y (i := 27) (NoPanic.then (NoPanic.body)) rfl (by kernel_rfl) (by kernel_rfl) (by kernel_rfl) rfl (Yd.move rfl) ?_
              refine WA.gy (i := 28) (dj := 196) (NoPanic.then (NoPanic.body)) rfl (by kernel_rfl) (by kernel_rfl) (by kernel_rfl) rfl rfl rfl (Yd.move rfl) ?_
              refine WA.gy (i := 29) (dj := 196) (NoPanic.then (NoPanic.body)) rfl (by kernel_rfl) (by kernel_rfl) (by kernel_rfl) rfl rfl rfl (Yd.eql rfl rfl) ?_
              refine WA.renamed (t := 198) (v := .bool true) rfl (congrArg Value.bool (rfl)) ?_
              refine WA.y (i := 30) (NoPanic.then (NoPanic.body)) rfl (by kernel_rfl) (by kernel_rfl) (by kernel_rfl) rfl (Yd.pickT rfl rfl) ?_
              refine WA.y (i := 31) (NoPanic.then (NoPanic.body)) rfl (by kernel_rfl) (by kernel_rfl) (by kernel_rfl) rfl (Yd.move rfl) ?_
              refine WA.gy (i := 32) (dj := 200) (NoPanic.then (NoPanic.body)) rfl (by kernel_rfl) (by kernel_rfl) (by kernel_rfl) rfl rfl rfl (Yd.move rfl) ?_
              refine WA.one (i := 33) (by kernel_rfl) ?_
              refine WO.rf rfl (Wt.yes (dj := 200) rfl rfl) rfl (Ent.func Try.call14 rfl) (len_reads pv _ V1 g1) (by repeat (first | exact Sp.here | exact Sp.sn | exact Sp.s0 | exact Fr.here | apply Sp.s2 | apply Sp.sx | apply Fr.fc | apply Fr.al | apply Fr.fa | apply Sp.sc | apply Sp.al | apply Sp.sa)) ?_
              refine WA.gy (i := 34) (dj := 200) (NoPanic.then (NoPanic.body)) rfl (by kernel_rfl) (by kernel_rfl) (by kernel_rfl) rfl rfl rfl (Yd.eql rfl rfl) ?_
              refine WA.renamed (t := 203) (v := .bool true) rfl (congrArg Value.bool (rfl)) ?_
              refine WA.y (i := 35) (NoPanic.then (NoPanic.body)) rfl (by kernel_rfl) (by kernel_rfl) (by kernel_rfl) rfl (Yd.pickT rfl rfl) ?_
              refine WA.y (i := 36) (NoPanic.then (NoPanic.body)) rfl (by kernel_rfl) (by kernel_rfl) (by kernel_rfl) rfl (Yd.move rfl) ?_
              refine WA.gy (i := 37) (dj := 205) (NoPanic.then (NoPanic.body)) rfl (by kernel_rfl) (by kernel_rfl) (by kernel_rfl) rfl rfl rfl (Yd.move rfl) ?_
              refine WA.gy (i := 38) (dj := 205) (NoPanic.then (NoPanic.body)) rfl (by kernel_rfl) (by kernel_rfl) (by kernel_rfl) rfl rfl rfl (Yd.eql rfl rfl) ?_
              refine WA.renamed (t := 207) (v := .bool true) rfl (congrArg Value.bool (rfl)) ?_
              refine WA.y (i := 39) (NoPanic.then (NoPanic.body)) rfl (by kernel_rfl) (by kernel_rfl) (by kernel_rfl) rfl (Yd.pickT rfl rfl) ?_
              refine WA.y (i := 40) (NoPanic.then (NoPanic.body)) rfl (by kernel_rfl) (by kernel_rfl) (by kernel_rfl) rfl (Yd.move rfl) ?_
              refine WA.gy (i := 41) (dj := 209) (NoPanic.then (NoPanic.body)) rfl (by kernel_rfl) (by kernel_rfl) (by kernel_rfl) rfl rfl rfl (Yd.move rfl) ?_
              refine WA.one (i := 42) (by kernel_rfl) ?_
              refine WO.rf rfl (Wt.yes (dj := 209) rfl rfl) rfl (Ent.func Try.call14 rfl) (len_reads p _ C3 h3) (by repeat (first | exact Sp.here | exact Sp.sn | exact Sp.s0 | exact Fr.here | apply Sp.s2 | apply Sp.sx | apply Fr.fc | apply Fr.al | apply Fr.fa | apply Sp.sc | apply Sp.al | apply Sp.sa)) ?_
              refine WA.gy (i := 43) (dj := 209) (NoPanic.then (NoPanic.body)) rfl (by kernel_rfl) (by kernel_rfl) (by kernel_rfl) rfl rfl rfl (Yd.eql rfl rfl) ?_
              refine WA.renamed (t := 212) (v := .bool true) rfl (congrArg Value.bool (rfl)) ?_
              refine WA.y (i := 44) (NoPanic.then (NoPanic.body)) rfl (by kernel_rfl) (by kernel_rfl) (by kernel_rfl) rfl (Yd.pickT rfl rfl) ?_
              refine WA.y (i := 45) (NoPanic.then (NoPanic.body)) rfl (by kernel_rfl) (by kernel_rfl) (by kernel_rfl) rfl (Yd.move rfl) ?_
              refine WA.one (i := 46) (by kernel_rfl) ?_
              refine WO.r rfl (Wt.yes (dj := 214) rfl rfl) rfl (Ent.func Try.call15 rfl) (known18 _) ?_
              refine WA.y (i := 47) (NoPanic.then (NoPanic.body)) rfl (by kernel_rfl) (by kernel_rfl) (by kernel_rfl) rfl (Yd.pickT rfl rfl) ?_
              refine WA.y (i := 48) (NoPanic.then (NoPanic.body)) rfl (by kernel_rfl) (by kernel_rfl) (by kernel_rfl) rfl (Yd.assign rfl) ?_
              refine WA.done (by kernel_rfl) ?_
              refine DN.then_normal ?_
              refine WC.ret ?_
              refine DN.fit (C := H) (by repeat (first | exact Sp.here | exact Sp.sn | exact Sp.s0 | exact Fr.here | apply Sp.s2 | apply Sp.sx | apply Fr.fc | apply Fr.al | apply Fr.fa | apply Sp.sc | apply Sp.al | apply Sp.sa)) ?_
              refine DN.ret1 Try.results8 rfl ?_
              exact ⟨rfl, rfl⟩
            · refine WO.h rfl (Wt.yes (dj := 184) rfl rfl) rfl (Hd.load1 (v := .int .u64 (ns.getD 2 0#64).toNat) (by kernel_rfl) rfl (by repeat (first | exact List.mem_cons_self | apply List.mem_cons_of_mem | apply List.mem_append_right)) (by rw [show 0 + (2 : Int).toNat * 1 = 2 by omega]; exact uc_getD (by omega)) ⟨_, rfl, ?_⟩)
              refine WA.one (i := 17) (by kernel_rfl) ?_
              refine WO.rf rfl (Wt.yes (dj := 184) rfl rfl) rfl (Ent.func Try.call28 rfl) (clock_reads p (tickC ns) C3 h3 hI2 2) (by repeat (first | exact Sp.here | exact Sp.sn | exact Sp.s0 | exact Fr.here | apply Sp.s2 | apply Sp.sx | apply Fr.fc | apply Fr.al | apply Fr.fa | apply Sp.sc | apply Sp.al | apply Sp.sa)) ?_
              refine WA.gy (i := 20) (dj := 184) (NoPanic.then (NoPanic.body)) rfl (by kernel_rfl) (by kernel_rfl) (by kernel_rfl) rfl rfl rfl (Yd.eql64 _ _ rfl rfl rfl rfl) ?_
              refine WA.renamed (t := 189) (v := .bool true) rfl (congrArg Value.bool (by rw [c2]; simp)) ?_
              refine WA.y (i := 21) (NoPanic.then (NoPanic.body)) rfl (by kernel_rfl) (by kernel_rfl) (by kernel_rfl) rfl (Yd.pickT rfl rfl) ?_
              refine WA.y (i := 22) (NoPanic.then (NoPanic.body)) rfl (by kernel_rfl) (by kernel_rfl) (by kernel_rfl) rfl (Yd.move rfl) ?_
              refine WA.gy (i := 23) (dj := 191) (NoPanic.then (NoPanic.body)) rfl (by kernel_rfl) (by kernel_rfl) (by kernel_rfl) rfl rfl rfl (Yd.move rfl) ?_
              refine WA.one (i := 24) (by kernel_rfl) ?_
              refine WO.rf rfl (Wt.yes (dj := 191) rfl rfl) rfl (Ent.func Try.call28 rfl) (clock_reads pv _ V1 g1 gI1 0) (by repeat (first | exact Sp.here | exact Sp.sn | exact Sp.s0 | exact Fr.here | apply Sp.s2 | apply Sp.sx | apply Fr.fc | apply Fr.al | apply Fr.fa | apply Sp.sc | apply Sp.al | apply Sp.sa)) ?_
              refine WA.gy (i := 25) (dj := 191) (NoPanic.then (NoPanic.body)) rfl (by kernel_rfl) (by kernel_rfl) (by kernel_rfl) rfl rfl rfl (Yd.eql64 _ (0#64) rfl rfl rfl rfl) ?_
              refine WA.renamed (t := 194) (v := .bool true) rfl (congrArg Value.bool (rfl)) ?_
              refine WA.y (i := 26) (NoPanic.then (NoPanic.body)) rfl (by kernel_rfl) (by kernel_rfl) (by kernel_rfl) rfl (Yd.pickT rfl rfl) ?_
              refine WA.y (i := 27) (NoPanic.then (NoPanic.body)) rfl (by kernel_rfl) (by kernel_rfl) (by kernel_rfl) rfl (Yd.move rfl) ?_
              refine WA.gy (i := 28) (dj := 196) (NoPanic.then (NoPanic.body)) rfl (by kernel_rfl) (by kernel_rfl) (by kernel_rfl) rfl rfl rfl (Yd.move rfl) ?_
              refine WA.gy (i := 29) (dj := 196) (NoPanic.then (NoPanic.body)) rfl (by kernel_rfl) (by kernel_rfl) (by kernel_rfl) rfl rfl rfl (Yd.eql rfl rfl) ?_
              refine WA.renamed (t := 198) (v := .bool true) rfl (congrArg Value.bool (rfl)) ?_
              refine WA.y (i := 30) (NoPanic.then (NoPanic.body)) rfl (by kernel_rfl) (by kernel_rfl) (by kernel_rfl) rfl (Yd.pickT rfl rfl) ?_
              refine WA.y (i := 31) (NoPanic.then (NoPanic.body)) rfl (by kernel_rfl) (by kernel_rfl) (by kernel_rfl) rfl (Yd.move rfl) ?_
              refine WA.gy (i := 32) (dj := 200) (NoPanic.then (NoPanic.body)) rfl (by kernel_rfl) (by kernel_rfl) (by kernel_rfl) rfl rfl rfl (Yd.move rfl) ?_
              refine WA.one (i := 33) (by kernel_rfl) ?_
              refine WO.rf rfl (Wt.yes (dj := 200) rfl rfl) rfl (Ent.func Try.call14 rfl) (len_reads pv _ V1 g1) (by repeat (first | exact Sp.here | exact Sp.sn | exact Sp.s0 | exact Fr.here | apply Sp.s2 | apply Sp.sx | apply Fr.fc | apply Fr.al | apply Fr.fa | apply Sp.sc | apply Sp.al | apply Sp.sa)) ?_
              refine WA.gy (i := 34) (dj := 200) (NoPanic.then (NoPanic.body)) rfl (by kernel_rfl) (by kernel_rfl) (by kernel_rfl) rfl rfl rfl (Yd.eql rfl rfl) ?_
              refine WA.renamed (t := 203) (v := .bool true) rfl (congrArg Value.bool (rfl)) ?_
              refine WA.y (i := 35) (NoPanic.then (NoPanic.body)) rfl (by kernel_rfl) (by kernel_rfl) (by kernel_rfl) rfl (Yd.pickT rfl rfl) ?_
              refine WA.y (i := 36) (NoPanic.then (NoPanic.body)) rfl (by kernel_rfl) (by kernel_rfl) (by kernel_rfl) rfl (Yd.move rfl) ?_
              refine WA.gy (i := 37) (dj := 205) (NoPanic.then (NoPanic.body)) rfl (by kernel_rfl) (by kernel_rfl) (by kernel_rfl) rfl rfl rfl (Yd.move rfl) ?_
              refine WA.gy (i := 38) (dj := 205) (NoPanic.then (NoPanic.body)) rfl (by kernel_rfl) (by kernel_rfl) (by kernel_rfl) rfl rfl rfl (Yd.eql rfl rfl) ?_
              refine WA.renamed (t := 207) (v := .bool true) rfl (congrArg Value.bool (rfl)) ?_
              refine WA.y (i := 39) (NoPanic.then (NoPanic.body)) rfl (by kernel_rfl) (by kernel_rfl) (by kernel_rfl) rfl (Yd.pickT rfl rfl) ?_
              refine WA.y (i := 40) (NoPanic.then (NoPanic.body)) rfl (by kernel_rfl) (by kernel_rfl) (by kernel_rfl) rfl (Yd.move rfl) ?_
              refine WA.gy (i := 41) (dj := 209) (NoPanic.then (NoPanic.body)) rfl (by kernel_rfl) (by kernel_rfl) (by kernel_rfl) rfl rfl rfl (Yd.move rfl) ?_
              refine WA.one (i := 42) (by kernel_rfl) ?_
              refine WO.rf rfl (Wt.yes (dj := 209) rfl rfl) rfl (Ent.func Try.call14 rfl) (len_reads p _ C3 h3) (by repeat (first | exact Sp.here | exact Sp.sn | exact Sp.s0 | exact Fr.here | apply Sp.s2 | apply Sp.sx | apply Fr.fc | apply Fr.al | apply Fr.fa | apply Sp.sc | apply Sp.al | apply Sp.sa)) ?_
              refine WA.gy (i := 43) (dj := 209) (NoPanic.then (NoPanic.body)) rfl (by kernel_rfl) (by kernel_rfl) (by kernel_rfl) rfl rfl rfl (Yd.eql rfl rfl) ?_
              refine WA.renamed (t := 212) (v := .bool true) rfl (congrArg Value.bool (rfl)) ?_
              refine WA.y (i := 44) (NoPanic.then (NoPanic.body)) rfl (by kernel_rfl) (by kernel_rfl) (by kernel_rfl) rfl (Yd.pickT rfl rfl) ?_
              refine WA.y (i := 45) (NoPanic.then (NoPanic.body)) rfl (by kernel_rfl) (by kernel_rfl) (by kernel_rfl) rfl (Yd.move rfl) ?_
              refine WA.one (i := 46) (by kernel_rfl) ?_
              refine WO.r rfl (Wt.yes (dj := 214) rfl rfl) rfl (Ent.func Try.call15 rfl) (known18 _) ?_
              refine WA.y (i := 47) (NoPanic.then (NoPanic.body)) rfl (by kernel_rfl) (by kernel_rfl) (by kernel_rfl) rfl (Yd.pickT rfl rfl) ?_
              refine WA.y (i := 48) (NoPanic.then (NoPanic.body)) rfl (by kernel_rfl) (by kernel_rfl) (by kernel_rfl) rfl (Yd.assign rfl) ?_
              refine WA.done (by kernel_rfl) ?_
              refine DN.then_normal ?_
              refine WC.ret ?_
              refine DN.fit (C := H) (by repeat (first | exact Sp.here | exact Sp.sn | exact Sp.s0 | exact Fr.here | apply Sp.s2 | apply Sp.sx | apply Fr.fc | apply Fr.al | apply Fr.fa | apply Sp.sc | apply Sp.al | apply Sp.sa)) ?_
              refine DN.ret1 Try.results8 rfl ?_
              exact ⟨rfl, rfl⟩
          · refine WO.h rfl (Wt.yes (dj := 177) rfl rfl) rfl (Hd.load1 (v := .int .u64 (ns.getD 1 0#64).toNat) (by kernel_rfl) rfl (by repeat (first | exact List.mem_cons_self | apply List.mem_cons_of_mem | apply List.mem_append_right)) (by rw [show 0 + (1 : Int).toNat * 1 = 1 by omega]; exact uc_getD (by omega)) ⟨_, rfl, ?_⟩)
            refine WA.one (i := 10) (by kernel_rfl) ?_
            refine WO.rf rfl (Wt.yes (dj := 177) rfl rfl) rfl (Ent.func Try.call28 rfl) (clock_reads p (tickC ns) C3 h3 hI2 1) (by repeat (first | exact Sp.here | exact Sp.sn | exact Sp.s0 | exact Fr.here | apply Sp.s2 | apply Sp.sx | apply Fr.fc | apply Fr.al | apply Fr.fa | apply Sp.sc | apply Sp.al | apply Sp.sa)) ?_
            refine WA.gy (i := 13) (dj := 177) (NoPanic.then (NoPanic.body)) rfl (by kernel_rfl) (by kernel_rfl) (by kernel_rfl) rfl rfl rfl (Yd.eql64 _ _ rfl rfl rfl rfl) ?_
            refine WA.renamed (t := 182) (v := .bool true) rfl (congrArg Value.bool (by rw [c1]; simp)) ?_
            refine WA.y (i := 14) (NoPanic.then (NoPanic.body)) rfl (by kernel_rfl) (by kernel_rfl) (by kernel_rfl) rfl (Yd.pickT rfl rfl) ?_
            refine WA.y (i := 15) (NoPanic.then (NoPanic.body)) rfl (by kernel_rfl) (by kernel_rfl) (by kernel_rfl) rfl (Yd.move rfl) ?_
            refine WA.gy (i := 16) (dj := 184) (NoPanic.then (NoPanic.body)) rfl (by kernel_rfl) (by kernel_rfl) (by kernel_rfl) rfl rfl rfl (Yd.move rfl) ?_
            refine WA.gy (i := 18) (dj := 184) (NoPanic.then (NoPanic.body)) rfl (by kernel_rfl) (by kernel_rfl) (by kernel_rfl) rfl rfl rfl (Yd.indexArr (n := 3) (e := 29) (s := 1) (by kernel_rfl) (by kernel_rfl) rfl rfl (by omega) (by omega)) ?_
            refine WA.two (i := 17) (j := 19) (by kernel_rfl) ?_ ?_
            · refine WO.rf rfl (Wt.yes (dj := 184) rfl rfl) rfl (Ent.func Try.call28 rfl) (clock_reads p (tickC ns) C3 h3 hI2 2) (by repeat (first | exact Sp.here | exact Sp.sn | exact Sp.s0 | exact Fr.here | apply Sp.s2 | apply Sp.sx | apply Fr.fc | apply Fr.al | apply Fr.fa | apply Sp.sc | apply Sp.al | apply Sp.sa)) ?_
              refine WA.one (i := 19) (by kernel_rfl) ?_
              refine WO.h rfl (Wt.yes (dj := 184) rfl rfl) rfl (Hd.load1 (v := .int .u64 (ns.getD 2 0#64).toNat) (by kernel_rfl) rfl (by repeat (first | exact List.mem_cons_self | apply List.mem_cons_of_mem | apply List.mem_append_right)) (by rw [show 0 + (2 : Int).toNat * 1 = 2 by omega]; exact uc_getD (by omega)) ⟨_, rfl, ?_⟩)
              refine WA.gy (i := 20) (dj := 184) (NoPanic.then (NoPanic.body)) rfl (by kernel_rfl) (by kernel_rfl) (by kernel_rfl) rfl rfl rfl (Yd.eql64 _ _ rfl rfl rfl rfl) ?_
              refine WA.renamed (t := 189) (v := .bool true) rfl (congrArg Value.bool (by rw [c2]; simp)) ?_
              refine WA.y (i := 21) (NoPanic.then (NoPanic.body)) rfl (by kernel_rfl) (by kernel_rfl) (by kernel_rfl) rfl (Yd.pickT rfl rfl) ?_
              refine WA.y (i := 22) (NoPanic.then (NoPanic.body)) rfl (by kernel_rfl) (by kernel_rfl) (by kernel_rfl) rfl (Yd.move rfl) ?_
              refine WA.gy (i := 23) (dj := 191) (NoPanic.then (NoPanic.body)) rfl (by kernel_rfl) (by kernel_rfl) (by kernel_rfl) rfl rfl rfl (Yd.move rfl) ?_
              refine WA.one (i := 24) (by kernel_rfl) ?_
              refine WO.rf rfl (Wt.yes (dj := 191) rfl rfl) rfl (Ent.func Try.call28 rfl) (clock_reads pv _ V1 g1 gI1 0) (by repeat (first | exact Sp.here | exact Sp.sn | exact Sp.s0 | exact Fr.here | apply Sp.s2 | apply Sp.sx | apply Fr.fc | apply Fr.al | apply Fr.fa | apply Sp.sc | apply Sp.al | apply Sp.sa)) ?_
              refine WA.gy (i := 25) (dj := 191) (NoPanic.then (NoPanic.body)) rfl (by kernel_rfl) (by kernel_rfl) (by kernel_rfl) rfl rfl rfl (Yd.eql64 _ (0#64) rfl rfl rfl rfl) ?_
              refine WA.renamed (t := 194) (v := .bool true) rfl (congrArg Value.bool (rfl)) ?_
              refine WA.y (i := 26) (NoPanic.then (NoPanic.body)) rfl (by kernel_rfl) (by kernel_rfl) (by kernel_rfl) rfl (Yd.pickT rfl rfl) ?_
              refine WA.y (i := 27) (NoPanic.then (NoPanic.body)) rfl (by kernel_rfl) (by kernel_rfl) (by kernel_rfl) rfl (Yd.move rfl) ?_
              refine WA.gy (i := 28) (dj := 196) (NoPanic.then (NoPanic.body)) rfl (by kernel_rfl) (by kernel_rfl) (by kernel_rfl) rfl rfl rfl (Yd.move rfl) ?_
              refine WA.gy (i := 29) (dj := 196) (NoPanic.then (NoPanic.body)) rfl (by kernel_rfl) (by kernel_rfl) (by kernel_rfl) rfl rfl rfl (Yd.eql rfl rfl) ?_
              refine WA.renamed (t := 198) (v := .bool true) rfl (congrArg Value.bool (rfl)) ?_
              refine WA.y (i := 30) (NoPanic.then (NoPanic.body)) rfl (by kernel_rfl) (by kernel_rfl) (by kernel_rfl) rfl (Yd.pickT rfl rfl) ?_
              refine WA.y (i := 31) (NoPanic.then (NoPanic.body)) rfl (by kernel_rfl) (by kernel_rfl) (by kernel_rfl) rfl (Yd.move rfl) ?_
              refine WA.gy (i := 32) (dj := 200) (NoPanic.then (NoPanic.body)) rfl (by kernel_rfl) (by kernel_rfl) (by kernel_rfl) rfl rfl rfl (Yd.move rfl) ?_
              refine WA.one (i := 33) (by kernel_rfl) ?_
              refine WO.rf rfl (Wt.yes (dj := 200) rfl rfl) rfl (Ent.func Try.call14 rfl) (len_reads pv _ V1 g1) (by repeat (first | exact Sp.here | exact Sp.sn | exact Sp.s0 | exact Fr.here | apply Sp.s2 | apply Sp.sx | apply Fr.fc | apply Fr.al | apply Fr.fa | apply Sp.sc | apply Sp.al | apply Sp.sa)) ?_
              refine WA.gy (i := 34) (dj := 200) (NoPanic.then (NoPanic.body)) rfl (by kernel_rfl) (by kernel_rfl) (by kernel_rfl) rfl rfl rfl (Yd.eql rfl rfl) ?_
              refine WA.renamed (t := 203) (v := .bool true) rfl (congrArg Value.bool (rfl)) ?_
              refine WA.y (i := 35) (NoPanic.then (NoPanic.body)) rfl (by kernel_rfl) (by kernel_rfl) (by kernel_rfl) rfl (Yd.pickT rfl rfl) ?_
              refine WA.y (i := 36) (NoPanic.then (NoPanic.body)) rfl (by kernel_rfl) (by kernel_rfl) (by kernel_rfl) rfl (Yd.move rfl) ?_
              refine WA.gy (i := 37) (dj := 205) (NoPanic.then (NoPanic.body)) rfl (by kernel_rfl) (by kernel_rfl) (by kernel_rfl) rfl rfl rfl (Yd.move rfl) ?_
              refine WA.gy (i := 38) (dj := 205) (NoPanic.then (NoPanic.body)) rfl (by kernel_rfl) (by kernel_rfl) (by kernel_rfl) rfl rfl rfl (Yd.eql rfl rfl) ?_
              refine WA.renamed (t := 207) (v := .bool true) rfl (congrArg Value.bool (rfl)) ?_
              refine WA.y (i := 39) (NoPanic.then (NoPanic.body)) rfl (by kernel_rfl) (by kernel_rfl) (by kernel_rfl) rfl (Yd.pickT rfl rfl) ?_
              refine WA.y (i := 40) (NoPanic.then (NoPanic.body)) rfl (by kernel_rfl) (by kernel_rfl) (by kernel_rfl) rfl (Yd.move rfl) ?_
              refine WA.gy (i := 41) (dj := 209) (NoPanic.then (NoPanic.body)) rfl (by kernel_rfl) (by kernel_rfl) (by kernel_rfl) rfl rfl rfl (Yd.move rfl) ?_
              refine WA.one (i := 42) (by kernel_rfl) ?_
              refine WO.rf rfl (Wt.yes (dj := 209) rfl rfl) rfl (Ent.func Try.call14 rfl) (len_reads p _ C3 h3) (by repeat (first | exact Sp.here | exact Sp.sn | exact Sp.s0 | exact Fr.here | apply Sp.s2 | apply Sp.sx | apply Fr.fc | apply Fr.al | apply Fr.fa | apply Sp.sc | apply Sp.al | apply Sp.sa)) ?_
              refine WA.gy (i := 43) (dj := 209) (NoPanic.then (NoPanic.body)) rfl (by kernel_rfl) (by kernel_rfl) (by kernel_rfl) rfl rfl rfl (Yd.eql rfl rfl) ?_
              refine WA.renamed (t := 212) (v := .bool true) rfl (congrArg Value.bool (rfl)) ?_
              refine WA.y (i := 44) (NoPanic.then (NoPanic.body)) rfl (by kernel_rfl) (by kernel_rfl) (by kernel_rfl) rfl (Yd.pickT rfl rfl) ?_
              refine WA.y (i := 45) (NoPanic.then (NoPanic.body)) rfl (by kernel_rfl) (by kernel_rfl) (by kernel_rfl) rfl (Yd.move rfl) ?_
              refine WA.one (i := 46) (by kernel_rfl) ?_
              refine WO.r rfl (Wt.yes (dj := 214) rfl rfl) rfl (Ent.func Try.call15 rfl) (known18 _) ?_
              refine WA.y (i := 47) (NoPanic.then (NoPanic.body)) rfl (by kernel_rfl) (by kernel_rfl) (by kernel_rfl) rfl (Yd.pickT rfl rfl) ?_
              refine WA.y (i := 48) (NoPanic.then (NoPanic.body)) rfl (by kernel_rfl) (by kernel_rfl) (by kernel_rfl) rfl (Yd.assign rfl) ?_
              refine WA.done (by kernel_rfl) ?_
              refine DN.then_normal ?_
              refine WC.ret ?_
              refine DN.fit (C := H) (by repeat (first | exact Sp.here | exact Sp.sn | exact Sp.s0 | exact Fr.here | apply Sp.s2 | apply Sp.sx | apply Fr.fc | apply Fr.al | apply Fr.fa | apply Sp.sc | apply Sp.al | apply Sp.sa)) ?_
              refine DN.ret1 Try.results8 rfl ?_
              exact ⟨rfl, rfl⟩
            · refine WO.h rfl (Wt.yes (dj := 184) rfl rfl) rfl (Hd.load1 (v := .int .u64 (ns.getD 2 0#64).toNat) (by kernel_rfl) rfl (by repeat (first | exact List.mem_cons_self | apply List.mem_cons_of_mem | apply List.mem_append_right)) (by rw [show 0 + (2 : Int).toNat * 1 = 2 by omega]; exact uc_getD (by omega)) ⟨_, rfl, ?_⟩)
              refine WA.one (i := 17) (by kernel_rfl) ?_
              refine WO.rf rfl (Wt.yes (dj := 184) rfl rfl) rfl (Ent.func Try.call28 rfl) (clock_reads p (tickC ns) C3 h3 hI2 2) (by repeat (first | exact Sp.here | exact Sp.sn | exact Sp.s0 | exact Fr.here | apply Sp.s2 | apply Sp.sx | apply Fr.fc | apply Fr.al | apply Fr.fa | apply Sp.sc | apply Sp.al | apply Sp.sa)) ?_
              refine WA.gy (i := 20) (dj := 184) (NoPanic.then (NoPanic.body)) rfl (by kernel_rfl) (by kernel_rfl) (by kernel_rfl) rfl rfl rfl (Yd.eql64 _ _ rfl rfl rfl rfl) ?_
              refine WA.renamed (t := 189) (v := .bool true) rfl (congrArg Value.bool (by rw [c2]; simp)) ?_
              refine WA.y (i := 21) (NoPanic.then (NoPanic.body)) rfl (by kernel_rfl) (by kernel_rfl) (by kernel_rfl) rfl (Yd.pickT rfl rfl) ?_
              refine WA.y (i := 22) (NoPanic.then (NoPanic.body)) rfl (by kernel_rfl) (by kernel_rfl) (by kernel_rfl) rfl (Yd.move rfl) ?_
              refine WA.gy (i := 23) (dj := 191) (NoPanic.then (NoPanic.body)) rfl (by kernel_rfl) (by kernel_rfl) (by kernel_rfl) rfl rfl rfl (Yd.move rfl) ?_
              refine WA.one (i := 24) (by kernel_rfl) ?_
              refine WO.rf rfl (Wt.yes (dj := 191) rfl rfl) rfl (Ent.func Try.call28 rfl) (clock_reads pv _ V1 g1 gI1 0) (by repeat (first | exact Sp.here | exact Sp.sn | exact Sp.s0 | exact Fr.here | apply Sp.s2 | apply Sp.sx | apply Fr.fc | apply Fr.al | apply Fr.fa | apply Sp.sc | apply Sp.al | apply Sp.sa)) ?_
              refine WA.gy (i := 25) (dj := 191) (NoPanic.then (NoPanic.body)) rfl (by kernel_rfl) (by kernel_rfl) (by kernel_rfl) rfl rfl rfl (Yd.eql64 _ (0#64) rfl rfl rfl rfl) ?_
              refine WA.renamed (t := 194) (v := .bool true) rfl (congrArg Value.bool (rfl)) ?_
              refine WA.y (i := 26) (NoPanic.then (NoPanic.body)) rfl (by kernel_rfl) (by kernel_rfl) (by kernel_rfl) rfl (Yd.pickT rfl rfl) ?_
              refine WA.y (i := 27) (NoPanic.then (NoPanic.body)) rfl (by kernel_rfl) (by kernel_rfl) (by kernel_rfl) rfl (Yd.move rfl) ?_
              refine WA.gy (i := 28) (dj := 196) (NoPanic.then (NoPanic.body)) rfl (by kernel_rfl) (by kernel_rfl) (by kernel_rfl) rfl rfl rfl (Yd.move rfl) ?_
              refine WA.gy (i := 29) (dj := 196) (NoPanic.then (NoPanic.body)) rfl (by kernel_rfl) (by kernel_rfl) (by kernel_rfl) rfl rfl rfl (Yd.eql rfl rfl) ?_
              refine WA.renamed (t := 198) (v := .bool true) rfl (congrArg Value.bool (rfl)) ?_
              refine WA.y (i := 30) (NoPanic.then (NoPanic.body)) rfl (by kernel_rfl) (by kernel_rfl) (by kernel_rfl) rfl (Yd.pickT rfl rfl) ?_
              refine WA.y (i := 31) (NoPanic.then (NoPanic.body)) rfl (by kernel_rfl) (by kernel_rfl) (by kernel_rfl) rfl (Yd.move rfl) ?_
              refine WA.gy (i := 32) (dj := 200) (NoPanic.then (NoPanic.body)) rfl (by kernel_rfl) (by kernel_rfl) (by kernel_rfl) rfl rfl rfl (Yd.move rfl) ?_
              refine WA.one (i := 33) (by kernel_rfl) ?_
              refine WO.rf rfl (Wt.yes (dj := 200) rfl rfl) rfl (Ent.func Try.call14 rfl) (len_reads pv _ V1 g1) (by repeat (first | exact Sp.here | exact Sp.sn | exact Sp.s0 | exact Fr.here | apply Sp.s2 | apply Sp.sx | apply Fr.fc | apply Fr.al | apply Fr.fa | apply Sp.sc | apply Sp.al | apply Sp.sa)) ?_
              refine WA.gy (i := 34) (dj := 200) (NoPanic.then (NoPanic.body)) rfl (by kernel_rfl) (by kernel_rfl) (by kernel_rfl) rfl rfl rfl (Yd.eql rfl rfl) ?_
              refine WA.renamed (t := 203) (v := .bool true) rfl (congrArg Value.bool (rfl)) ?_
              refine WA.y (i := 35) (NoPanic.then (NoPanic.body)) rfl (by kernel_rfl) (by kernel_rfl) (by kernel_rfl) rfl (Yd.pickT rfl rfl) ?_
              refine WA.y (i := 36) (NoPanic.then (NoPanic.body)) rfl (by kernel_rfl) (by kernel_rfl) (by kernel_rfl) rfl (Yd.move rfl) ?_
              refine WA.gy (i := 37) (dj := 205) (NoPanic.then (NoPanic.body)) rfl (by kernel_rfl) (by kernel_rfl) (by kernel_rfl) rfl rfl rfl (Yd.move rfl) ?_
              refine WA.gy (i := 38) (dj := 205) (NoPanic.then (NoPanic.body)) rfl (by kernel_rfl) (by kernel_rfl) (by kernel_rfl) rfl rfl rfl (Yd.eql rfl rfl) ?_
              refine WA.renamed (t := 207) (v := .bool true) rfl (congrArg Value.bool (rfl)) ?_
              refine WA.y (i := 39) (NoPanic.then (NoPanic.body)) rfl (by kernel_rfl) (by kernel_rfl) (by kernel_rfl) rfl (Yd.pickT rfl rfl) ?_
              refine WA.y (i := 40) (NoPanic.then (NoPanic.body)) rfl (by kernel_rfl) (by kernel_rfl) (by kernel_rfl) rfl (Yd.move rfl) ?_
              refine WA.gy (i := 41) (dj := 209) (NoPanic.then (NoPanic.body)) rfl (by kernel_rfl) (by kernel_rfl) (by kernel_rfl) rfl rfl rfl (Yd.move rfl) ?_
              refine WA.one (i := 42) (by kernel_rfl) ?_
              refine WO.rf rfl (Wt.yes (dj := 209) rfl rfl) rfl (Ent.func Try.call14 rfl) (len_reads p _ C3 h3) (by repeat (first | exact Sp.here | exact Sp.sn | exact Sp.s0 | exact Fr.here | apply Sp.s2 | apply Sp.sx | apply Fr.fc | apply Fr.al | apply Fr.fa | apply Sp.sc | apply Sp.al | apply Sp.sa)) ?_
              refine WA.gy (i := 43) (dj := 209) (NoPanic.then (NoPanic.body)) rfl (by kernel_rfl) (by kernel_rfl) (by kernel_rfl) rfl rfl rfl (Yd.eql rfl rfl) ?_
              refine WA.renamed (t := 212) (v := .bool true) rfl (congrArg Value.bool (rfl)) ?_
              refine WA.y (i := 44) (NoPanic.then (NoPanic.body)) rfl (by kernel_rfl) (by kernel_rfl) (by kernel_rfl) rfl (Yd.pickT rfl rfl) ?_
              refine WA.y (i := 45) (NoPanic.then (NoPanic.body)) rfl (by kernel_rfl) (by kernel_rfl) (by kernel_rfl) rfl (Yd.move rfl) ?_
              refine WA.one (i := 46) (by kernel_rfl) ?_
              refine WO.r rfl (Wt.yes (dj := 214) rfl rfl) rfl (Ent.func Try.call15 rfl) (known18 _) ?_
              refine WA.y (i := 47) (NoPanic.then (NoPanic.body)) rfl (by kernel_rfl) (by kernel_rfl) (by kernel_rfl) rfl (Yd.pickT rfl rfl) ?_
              refine WA.y (i := 48) (NoPanic.then (NoPanic.body)) rfl (by kernel_rfl) (by kernel_rfl) (by kernel_rfl) rfl (Yd.assign rfl) ?_
              refine WA.done (by kernel_rfl) ?_
              refine DN.then_normal ?_
              refine WC.ret ?_
              refine DN.fit (C := H) (by repeat (first | exact Sp.here | exact Sp.sn | exact Sp.s0 | exact Fr.here | apply Sp.s2 | apply Sp.sx | apply Fr.fc | apply Fr.al | apply Fr.fa | apply Sp.sc | apply Sp.al | apply Sp.sa)) ?_
              refine DN.ret1 Try.results8 rfl ?_
              exact ⟨rfl, rfl⟩

end Go.Proofs.Ytgpegfmonmdhoaa
