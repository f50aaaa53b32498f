/-
  The walks of the net's functions: Cut, Tick, Clock, New; the examples.
-/
import Derived.Test.YtgpegfmonmdhoaaWires4
set_option linter.unusedVariables false
set_option linter.unusedSimpArgs false
set_option maxHeartbeats 4000000
set_option maxRecDepth 100000
namespace Go.Proofs.Ytgpegfmonmdhoaa
open Go.SL
theorem uc_set (l : List (BitVec 64)) (i : Nat) (x : BitVec 64) : (uc l).set i (.int .u64 x.toNat) = uc (l.set i x) := by simp [uc, List.map_set]
theorem cells_cutSet (n : Int) (vl : Value) (cut : List Int) (clk : List (BitVec 64)) (i : Nat) (x : Int) (h : i < cut.length) : (Value.int .i64 n :: vl :: (ic cut ++ uc clk)).set (2 + i) (.int .i64 x) = Value.int .i64 n :: vl :: (ic (cut.set i x) ++ uc clk) := by
  rw [show 2 + i = i + 1 + 1 by omega, List.set_cons_succ, List.set_cons_succ, set_front _ _ _ _ (by rw [ic_length]; exact h)]
  simp [ic, List.map_set]
theorem cells_clkSet (n : Int) (vl : Value) (cut : List Int) (clk : List (BitVec 64)) (i : Nat) (x : BitVec 64) (hc : cut.length = 36) : (Value.int .i64 n :: vl :: (ic cut ++ uc clk)).set (38 + i) (.int .u64 x.toNat) = Value.int .i64 n :: vl :: (ic cut ++ uc (clk.set i x)) := by
  rw [show 38 + i = 36 + i + 1 + 1 by omega, List.set_cons_succ, List.set_cons_succ, List.set_append_right _ _ (by rw [ic_length]; omega), ic_length, hc, show 36 + i - 36 = i by omega, uc_set]
theorem node_lt {W : Wn} (inv : WInv W) {k : Int} (h : isNode W k = true) : 0 ≤ k ∧ k < 6 := by
  have := inv.n
  simp only [isNode, Bool.and_eq_true, decide_eq_true_eq] at h
  omega


/-- (*drayage/wires.Wires).Cut -/
theorem cut_tells (p : Nat) (W : Wn) (C : List Ck) (h : WAt 72 34 5 p W C) (inv : WInv W) (f t : Int) (b : Bool) : Tells Try.prog 16 [.pointer (some ⟨p, 0, none⟩), .int .i64 f, .int .i64 t, .bool b] C fun r C' => r = .int .i64 (cutE W f t) ∧ WAt 72 34 5 p  (cutW W f t b) C' := by
  refine Tells.enter Try.func16 rfl Try.ntmps16 rfl ?_
  intro w0 R
  have hcut := inv.cut
  have hclk := inv.clk
  have hW := h
  obtain ⟨vl, Cl, cs, D, rfl, ho, hL⟩ := h
  obtain ⟨xo, xc, rfl, hxc⟩ := ho.form
  refine WC.seq ?_
  refine WC.region ?_
  refine WL.y rfl (Yd.assign rfl) ?_
  refine WL.nil ?_
  refine DN.then_normal ?_
  refine WC.seq ?_
  refine WC.block ?_
  refine WC.seq ?_
  refine WC.region ?_
  refine WL.y rfl (Yd.move rfl) ?_
  refine WL.y rfl (Yd.eqlNil Try.underlying22 rfl rfl) ?_
  refine WL.renamed (t := 11) (v := .bool false) rfl (congrArg Value.bool (rfl)) ?_
  refine WL.y rfl (Yd.assign rfl) ?_
  refine WL.nil ?_
  refine DN.then_normal ?_
  refine WC.no rfl ?_
  refine WC.seq ?_
  refine WC.region ?_
  refine WL.y rfl (Yd.move rfl) ?_
  refine WL.y rfl (Yd.move rfl) ?_
  refine WL.rf rfl (Ent.func Try.call29 rfl) (is_reads p W _ hW f) (by repeat (first | exact Sp.here | exact Sp.sn | exact Sp.s0 | exact Fr.here | apply Sp.s2 | apply Sp.sx | apply Fr.fc | apply Fr.al | apply Fr.fa | apply Sp.sc | apply Sp.al | apply Sp.sa)) ?_
  refine WL.y rfl (Yd.notB rfl) ?_
  refine WL.y rfl (Yd.move rfl) ?_
  refine WL.part (t := 17) rfl (fun hg17 => ?_) (fun hg17 => ?_)
  · refine WL.gn (dj := 17) rfl rfl rfl rfl ?_
    refine WL.gn (dj := 17) rfl rfl rfl rfl ?_
    refine WL.gn (dj := 17) rfl rfl rfl rfl ?_
    refine WL.gn (dj := 17) rfl rfl rfl rfl ?_
    refine WL.y rfl (Yd.pickT rfl rfl) ?_
    refine WL.y rfl (Yd.assign rfl) ?_
    refine WL.nil ?_
    refine DN.then_normal ?_
    refine WC.yes rfl ?_
    refine WC.seq ?_
    refine WC.region ?_
    refine WL.y rfl (Yd.assign rfl) ?_
    refine WL.nil ?_
    refine DN.then_normal ?_
    refine WC.ret ?_
    refine DN.block_ret ?_
    refine DN.then_ret ?_
    try simp only [Bool.not_eq_true', Bool.not_eq_false'] at hg17
    try simp only [Bool.not_eq_true', Bool.not_eq_false'] at h12
    refine DN.ret1 Try.results16 rfl ?_
    first
      | (have e : cutE W f t = 2 := by simp [cutE, *]
         exact ⟨by rw [e], by rw [cutW, e]; exact hW⟩)
      | (have e : cutE W f t = 0 := by simp [cutE, *]
         refine ⟨by rw [e], ?_⟩
         simp only [cutW, e, if_true, h30]
         first
           | (rw [List.set_set]; exact ⟨_, Cl, _, D, rfl, ho, hL⟩)
           | exact ⟨_, Cl, _, D, rfl, ho, hL⟩)
  · refine WL.gy (dj := 17) rfl rfl rfl (Yd.move rfl) ?_
    refine WL.gy (dj := 17) rfl rfl rfl (Yd.move rfl) ?_
    refine WL.grf (dj := 17) rfl rfl rfl (Ent.func Try.call29 rfl) (is_reads p W _ hW t) (by repeat (first | exact Sp.here | exact Sp.sn | exact Sp.s0 | exact Fr.here | apply Sp.s2 | apply Sp.sx | apply Fr.fc | apply Fr.al | apply Fr.fa | apply Sp.sc | apply Sp.al | apply Sp.sa)) ?_
    refine WL.gy (dj := 17) rfl rfl rfl (Yd.notB rfl) ?_
    refine WL.y rfl (Yd.pickF rfl rfl) ?_
    refine WL.y rfl (Yd.assign rfl) ?_
    refine WL.nil ?_
    refine DN.then_normal ?_
    refine WC.cond rfl (fun h12 => ?_) (fun h12 => ?_)
    · refine WC.seq ?_
      refine WC.region ?_
      refine WL.y rfl (Yd.assign rfl) ?_
      refine WL.nil ?_
      refine DN.then_normal ?_
      refine WC.ret ?_
      refine DN.block_ret ?_
      refine DN.then_ret ?_
      try simp only [Bool.not_eq_true', Bool.not_eq_false'] at hg17
      try simp only [Bool.not_eq_true', Bool.not_eq_false'] at h12
      refine DN.ret1 Try.results16 rfl ?_
      first
        | (have e : cutE W f t = 2 := by simp [cutE, *]
           exact ⟨by rw [e], by rw [cutW, e]; exact hW⟩)
        | (have e : cutE W f t = 0 := by simp [cutE, *]
           refine ⟨by rw [e], ?_⟩
           simp only [cutW, e, if_true, h30]
           first
             | (rw [List.set_set]; exact ⟨_, Cl, _, D, rfl, ho, hL⟩)
             | exact ⟨_, Cl, _, D, rfl, ho, hL⟩)
    · have hn1 : isNode W f = true := by simpa using hg17
      have hn2 : isNode W t = true := by simpa using h12
      have hf := node_lt inv hn1
      have ht := node_lt inv hn2
      refine WC.skip ?_
      refine DN.block_normal ?_
      refine DN.then_normal ?_
      refine WC.seq ?_
      refine WC.region ?_
      refine WL.y rfl (Yd.move rfl) ?_
      refine WL.y rfl (Yd.move rfl) ?_
      refine WL.y rfl (Yd.move rfl) ?_
      refine WL.y rfl (Yd.notNil rfl) ?_
      refine WL.y rfl (Yd.fieldAddr (k := 2) (by kernel_rfl) rfl) ?_
      refine WL.y rfl (Yd.indexArr (n := 6) (e := 68) (s := 6) (by kernel_rfl) (by kernel_rfl) rfl rfl (by omega) (by omega)) ?_
      refine WL.y rfl (Yd.indexArr (n := 6) (e := 3) (s := 1) (by kernel_rfl) (by kernel_rfl) rfl rfl (by omega) (by omega)) ?_
      refine WL.s (Hd.store1s (cs' := .int .i64 W.n :: .slice xo W.ls.length xc :: (ic (W.cut.set (f.toNat * 6 + t.toNat) 0) ++ uc W.clk)) (by kernel_rfl) rfl rfl (by rfl) (by repeat (first | exact Fr.here | apply Fr.fc | apply Fr.al | apply Fr.fa)) (by simp [ic_length, uc_len, hcut, hclk]; omega) (by rw [show 0 + 2 + f.toNat * 6 + t.toNat * 1 = 2 + (f.toNat * 6 + t.toNat) by omega]; exact cells_cutSet _ _ _ _ _ _ (by first | (rw [List.length_set]; omega) | omega)) ⟨rfl, ?_⟩)
      refine WL.nil ?_
      refine DN.then_normal ?_
      refine WC.seq ?_
      refine WC.seq ?_
      refine WC.region ?_
      refine WL.y rfl (Yd.move rfl) ?_
      refine WL.nil ?_
      refine DN.then_normal ?_
      refine WC.cond rfl (fun h30 => ?_) (fun h30 => ?_)
      · refine WC.region ?_
        refine WL.y rfl (Yd.move rfl) ?_
        refine WL.y rfl (Yd.move rfl) ?_
        refine WL.y rfl (Yd.move rfl) ?_
        refine WL.y rfl (Yd.notNil rfl) ?_
        refine WL.y rfl (Yd.fieldAddr (k := 2) (by kernel_rfl) rfl) ?_
        refine WL.y rfl (Yd.indexArr (n := 6) (e := 68) (s := 6) (by kernel_rfl) (by kernel_rfl) rfl rfl (by omega) (by omega)) ?_
        refine WL.y rfl (Yd.indexArr (n := 6) (e := 3) (s := 1) (by kernel_rfl) (by kernel_rfl) rfl rfl (by omega) (by omega)) ?_
        refine WL.s (Hd.store1s (cs' := .int .i64 W.n :: .slice xo W.ls.length xc :: (ic ((W.cut.set (f.toNat * 6 + t.toNat) 0).set (f.toNat * 6 + t.toNat) 1) ++ uc W.clk)) (by kernel_rfl) rfl rfl (by rfl) (by repeat (first | exact Fr.here | apply Fr.fc | apply Fr.al | apply Fr.fa)) (by simp [ic_length, uc_len, hcut, hclk]; omega) (by rw [show 0 + 2 + f.toNat * 6 + t.toNat * 1 = 2 + (f.toNat * 6 + t.toNat) by omega]; exact cells_cutSet _ _ _ _ _ _ (by first | (rw [List.length_set]; omega) | omega)) ⟨rfl, ?_⟩)
        refine WL.nil ?_
        refine DN.then_normal ?_
        refine WC.seq ?_
        refine WC.region ?_
        refine WL.y rfl (Yd.assign rfl) ?_
        refine WL.nil ?_
        refine DN.then_normal ?_
        refine WC.ret ?_
        try simp only [Bool.not_eq_true', Bool.not_eq_false'] at hg17
        try simp only [Bool.not_eq_true', Bool.not_eq_false'] at h12
        refine DN.ret1 Try.results16 rfl ?_
        first
          | (have e : cutE W f t = 2 := by simp [cutE, *]
             exact ⟨by rw [e], by rw [cutW, e]; exact hW⟩)
          | (have e : cutE W f t = 0 := by simp [cutE, *]
             refine ⟨by rw [e], ?_⟩
             simp only [cutW, e, if_true, h30]
             first
               | (rw [List.set_set]; exact ⟨_, Cl, _, D, rfl, ho, hL⟩)
               | exact ⟨_, Cl, _, D, rfl, ho, hL⟩)
      · refine WC.skip ?_
        refine DN.then_normal ?_
        refine WC.seq ?_
        refine WC.region ?_
        refine WL.y rfl (Yd.assign rfl) ?_
        refine WL.nil ?_
        refine DN.then_normal ?_
        refine WC.ret ?_
        try simp only [Bool.not_eq_true', Bool.not_eq_false'] at hg17
        try simp only [Bool.not_eq_true', Bool.not_eq_false'] at h12
        refine DN.ret1 Try.results16 rfl ?_
        first
          | (have e : cutE W f t = 2 := by simp [cutE, *]
             exact ⟨by rw [e], by rw [cutW, e]; exact hW⟩)
          | (have e : cutE W f t = 0 := by simp [cutE, *]
             refine ⟨by rw [e], ?_⟩
             simp only [cutW, e, if_true, h30]
             first
               | (rw [List.set_set]; exact ⟨_, Cl, _, D, rfl, ho, hL⟩)
               | exact ⟨_, Cl, _, D, rfl, ho, hL⟩)

/-- (*drayage/wires.Wires).Tick -/
theorem tick_tells (p : Nat) (W : Wn) (C : List Ck) (h : WAt 72 34 5 p W C) (inv : WInv W) (k : Int) : Tells Try.prog 27 [.pointer (some ⟨p, 0, none⟩), .int .i64 k] C fun r C' => r = .tuple #[.int .u64 (tickV W k).toNat, .int .i64 (tickE W k)] ∧ WAt 72 34 5 p  (tickW W k) C' := by
  refine Tells.enter Try.func27 rfl Try.ntmps27 rfl ?_
  intro w0 R
  have hcut := inv.cut
  have hclk := inv.clk
  have hW := h
  obtain ⟨vl, Cl, cs, D, rfl, ho, hL⟩ := h
  obtain ⟨xo, xc, rfl, hxc⟩ := ho.form
  refine WC.seq ?_
  refine WC.region ?_
  refine WL.y rfl (Yd.assign (v := .int .u64 ((0#64).toNat : Int)) rfl) ?_
  refine WL.y rfl (Yd.assign rfl) ?_
  refine WL.nil ?_
  refine DN.then_normal ?_
  refine WC.seq ?_
  refine WC.block ?_
  refine WC.seq ?_
  refine WC.region ?_
  refine WL.y rfl (Yd.move rfl) ?_
  refine WL.y rfl (Yd.eqlNil Try.underlying22 rfl rfl) ?_
  refine WL.renamed (t := 8) (v := .bool false) rfl (congrArg Value.bool (rfl)) ?_
  refine WL.y rfl (Yd.assign rfl) ?_
  refine WL.nil ?_
  refine DN.then_normal ?_
  refine WC.no rfl ?_
  refine WC.seq ?_
  refine WC.region ?_
  refine WL.y rfl (Yd.move rfl) ?_
  refine WL.y rfl (Yd.move rfl) ?_
  refine WL.rf rfl (Ent.func Try.call29 rfl) (is_reads p W _ hW k) (by repeat (first | exact Sp.here | exact Sp.sn | exact Sp.s0 | exact Fr.here | apply Sp.s2 | apply Sp.sx | apply Fr.fc | apply Fr.al | apply Fr.fa | apply Sp.sc | apply Sp.al | apply Sp.sa)) ?_
  refine WL.y rfl (Yd.notB rfl) ?_
  refine WL.y rfl (Yd.assign rfl) ?_
  refine WL.nil ?_
  refine DN.then_normal ?_
  refine WC.cond rfl (fun h9 => ?_) (fun h9 => ?_)
  · have hn : isNode W k = false := by simpa using h9
    refine WC.seq ?_
    refine WC.region ?_
    refine WL.y rfl (Yd.assign (v := .int .u64 ((0#64).toNat : Int)) rfl) ?_
    refine WL.y rfl (Yd.assign rfl) ?_
    refine WL.nil ?_
    refine DN.then_normal ?_
    refine WC.ret ?_
    refine DN.block_ret ?_
    refine DN.then_ret ?_
    refine DN.ret2 Try.results27 rfl rfl ?_
    first | exact ⟨by simp [tickV, tickE, hn], by simp only [tickW, hn]; exact hW⟩ | (refine ⟨by simp [tickV, tickE, hn], ?_⟩; simp only [tickW, hn]; exact ⟨_, Cl, _, D, rfl, ho, hL⟩)
  · have hn : isNode W k = true := by simpa using h9
    have hk := node_lt inv hn
    refine WC.skip ?_
    refine DN.block_normal ?_
    refine DN.then_normal ?_
    refine WC.seq ?_
    refine WC.draw 11 (by kernel_rfl) rfl ?_
    refine WA.y (i := 0) (NoPanic.then (NoPanic.body)) rfl (by kernel_rfl) (by kernel_rfl) (by kernel_rfl) rfl (Yd.move rfl) ?_
    refine WA.y (i := 1) (NoPanic.then (NoPanic.body)) rfl (by kernel_rfl) (by kernel_rfl) (by kernel_rfl) rfl (Yd.move rfl) ?_
    refine WA.y (i := 2) (NoPanic.then (NoPanic.body)) rfl (by kernel_rfl) (by kernel_rfl) (by kernel_rfl) rfl (Yd.notNil rfl) ?_
    refine WA.y (i := 3) (NoPanic.then (NoPanic.body)) rfl (by kernel_rfl) (by kernel_rfl) (by kernel_rfl) rfl (Yd.fieldAddr (k := 38) (by kernel_rfl) rfl) ?_
    refine WA.y (i := 4) (NoPanic.then (NoPanic.body)) rfl (by kernel_rfl) (by kernel_rfl) (by kernel_rfl) rfl (Yd.indexArr (n := 6) (e := 29) (s := 1) (by kernel_rfl) (by kernel_rfl) rfl rfl (by omega) (by omega)) ?_
    refine WA.y (i := 7) (NoPanic.then (NoPanic.body)) rfl (by kernel_rfl) (by kernel_rfl) (by kernel_rfl) rfl (Yd.notNil rfl) ?_
    refine WA.y (i := 8) (NoPanic.then (NoPanic.body)) rfl (by kernel_rfl) (by kernel_rfl) (by kernel_rfl) rfl (Yd.fieldAddr (k := 38) (by kernel_rfl) rfl) ?_
    refine WA.one (i := 5) (by kernel_rfl) ?_
    refine WO.h rfl Wt.none rfl (Hd.load1 (v := .int .u64 (W.clk.getD k.toNat 0#64).toNat) (by kernel_rfl) rfl (by repeat (first | exact List.mem_cons_self | apply List.mem_cons_of_mem | apply List.mem_append_right)) (by rw [show 0 + 38 + k.toNat * 1 = 38 + k.toNat by omega]; exact cells_clkAt _ _ _ _ _ hcut (by omega)) ⟨_, rfl, ?_⟩)
    refine WA.y (i := 6) (NoPanic.then (NoPanic.body)) rfl (by kernel_rfl) (by kernel_rfl) (by kernel_rfl) rfl (Yd.add64 _ (1#64) rfl rfl rfl rfl) ?_
    refine WA.y (i := 9) (NoPanic.then (NoPanic.body)) rfl (by kernel_rfl) (by kernel_rfl) (by kernel_rfl) rfl (Yd.indexArr (n := 6) (e := 29) (s := 1) (by kernel_rfl) (by kernel_rfl) rfl rfl (by omega) (by omega)) ?_
    refine WA.one (i := 10) (by kernel_rfl) ?_
    refine WO.s rfl Wt.none (Hd.store1s (cs' := .int .i64 W.n :: .slice xo W.ls.length xc :: (ic W.cut ++ uc (W.clk.set k.toNat (W.clk.getD k.toNat 0#64 + 1#64)))) (by kernel_rfl) rfl rfl (by rfl) (by repeat (first | exact Fr.here | apply Fr.fc | apply Fr.al | apply Fr.fa)) (by simp [ic_length, uc_len, hcut, hclk]; omega) (by rw [show 0 + 38 + k.toNat * 1 = 38 + k.toNat by omega]; exact cells_clkSet _ _ _ _ _ _ hcut) ⟨rfl, ?_⟩)
    refine WA.done (by kernel_rfl) ?_
    refine DN.then_normal ?_
    refine WC.seq ?_
    refine WC.region ?_
    refine WL.y rfl (Yd.move rfl) ?_
    refine WL.y rfl (Yd.move rfl) ?_
    refine WL.y rfl (Yd.notNil rfl) ?_
    refine WL.y rfl (Yd.fieldAddr (k := 38) (by kernel_rfl) rfl) ?_
    refine WL.y rfl (Yd.indexArr (n := 6) (e := 29) (s := 1) (by kernel_rfl) (by kernel_rfl) rfl rfl (by omega) (by omega)) ?_
    refine WL.h rfl (Hd.load1 (v := .int .u64 (W.clk.getD k.toNat 0#64 + 1#64).toNat) (by kernel_rfl) rfl (by repeat (first | exact List.mem_cons_self | apply List.mem_cons_of_mem | apply List.mem_append_right)) (by rw [show 0 + 38 + k.toNat * 1 = 38 + k.toNat by omega]; exact by rw [cells_clkAt _ _ _ _ _ hcut (by rw [List.length_set]; omega)]; simp [List.getD, show k.toNat < W.clk.length by omega]) ⟨_, rfl, ?_⟩)
    refine WL.y rfl (Yd.assign rfl) ?_
    refine WL.y rfl (Yd.assign rfl) ?_
    refine WL.nil ?_
    refine DN.then_normal ?_
    refine WC.ret ?_
    refine DN.ret2 Try.results27 rfl rfl ?_
    first | exact ⟨by simp [tickV, tickE, hn], by simp only [tickW, hn]; exact hW⟩ | (refine ⟨by simp [tickV, tickE, hn], ?_⟩; simp only [tickW, hn]; exact ⟨_, Cl, _, D, rfl, ho, hL⟩)

/-- (*drayage/wires.Wires).Clock -/
theorem clock_reads (p : Nat) (W : Wn) (C : List Ck) (h : WAt 72 34 5 p W C) (inv : WInv W) (k : Int) : Reads Try.prog 28 [.pointer (some ⟨p, 0, none⟩), .int .i64 k] C (.int .u64 (clockV W k).toNat) := by
  refine Tells.enter Try.func28 rfl Try.ntmps28 rfl ?_
  intro w0 R
  have hcut := inv.cut
  have hclk := inv.clk
  have hW := h
  obtain ⟨vl, Cl, cs, D, rfl, ho, hL⟩ := h
  obtain ⟨xo, xc, rfl, hxc⟩ := ho.form
  refine WC.seq ?_
  refine WC.region ?_
  refine WL.y rfl (Yd.assign (v := .int .u64 ((0#64).toNat : Int)) rfl) ?_
  refine WL.nil ?_
  refine DN.then_normal ?_
  refine WC.seq ?_
  refine WC.seq ?_
  refine WC.region ?_
  refine WL.y rfl (Yd.move rfl) ?_
  refine WL.y rfl (Yd.eqlNil Try.underlying22 rfl rfl) ?_
  refine WL.renamed (t := 6) (v := .bool false) rfl (congrArg Value.bool (rfl)) ?_
  refine WL.y rfl (Yd.move rfl) ?_
  refine WL.gy (dj := 7) rfl rfl rfl (Yd.move rfl) ?_
  refine WL.gy (dj := 7) rfl rfl rfl (Yd.move rfl) ?_
  refine WL.grf (dj := 7) rfl rfl rfl (Ent.func Try.call29 rfl) (is_reads p W _ hW k) (by repeat (first | exact Sp.here | exact Sp.sn | exact Sp.s0 | exact Fr.here | apply Sp.s2 | apply Sp.sx | apply Fr.fc | apply Fr.al | apply Fr.fa | apply Sp.sc | apply Sp.al | apply Sp.sa)) ?_
  refine WL.gy (dj := 7) rfl rfl rfl (Yd.notB rfl) ?_
  refine WL.y rfl (Yd.pickF rfl rfl) ?_
  refine WL.nil ?_
  refine DN.then_normal ?_
  refine WC.cond rfl (fun h12 => ?_) (fun h12 => ?_)
  · have hn : isNode W k = false := by simpa using h12
    refine WC.seq ?_
    refine WC.region ?_
    refine WL.y rfl (Yd.assign (v := .int .u64 ((0#64).toNat : Int)) rfl) ?_
    refine WL.nil ?_
    refine DN.then_normal ?_
    refine WC.ret ?_
    refine DN.then_ret ?_
    refine DN.ret1 Try.results28 rfl ?_
    exact ⟨by simp [clockV, hn], rfl⟩
  · have hn : isNode W k = true := by simpa using h12
    have hk := node_lt inv hn
    refine WC.skip ?_
    refine DN.then_normal ?_
    refine WC.seq ?_
    refine WC.region ?_
    refine WL.y rfl (Yd.move rfl) ?_
    refine WL.y rfl (Yd.move rfl) ?_
    refine WL.y rfl (Yd.notNil rfl) ?_
    refine WL.y rfl (Yd.fieldAddr (k := 38) (by kernel_rfl) rfl) ?_
    refine WL.y rfl (Yd.indexArr (n := 6) (e := 29) (s := 1) (by kernel_rfl) (by kernel_rfl) rfl rfl (by omega) (by omega)) ?_
    refine WL.h rfl (Hd.load1 (v := .int .u64 (W.clk.getD k.toNat 0#64).toNat) (by kernel_rfl) rfl (by repeat (first | exact List.mem_cons_self | apply List.mem_cons_of_mem | apply List.mem_append_right)) (by rw [show 0 + 38 + k.toNat * 1 = 38 + k.toNat by omega]; exact cells_clkAt _ _ _ _ _ hcut (by omega)) ⟨_, rfl, ?_⟩)
    refine WL.y rfl (Yd.assign rfl) ?_
    refine WL.nil ?_
    refine DN.then_normal ?_
    refine WC.ret ?_
    refine DN.ret1 Try.results28 rfl ?_
    exact ⟨by simp [clockV, hn], rfl⟩


/-- a net of so many nodes, with nothing under way -/
def newW (n : Int) : Wn := ⟨n, [], List.replicate 36 0, List.replicate 6 0#64⟩
theorem newW_inv {n : Int} (h : 1 ≤ n ∧ n ≤ 6) : WInv (newW n) := ⟨h, by simp [newW], by simp [newW], by simp [newW], by simp [newW], by simp [newW]⟩


/-- drayage/wires.New -/
theorem new_tells (n : Int) : Tells Try.prog 9 [.int .i64 n] [] fun r C => if 1 ≤ n ∧ n ≤ 6 then ∃ p, r = .tuple #[.pointer (some ⟨p, 0, none⟩), .int .i64 0] ∧ WAt 72 34 5 p  (newW n) C else r = .tuple #[.pointer none, .int .i64 2] ∧ C = [] := by
  refine Tells.enter Try.func9 rfl Try.ntmps9 rfl ?_
  intro w0 R
  refine WC.seq ?_
  refine WC.region ?_
  refine WL.y rfl (Yd.assign rfl) ?_
  refine WL.y rfl (Yd.assign rfl) ?_
  refine WL.nil ?_
  refine DN.then_normal ?_
  refine WC.seq ?_
  refine WC.seq ?_
  refine WC.region ?_
  refine WL.y rfl (Yd.move rfl) ?_
  refine WL.y rfl (Yd.lss rfl rfl) ?_
  refine WL.y rfl (Yd.move rfl) ?_
  refine WL.partP (t := 6) rfl (fun hg6 => ?_) (fun hg6 => ?_)
  · refine WL.gn (dj := 6) rfl rfl rfl rfl ?_
    refine WL.gn (dj := 6) rfl rfl rfl rfl ?_
    refine WL.y rfl (Yd.pickT rfl rfl) ?_
    refine WL.nil ?_
    refine DN.then_normal ?_
    refine WC.yes rfl ?_
    refine WC.seq ?_
    refine WC.region ?_
    refine WL.y rfl (Yd.assign rfl) ?_
    refine WL.y rfl (Yd.assign rfl) ?_
    refine WL.nil ?_
    refine DN.then_normal ?_
    refine WC.ret ?_
    refine DN.then_ret ?_
    refine DN.ret2 Try.results9 rfl rfl ?_
    rw [if_neg (by omega)]
    exact ⟨rfl, rfl⟩
  · refine WL.gy (dj := 6) rfl rfl rfl (Yd.move rfl) ?_
    refine WL.gy (dj := 6) rfl rfl rfl (Yd.gtr rfl rfl) ?_
    refine WL.y rfl (Yd.pickF rfl rfl) ?_
    refine WL.nil ?_
    refine DN.then_normal ?_
    refine WC.ite rfl (fun h9 => ?_) (fun h9 => ?_)
    · refine WC.seq ?_
      refine WC.region ?_
      refine WL.y rfl (Yd.assign rfl) ?_
      refine WL.y rfl (Yd.assign rfl) ?_
      refine WL.nil ?_
      refine DN.then_normal ?_
      refine WC.ret ?_
      refine DN.then_ret ?_
      refine DN.ret2 Try.results9 rfl rfl ?_
      rw [if_neg (by omega)]
      exact ⟨rfl, rfl⟩
    · refine WC.skip ?_
      refine DN.then_normal ?_
      refine WC.seq ?_
      refine WC.region ?_
      refine WL.y rfl (Yd.move rfl) ?_
      refine WL.y rfl (Yd.buildL (pl := [(0, 1), (1, 1), (2, 36), (38, 6)]) (zs := [.int .i64 0, .slice none 0 0, .int .i64 0, .int .i64 0, .int .i64 0, .int .i64 0, .int .i64 0, .int .i64 0, .int .i64 0, .int .i64 0, .int .i64 0, .int .i64 0, .int .i64 0, .int .i64 0, .int .i64 0, .int .i64 0, .int .i64 0, .int .i64 0, .int .i64 0, .int .i64 0, .int .i64 0, .int .i64 0, .int .i64 0, .int .i64 0, .int .i64 0, .int .i64 0, .int .i64 0, .int .i64 0, .int .i64 0, .int .i64 0, .int .i64 0, .int .i64 0, .int .i64 0, .int .i64 0, .int .i64 0, .int .i64 0, .int .i64 0, .int .i64 0, .int .u64 0, .int .u64 0, .int .u64 0, .int .u64 0, .int .u64 0, .int .u64 0]) (parts := [(0, .tmp 10)]) (vs := [(0, _)]) (cells := [_, .slice none 0 0, .int .i64 0, .int .i64 0, .int .i64 0, .int .i64 0, .int .i64 0, .int .i64 0, .int .i64 0, .int .i64 0, .int .i64 0, .int .i64 0, .int .i64 0, .int .i64 0, .int .i64 0, .int .i64 0, .int .i64 0, .int .i64 0, .int .i64 0, .int .i64 0, .int .i64 0, .int .i64 0, .int .i64 0, .int .i64 0, .int .i64 0, .int .i64 0, .int .i64 0, .int .i64 0, .int .i64 0, .int .i64 0, .int .i64 0, .int .i64 0, .int .i64 0, .int .i64 0, .int .i64 0, .int .i64 0, .int .i64 0, .int .i64 0, .int .u64 0, .int .u64 0, .int .u64 0, .int .u64 0, .int .u64 0, .int .u64 0]) (by kernel_rfl) (by kernel_rfl) rfl rfl) ?_
      refine WL.h rfl (Hd.boxA rfl fun b12 => ⟨_, rfl, ?_⟩)
      refine WL.y rfl (Yd.assign rfl) ?_
      refine WL.y rfl (Yd.assign rfl) ?_
      refine WL.nil ?_
      refine DN.then_normal ?_
      refine WC.ret ?_
      refine DN.ret2 Try.results9 rfl rfl ?_
      rw [if_pos (by omega)]
      exact ⟨b12, rfl, ⟨.slice none 0 0, [], [], [], rfl, Own.nil _ _, Lts.nil⟩⟩

end Go.Proofs.Ytgpegfmonmdhoaa
