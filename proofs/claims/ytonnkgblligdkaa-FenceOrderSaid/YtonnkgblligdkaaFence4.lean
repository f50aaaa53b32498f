/-
  The walk of slices.Insert at kept steps.
-/
import Derived.Test.YtonnkgblligdkaaFence3
set_option linter.unusedVariables false
set_option linter.unusedSimpArgs false
set_option maxHeartbeats 2000000
namespace Go.Proofs.Ytonnkgblligdkaa
open Go.SL


/-- slices.Insert[[]drayage/api.Kept,drayage/api.Kept] -/
theorem insert_tells (v : Value) (n : Nat) (cells : List Value) (C : List Ck) (own : Own v n cells 43 6 C) (h1 : ∀ u ∈ cells, u.oneCell' = true) (hn : n ≤ 1000000) (i : Nat) (hi : i ≤ n) (rb : Nat) (x : List Value) (hx : x.length = 6) (hx1 : ∀ u ∈ x, u.oneCell' = true) : Tells Try.prog 42 [v, .int .i64 (i : Int), .slice (some ⟨rb, 0, none⟩) 1 1] (C ++ [row rb x 43]) fun r H' => Own r (n + 1) (cells.take (i * 6) ++ (x ++ cells.drop (i * 6))) 43 6 H' := by
  refine Tells.enter Try.func42 rfl Try.ntmps42 rfl ?_
  intro w0 R
  obtain ⟨ao, cap, rfl, hcap⟩ := own.form
  have hcl := own.len
  refine WC.seq ?_
  refine WC.region ?_
  refine WL.y rfl (Yd.assign rfl) ?_
  refine WL.nil ?_
  refine DN.then_normal ?_
  refine WC.seq ?_
  refine WC.region ?_
  refine WL.y rfl (Yd.move rfl) ?_
  refine WL.y rfl (Yd.move rfl) ?_
  refine WL.y rfl (Yd.slice (i := i) (j := n) (e := 43) (s := 6) kr_ kr_ rfl ⟨_, _, rfl, rfl⟩ rfl hi hcap) ?_
  refine WL.nil ?_
  refine DN.then_normal ?_
  refine WC.seq ?_
  refine WC.region ?_
  refine WL.y rfl (Yd.move rfl) ?_
  refine WL.y rfl (Yd.len (e := 43) kr_ rfl) ?_
  refine WL.y rfl (Yd.assign rfl) ?_
  refine WL.nil ?_
  refine DN.then_normal ?_
  refine WC.seq ?_
  refine WC.seq ?_
  refine WC.region ?_
  refine WL.y rfl (Yd.move rfl) ?_
  refine WL.y rfl (Yd.eql rfl rfl) ?_
  refine WL.renamed (t := 16) (v := .bool false) rfl (congrArg Value.bool (by simp)) ?_
  refine WL.nil ?_
  refine DN.then_normal ?_
  refine WC.no rfl ?_
  refine WC.skip ?_
  refine DN.then_normal ?_
  refine WC.seq ?_
  refine WC.region ?_
  refine WL.y rfl (Yd.move rfl) ?_
  refine WL.y rfl (Yd.len (e := 43) kr_ rfl) ?_
  refine WL.y rfl (Yd.assign rfl) ?_
  refine WL.nil ?_
  refine DN.then_normal ?_
  refine WC.seq ?_
  refine WC.seq ?_
  refine WC.region ?_
  refine WL.y rfl (Yd.move rfl) ?_
  refine WL.y rfl (Yd.move rfl) ?_
  refine WL.y rfl (Yd.eql rfl rfl) ?_
  refine WL.nil ?_
  refine DN.then_normal ?_
  refine WC.ite rfl (fun h22 => ?_) (fun h22 => ?_)
  · obtain rfl : i = n := by omega
    refine WC.seq ?_
    refine WC.region ?_
    refine WL.y rfl (Yd.move rfl) ?_
    refine WL.y rfl (Yd.move rfl) ?_
    refine WL.h rfl (Hd.appendF (e := 43) (sz := 6) (bytes := 80) (zs := [.int .u32 0, .int .i64 0, .bool false, .slice none 0 0, .int .i64 0, .slice none 0 0]) kr_ kr_ rfl (by omega) rfl rfl own sp_ (.inr ⟨rb, 0, 1, x, 43, (0, 0), true, rfl, Nat.le_refl _, mem_, by simp⟩) (by omega) hx1 (by simp only [maxLen]; omega) (by omega) fun v2 C2 h2 => ⟨_, rfl, ?_⟩)
    refine WL.y rfl (Yd.assign rfl) ?_
    refine WL.nil ?_
    refine DN.then_normal ?_
    refine WC.ret ?_
    refine DN.then_ret ?_
    refine DN.fit (C := C2) sp_ ?_
    refine DN.ret1 Try.results42 rfl ?_
    rw [List.take_of_length_le (by omega), List.drop_of_length_le (by omega), List.append_nil]
    exact h2
  · obtain ⟨b, cap', extra, e1, h2, h3, h4, h5, rfl⟩ : ∃ (b cap' : Nat) (extra : List Value), Value.slice ao n cap = .slice (some ⟨b, 0, none⟩) n cap' ∧ n ≤ cap' ∧ cap' ≤ maxLen ∧ cells.length = n * 6 ∧ extra.length = (cap' - n) * 6 ∧ C = [row b (cells ++ extra) 43] := by
      rcases own with ⟨_, h, _⟩ | h
      · omega
      · exact h
    simp only [Value.slice.injEq, true_and] at e1
    obtain ⟨rfl, rfl⟩ := e1
    simp only [maxLen] at h3
    have htl : (cells.take (i * 6)).length = i * 6 := by rw [List.length_take]; omega
    have hdl : (cells.drop (i * 6)).length = (n - i) * 6 := by rw [List.length_drop]; omega
    refine WC.skip ?_
    refine DN.then_normal ?_
    refine WC.seq ?_
    refine WC.seq ?_
    refine WC.region ?_
    refine WL.y rfl (Yd.move rfl) ?_
    refine WL.y rfl (Yd.move rfl) ?_
    refine WL.y rfl (Yd.add rfl rfl (by omega) (by omega)) ?_
    refine WL.y rfl (Yd.move rfl) ?_
    refine WL.y rfl (Yd.capS (e := 43) kr_ rfl) ?_
    refine WL.y rfl (Yd.gtr rfl rfl) ?_
    refine WL.nil ?_
    refine DN.then_normal ?_
    refine WC.ite rfl (fun h31 => ?_) (fun h31 => ?_)
    · refine WC.seq ?_
      refine WC.region ?_
      refine WL.y rfl (Yd.move rfl) ?_
      refine WL.y rfl (Yd.move rfl) ?_
      refine WL.y rfl (Yd.sliceTo (j := i) (e := 43) (s := 6) kr_ kr_ rfl rfl rfl (by omega)) ?_
      refine WL.y rfl (Yd.move rfl) ?_
      refine WL.y rfl (Yd.move rfl) ?_
      refine WL.y rfl (Yd.add rfl rfl (by omega) (by omega)) ?_
      refine WL.y rfl (Yd.move rfl) ?_
      refine WL.y rfl (Yd.sub rfl rfl (by omega) (by omega)) ?_
      refine WL.h rfl (Hd.appendZ (i := i) (k := n + 1 - i) (olds := cells.take (i * 6)) (e := 43) (sz := 6) (bytes := 80) (zs := [.int .u32 0, .int .i64 0, .bool false, .slice none 0 0, .int .i64 0, .slice none 0 0]) kr_ Try.underlying3 kr_ rfl (by omega) rfl (by exact congrArg (fun q => some (Value.int .i64 q)) (by omega)) ((own.rs.upto hcl hi).mono gr_) htl (by omega) (by omega) (by simp only [maxLen]; omega) (by omega) fun b2 c2 ex2 g1 g2 g3 => ⟨_, rfl, ?_⟩)
      refine WL.y rfl (Yd.assign rfl) ?_
      refine WL.nil ?_
      refine DN.then_normal ?_
      refine WC.seq ?_
      refine WC.region ?_
      refine WL.y rfl (Yd.move rfl) ?_
      refine WL.y rfl (Yd.move rfl) ?_
      refine WL.y rfl (Yd.slFrom (i := i) (e := 43) (s := 6) kr_ kr_ rfl rfl (by omega) (by omega) (by omega) (by omega)) ?_
      refine WL.y rfl (Yd.move rfl) ?_
      refine WL.h rfl (Hd.copyR (cells' := cells.take (i * 6) ++ (x ++ ex2.drop x.length)) (q := 1) (e := 43) (sz := 6) (bytes := 80) (zs := [.int .u32 0, .int .i64 0, .bool false, .slice none 0 0, .int .i64 0, .slice none 0 0]) kr_ kr_ rfl rfl fr_ (.inr ⟨rb, 0, 1, x, 43, (0, 0), true, rfl, Nat.le_refl _, mem_, by simp⟩) (by show min _ _ = _; omega) (by omega) hx1 (by rw [List.length_append]; omega) (ins_a _ _ _ _ htl) ⟨_, rfl, ?_⟩)
      refine WL.nil ?_
      refine DN.then_normal ?_
      refine WC.seq ?_
      refine WC.draw 9 kr_ rfl ?_
      refine WA.y (i := 0) (NoPanic.then (NoPanic.then (NoPanic.body))) rfl kr_ kr_ kr_ rfl (Yd.move rfl) ?_
      refine WA.y (i := 1) (NoPanic.then (NoPanic.then (NoPanic.body))) rfl kr_ kr_ kr_ rfl (Yd.move rfl) ?_
      refine WA.y (i := 2) (NoPanic.then (NoPanic.then (NoPanic.body))) rfl kr_ kr_ kr_ rfl (Yd.move rfl) ?_
      refine WA.y (i := 3) (NoPanic.then (NoPanic.then (NoPanic.body))) rfl kr_ kr_ kr_ rfl (Yd.add rfl rfl (by omega) (by omega)) ?_
      refine WA.y (i := 4) (NoPanic.then (NoPanic.then (NoPanic.body))) rfl kr_ kr_ kr_ rfl (Yd.slFrom (i := i + 1) (e := 43) (s := 6) kr_ kr_ rfl rfl (by omega) (by omega) (by omega) (by omega)) ?_
      refine WA.y (i := 5) (NoPanic.then (NoPanic.then (NoPanic.body))) rfl kr_ kr_ kr_ rfl (Yd.move rfl) ?_
      refine WA.y (i := 6) (NoPanic.then (NoPanic.then (NoPanic.body))) rfl kr_ kr_ kr_ rfl (Yd.move rfl) ?_
      refine WA.y (i := 7) (NoPanic.then (NoPanic.then (NoPanic.body))) rfl kr_ kr_ kr_ rfl (Yd.slFrom (i := i) (e := 43) (s := 6) kr_ kr_ rfl rfl (by omega) (by omega) (by omega) (by omega)) ?_
      refine WA.one (i := 8) kr_ ?_
      refine WO.h rfl Wt.none rfl (Hd.copyR (cells' := cells.take (i * 6) ++ (x ++ (cells.drop (i * 6) ++ (ex2.drop x.length).drop (cells.drop (i * 6)).length))) (q := n - i) (news := cells.drop (i * 6)) (e := 43) (sz := 6) (bytes := 80) (zs := [.int .u32 0, .int .i64 0, .bool false, .slice none 0 0, .int .i64 0, .slice none 0 0]) kr_ kr_ rfl rfl fr_ (.inr ⟨b, i * 6, cap - i, cells ++ extra, 43, (0, 0), true, rfl, by omega, mem_, by
          rw [List.drop_append_of_le_length (by omega), List.take_append_of_le_length (by omega), List.take_of_length_le (by omega)]⟩) (by show min _ _ = _; omega) hdl (fun u hu => h1 u (List.mem_of_mem_drop hu)) (by simp only [List.length_append, List.length_drop]; omega) (ins_b _ _ _ _ _ (by omega)) ⟨_, rfl, ?_⟩)
      refine WA.done kr_ ?_
      refine DN.then_normal ?_
      refine WC.seq ?_
      refine WC.region ?_
      refine WL.y rfl (Yd.move rfl) ?_
      refine WL.y rfl (Yd.assign rfl) ?_
      refine WL.nil ?_
      refine DN.then_normal ?_
      refine WC.ret ?_
      refine DN.then_ret ?_
      refine DN.fit (C := [row b2 (cells.take (i * 6) ++ (x ++ (cells.drop (i * 6) ++ (ex2.drop x.length).drop (cells.drop (i * 6)).length))) 43]) sp_ ?_
      refine DN.ret1 Try.results42 rfl ?_
      exact .inr ⟨b2, c2, (ex2.drop x.length).drop (cells.drop (i * 6)).length, by rw [show i + (n + 1 - i) = n + 1 by omega], by omega, g2, by simp only [List.length_append]; omega, by simp only [List.length_drop]; omega, by simp only [List.append_assoc]⟩
    · refine WC.skip ?_
      refine DN.then_normal ?_
      refine WC.seq ?_
      refine WC.region ?_
      refine WL.y rfl (Yd.move rfl) ?_
      refine WL.y rfl (Yd.move rfl) ?_
      refine WL.y rfl (Yd.move rfl) ?_
      refine WL.y rfl (Yd.add rfl rfl (by omega) (by omega)) ?_
      refine WL.y rfl (Yd.sliceTo (j := n + 1) (e := 43) (s := 6) kr_ kr_ rfl rfl (by omega) (by omega)) ?_
      refine WL.y rfl (Yd.assign rfl) ?_
      refine WL.nil ?_
      refine DN.then_normal ?_
      refine WC.seq ?_
      refine WC.seq ?_
      refine WC.region ?_
      refine WL.y rfl (Yd.move rfl) ?_
      refine WL.y rfl (Yd.move rfl) ?_
      refine WL.y rfl (Yd.move rfl) ?_
      refine WL.y rfl (Yd.move rfl) ?_
      refine WL.y rfl (Yd.add rfl rfl (by omega) (by omega)) ?_
      refine WL.y rfl (Yd.slFrom (i := i + 1) (e := 43) (s := 6) kr_ kr_ rfl rfl (by omega) (by omega) (by omega) (by omega)) ?_
      refine WL.h rfl (Hd.overF (tS := 23) (tR := 4) (e := 43) (sz := 6) Try.func64 kr_ kr_ kr_ kr_ kr_ kr_ rfl rfl fr_ fr_ (by intro h0; have := congrArg List.length h0; rw [List.length_append, List.length_nil] at this; omega) ⟨_, rfl, ?_⟩)
      refine WL.y rfl (Yd.notB rfl) ?_
      refine WL.renamed (t := 68) (v := .bool true) rfl (congrArg Value.bool (by rfl)) ?_
      refine WL.nil ?_
      refine DN.then_normal ?_
      refine WC.yes rfl ?_
      refine WC.seq ?_
      refine WC.draw 9 kr_ rfl ?_
      refine WA.y (i := 0) (NoPanic.then (NoPanic.then (NoPanic.body))) rfl kr_ kr_ kr_ rfl (Yd.move rfl) ?_
      refine WA.y (i := 1) (NoPanic.then (NoPanic.then (NoPanic.body))) rfl kr_ kr_ kr_ rfl (Yd.move rfl) ?_
      refine WA.y (i := 2) (NoPanic.then (NoPanic.then (NoPanic.body))) rfl kr_ kr_ kr_ rfl (Yd.move rfl) ?_
      refine WA.y (i := 3) (NoPanic.then (NoPanic.then (NoPanic.body))) rfl kr_ kr_ kr_ rfl (Yd.add rfl rfl (by omega) (by omega)) ?_
      refine WA.y (i := 4) (NoPanic.then (NoPanic.then (NoPanic.body))) rfl kr_ kr_ kr_ rfl (Yd.slFrom (i := i + 1) (e := 43) (s := 6) kr_ kr_ rfl rfl (by omega) (by omega) (by omega) (by omega)) ?_
      refine WA.y (i := 5) (NoPanic.then (NoPanic.then (NoPanic.body))) rfl kr_ kr_ kr_ rfl (Yd.move rfl) ?_
      refine WA.y (i := 6) (NoPanic.then (NoPanic.then (NoPanic.body))) rfl kr_ kr_ kr_ rfl (Yd.move rfl) ?_
      refine WA.y (i := 7) (NoPanic.then (NoPanic.then (NoPanic.body))) rfl kr_ kr_ kr_ rfl (Yd.slFrom (i := i) (e := 43) (s := 6) kr_ kr_ rfl rfl (by omega) (by omega) (by omega) (by omega)) ?_
      refine WA.one (i := 8) kr_ ?_
      refine WO.h rfl Wt.none rfl (Hd.copyR (q := n - i) (news := cells.drop (i * 6)) (e := 43) (sz := 6) (bytes := 80) (zs := [.int .u32 0, .int .i64 0, .bool false, .slice none 0 0, .int .i64 0, .slice none 0 0]) kr_ kr_ rfl rfl fr_ (.inr ⟨b, i * 6, cap - i, cells ++ extra, 43, (0, 0), true, rfl, by omega, mem_, by
          rw [List.drop_append_of_le_length (by omega), List.take_append_of_le_length (by omega), List.take_of_length_le (by omega)]⟩) (by show min _ _ = _; omega) hdl (fun u hu => h1 u (List.mem_of_mem_drop hu)) (by simp only [List.length_append, List.length_drop]; omega) rfl ⟨_, rfl, ?_⟩)
      refine WA.done kr_ ?_
      refine DN.then_normal ?_
      refine WC.seq ?_
      refine WC.region ?_
      refine WL.y rfl (Yd.move rfl) ?_
      refine WL.y rfl (Yd.move rfl) ?_
      refine WL.y rfl (Yd.slFrom (i := i) (e := 43) (s := 6) kr_ kr_ rfl rfl (by omega) (by omega) (by omega) (by omega)) ?_
      refine WL.y rfl (Yd.move rfl) ?_
      have hfit := show i * 6 + x.length ≤ (List.take ((i + 1) * 6) (cells ++ extra) ++ (List.drop (i * 6) cells ++ List.drop ((i + 1) * 6 + (List.drop (i * 6) cells).length) (cells ++ extra))).length by
        rw [List.length_append, List.length_take, List.length_append, hcl, h5]; omega
      have hE : (i + 1) * 6 + (cells.drop (i * 6)).length ≤ (cells.take (i * 6)).length + ((cells.drop (i * 6)).length + extra.length) := by
        rw [htl, hdl, h5]; omega
      have ho : i * 6 + x.length = (i + 1) * 6 := by rw [hx]; omega
      have hcp := ins_c (cells.take (i * 6)) x extra (cells.drop (i * 6)) (i * 6) ((i + 1) * 6) htl ho hE
      rw [← List.append_assoc (cells.take (i * 6)) (cells.drop (i * 6)) extra, List.take_append_drop] at hcp
      refine WL.h rfl (Hd.copyR (cells' := cells.take (i * 6) ++ (x ++ (cells.drop (i * 6) ++ extra.drop x.length))) (q := 1) (e := 43) (sz := 6) (bytes := 80) (zs := [.int .u32 0, .int .i64 0, .bool false, .slice none 0 0, .int .i64 0, .slice none 0 0]) kr_ kr_ rfl rfl fr_ (.inr ⟨rb, 0, 1, x, 43, (0, 0), true, rfl, Nat.le_refl _, mem_, by simp⟩) (by show min _ _ = _; omega) (by omega) hx1 hfit hcp ⟨_, rfl, ?_⟩)
      refine WL.nil ?_
      refine DN.then_normal ?_
      refine WC.seq ?_
      refine WC.region ?_
      refine WL.y rfl (Yd.move rfl) ?_
      refine WL.y rfl (Yd.assign rfl) ?_
      refine WL.nil ?_
      refine DN.then_normal ?_
      refine WC.ret ?_
      refine DN.then_ret ?_
      refine DN.fit (C := [row b (cells.take (i * 6) ++ (x ++ (cells.drop (i * 6) ++ extra.drop x.length))) 43]) sp_ ?_
      refine DN.ret1 Try.results42 rfl ?_
      exact .inr ⟨b, cap, extra.drop x.length, rfl, by omega, by simp only [maxLen]; omega, by simp only [List.length_append]; omega, by simp only [List.length_drop]; omega, by simp only [List.append_assoc]⟩

end Go.Proofs.Ytonnkgblligdkaa
