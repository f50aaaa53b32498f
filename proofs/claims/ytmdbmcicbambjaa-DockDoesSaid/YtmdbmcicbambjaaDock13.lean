/-
  The walks of the chapter's own dock made, and of DockDoes.
-/
import Derived.Test.YtmdbmcicbambjaaDock12
set_option linter.unusedVariables false
set_option linter.unusedSimpArgs false
set_option maxHeartbeats 4000000
namespace Go.Proofs.Ytmdbmcicbambjaa
open Go.SL


/-- drayage/drayageref11.New -/
theorem rnew_tells (v : Value) (rs : List Int) (H : List Ck) (hv : Rs v rs.length (ic rs) H) (hl : rs.length ≤ 9223372036854775807) : Tells Try.prog 16 [v] H fun r H' => if (rs.findIdx? badRoom).isSome = false ∧ rs.length ≤ 60 then ∃ p C, r = .tuple #[.pointer (some ⟨p, 0, none⟩), .int .i64 0] ∧ RfAt 58 3 47 p rs [] C ∧ H' = C ++ H else r = .tuple #[.pointer none, .int .i64 2] ∧ H' = H := by
  refine Tells.enter Try.func16 rfl Try.ntmps16 rfl ?_
  intro w0 R
  obtain ⟨vo, vc, rfl, hvc⟩ := hv.form
  refine WC.seq ?_
  refine WC.region ?_
  refine WL.y rfl (Yd.assign rfl) ?_
  refine WL.y rfl (Yd.assign rfl) ?_
  refine WL.nil ?_
  refine DN.then_normal ?_
  refine WC.seq ?_
  refine WC.seq ?_
  refine WC.region ?_
  refine WL.y rfl (Yd.move rfl) ?_
  refine WL.y rfl (Yd.len (e := 3) (by kernel_rfl) rfl) ?_
  refine WL.y rfl (Yd.gtr rfl rfl) ?_
  refine WL.nil ?_
  refine DN.then_normal ?_
  refine WC.ite rfl (fun h8 => ?_) (fun h8 => ?_)
  · refine WC.seq ?_
    refine WC.region ?_
    refine WL.y rfl (Yd.assign rfl) ?_
    refine WL.y rfl (Yd.assign rfl) ?_
    refine WL.nil ?_
    refine DN.then_normal ?_
    refine WC.ret ?_
    refine DN.then_ret ?_
    first | refine DN.fit (C := row b10 [.slice wo rs.length wc, .slice none 0 0] 58 :: (C1 ++ H)) (by repeat (first | exact Sp.here | exact Sp.sn | exact Sp.s0 | exact Fr.here | apply Sp.s2 | apply Sp.sx | apply Fr.fc | apply Fr.al | apply Fr.fa | apply Sp.sc | apply Sp.al | apply Sp.sa)) ?_ | refine DN.fit (C := H) (by repeat (first | exact Sp.here | exact Sp.sn | exact Sp.s0 | exact Fr.here | apply Sp.s2 | apply Sp.sx | apply Fr.fc | apply Fr.al | apply Fr.fa | apply Sp.sc | apply Sp.al | apply Sp.sa)) ?_
    refine DN.ret2 Try.results16 rfl rfl ?_
    first
      | (rw [if_neg (by omega)]
         exact ⟨rfl, rfl⟩)
      | (have hbad : badRoom (rs.getD i 0) = true := by unfold badRoom; rw [Bool.or_eq_true, decide_eq_true_eq, decide_eq_true_eq]; omega
         rw [if_neg (by rw [findIdx_yes rs i hlt hbad hno]; simp)]
         exact ⟨rfl, rfl⟩)
      | (rw [if_pos ⟨by rw [findIdx_no rs hno]; rfl, by omega⟩]
         exact ⟨_, row b10 [.slice wo rs.length wc, .slice none 0 0] 58 :: (C1 ++ []), rfl, ⟨_, _, C1, [], rfl, ho, Own.nil _ _⟩, by simp⟩)
  · refine WC.skip ?_
    refine DN.then_normal ?_
    refine WC.seq ?_
    refine WC.region ?_
    refine WL.y rfl (Yd.buildL (pl := [(0, 1), (1, 1)]) (zs := [.slice none 0 0, .slice none 0 0]) (parts := []) (vs := []) (cells := [.slice none 0 0, .slice none 0 0]) (by kernel_rfl) (by kernel_rfl) rfl rfl) ?_
    refine WL.h rfl (Hd.boxA rfl fun b10 => ⟨_, rfl, ?_⟩)
    refine WL.y rfl (Yd.assign rfl) ?_
    refine WL.nil ?_
    refine DN.then_normal ?_
    refine WC.seq ?_
    refine WC.seq ?_
    refine WC.region ?_
    refine WL.y rfl (Yd.assign rfl) ?_
    refine WL.nil ?_
    refine DN.then_normal ?_
    refine WC.block ?_
    refine WC.loopS (fun z : Nat × Value × List Ck => z.1 ≤ rs.length ∧ (∀ j, j < z.1 → badRoom (rs.getD j 0) = false) ∧ Own z.2.1 z.1 (ic (rs.take z.1)) 3 1 z.2.2) (fun z : Nat × Value × List Ck => [(5, .int .i64 (z.1 : Int))]) (fun z : Nat × Value × List Ck => row b10 [z.2.1, .slice none 0 0] 58 :: (z.2.2 ++ H)) (fun z : Nat × Value × List Ck => rs.length - z.1) (⟨0, .slice none 0 0, []⟩) (show 0 ≤ rs.length ∧ (∀ j, j < 0 → badRoom (rs.getD j 0) = false) ∧ Own (.slice none 0 0) 0 (ic (rs.take 0)) 3 1 [] from ⟨Nat.zero_le _, fun j h => by omega, by simpa [ic] using Own.nil 3 1⟩) (Sx.put rfl ((by repeat (first | exact Sx.refl | refine Sx.skip rfl ?_)))) (by repeat (first | exact Sp.here | exact Sp.sn | exact Sp.s0 | exact Fr.here | apply Sp.s2 | apply Sp.sx | apply Fr.fc | apply Fr.al | apply Fr.fa | apply Sp.sc | apply Sp.al | apply Sp.sa)) ?_
    rintro ⟨i, w, C1⟩ hI
    replace hI : i ≤ rs.length ∧ (∀ j, j < i → badRoom (rs.getD j 0) = false) ∧ Own w i (ic (rs.take i)) 3 1 C1 := hI
    obtain ⟨hi, hno, ho⟩ := hI
    change WC _ _ _ _ _ _ ([(5, .int .i64 (i : Int))] ++ _) (row b10 [w, .slice none 0 0] 58 :: (C1 ++ H))
    obtain ⟨wo, wc, rfl, hwc⟩ := ho.form
    refine WC.seq ?_
    refine WC.seq ?_
    refine WC.region ?_
    refine WL.y rfl (Yd.move rfl) ?_
    refine WL.y rfl (Yd.move rfl) ?_
    refine WL.y rfl (Yd.len (e := 3) (by kernel_rfl) rfl) ?_
    refine WL.y rfl (Yd.lss rfl rfl) ?_
    refine WL.nil ?_
    refine DN.then_normal ?_
    refine WC.ite rfl (fun h14 => ?_) (fun h14 => ?_)
    · have hlt : i < rs.length := by omega
      refine WC.skip ?_
      refine DN.then_normal ?_
      refine WC.seq ?_
      refine WC.block ?_
      refine WC.seq ?_
      refine WC.seq ?_
      refine WC.region ?_
      refine WL.y rfl (Yd.move rfl) ?_
      refine WL.y rfl (Yd.move rfl) ?_
      refine WL.elem (e := 3) (by kernel_rfl) (by kernel_rfl) (by kernel_rfl) rfl rfl (rfl) (hv.mono (by repeat (first | exact Gr.refl | exact Gr.left Gr.refl | exact Gr.nil | exact Gr.app (Gr.left Gr.refl) | refine Gr.cons ?_ | refine Gr.app ?_ | refine Gr.both ?_ ?_ | refine Gr.put (by repeat (first | exact List.mem_cons_self | apply List.mem_cons_of_mem | apply List.mem_append_right)) ?_))) (ic_getD hlt) (hlt) rfl rfl ?_
      intro _
      refine WL.y rfl (Yd.lss rfl rfl) ?_
      refine WL.y rfl (Yd.move rfl) ?_
      refine WL.partP (t := 22) rfl (fun hg22 => ?_) (fun hg22 => ?_)
      · refine WL.gn (dj := 22) rfl rfl rfl rfl ?_
        refine WL.gn (dj := 22) rfl rfl rfl rfl ?_
        refine WL.gn (dj := 22) rfl rfl rfl rfl ?_
        refine WL.gn (dj := 22) rfl rfl rfl rfl ?_
        refine WL.gn (dj := 22) rfl rfl rfl rfl ?_
        refine WL.y rfl (Yd.pickT rfl rfl) ?_
        refine WL.nil ?_
        refine DN.then_normal ?_
        refine WC.yes rfl ?_
        refine WC.seq ?_
        refine WC.region ?_
        refine WL.y rfl (Yd.assign rfl) ?_
        refine WL.y rfl (Yd.assign rfl) ?_
        refine WL.nil ?_
        refine DN.then_normal ?_
        refine WC.ret ?_
        refine DN.then_ret ?_
        refine DN.block_ret ?_
        refine DN.then_ret ?_
        refine DN.then_ret ?_
        refine DN.block_ret ?_
        refine DN.then_ret ?_
        first | refine DN.fit (C := row b10 [.slice wo rs.length wc, .slice none 0 0] 58 :: (C1 ++ H)) (by repeat (first | exact Sp.here | exact Sp.sn | exact Sp.s0 | exact Fr.here | apply Sp.s2 | apply Sp.sx | apply Fr.fc | apply Fr.al | apply Fr.fa | apply Sp.sc | apply Sp.al | apply Sp.sa)) ?_ | refine DN.fit (C := H) (by repeat (first | exact Sp.here | exact Sp.sn | exact Sp.s0 | exact Fr.here | apply Sp.s2 | apply Sp.sx | apply Fr.fc | apply Fr.al | apply Fr.fa | apply Sp.sc | apply Sp.al | apply Sp.sa)) ?_
        refine DN.ret2 Try.results16 rfl rfl ?_
        first
          | (rw [if_neg (by omega)]
             exact ⟨rfl, rfl⟩)
          | (have hbad : badRoom (rs.getD i 0) = true := by unfold badRoom; rw [Bool.or_eq_true, decide_eq_true_eq, decide_eq_true_eq]; omega
             rw [if_neg (by rw [findIdx_yes rs i hlt hbad hno]; simp)]
             exact ⟨rfl, rfl⟩)
          | (rw [if_pos ⟨by rw [findIdx_no rs hno]; rfl, by omega⟩]
             exact ⟨_, row b10 [.slice wo rs.length wc, .slice none 0 0] 58 :: (C1 ++ []), rfl, ⟨_, _, C1, [], rfl, ho, Own.nil _ _⟩, by simp⟩)
      · refine WL.gy (dj := 22) rfl rfl rfl (Yd.move rfl) ?_
        refine WL.gy (dj := 22) rfl rfl rfl (Yd.move rfl) ?_
        refine WL.elemN (e := 3) (dj := 22) (by kernel_rfl) (by kernel_rfl) (by kernel_rfl) rfl rfl (rfl) (hv.mono (by repeat (first | exact Gr.refl | exact Gr.left Gr.refl | exact Gr.nil | exact Gr.app (Gr.left Gr.refl) | refine Gr.cons ?_ | refine Gr.app ?_ | refine Gr.both ?_ ?_ | refine Gr.put (by repeat (first | exact List.mem_cons_self | apply List.mem_cons_of_mem | apply List.mem_append_right)) ?_))) (ic_getD hlt) (hlt) rfl rfl rfl rfl rfl ?_
        intro _
        refine WL.gy (dj := 22) rfl rfl rfl (Yd.gtr rfl rfl) ?_
        refine WL.y rfl (Yd.pickF rfl rfl) ?_
        refine WL.nil ?_
        refine DN.then_normal ?_
        refine WC.ite rfl (fun h28 => ?_) (fun h28 => ?_)
        · refine WC.seq ?_
          refine WC.region ?_
          refine WL.y rfl (Yd.assign rfl) ?_
          refine WL.y rfl (Yd.assign rfl) ?_
          refine WL.nil ?_
          refine DN.then_normal ?_
          refine WC.ret ?_
          refine DN.then_ret ?_
          refine DN.block_ret ?_
          refine DN.then_ret ?_
          refine DN.then_ret ?_
          refine DN.block_ret ?_
          refine DN.then_ret ?_
          first | refine DN.fit (C := row b10 [.slice wo rs.length wc, .slice none 0 0] 58 :: (C1 ++ H)) (by repeat (first | exact Sp.here | exact Sp.sn | exact Sp.s0 | exact Fr.here | apply Sp.s2 | apply Sp.sx | apply Fr.fc | apply Fr.al | apply Fr.fa | apply Sp.sc | apply Sp.al | apply Sp.sa)) ?_ | refine DN.fit (C := H) (by repeat (first | exact Sp.here | exact Sp.sn | exact Sp.s0 | exact Fr.here | apply Sp.s2 | apply Sp.sx | apply Fr.fc | apply Fr.al | apply Fr.fa | apply Sp.sc | apply Sp.al | apply Sp.sa)) ?_
          refine DN.ret2 Try.results16 rfl rfl ?_
          first
            | (rw [if_neg (by omega)]
               exact ⟨rfl, rfl⟩)
            | (have hbad : badRoom (rs.getD i 0) = true := by unfold badRoom; rw [Bool.or_eq_true, decide_eq_true_eq, decide_eq_true_eq]; omega
               rw [if_neg (by rw [findIdx_yes rs i hlt hbad hno]; simp)]
               exact ⟨rfl, rfl⟩)
            | (rw [if_pos ⟨by rw [findIdx_no rs hno]; rfl, by omega⟩]
               exact ⟨_, row b10 [.slice wo rs.length wc, .slice none 0 0] 58 :: (C1 ++ []), rfl, ⟨_, _, C1, [], rfl, ho, Own.nil _ _⟩, by simp⟩)
        · obtain ⟨vb, vf, vcs, vT, vfr, vex, evo, _, hvm, hvcs⟩ := hv.lies (by omega)
          refine WC.skip ?_
          refine DN.then_normal ?_
          refine WC.draw 14 (by kernel_rfl) rfl ?_
          refine WA.y (i := 0) (NoPanic.block (NoPanic.then (NoPanic.then (NoPanic.block (NoPanic.then (NoPanic.body)))))) rfl (by kernel_rfl) (by kernel_rfl) (by kernel_rfl) rfl (Yd.move rfl) ?_
          refine WA.y (i := 1) (NoPanic.block (NoPanic.then (NoPanic.then (NoPanic.block (NoPanic.then (NoPanic.body)))))) rfl (by kernel_rfl) (by kernel_rfl) (by kernel_rfl) rfl (Yd.move rfl) ?_
          refine WA.y (i := 2) (NoPanic.block (NoPanic.then (NoPanic.then (NoPanic.block (NoPanic.then (NoPanic.body)))))) rfl (by kernel_rfl) (by kernel_rfl) (by kernel_rfl) rfl (Yd.notNil rfl) ?_
          refine WA.y (i := 3) (NoPanic.block (NoPanic.then (NoPanic.then (NoPanic.block (NoPanic.then (NoPanic.body)))))) rfl (by kernel_rfl) (by kernel_rfl) (by kernel_rfl) rfl (Yd.fieldAddr (k := 0) (by kernel_rfl) rfl) ?_
          refine WA.y (i := 5) (NoPanic.block (NoPanic.then (NoPanic.then (NoPanic.block (NoPanic.then (NoPanic.body)))))) rfl (by kernel_rfl) (by kernel_rfl) (by kernel_rfl) rfl (Yd.move rfl) ?_
          refine WA.y (i := 6) (NoPanic.block (NoPanic.then (NoPanic.then (NoPanic.block (NoPanic.then (NoPanic.body)))))) rfl (by kernel_rfl) (by kernel_rfl) (by kernel_rfl) rfl (Yd.move rfl) ?_
          refine WA.y (i := 7) (NoPanic.block (NoPanic.then (NoPanic.then (NoPanic.block (NoPanic.then (NoPanic.body)))))) rfl (by kernel_rfl) (by kernel_rfl) (by kernel_rfl) rfl (Yd.indexAddr (e := 3) (s := 1) (b := vb) (o := vf) (n := rs.length) (c := vc) (by kernel_rfl) (by kernel_rfl) (congrArg (fun q => some (Value.slice q rs.length vc)) evo) rfl (by omega) (by omega)) ?_
          refine WA.two (i := 4) (j := 8) (by kernel_rfl) ?_ ?_
          · refine WO.h rfl Wt.none rfl (Hd.load1 (by kernel_rfl) rfl (by repeat (first | exact List.mem_cons_self | apply List.mem_cons_of_mem | apply List.mem_append_right)) (by rfl) ⟨_, rfl, ?_⟩)
            refine WA.one (i := 8) (by kernel_rfl) ?_
            refine WO.h rfl Wt.none rfl (Hd.load1 (v := .int .i64 (rs.getD i 0)) (b := vb) (o := vf + (i : Int).toNat * 1) (cs := vcs) (by kernel_rfl) rfl (Gr.get (by repeat (first | exact Gr.refl | exact Gr.left Gr.refl | exact Gr.nil | exact Gr.app (Gr.left Gr.refl) | refine Gr.cons ?_ | refine Gr.app ?_ | refine Gr.both ?_ ?_ | refine Gr.put (by repeat (first | exact List.mem_cons_self | apply List.mem_cons_of_mem | apply List.mem_append_right)) ?_)) hvm) (rs_cell1 hvcs (ic_getD hlt)) ⟨_, rfl, ?_⟩)
            refine WA.one (i := 9) (by kernel_rfl) ?_
            refine WO.h rfl Wt.none rfl (Hd.build1 (e := 3) (z := .int .i64 0) (by kernel_rfl) (by kernel_rfl) (by kernel_rfl) rfl (by rfl) fun b38 => ⟨_, rfl, ?_⟩)
            refine WA.one (i := 10) (by kernel_rfl) ?_
            refine WO.h rfl Wt.none rfl (Hd.appendRow (e := 3) (sz := 1) (bytes := 8) (zs := [.int .i64 0]) (by kernel_rfl) (by kernel_rfl) rfl (by omega) rfl rfl (ho) (by repeat (first | exact Sp.here | exact Sp.sn | exact Sp.s0 | exact Fr.here | apply Sp.s2 | apply Sp.sx | apply Fr.fc | apply Fr.al | apply Fr.fa | apply Sp.sc | apply Sp.al | apply Sp.sa)) (by repeat (first | exact List.mem_cons_self | apply List.mem_cons_of_mem | apply List.mem_append_right)) (by rfl) (by repeat (first | exact fun _ h => absurd h List.not_mem_nil | refine List.forall_mem_cons.2 ⟨by first | rfl | assumption, ?_⟩)) (by simp only [maxLen]; omega) (by omega) fun v2 C2 h2 => ⟨_, rfl, ?_⟩)
            obtain ⟨zo, zc, rfl, _⟩ := h2.form
            refine WA.y (i := 11) (NoPanic.block (NoPanic.then (NoPanic.then (NoPanic.block (NoPanic.then (NoPanic.body)))))) rfl (by kernel_rfl) (by kernel_rfl) (by kernel_rfl) rfl (Yd.notNil rfl) ?_
            refine WA.y (i := 12) (NoPanic.block (NoPanic.then (NoPanic.then (NoPanic.block (NoPanic.then (NoPanic.body)))))) rfl (by kernel_rfl) (by kernel_rfl) (by kernel_rfl) rfl (Yd.fieldAddr (k := 0) (by kernel_rfl) rfl) ?_
            refine WA.one (i := 13) (by kernel_rfl) ?_
            refine WO.s rfl Wt.none (Hd.store1s (by kernel_rfl) rfl rfl (by rfl) (by repeat (first | exact Fr.here | apply Fr.fc | apply Fr.al | apply Fr.fa)) (by rfl) (by first | (simp only [List.set_cons_zero, List.set_cons_succ, Nat.zero_add, Nat.add_zero, Nat.reduceAdd]; rfl) | rfl) ⟨rfl, ?_⟩)
            refine WA.done (by kernel_rfl) ?_
            refine DN.block_normal ?_
            refine DN.then_normal ?_
            refine WC.region ?_
            refine WL.y rfl (Yd.move rfl) ?_
            refine WL.y rfl (Yd.add rfl rfl (by omega) (by omega)) ?_
            refine WL.y rfl (Yd.assign rfl) ?_
            refine WL.nil ?_
            exact DN.againS (⟨i + 1, .slice zo (i + 1) zc, C2⟩) (show (i + 1) ≤ rs.length ∧ (∀ j, j < (i + 1) → badRoom (rs.getD j 0) = false) ∧ Own (.slice zo (i + 1) zc) (i + 1) (ic (rs.take (i + 1))) 3 1 C2 from ⟨by omega, fun j hj => by by_cases e : j = i; (subst e; unfold badRoom; rw [Bool.or_eq_false_iff, decide_eq_false_iff_not, decide_eq_false_iff_not]; omega); exact hno j (by omega), by rw [List.take_succ_eq_append_getElem hlt, ic_append]; have e2 : rs.getD i 0 = rs[i] := (by simp [List.getD, hlt]); first | exact h2 | (rw [← e2]; exact h2)⟩) (show rs.length - (i + 1) < rs.length - i by omega) (Sx.put rfl ((by repeat (first | exact Sx.refl | refine Sx.skip rfl ?_)))) (by repeat (first | exact Sp.here | exact Sp.sn | exact Sp.s0 | exact Fr.here | apply Sp.s2 | apply Sp.sx | apply Fr.fc | apply Fr.al | apply Fr.fa | apply Sp.sc | apply Sp.al | apply Sp.sa))
          · refine WO.h rfl Wt.none rfl (Hd.load1 (v := .int .i64 (rs.getD i 0)) (b := vb) (o := vf + (i : Int).toNat * 1) (cs := vcs) (by kernel_rfl) rfl (Gr.get (by repeat (first | exact Gr.refl | exact Gr.left Gr.refl | exact Gr.nil | exact Gr.app (Gr.left Gr.refl) | refine Gr.cons ?_ | refine Gr.app ?_ | refine Gr.both ?_ ?_ | refine Gr.put (by repeat (first | exact List.mem_cons_self | apply List.mem_cons_of_mem | apply List.mem_append_right)) ?_)) hvm) (rs_cell1 hvcs (ic_getD hlt)) ⟨_, rfl, ?_⟩)
            refine WA.two (i := 4) (j := 9) (by kernel_rfl) ?_ ?_
            · refine WO.h rfl Wt.none rfl (Hd.load1 (by kernel_rfl) rfl (by repeat (first | exact List.mem_cons_self | apply List.mem_cons_of_mem | apply List.mem_append_right)) (by rfl) ⟨_, rfl, ?_⟩)
              refine WA.one (i := 9) (by kernel_rfl) ?_
              refine WO.h rfl Wt.none rfl (Hd.build1 (e := 3) (z := .int .i64 0) (by kernel_rfl) (by kernel_rfl) (by kernel_rfl) rfl (by rfl) fun b38 => ⟨_, rfl, ?_⟩)
              refine WA.one (i := 10) (by kernel_rfl) ?_
              refine WO.h rfl Wt.none rfl (Hd.appendRow (e := 3) (sz := 1) (bytes := 8) (zs := [.int .i64 0]) (by kernel_rfl) (by kernel_rfl) rfl (by omega) rfl rfl (ho) (by repeat (first | exact Sp.here | exact Sp.sn | exact Sp.s0 | exact Fr.here | apply Sp.s2 | apply Sp.sx | apply Fr.fc | apply Fr.al | apply Fr.fa | apply Sp.sc | apply Sp.al | apply Sp.sa)) (by repeat (first | exact List.mem_cons_self | apply List.mem_cons_of_mem | apply List.mem_append_right)) (by rfl) (by repeat (first | exact fun _ h => absurd h List.not_mem_nil | refine List.forall_mem_cons.2 ⟨by first | rfl | assumption, ?_⟩)) (by simp only [maxLen]; omega) (by omega) fun v2 C2 h2 => ⟨_, rfl, ?_⟩)
              obtain ⟨zo, zc, rfl, _⟩ := h2.form
              refine WA.y (i := 11) (NoPanic.block (NoPanic.then (NoPanic.then (NoPanic.block (NoPanic.then (NoPanic.body)))))) rfl (by kernel_rfl) (by kernel_rfl) (by kernel_rfl) rfl (Yd.notNil rfl) ?_
              refine WA.y (i := 12) (NoPanic.block (NoPanic.then (NoPanic.then (NoPanic.block (NoPanic.then (NoPanic.body)))))) rfl (by kernel_rfl) (by kernel_rfl) (by kernel_rfl) rfl (Yd.fieldAddr (k := 0) (by kernel_rfl) rfl) ?_
              refine WA.one (i := 13) (by kernel_rfl) ?_
              refine WO.s rfl Wt.none (Hd.store1s (by kernel_rfl) rfl rfl (by rfl) (by repeat (first | exact Fr.here | apply Fr.fc | apply Fr.al | apply Fr.fa)) (by rfl) (by first | (simp only [List.set_cons_zero, List.set_cons_succ, Nat.zero_add, Nat.add_zero, Nat.reduceAdd]; rfl) | rfl) ⟨rfl, ?_⟩)
              refine WA.done (by kernel_rfl) ?_
              refine DN.block_normal ?_
              refine DN.then_normal ?_
              refine WC.region ?_
              refine WL.y rfl (Yd.move rfl) ?_
              refine WL.y rfl (Yd.add rfl rfl (by omega) (by omega)) ?_
              refine WL.y rfl (Yd.assign rfl) ?_
              refine WL.nil ?_
              exact DN.againS (⟨i + 1, .slice zo (i + 1) zc, C2⟩) (show (i + 1) ≤ rs.length ∧ (∀ j, j < (i + 1) → badRoom (rs.getD j 0) = false) ∧ Own (.slice zo (i + 1) zc) (i + 1) (ic (rs.take (i + 1))) 3 1 C2 from ⟨by omega, fun j hj => by by_cases e : j = i; (subst e; unfold badRoom; rw [Bool.or_eq_false_iff, decide_eq_false_iff_not, decide_eq_false_iff_not]; omega); exact hno j (by omega), by rw [List.take_succ_eq_append_getElem hlt, ic_append]; have e2 : rs.getD i 0 = rs[i] := (by simp [List.getD, hlt]); first | exact h2 | (rw [← e2]; exact h2)⟩) (show rs.length - (i + 1) < rs.length - i by omega) (Sx.put rfl ((by repeat (first | exact Sx.refl | refine Sx.skip rfl ?_)))) (by repeat (first | exact Sp.here | exact Sp.sn | exact Sp.s0 | exact Fr.here | apply Sp.s2 | apply Sp.sx | apply Fr.fc | apply Fr.al | apply Fr.fa | apply Sp.sc | apply Sp.al | apply Sp.sa))
            · refine WO.h rfl Wt.none rfl (Hd.build1 (e := 3) (z := .int .i64 0) (by kernel_rfl) (by kernel_rfl) (by kernel_rfl) rfl (by rfl) fun b38 => ⟨_, rfl, ?_⟩)
              refine WA.one (i := 4) (by kernel_rfl) ?_
              refine WO.h rfl Wt.none rfl (Hd.load1 (by kernel_rfl) rfl (by repeat (first | exact List.mem_cons_self | apply List.mem_cons_of_mem | apply List.mem_append_right)) (by rfl) ⟨_, rfl, ?_⟩)
              refine WA.one (i := 10) (by kernel_rfl) ?_
              refine WO.h rfl Wt.none rfl (Hd.appendRow (e := 3) (sz := 1) (bytes := 8) (zs := [.int .i64 0]) (by kernel_rfl) (by kernel_rfl) rfl (by omega) rfl rfl (ho) (by repeat (first | exact Sp.here | exact Sp.sn | exact Sp.s0 | exact Fr.here | apply Sp.s2 | apply Sp.sx | apply Fr.fc | apply Fr.al | apply Fr.fa | apply Sp.sc | apply Sp.al | apply Sp.sa)) (by repeat (first | exact List.mem_cons_self | apply List.mem_cons_of_mem | apply List.mem_append_right)) (by rfl) (by repeat (first | exact fun _ h => absurd h List.not_mem_nil | refine List.forall_mem_cons.2 ⟨by first | rfl | assumption, ?_⟩)) (by simp only [maxLen]; omega) (by omega) fun v2 C2 h2 => ⟨_, rfl, ?_⟩)
              obtain ⟨zo, zc, rfl, _⟩ := h2.form
              refine WA.y (i := 11) (NoPanic.block (NoPanic.then (NoPanic.then (NoPanic.block (NoPanic.then (NoPanic.body)))))) rfl (by kernel_rfl) (by kernel_rfl) (by kernel_rfl) rfl (Yd.notNil rfl) ?_
              refine WA.y (i := 12) (NoPanic.block (NoPanic.then (NoPanic.then (NoPanic.block (NoPanic.then (NoPanic.body)))))) rfl (by kernel_rfl) (by kernel_rfl) (by kernel_rfl) rfl (Yd.fieldAddr (k := 0) (by kernel_rfl) rfl) ?_
              refine WA.one (i := 13) (by kernel_rfl) ?_
              refine WO.s rfl Wt.none (Hd.store1s (by kernel_rfl) rfl rfl (by rfl) (by repeat (first | exact Fr.here | apply Fr.fc | apply Fr.al | apply Fr.fa)) (by rfl) (by first | (simp only [List.set_cons_zero, List.set_cons_succ, Nat.zero_add, Nat.add_zero, Nat.reduceAdd]; rfl) | rfl) ⟨rfl, ?_⟩)
              refine WA.done (by kernel_rfl) ?_
              refine DN.block_normal ?_
              refine DN.then_normal ?_
              refine WC.region ?_
              refine WL.y rfl (Yd.move rfl) ?_
              refine WL.y rfl (Yd.add rfl rfl (by omega) (by omega)) ?_
              refine WL.y rfl (Yd.assign rfl) ?_
              refine WL.nil ?_
              exact DN.againS (⟨i + 1, .slice zo (i + 1) zc, C2⟩) (show (i + 1) ≤ rs.length ∧ (∀ j, j < (i + 1) → badRoom (rs.getD j 0) = false) ∧ Own (.slice zo (i + 1) zc) (i + 1) (ic (rs.take (i + 1))) 3 1 C2 from ⟨by omega, fun j hj => by by_cases e : j = i; (subst e; unfold badRoom; rw [Bool.or_eq_false_iff, decide_eq_false_iff_not, decide_eq_false_iff_not]; omega); exact hno j (by omega), by rw [List.take_succ_eq_append_getElem hlt, ic_append]; have e2 : rs.getD i 0 = rs[i] := (by simp [List.getD, hlt]); first | exact h2 | (rw [← e2]; exact h2)⟩) (show rs.length - (i + 1) < rs.length - i by omega) (Sx.put rfl ((by repeat (first | exact Sx.refl | refine Sx.skip rfl ?_)))) (by repeat (first | exact Sp.here | exact Sp.sn | exact Sp.s0 | exact Fr.here | apply Sp.s2 | apply Sp.sx | apply Fr.fc | apply Fr.al | apply Fr.fa | apply Sp.sc | apply Sp.al | apply Sp.sa))
    · obtain rfl : i = rs.length := by omega
      rw [List.take_length] at ho
      refine WC.exit ?_
      refine DN.then_exit ?_
      refine DN.then_exit ?_
      refine DN.block_exit ?_
      refine DN.then_normal ?_
      refine WC.seq ?_
      refine WC.region ?_
      refine WL.y rfl (Yd.move rfl) ?_
      refine WL.y rfl (Yd.assign rfl) ?_
      refine WL.y rfl (Yd.assign rfl) ?_
      refine WL.nil ?_
      refine DN.then_normal ?_
      refine WC.ret ?_
      first | refine DN.fit (C := row b10 [.slice wo rs.length wc, .slice none 0 0] 58 :: (C1 ++ H)) (by repeat (first | exact Sp.here | exact Sp.sn | exact Sp.s0 | exact Fr.here | apply Sp.s2 | apply Sp.sx | apply Fr.fc | apply Fr.al | apply Fr.fa | apply Sp.sc | apply Sp.al | apply Sp.sa)) ?_ | refine DN.fit (C := H) (by repeat (first | exact Sp.here | exact Sp.sn | exact Sp.s0 | exact Fr.here | apply Sp.s2 | apply Sp.sx | apply Fr.fc | apply Fr.al | apply Fr.fa | apply Sp.sc | apply Sp.al | apply Sp.sa)) ?_
      refine DN.ret2 Try.results16 rfl rfl ?_
      first
        | (rw [if_neg (by omega)]
           exact ⟨rfl, rfl⟩)
        | (have hbad : badRoom (rs.getD i 0) = true := by unfold badRoom; rw [Bool.or_eq_true, decide_eq_true_eq, decide_eq_true_eq]; omega
           rw [if_neg (by rw [findIdx_yes rs i hlt hbad hno]; simp)]
           exact ⟨rfl, rfl⟩)
        | (rw [if_pos ⟨by rw [findIdx_no rs hno]; rfl, by omega⟩]
           exact ⟨_, row b10 [.slice wo rs.length wc, .slice none 0 0] 58 :: (C1 ++ []), rfl, ⟨_, _, C1, [], rfl, ho, Own.nil _ _⟩, by simp⟩)

end Go.Proofs.Ytmdbmcicbambjaa
