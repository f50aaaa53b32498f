/-
  The walks of the purse's New, and of its laws' helpers: act, long, sameAccounts, samePays, has.
-/
import Derived.Test.YtllfnigodikbaaaPurse2
set_option linter.unusedVariables false
set_option linter.unusedSimpArgs false
set_option maxHeartbeats 4000000
namespace Go.Proofs.Ytllfnigodikbaaa
open Go.SL
theorem same_no {α : Type} {xs ys : List α} (h : xs.length ≠ ys.length) : ¬ xs = ys := fun e => h (by rw [e])
theorem same_yes {α : Type} {xs ys : List α} (hl : xs.length = ys.length) (h : ∀ (j : Nat) (h1 : j < xs.length) (h2 : j < ys.length), xs[j] = ys[j]) : xs = ys := List.ext_getElem hl h


/-- drayage/purse.New -/
theorem new_tells (v : Value) (gs : List Au) (H : List Ck) (hv : Rs v gs.length (gs.flatMap cellsU) H) (hl : gs.length ≤ 9223372036854775807) : Tells Try.prog 11 [v] H fun r H' => (AccL gs ∧ ∃ p C, r = .tuple #[.pointer (some ⟨p, 0, none⟩), .int .i64 0] ∧ PsAt 57 p gs [] C ∧ H' = C ++ H) ∨ (¬ AccL gs ∧ r = .tuple #[.pointer none, .int .i64 2] ∧ H' = H) := by
  refine Tells.enter Try.func11 rfl Try.ntmps11 rfl ?_
  intro w0 R
  obtain ⟨vo, vc, rfl, hvc⟩ := hv.form
  refine WC.seq ?_
  refine WC.region ?_
  refine WL.y rfl (Yd.assign rfl) ?_
  refine WL.y rfl (Yd.assign rfl) ?_
  refine WL.nil ?_
  refine DN.then_normal ?_
  refine WC.seq ?_
  refine WC.seq ?_
  refine WC.region ?_
  refine WL.y rfl (Yd.move rfl) ?_
  refine WL.y rfl (Yd.len (e := 46) (by kernel_rfl) rfl) ?_
  refine WL.y rfl (Yd.gtr rfl rfl) ?_
  refine WL.nil ?_
  refine DN.then_normal ?_
  refine WC.ite rfl (fun h11 => ?_) (fun h11 => ?_)
  · refine WC.seq ?_
    refine WC.region ?_
    refine WL.y rfl (Yd.assign rfl) ?_
    refine WL.y rfl (Yd.assign rfl) ?_
    refine WL.nil ?_
    refine DN.then_normal ?_
    refine WC.ret ?_
    refine DN.then_ret ?_
    first | (have hlt2 : i < gs.length := hlt; refine DN.fit (C := H) (by repeat (first | exact Sp.here | exact Sp.sn | exact Sp.s0 | exact Fr.here | apply Sp.s2 | apply Sp.sx | apply Fr.fc | apply Fr.al | apply Fr.fa | apply Sp.sc | apply Sp.al | apply Sp.sa)) ?_) | refine DN.fit (C := row b15 [.map (some b1), .map (some b2)] 57 :: (C1 ++ (C2 ++ H))) (by repeat (first | exact Sp.here | exact Sp.sn | exact Sp.s0 | exact Fr.here | apply Sp.s2 | apply Sp.sx | apply Fr.fc | apply Fr.al | apply Fr.fa | apply Sp.sc | apply Sp.al | apply Sp.sa)) ?_ | skip
    refine DN.ret2 Try.results11 rfl rfl ?_
    first
      | exact .inr ⟨fun hG => by have := hG.1; omega, rfl, rfl⟩
      | exact .inr ⟨fun hG => (hG.2.2 gs[i] (List.getElem_mem hlt)).1 hg35, rfl, rfl⟩
      | exact .inr ⟨fun hG => by have := (hG.2.2 gs[i] (List.getElem_mem hlt)).2; omega, rfl, rfl⟩
      | exact .inr ⟨fun hG => (twice_noU hlt h58) hG.2.1, rfl, rfl⟩
      | exact .inl ⟨⟨by omega, hnd, fun g hm => by obtain ⟨j, hj, rfl⟩ := List.getElem_of_mem hm; exact hgood j hj hj⟩, b15, row b15 [.map (some b1), .map (some b2)] 57 :: (C1 ++ C2), rfl, ⟨b1, b2, C1, C2, rfl, hK, h2⟩, by simp⟩
  · refine WC.skip ?_
    refine DN.then_normal ?_
    refine WC.seq ?_
    refine WC.region ?_
    refine WL.h rfl (Hd.makeMapG kStr fun b1 C1 h1 => ⟨_, rfl, ?_⟩)
    refine WL.h rfl (Hd.makeMapG kU32 fun b2 C2 h2 => ⟨_, rfl, ?_⟩)
    refine WL.y rfl (Yd.buildL (pl := [(0, 1), (1, 1)]) (zs := [.map none, .map none]) (parts := [(0, .tmp 12), (1, .tmp 13)]) (vs := [(0, _), (1, _)]) (cells := [_, _]) (by kernel_rfl) (by kernel_rfl) rfl rfl) ?_
    refine WL.h rfl (Hd.boxA rfl fun b15 => ⟨_, rfl, ?_⟩)
    refine WL.y rfl (Yd.assign rfl) ?_
    refine WL.nil ?_
    refine DN.then_normal ?_
    refine WC.seq ?_
    refine WC.seq ?_
    refine WC.region ?_
    refine WL.y rfl (Yd.move rfl) ?_
    refine WL.y rfl (Yd.len (e := 46) (by kernel_rfl) rfl) ?_
    refine WL.y rfl (Yd.move rfl) ?_
    refine WL.nil ?_
    refine DN.then_normal ?_
    refine WC.block ?_
    refine WC.loopS (fun z : Nat × List Ck => z.1 ≤ gs.length ∧ (∀ (j : Nat) (h : j < gs.length), j < z.1 → accB gs[j]) ∧ ((gs.take z.1).map Au.name).Nodup ∧ MpG kStr b1 (kvs Au.name encU (gs.take z.1)) z.2) (fun z : Nat × List Ck => [(18, .int .i64 (z.1 : Int))]) (fun z : Nat × List Ck => row b15 [.map (some b1), .map (some b2)] 57 :: (z.2 ++ (C2 ++ H))) (fun z : Nat × List Ck => gs.length - z.1) (⟨0, C1⟩) (show 0 ≤ gs.length ∧ (∀ (j : Nat) (h : j < gs.length), j < 0 → accB gs[j]) ∧ ((gs.take 0).map Au.name).Nodup ∧ MpG kStr b1 (kvs Au.name encU (gs.take 0)) C1 from ⟨Nat.zero_le _, fun j h hj => by omega, by simp, by simpa [kvs] using h1⟩) (Sx.put rfl ((by repeat (first | exact Sx.refl | refine Sx.skip rfl ?_)))) (by repeat (first | exact Sp.here | exact Sp.sn | exact Sp.s0 | exact Fr.here | apply Sp.s2 | apply Sp.sx | apply Fr.fc | apply Fr.al | apply Fr.fa | apply Sp.sc | apply Sp.al | apply Sp.sa)) ?_
    rintro ⟨i, C1⟩ hI
    replace hI : i ≤ gs.length ∧ (∀ (j : Nat) (h : j < gs.length), j < i → accB gs[j]) ∧ ((gs.take i).map Au.name).Nodup ∧ MpG kStr b1 (kvs Au.name encU (gs.take i)) C1 := hI
    obtain ⟨hi, hgood, hnd, hK⟩ := hI
    change WC _ _ _ _ _ _ ([(18, .int .i64 (i : Int))] ++ _) (row b15 [.map (some b1), .map (some b2)] 57 :: (C1 ++ (C2 ++ H)))
    refine WC.seq ?_
    refine WC.region ?_
    refine WL.y rfl (Yd.lss rfl rfl) ?_
    refine WL.nil ?_
    refine DN.then_normal ?_
    refine WC.seq ?_
    refine WC.ite rfl (fun h19 => ?_) (fun h19 => ?_)
    · have hlt : i < gs.length := by omega
      have htk : gs.take (i + 1) = gs.take i ++ [gs[i]] := List.take_succ_eq_append_getElem hlt
      refine WC.skip ?_
      refine DN.then_normal ?_
      refine WC.seq ?_
      refine WC.block ?_
      refine WC.seq ?_
      refine WC.region ?_
      refine WL.elemA (e := 46) (s := 3) (by kernel_rfl) (by kernel_rfl) (by kernel_rfl) rfl rfl (rfl) (hv.mono (by repeat (first | exact Gr.refl | exact Gr.left Gr.refl | exact Gr.left (Gr.left Gr.refl) | exact Gr.left (Gr.app Gr.refl) | exact Gr.left (Gr.left (Gr.left Gr.refl)) | exact Gr.nil | exact Gr.app (Gr.left Gr.refl) | refine Gr.cons ?_ | refine Gr.app ?_ | refine Gr.both ?_ ?_ | refine Gr.put (by repeat (first | exact List.mem_cons_self | apply List.mem_cons_of_mem | apply List.mem_append_right)) ?_))) (flat_row cellsU 3 cellsU_len gs i hlt) (by rfl) (by omega) (hlt) rfl rfl ?_
      intro p20
      refine WL.h rfl (Hd.alloc (zs := [.string ⟨#[]⟩, .int .i64 0, .int .i64 0]) (by kernel_rfl) fun b6 => ⟨_, rfl, ?_⟩)
      refine WL.s (Hd.storeAll (n := 3) (by kernel_rfl) rfl rfl (by rfl) (by repeat (first | exact fun _ h => absurd h List.not_mem_nil | refine List.forall_mem_cons.2 ⟨by first | rfl | assumption, ?_⟩)) (by repeat (first | exact Fr.here | apply Fr.fc | apply Fr.al | apply Fr.fa)) (by rfl) ⟨rfl, ?_⟩)
      refine WL.nil ?_
      refine DN.then_normal ?_
      refine WC.cutK (fun z : Nat => True) (fun z : Nat => [(8, .bool (findK Au.name (gs.take i) gs[i].name).isSome)]) (fun z : Nat => row b6 (cellsU gs[i]) 46 :: (row b15 [.map (some b1), .map (some b2)] 57 :: (C1 ++ (C2 ++ H)))) ?_ ?_
      · refine WC.draw 13 (by kernel_rfl) rfl ?_
        refine WA.y (i := 0) (NoPanic.then (NoPanic.block (NoPanic.then (NoPanic.then (NoPanic.block (NoPanic.then (NoPanic.body))))))) rfl (by kernel_rfl) (by kernel_rfl) (by kernel_rfl) rfl (Yd.move rfl) ?_
        refine WA.y (i := 1) (NoPanic.then (NoPanic.block (NoPanic.then (NoPanic.then (NoPanic.block (NoPanic.then (NoPanic.body))))))) rfl (by kernel_rfl) (by kernel_rfl) (by kernel_rfl) rfl (Yd.notNil rfl) ?_
        refine WA.y (i := 2) (NoPanic.then (NoPanic.block (NoPanic.then (NoPanic.then (NoPanic.block (NoPanic.then (NoPanic.body))))))) rfl (by kernel_rfl) (by kernel_rfl) (by kernel_rfl) rfl (Yd.fieldAddr (k := 0) (by kernel_rfl) rfl) ?_
        refine WA.y (i := 4) (NoPanic.then (NoPanic.block (NoPanic.then (NoPanic.then (NoPanic.block (NoPanic.then (NoPanic.body))))))) rfl (by kernel_rfl) (by kernel_rfl) (by kernel_rfl) rfl (Yd.fieldAddr (k := 0) (by kernel_rfl) rfl) ?_
        refine WA.reads [(3, 26, _), (5, 28, _)] [3, 5] [([], 10), ([3], 10), ([5], 10)] 7 rfl rfl (List.forall_mem_cons.2 ⟨ReadAt.mk rfl Wt.none rfl (Rd.load1 (by kernel_rfl) rfl (by repeat (first | exact List.mem_cons_self | apply List.mem_cons_of_mem | apply List.mem_append_right)) (by rfl)), List.forall_mem_cons.2 ⟨ReadAt.mk rfl Wt.none rfl (Rd.load1 (by kernel_rfl) rfl (by repeat (first | exact List.mem_cons_self | apply List.mem_cons_of_mem | apply List.mem_append_right)) (by rfl)), fun _ h => absurd h List.not_mem_nil⟩⟩) (by decide) (by simp) (List.forall_mem_cons.2 ⟨rfl, List.forall_mem_cons.2 ⟨rfl, fun _ h => absurd h List.not_mem_nil⟩⟩) (by kernel_rfl) (List.forall_mem_cons.2 ⟨?_, List.forall_mem_cons.2 ⟨?_, List.forall_mem_cons.2 ⟨?_, fun _ h => absurd h List.not_mem_nil⟩⟩⟩) ?_
        · change WO _ _ _ _ _ _ 8 _ 10 ([] ++ _) _
          refine WO.h rfl Wt.none rfl (Hd.alloc (zs := [.string ⟨#[]⟩, .int .i64 0, .int .i64 0]) (by kernel_rfl) fun b7 => ⟨_, rfl, ?_⟩)
          refine WA.reads [(3, 26, _), (5, 28, _)] [3, 5] [] 6 rfl rfl (List.forall_mem_cons.2 ⟨ReadAt.mk rfl Wt.none rfl (Rd.load1 (by kernel_rfl) rfl (by repeat (first | exact List.mem_cons_self | apply List.mem_cons_of_mem | apply List.mem_append_right)) (by rfl)), List.forall_mem_cons.2 ⟨ReadAt.mk rfl Wt.none rfl (Rd.load1 (by kernel_rfl) rfl (by repeat (first | exact List.mem_cons_self | apply List.mem_cons_of_mem | apply List.mem_append_right)) (by rfl)), fun _ h => absurd h List.not_mem_nil⟩⟩) (by decide) (by simp) (List.forall_mem_cons.2 ⟨rfl, List.forall_mem_cons.2 ⟨rfl, fun _ h => absurd h List.not_mem_nil⟩⟩) (by kernel_rfl) (fun _ h => absurd h List.not_mem_nil) ?_
          · change WA _ _ _ _ _ _ 6 _ ([(26, _), (28, _)] ++ _) _
            refine WA.one (i := 6) (by kernel_rfl) ?_
            refine WO.h rfl Wt.none rfl (Hd.lookupG (k0 := kStr) (KT := 9) (ET := 46) (TD := .string) (n := gs[i].name) (z := .agg #[.string ⟨#[]⟩, .int .i64 0, .int .i64 0]) (by kernel_rfl) Try.underlying9 rfl (by kernel_rfl) rfl rfl hK (by repeat (first | exact Sp.here | exact Sp.sn | exact Sp.s0 | exact Fr.here | apply Sp.s2 | apply Sp.sx | apply Fr.fc | apply Fr.al | apply Fr.fa | apply Sp.sc | apply Sp.al | apply Sp.sa)) (lkU2 (gs.take i) gs[i].name) ⟨_, rfl, ?_⟩)
            refine WA.y (i := 7) (NoPanic.then (NoPanic.block (NoPanic.then (NoPanic.then (NoPanic.block (NoPanic.then (NoPanic.body))))))) rfl (by kernel_rfl) (by kernel_rfl) (by kernel_rfl) rfl (Yd.move rfl) ?_
            refine WA.y (i := 8) (NoPanic.then (NoPanic.block (NoPanic.then (NoPanic.then (NoPanic.block (NoPanic.then (NoPanic.body))))))) rfl (by kernel_rfl) (by kernel_rfl) (by kernel_rfl) rfl (Yd.extract rfl rfl) ?_
            refine WA.y (i := 9) (NoPanic.then (NoPanic.block (NoPanic.then (NoPanic.then (NoPanic.block (NoPanic.then (NoPanic.body))))))) rfl (by kernel_rfl) (by kernel_rfl) (by kernel_rfl) rfl (Yd.extract rfl rfl) ?_
            refine WA.one (i := 11) (by kernel_rfl) ?_
            refine WO.s rfl Wt.none (Hd.storeAll (n := 3) (by kernel_rfl) rfl rfl (by rfl) (by repeat (first | exact fun _ h => absurd h List.not_mem_nil | refine List.forall_mem_cons.2 ⟨by first | rfl | assumption, ?_⟩)) (by repeat (first | exact Fr.here | apply Fr.fc | apply Fr.al | apply Fr.fa)) (by rfl) ⟨rfl, ?_⟩)
            refine WA.y (i := 12) (NoPanic.then (NoPanic.block (NoPanic.then (NoPanic.then (NoPanic.block (NoPanic.then (NoPanic.body))))))) rfl (by kernel_rfl) (by kernel_rfl) (by kernel_rfl) rfl (Yd.assign rfl) ?_
            refine WA.done (by kernel_rfl) ?_
            refine DN.fit (C := row b6 (cellsU gs[i]) 46 :: (row b15 [.map (some b1), .map (some b2)] 57 :: (C1 ++ (C2 ++ H)))) (by repeat (first | exact Sp.here | exact Sp.sn | exact Sp.s0 | exact Fr.here | apply Sp.s2 | apply Sp.sx | apply Fr.fc | apply Fr.al | apply Fr.fa | apply Sp.sc | apply Sp.al | apply Sp.sa)) ?_
            exact DN.reachK (0) (trivial) (Sx.put rfl ((by repeat (first | exact Sx.refl | refine Sx.skip rfl ?_)))) (Sp.all (by repeat (first | exact Sp.here | exact Sp.sn | exact Sp.s0 | exact Fr.here | apply Sp.s2 | apply Sp.sx | apply Fr.fc | apply Fr.al | apply Fr.fa | apply Sp.sc | apply Sp.al | apply Sp.sa)))
        · change WO _ _ _ _ _ _ 7 _ 10 ([(26, _)] ++ _) _
          refine WO.h rfl Wt.none rfl (Hd.alloc (zs := [.string ⟨#[]⟩, .int .i64 0, .int .i64 0]) (by kernel_rfl) fun b7 => ⟨_, rfl, ?_⟩)
          refine WA.one (i := 5) (by kernel_rfl) ?_
          refine WO.h rfl Wt.none rfl (Hd.load1 (by kernel_rfl) rfl (by repeat (first | exact List.mem_cons_self | apply List.mem_cons_of_mem | apply List.mem_append_right)) (by rfl) ⟨_, rfl, ?_⟩)
          refine WA.one (i := 6) (by kernel_rfl) ?_
          refine WO.h rfl Wt.none rfl (Hd.lookupG (k0 := kStr) (KT := 9) (ET := 46) (TD := .string) (n := gs[i].name) (z := .agg #[.string ⟨#[]⟩, .int .i64 0, .int .i64 0]) (by kernel_rfl) Try.underlying9 rfl (by kernel_rfl) rfl rfl hK (by repeat (first | exact Sp.here | exact Sp.sn | exact Sp.s0 | exact Fr.here | apply Sp.s2 | apply Sp.sx | apply Fr.fc | apply Fr.al | apply Fr.fa | apply Sp.sc | apply Sp.al | apply Sp.sa)) (lkU2 (gs.take i) gs[i].name) ⟨_, rfl, ?_⟩)
          refine WA.y (i := 7) (NoPanic.then (NoPanic.block (NoPanic.then (NoPanic.then (NoPanic.block (NoPanic.then (NoPanic.body))))))) rfl (by kernel_rfl) (by kernel_rfl) (by kernel_rfl) rfl (Yd.move rfl) ?_
          refine WA.y (i := 8) (NoPanic.then (NoPanic.block (NoPanic.then (NoPanic.then (NoPanic.block (NoPanic.then (NoPanic.body))))))) rfl (by kernel_rfl) (by kernel_rfl) (by kernel_rfl) rfl (Yd.extract rfl rfl) ?_
          refine WA.y (i := 9) (NoPanic.then (NoPanic.block (NoPanic.then (NoPanic.then (NoPanic.block (NoPanic.then (NoPanic.body))))))) rfl (by kernel_rfl) (by kernel_rfl) (by kernel_rfl) rfl (Yd.extract rfl rfl) ?_
          refine WA.one (i := 11) (by kernel_rfl) ?_
          refine WO.s rfl Wt.none (Hd.storeAll (n := 3) (by kernel_rfl) rfl rfl (by rfl) (by repeat (first | exact fun _ h => absurd h List.not_mem_nil | refine List.forall_mem_cons.2 ⟨by first | rfl | assumption, ?_⟩)) (by repeat (first | exact Fr.here | apply Fr.fc | apply Fr.al | apply Fr.fa)) (by rfl) ⟨rfl, ?_⟩)
          refine WA.y (i := 12) (NoPanic.then (NoPanic.block (NoPanic.then (NoPanic.then (NoPanic.block (NoPanic.then (NoPanic.body))))))) rfl (by kernel_rfl) (by kernel_rfl) (by kernel_rfl) rfl (Yd.assign rfl) ?_
          refine WA.done (by kernel_rfl) ?_
          refine DN.fit (C := row b6 (cellsU gs[i]) 46 :: (row b15 [.map (some b1), .map (some b2)] 57 :: (C1 ++ (C2 ++ H)))) (by repeat (first | exact Sp.here | exact Sp.sn | exact Sp.s0 | exact Fr.here | apply Sp.s2 | apply Sp.sx | apply Fr.fc | apply Fr.al | apply Fr.fa | apply Sp.sc | apply Sp.al | apply Sp.sa)) ?_
          exact DN.reachK (0) (trivial) (Sx.put rfl ((by repeat (first | exact Sx.refl | refine Sx.skip rfl ?_)))) (Sp.all (by repeat (first | exact Sp.here | exact Sp.sn | exact Sp.s0 | exact Fr.here | apply Sp.s2 | apply Sp.sx | apply Fr.fc | apply Fr.al | apply Fr.fa | apply Sp.sc | apply Sp.al | apply Sp.sa)))
        · change WO _ _ _ _ _ _ 7 _ 10 ([(28, _)] ++ _) _
          refine WO.h rfl Wt.none rfl (Hd.alloc (zs := [.string ⟨#[]⟩, .int .i64 0, .int .i64 0]) (by kernel_rfl) fun b7 => ⟨_, rfl, ?_⟩)
          refine WA.one (i := 3) (by kernel_rfl) ?_
          refine WO.h rfl Wt.none rfl (Hd.load1 (by kernel_rfl) rfl (by repeat (first | exact List.mem_cons_self | apply List.mem_cons_of_mem | apply List.mem_append_right)) (by rfl) ⟨_, rfl, ?_⟩)
          refine WA.one (i := 6) (by kernel_rfl) ?_
          refine WO.h rfl Wt.none rfl (Hd.lookupG (k0 := kStr) (KT := 9) (ET := 46) (TD := .string) (n := gs[i].name) (z := .agg #[.string ⟨#[]⟩, .int .i64 0, .int .i64 0]) (by kernel_rfl) Try.underlying9 rfl (by kernel_rfl) rfl rfl hK (by repeat (first | exact Sp.here | exact Sp.sn | exact Sp.s0 | exact Fr.here | apply Sp.s2 | apply Sp.sx | apply Fr.fc | apply Fr.al | apply Fr.fa | apply Sp.sc | apply Sp.al | apply Sp.sa)) (lkU2 (gs.take i) gs[i].name) ⟨_, rfl, ?_⟩)
          refine WA.y (i := 7) (NoPanic.then (NoPanic.block (NoPanic.then (NoPanic.then (NoPanic.block (NoPanic.then (NoPanic.body))))))) rfl (by kernel_rfl) (by kernel_rfl) (by kernel_rfl) rfl (Yd.move rfl) ?_
          refine WA.y (i := 8) (NoPanic.then (NoPanic.block (NoPanic.then (NoPanic.then (NoPanic.block (NoPanic.then (NoPanic.body))))))) rfl (by kernel_rfl) (by kernel_rfl) (by kernel_rfl) rfl (Yd.extract rfl rfl) ?_
          refine WA.y (i := 9) (NoPanic.then (NoPanic.block (NoPanic.then (NoPanic.then (NoPanic.block (NoPanic.then (NoPanic.body))))))) rfl (by kernel_rfl) (by kernel_rfl) (by kernel_rfl) rfl (Yd.extract rfl rfl) ?_
          refine WA.one (i := 11) (by kernel_rfl) ?_
          refine WO.s rfl Wt.none (Hd.storeAll (n := 3) (by kernel_rfl) rfl rfl (by rfl) (by repeat (first | exact fun _ h => absurd h List.not_mem_nil | refine List.forall_mem_cons.2 ⟨by first | rfl | assumption, ?_⟩)) (by repeat (first | exact Fr.here | apply Fr.fc | apply Fr.al | apply Fr.fa)) (by rfl) ⟨rfl, ?_⟩)
          refine WA.y (i := 12) (NoPanic.then (NoPanic.block (NoPanic.then (NoPanic.then (NoPanic.block (NoPanic.then (NoPanic.body))))))) rfl (by kernel_rfl) (by kernel_rfl) (by kernel_rfl) rfl (Yd.assign rfl) ?_
          refine WA.done (by kernel_rfl) ?_
          refine DN.fit (C := row b6 (cellsU gs[i]) 46 :: (row b15 [.map (some b1), .map (some b2)] 57 :: (C1 ++ (C2 ++ H)))) (by repeat (first | exact Sp.here | exact Sp.sn | exact Sp.s0 | exact Fr.here | apply Sp.s2 | apply Sp.sx | apply Fr.fc | apply Fr.al | apply Fr.fa | apply Sp.sc | apply Sp.al | apply Sp.sa)) ?_
          exact DN.reachK (0) (trivial) (Sx.put rfl ((by repeat (first | exact Sx.refl | refine Sx.skip rfl ?_)))) (Sp.all (by repeat (first | exact Sp.here | exact Sp.sn | exact Sp.s0 | exact Fr.here | apply Sp.s2 | apply Sp.sx | apply Fr.fc | apply Fr.al | apply Fr.fa | apply Sp.sc | apply Sp.al | apply Sp.sa)))
        · change WA _ _ _ _ _ _ 7 _ ([(26, _), (28, _)] ++ _) _
          refine WA.two (i := 6) (j := 10) (by kernel_rfl) ?_ ?_
          · refine WO.h rfl Wt.none rfl (Hd.lookupG (k0 := kStr) (KT := 9) (ET := 46) (TD := .string) (n := gs[i].name) (z := .agg #[.string ⟨#[]⟩, .int .i64 0, .int .i64 0]) (by kernel_rfl) Try.underlying9 rfl (by kernel_rfl) rfl rfl hK (by repeat (first | exact Sp.here | exact Sp.sn | exact Sp.s0 | exact Fr.here | apply Sp.s2 | apply Sp.sx | apply Fr.fc | apply Fr.al | apply Fr.fa | apply Sp.sc | apply Sp.al | apply Sp.sa)) (lkU2 (gs.take i) gs[i].name) ⟨_, rfl, ?_⟩)
            refine WA.y (i := 7) (NoPanic.then (NoPanic.block (NoPanic.then (NoPanic.then (NoPanic.block (NoPanic.then (NoPanic.body))))))) rfl (by kernel_rfl) (by kernel_rfl) (by kernel_rfl) rfl (Yd.move rfl) ?_
            refine WA.y (i := 8) (NoPanic.then (NoPanic.block (NoPanic.then (NoPanic.then (NoPanic.block (NoPanic.then (NoPanic.body))))))) rfl (by kernel_rfl) (by kernel_rfl) (by kernel_rfl) rfl (Yd.extract rfl rfl) ?_
            refine WA.y (i := 9) (NoPanic.then (NoPanic.block (NoPanic.then (NoPanic.then (NoPanic.block (NoPanic.then (NoPanic.body))))))) rfl (by kernel_rfl) (by kernel_rfl) (by kernel_rfl) rfl (Yd.extract rfl rfl) ?_
            refine WA.one (i := 10) (by kernel_rfl) ?_
            refine WO.h rfl Wt.none rfl (Hd.alloc (zs := [.string ⟨#[]⟩, .int .i64 0, .int .i64 0]) (by kernel_rfl) fun b7 => ⟨_, rfl, ?_⟩)
            refine WA.one (i := 11) (by kernel_rfl) ?_
            refine WO.s rfl Wt.none (Hd.storeAll (n := 3) (by kernel_rfl) rfl rfl (by rfl) (by repeat (first | exact fun _ h => absurd h List.not_mem_nil | refine List.forall_mem_cons.2 ⟨by first | rfl | assumption, ?_⟩)) (by repeat (first | exact Fr.here | apply Fr.fc | apply Fr.al | apply Fr.fa)) (by rfl) ⟨rfl, ?_⟩)
            refine WA.y (i := 12) (NoPanic.then (NoPanic.block (NoPanic.then (NoPanic.then (NoPanic.block (NoPanic.then (NoPanic.body))))))) rfl (by kernel_rfl) (by kernel_rfl) (by kernel_rfl) rfl (Yd.assign rfl) ?_
            refine WA.done (by kernel_rfl) ?_
            refine DN.fit (C := row b6 (cellsU gs[i]) 46 :: (row b15 [.map (some b1), .map (some b2)] 57 :: (C1 ++ (C2 ++ H)))) (by repeat (first | exact Sp.here | exact Sp.sn | exact Sp.s0 | exact Fr.here | apply Sp.s2 | apply Sp.sx | apply Fr.fc | apply Fr.al | apply Fr.fa | apply Sp.sc | apply Sp.al | apply Sp.sa)) ?_
            exact DN.reachK (0) (trivial) (Sx.put rfl ((by repeat (first | exact Sx.refl | refine Sx.skip rfl ?_)))) (Sp.all (by repeat (first | exact Sp.here | exact Sp.sn | exact Sp.s0 | exact Fr.here | apply Sp.s2 | apply Sp.sx | apply Fr.fc | apply Fr.al | apply Fr.fa | apply Sp.sc | apply Sp.al | apply Sp.sa)))
          · refine WO.h rfl Wt.none rfl (Hd.alloc (zs := [.string ⟨#[]⟩, .int .i64 0, .int .i64 0]) (by kernel_rfl) fun b7 => ⟨_, rfl, ?_⟩)
            refine WA.one (i := 6) (by kernel_rfl) ?_
            refine WO.h rfl Wt.none rfl (Hd.lookupG (k0 := kStr) (KT := 9) (ET := 46) (TD := .string) (n := gs[i].name) (z := .agg #[.string ⟨#[]⟩, .int .i64 0, .int .i64 0]) (by kernel_rfl) Try.underlying9 rfl (by kernel_rfl) rfl rfl hK (by repeat (first | exact Sp.here | exact Sp.sn | exact Sp.s0 | exact Fr.here | apply Sp.s2 | apply Sp.sx | apply Fr.fc | apply Fr.al | apply Fr.fa | apply Sp.sc | apply Sp.al | apply Sp.sa)) (lkU2 (gs.take i) gs[i].name) ⟨_, rfl, ?_⟩)
            refine WA.y (i := 7) (NoPanic.then (NoPanic.block (NoPanic.then (NoPanic.then (NoPanic.block (NoPanic.then (NoPanic.body))))))) rfl (by kernel_rfl) (by kernel_rfl) (by kernel_rfl) rfl (Yd.move rfl) ?_
            refine WA.y (i := 8) (NoPanic.then (NoPanic.block (NoPanic.then (NoPanic.then (NoPanic.block (NoPanic.then (NoPanic.body))))))) rfl (by kernel_rfl) (by kernel_rfl) (by kernel_rfl) rfl (Yd.extract rfl rfl) ?_
            refine WA.y (i := 9) (NoPanic.then (NoPanic.block (NoPanic.then (NoPanic.then (NoPanic.block (NoPanic.then (NoPanic.body))))))) rfl (by kernel_rfl) (by kernel_rfl) (by kernel_rfl) rfl (Yd.extract rfl rfl) ?_
            refine WA.one (i := 11) (by kernel_rfl) ?_
            refine WO.s rfl Wt.none (Hd.storeAll (n := 3) (by kernel_rfl) rfl rfl (by rfl) (by repeat (first | exact fun _ h => absurd h List.not_mem_nil | refine List.forall_mem_cons.2 ⟨by first | rfl | assumption, ?_⟩)) (by repeat (first | exact Fr.here | apply Fr.fc | apply Fr.al | apply Fr.fa)) (by rfl) ⟨rfl, ?_⟩)
            refine WA.y (i := 12) (NoPanic.then (NoPanic.block (NoPanic.then (NoPanic.then (NoPanic.block (NoPanic.then (NoPanic.body))))))) rfl (by kernel_rfl) (by kernel_rfl) (by kernel_rfl) rfl (Yd.assign rfl) ?_
            refine WA.done (by kernel_rfl) ?_
            refine DN.fit (C := row b6 (cellsU gs[i]) 46 :: (row b15 [.map (some b1), .map (some b2)] 57 :: (C1 ++ (C2 ++ H)))) (by repeat (first | exact Sp.here | exact Sp.sn | exact Sp.s0 | exact Fr.here | apply Sp.s2 | apply Sp.sx | apply Fr.fc | apply Fr.al | apply Fr.fa | apply Sp.sc | apply Sp.al | apply Sp.sa)) ?_
            exact DN.reachK (0) (trivial) (Sx.put rfl ((by repeat (first | exact Sx.refl | refine Sx.skip rfl ?_)))) (Sp.all (by repeat (first | exact Sp.here | exact Sp.sn | exact Sp.s0 | exact Fr.here | apply Sp.s2 | apply Sp.sx | apply Fr.fc | apply Fr.al | apply Fr.fa | apply Sp.sc | apply Sp.al | apply Sp.sa)))
      · intro _ _
        refine WC.seq ?_
        refine WC.seq ?_
        refine WC.region ?_
        refine WL.y rfl (Yd.fieldAddr (k := 0) (by kernel_rfl) rfl) ?_
        refine WL.h rfl (Hd.load1 (by kernel_rfl) rfl (by repeat (first | exact List.mem_cons_self | apply List.mem_cons_of_mem | apply List.mem_append_right)) (by rfl) ⟨_, rfl, ?_⟩)
        refine WL.y rfl (Yd.eqlS rfl rfl) ?_
        refine WL.y rfl (Yd.move rfl) ?_
        refine WL.partP (t := 35) rfl (fun hg35 => ?_) (fun hg35 => ?_)
        · refine WL.gn (dj := 35) rfl rfl rfl rfl ?_
          refine WL.gn (dj := 35) rfl rfl rfl rfl ?_
          refine WL.gn (dj := 35) rfl rfl rfl rfl ?_
          refine WL.gn (dj := 35) rfl rfl rfl rfl ?_
          refine WL.y rfl (Yd.pickT rfl rfl) ?_
          refine WL.y rfl (Yd.move rfl) ?_
          refine WL.gn (dj := 41) rfl rfl rfl rfl ?_
          refine WL.gn (dj := 41) rfl rfl rfl rfl ?_
          refine WL.gn (dj := 41) rfl rfl rfl rfl ?_
          refine WL.y rfl (Yd.pickT rfl rfl) ?_
          refine WL.y rfl (Yd.move rfl) ?_
          refine WL.gn (dj := 46) rfl rfl rfl rfl ?_
          refine WL.gn (dj := 46) rfl rfl rfl rfl ?_
          refine WL.gn (dj := 46) rfl rfl rfl rfl ?_
          refine WL.y rfl (Yd.pickT rfl rfl) ?_
          refine WL.y rfl (Yd.move rfl) ?_
          refine WL.gn (dj := 51) rfl rfl rfl rfl ?_
          refine WL.gn (dj := 51) rfl rfl rfl rfl ?_
          refine WL.gn (dj := 51) rfl rfl rfl rfl ?_
          refine WL.y rfl (Yd.pickT rfl rfl) ?_
          refine WL.y rfl (Yd.move rfl) ?_
          refine WL.gn (dj := 56) rfl rfl rfl rfl ?_
          refine WL.y rfl (Yd.pickT rfl rfl) ?_
          refine WL.nil ?_
          refine DN.then_normal ?_
          refine WC.yes rfl ?_
          refine WC.seq ?_
          refine WC.region ?_
          refine WL.y rfl (Yd.assign rfl) ?_
          refine WL.y rfl (Yd.assign rfl) ?_
          refine WL.nil ?_
          refine DN.then_normal ?_
          refine WC.ret ?_
          refine DN.then_ret ?_
          refine DN.block_ret ?_
          refine DN.then_ret ?_
          refine DN.then_ret ?_
          refine DN.block_ret ?_
          refine DN.then_ret ?_
          first | (have hlt2 : i < gs.length := hlt; refine DN.fit (C := H) (by repeat (first | exact Sp.here | exact Sp.sn | exact Sp.s0 | exact Fr.here | apply Sp.s2 | apply Sp.sx | apply Fr.fc | apply Fr.al | apply Fr.fa | apply Sp.sc | apply Sp.al | apply Sp.sa)) ?_) | refine DN.fit (C := row b15 [.map (some b1), .map (some b2)] 57 :: (C1 ++ (C2 ++ H))) (by repeat (first | exact Sp.here | exact Sp.sn | exact Sp.s0 | exact Fr.here | apply Sp.s2 | apply Sp.sx | apply Fr.fc | apply Fr.al | apply Fr.fa | apply Sp.sc | apply Sp.al | apply Sp.sa)) ?_ | skip
          refine DN.ret2 Try.results11 rfl rfl ?_
          first
            | exact .inr ⟨fun hG => by have := hG.1; omega, rfl, rfl⟩
            | exact .inr ⟨fun hG => (hG.2.2 gs[i] (List.getElem_mem hlt)).1 hg35, rfl, rfl⟩
            | exact .inr ⟨fun hG => by have := (hG.2.2 gs[i] (List.getElem_mem hlt)).2; omega, rfl, rfl⟩
            | exact .inr ⟨fun hG => (twice_noU hlt h58) hG.2.1, rfl, rfl⟩
            | exact .inl ⟨⟨by omega, hnd, fun g hm => by obtain ⟨j, hj, rfl⟩ := List.getElem_of_mem hm; exact hgood j hj hj⟩, b15, row b15 [.map (some b1), .map (some b2)] 57 :: (C1 ++ C2), rfl, ⟨b1, b2, C1, C2, rfl, hK, h2⟩, by simp⟩
        · refine WL.gy (dj := 35) rfl rfl rfl (Yd.fieldAddr (k := 0) (by kernel_rfl) rfl) ?_
          refine WL.gh (dj := 35) rfl rfl rfl (Hd.load1 (by kernel_rfl) rfl (by repeat (first | exact List.mem_cons_self | apply List.mem_cons_of_mem | apply List.mem_append_right)) (by rfl) ⟨_, rfl, ?_⟩)
          refine WL.gy (dj := 35) rfl rfl rfl (Yd.lenS Try.underlying9 rfl) ?_
          refine WL.gy (dj := 35) rfl rfl rfl (Yd.gtr rfl rfl) ?_
          refine WL.y rfl (Yd.pickF rfl rfl) ?_
          refine WL.y rfl (Yd.move rfl) ?_
          refine WL.partP (t := 41) rfl (fun hg41 => ?_) (fun hg41 => ?_)
          · refine WL.gn (dj := 41) rfl rfl rfl rfl ?_
            refine WL.gn (dj := 41) rfl rfl rfl rfl ?_
            refine WL.gn (dj := 41) rfl rfl rfl rfl ?_
            refine WL.y rfl (Yd.pickT rfl rfl) ?_
            refine WL.y rfl (Yd.move rfl) ?_
            refine WL.gn (dj := 46) rfl rfl rfl rfl ?_
            refine WL.gn (dj := 46) rfl rfl rfl rfl ?_
            refine WL.gn (dj := 46) rfl rfl rfl rfl ?_
            refine WL.y rfl (Yd.pickT rfl rfl) ?_
            refine WL.y rfl (Yd.move rfl) ?_
            refine WL.gn (dj := 51) rfl rfl rfl rfl ?_
            refine WL.gn (dj := 51) rfl rfl rfl rfl ?_
            refine WL.gn (dj := 51) rfl rfl rfl rfl ?_
            refine WL.y rfl (Yd.pickT rfl rfl) ?_
            refine WL.y rfl (Yd.move rfl) ?_
            refine WL.gn (dj := 56) rfl rfl rfl rfl ?_
            refine WL.y rfl (Yd.pickT rfl rfl) ?_
            refine WL.nil ?_
            refine DN.then_normal ?_
            refine WC.yes rfl ?_
            refine WC.seq ?_
            refine WC.region ?_
            refine WL.y rfl (Yd.assign rfl) ?_
            refine WL.y rfl (Yd.assign rfl) ?_
            refine WL.nil ?_
            refine DN.then_normal ?_
            refine WC.ret ?_
            refine DN.then_ret ?_
            refine DN.block_ret ?_
            refine DN.then_ret ?_
            refine DN.then_ret ?_
            refine DN.block_ret ?_
            refine DN.then_ret ?_
            first | (have hlt2 : i < gs.length := hlt; refine DN.fit (C := H) (by repeat (first | exact Sp.here | exact Sp.sn | exact Sp.s0 | exact Fr.here | apply Sp.s2 | apply Sp.sx | apply Fr.fc | apply Fr.al | apply Fr.fa | apply Sp.sc | apply Sp.al | apply Sp.sa)) ?_) | refine DN.fit (C := row b15 [.map (some b1), .map (some b2)] 57 :: (C1 ++ (C2 ++ H))) (by repeat (first | exact Sp.here | exact Sp.sn | exact Sp.s0 | exact Fr.here | apply Sp.s2 | apply Sp.sx | apply Fr.fc | apply Fr.al | apply Fr.fa | apply Sp.sc | apply Sp.al | apply Sp.sa)) ?_ | skip
            refine DN.ret2 Try.results11 rfl rfl ?_
            first
              | exact .inr ⟨fun hG => by have := hG.1; omega, rfl, rfl⟩
              | exact .inr ⟨fun hG => (hG.2.2 gs[i] (List.getElem_mem hlt)).1 hg35, rfl, rfl⟩
              | exact .inr ⟨fun hG => by have := (hG.2.2 gs[i] (List.getElem_mem hlt)).2; omega, rfl, rfl⟩
              | exact .inr ⟨fun hG => (twice_noU hlt h58) hG.2.1, rfl, rfl⟩
              | exact .inl ⟨⟨by omega, hnd, fun g hm => by obtain ⟨j, hj, rfl⟩ := List.getElem_of_mem hm; exact hgood j hj hj⟩, b15, row b15 [.map (some b1), .map (some b2)] 57 :: (C1 ++ C2), rfl, ⟨b1, b2, C1, C2, rfl, hK, h2⟩, by simp⟩
          · refine WL.gy (dj := 41) rfl rfl rfl (Yd.fieldAddr (k := 1) (by kernel_rfl) rfl) ?_
            refine WL.gh (dj := 41) rfl rfl rfl (Hd.load1 (by kernel_rfl) rfl (by repeat (first | exact List.mem_cons_self | apply List.mem_cons_of_mem | apply List.mem_append_right)) (by rfl) ⟨_, rfl, ?_⟩)
            refine WL.gy (dj := 41) rfl rfl rfl (Yd.lss rfl rfl) ?_
            refine WL.y rfl (Yd.pickF rfl rfl) ?_
            refine WL.y rfl (Yd.move rfl) ?_
            refine WL.partP (t := 46) rfl (fun hg46 => ?_) (fun hg46 => ?_)
            · refine WL.gn (dj := 46) rfl rfl rfl rfl ?_
              refine WL.gn (dj := 46) rfl rfl rfl rfl ?_
              refine WL.gn (dj := 46) rfl rfl rfl rfl ?_
              refine WL.y rfl (Yd.pickT rfl rfl) ?_
              refine WL.y rfl (Yd.move rfl) ?_
              refine WL.gn (dj := 51) rfl rfl rfl rfl ?_
              refine WL.gn (dj := 51) rfl rfl rfl rfl ?_
              refine WL.gn (dj := 51) rfl rfl rfl rfl ?_
              refine WL.y rfl (Yd.pickT rfl rfl) ?_
              refine WL.y rfl (Yd.move rfl) ?_
              refine WL.gn (dj := 56) rfl rfl rfl rfl ?_
              refine WL.y rfl (Yd.pickT rfl rfl) ?_
              refine WL.nil ?_
              refine DN.then_normal ?_
              refine WC.yes rfl ?_
              refine WC.seq ?_
              refine WC.region ?_
              refine WL.y rfl (Yd.assign rfl) ?_
              refine WL.y rfl (Yd.assign rfl) ?_
              refine WL.nil ?_
              refine DN.then_normal ?_
              refine WC.ret ?_
              refine DN.then_ret ?_
              refine DN.block_ret ?_
              refine DN.then_ret ?_
              refine DN.then_ret ?_
              refine DN.block_ret ?_
              refine DN.then_ret ?_
              first | (have hlt2 : i < gs.length := hlt; refine DN.fit (C := H) (by repeat (first | exact Sp.here | exact Sp.sn | exact Sp.s0 | exact Fr.here | apply Sp.s2 | apply Sp.sx | apply Fr.fc | apply Fr.al | apply Fr.fa | apply Sp.sc | apply Sp.al | apply Sp.sa)) ?_) | refine DN.fit (C := row b15 [.map (some b1), .map (some b2)] 57 :: (C1 ++ (C2 ++ H))) (by repeat (first | exact Sp.here | exact Sp.sn | exact Sp.s0 | exact Fr.here | apply Sp.s2 | apply Sp.sx | apply Fr.fc | apply Fr.al | apply Fr.fa | apply Sp.sc | apply Sp.al | apply Sp.sa)) ?_ | skip
              refine DN.ret2 Try.results11 rfl rfl ?_
              first
                | exact .inr ⟨fun hG => by have := hG.1; omega, rfl, rfl⟩
                | exact .inr ⟨fun hG => (hG.2.2 gs[i] (List.getElem_mem hlt)).1 hg35, rfl, rfl⟩
                | exact .inr ⟨fun hG => by have := (hG.2.2 gs[i] (List.getElem_mem hlt)).2; omega, rfl, rfl⟩
                | exact .inr ⟨fun hG => (twice_noU hlt h58) hG.2.1, rfl, rfl⟩
                | exact .inl ⟨⟨by omega, hnd, fun g hm => by obtain ⟨j, hj, rfl⟩ := List.getElem_of_mem hm; exact hgood j hj hj⟩, b15, row b15 [.map (some b1), .map (some b2)] 57 :: (C1 ++ C2), rfl, ⟨b1, b2, C1, C2, rfl, hK, h2⟩, by simp⟩
            · refine WL.gy (dj := 46) rfl rfl rfl (Yd.fieldAddr (k := 1) (by kernel_rfl) rfl) ?_
              refine WL.gh (dj := 46) rfl rfl rfl (Hd.load1 (by kernel_rfl) rfl (by repeat (first | exact List.mem_cons_self | apply List.mem_cons_of_mem | apply List.mem_append_right)) (by rfl) ⟨_, rfl, ?_⟩)
              refine WL.gy (dj := 46) rfl rfl rfl (Yd.gtr rfl rfl) ?_
              refine WL.y rfl (Yd.pickF rfl rfl) ?_
              refine WL.y rfl (Yd.move rfl) ?_
              refine WL.partP (t := 51) rfl (fun hg51 => ?_) (fun hg51 => ?_)
              · refine WL.gn (dj := 51) rfl rfl rfl rfl ?_
                refine WL.gn (dj := 51) rfl rfl rfl rfl ?_
                refine WL.gn (dj := 51) rfl rfl rfl rfl ?_
                refine WL.y rfl (Yd.pickT rfl rfl) ?_
                refine WL.y rfl (Yd.move rfl) ?_
                refine WL.gn (dj := 56) rfl rfl rfl rfl ?_
                refine WL.y rfl (Yd.pickT rfl rfl) ?_
                refine WL.nil ?_
                refine DN.then_normal ?_
                refine WC.yes rfl ?_
                refine WC.seq ?_
                refine WC.region ?_
                refine WL.y rfl (Yd.assign rfl) ?_
                refine WL.y rfl (Yd.assign rfl) ?_
                refine WL.nil ?_
                refine DN.then_normal ?_
                refine WC.ret ?_
                refine DN.then_ret ?_
                refine DN.block_ret ?_
                refine DN.then_ret ?_
                refine DN.then_ret ?_
                refine DN.block_ret ?_
                refine DN.then_ret ?_
                first | (have hlt2 : i < gs.length := hlt; refine DN.fit (C := H) (by repeat (first | exact Sp.here | exact Sp.sn | exact Sp.s0 | exact Fr.here | apply Sp.s2 | apply Sp.sx | apply Fr.fc | apply Fr.al | apply Fr.fa | apply Sp.sc | apply Sp.al | apply Sp.sa)) ?_) | refine DN.fit (C := row b15 [.map (some b1), .map (some b2)] 57 :: (C1 ++ (C2 ++ H))) (by repeat (first | exact Sp.here | exact Sp.sn | exact Sp.s0 | exact Fr.here | apply Sp.s2 | apply Sp.sx | apply Fr.fc | apply Fr.al | apply Fr.fa | apply Sp.sc | apply Sp.al | apply Sp.sa)) ?_ | skip
                refine DN.ret2 Try.results11 rfl rfl ?_
                first
                  | exact .inr ⟨fun hG => by have := hG.1; omega, rfl, rfl⟩
                  | exact .inr ⟨fun hG => (hG.2.2 gs[i] (List.getElem_mem hlt)).1 hg35, rfl, rfl⟩
                  | exact .inr ⟨fun hG => by have := (hG.2.2 gs[i] (List.getElem_mem hlt)).2; omega, rfl, rfl⟩
                  | exact .inr ⟨fun hG => (twice_noU hlt h58) hG.2.1, rfl, rfl⟩
                  | exact .inl ⟨⟨by omega, hnd, fun g hm => by obtain ⟨j, hj, rfl⟩ := List.getElem_of_mem hm; exact hgood j hj hj⟩, b15, row b15 [.map (some b1), .map (some b2)] 57 :: (C1 ++ C2), rfl, ⟨b1, b2, C1, C2, rfl, hK, h2⟩, by simp⟩
              · refine WL.gy (dj := 51) rfl rfl rfl (Yd.fieldAddr (k := 2) (by kernel_rfl) rfl) ?_
                refine WL.gh (dj := 51) rfl rfl rfl (Hd.load1 (by kernel_rfl) rfl (by repeat (first | exact List.mem_cons_self | apply List.mem_cons_of_mem | apply List.mem_append_right)) (by rfl) ⟨_, rfl, ?_⟩)
                refine WL.gy (dj := 51) rfl rfl rfl (Yd.neq rfl rfl) ?_
                refine WL.y rfl (Yd.pickF rfl rfl) ?_
                refine WL.y rfl (Yd.move rfl) ?_
                refine WL.partP (t := 56) rfl (fun hg56 => ?_) (fun hg56 => ?_)
                · refine WL.gn (dj := 56) rfl rfl rfl rfl ?_
                  refine WL.y rfl (Yd.pickT rfl rfl) ?_
                  refine WL.nil ?_
                  refine DN.then_normal ?_
                  refine WC.yes rfl ?_
                  refine WC.seq ?_
                  refine WC.region ?_
                  refine WL.y rfl (Yd.assign rfl) ?_
                  refine WL.y rfl (Yd.assign rfl) ?_
                  refine WL.nil ?_
                  refine DN.then_normal ?_
                  refine WC.ret ?_
                  refine DN.then_ret ?_
                  refine DN.block_ret ?_
                  refine DN.then_ret ?_
                  refine DN.then_ret ?_
                  refine DN.block_ret ?_
                  refine DN.then_ret ?_
                  first | (have hlt2 : i < gs.length := hlt; refine DN.fit (C := H) (by repeat (first | exact Sp.here | exact Sp.sn | exact Sp.s0 | exact Fr.here | apply Sp.s2 | apply Sp.sx | apply Fr.fc | apply Fr.al | apply Fr.fa | apply Sp.sc | apply Sp.al | apply Sp.sa)) ?_) | refine DN.fit (C := row b15 [.map (some b1), .map (some b2)] 57 :: (C1 ++ (C2 ++ H))) (by repeat (first | exact Sp.here | exact Sp.sn | exact Sp.s0 | exact Fr.here | apply Sp.s2 | apply Sp.sx | apply Fr.fc | apply Fr.al | apply Fr.fa | apply Sp.sc | apply Sp.al | apply Sp.sa)) ?_ | skip
                  refine DN.ret2 Try.results11 rfl rfl ?_
                  first
                    | exact .inr ⟨fun hG => by have := hG.1; omega, rfl, rfl⟩
                    | exact .inr ⟨fun hG => (hG.2.2 gs[i] (List.getElem_mem hlt)).1 hg35, rfl, rfl⟩
                    | exact .inr ⟨fun hG => by have := (hG.2.2 gs[i] (List.getElem_mem hlt)).2; omega, rfl, rfl⟩
                    | exact .inr ⟨fun hG => (twice_noU hlt h58) hG.2.1, rfl, rfl⟩
                    | exact .inl ⟨⟨by omega, hnd, fun g hm => by obtain ⟨j, hj, rfl⟩ := List.getElem_of_mem hm; exact hgood j hj hj⟩, b15, row b15 [.map (some b1), .map (some b2)] 57 :: (C1 ++ C2), rfl, ⟨b1, b2, C1, C2, rfl, hK, h2⟩, by simp⟩
                · refine WL.gy (dj := 56) rfl rfl rfl (Yd.move rfl) ?_
                  refine WL.y rfl (Yd.pickF rfl rfl) ?_
                  refine WL.nil ?_
                  refine DN.then_normal ?_
                  refine WC.cond rfl (fun h58 => ?_) (fun h58 => ?_)
                  · refine WC.seq ?_
                    refine WC.region ?_
                    refine WL.y rfl (Yd.assign rfl) ?_
                    refine WL.y rfl (Yd.assign rfl) ?_
                    refine WL.nil ?_
                    refine DN.then_normal ?_
                    refine WC.ret ?_
                    refine DN.then_ret ?_
                    refine DN.block_ret ?_
                    refine DN.then_ret ?_
                    refine DN.then_ret ?_
                    refine DN.block_ret ?_
                    refine DN.then_ret ?_
                    first | (have hlt2 : i < gs.length := hlt; refine DN.fit (C := H) (by repeat (first | exact Sp.here | exact Sp.sn | exact Sp.s0 | exact Fr.here | apply Sp.s2 | apply Sp.sx | apply Fr.fc | apply Fr.al | apply Fr.fa | apply Sp.sc | apply Sp.al | apply Sp.sa)) ?_) | refine DN.fit (C := row b15 [.map (some b1), .map (some b2)] 57 :: (C1 ++ (C2 ++ H))) (by repeat (first | exact Sp.here | exact Sp.sn | exact Sp.s0 | exact Fr.here | apply Sp.s2 | apply Sp.sx | apply Fr.fc | apply Fr.al | apply Fr.fa | apply Sp.sc | apply Sp.al | apply Sp.sa)) ?_ | skip
                    refine DN.ret2 Try.results11 rfl rfl ?_
                    first
                      | exact .inr ⟨fun hG => by have := hG.1; omega, rfl, rfl⟩
                      | exact .inr ⟨fun hG => (hG.2.2 gs[i] (List.getElem_mem hlt)).1 hg35, rfl, rfl⟩
                      | exact .inr ⟨fun hG => by have := (hG.2.2 gs[i] (List.getElem_mem hlt)).2; omega, rfl, rfl⟩
                      | exact .inr ⟨fun hG => (twice_noU hlt h58) hG.2.1, rfl, rfl⟩
                      | exact .inl ⟨⟨by omega, hnd, fun g hm => by obtain ⟨j, hj, rfl⟩ := List.getElem_of_mem hm; exact hgood j hj hj⟩, b15, row b15 [.map (some b1), .map (some b2)] 57 :: (C1 ++ C2), rfl, ⟨b1, b2, C1, C2, rfl, hK, h2⟩, by simp⟩
                  · have hgi : accB gs[i] := ⟨hg35, by omega, by omega, by omega, by omega⟩
                    have hnone : findK Au.name (gs.take i) gs[i].name = none := by simpa using h58
                    have hndi := once_moreU hnd hnone
                    refine WC.skip ?_
                    refine DN.then_normal ?_
                    refine WC.draw 8 (by kernel_rfl) rfl ?_
                    refine WA.y (i := 0) (NoPanic.block (NoPanic.then (NoPanic.then (NoPanic.block (NoPanic.then (NoPanic.body)))))) rfl (by kernel_rfl) (by kernel_rfl) (by kernel_rfl) rfl (Yd.move rfl) ?_
                    refine WA.y (i := 1) (NoPanic.block (NoPanic.then (NoPanic.then (NoPanic.block (NoPanic.then (NoPanic.body)))))) rfl (by kernel_rfl) (by kernel_rfl) (by kernel_rfl) rfl (Yd.notNil rfl) ?_
                    refine WA.y (i := 2) (NoPanic.block (NoPanic.then (NoPanic.then (NoPanic.block (NoPanic.then (NoPanic.body)))))) rfl (by kernel_rfl) (by kernel_rfl) (by kernel_rfl) rfl (Yd.fieldAddr (k := 0) (by kernel_rfl) rfl) ?_
                    refine WA.y (i := 4) (NoPanic.block (NoPanic.then (NoPanic.then (NoPanic.block (NoPanic.then (NoPanic.body)))))) rfl (by kernel_rfl) (by kernel_rfl) (by kernel_rfl) rfl (Yd.fieldAddr (k := 0) (by kernel_rfl) rfl) ?_
                    refine WA.reads [(3, 62, _), (5, 64, _), (6, 65, _)] [3, 5, 6] [] 1 rfl rfl (List.forall_mem_cons.2 ⟨ReadAt.mk rfl Wt.none rfl (Rd.load1 (by kernel_rfl) rfl (by repeat (first | exact List.mem_cons_self | apply List.mem_cons_of_mem | apply List.mem_append_right)) (by rfl)), List.forall_mem_cons.2 ⟨ReadAt.mk rfl Wt.none rfl (Rd.load1 (by kernel_rfl) rfl (by repeat (first | exact List.mem_cons_self | apply List.mem_cons_of_mem | apply List.mem_append_right)) (by rfl)), List.forall_mem_cons.2 ⟨ReadAt.mk rfl Wt.none rfl (Rd.loadAll (n := 3) (by kernel_rfl) rfl (by repeat (first | exact List.mem_cons_self | apply List.mem_cons_of_mem | apply List.mem_append_right)) (by rfl)), fun _ h => absurd h List.not_mem_nil⟩⟩⟩) (by decide) (by simp) (List.forall_mem_cons.2 ⟨rfl, List.forall_mem_cons.2 ⟨rfl, List.forall_mem_cons.2 ⟨rfl, fun _ h => absurd h List.not_mem_nil⟩⟩⟩) (by kernel_rfl) (fun _ h => absurd h List.not_mem_nil) ?_
                    · change WA _ _ _ _ _ _ 1 _ ([(62, _), (64, _), (65, _)] ++ _) _
                      refine WA.one (i := 7) (by kernel_rfl) ?_
                      refine WO.s rfl Wt.none (Hd.mapSet (k0 := kStr) (KT := 9) (ET := 46) (TD := .string) (n := gs[i].name) (by kernel_rfl) Try.underlying9 rfl rfl rfl rfl hK (by rw [kvs_keys]; exact hnd) (by repeat (first | exact Sp.here | exact Sp.sn | exact Sp.s0 | exact Fr.here | apply Sp.s2 | apply Sp.sx | apply Fr.fc | apply Fr.al | apply Fr.fa | apply Sp.sc | apply Sp.al | apply Sp.sa)) fun C3 h3 => ⟨rfl, ?_⟩)
                      refine WA.done (by kernel_rfl) ?_
                      refine DN.block_normal ?_
                      refine DN.then_normal ?_
                      refine WC.region ?_
                      refine WL.y rfl (Yd.add rfl rfl (by omega) (by omega)) ?_
                      refine WL.y rfl (Yd.move rfl) ?_
                      refine WL.nil ?_
                      exact DN.againS (⟨i + 1, C3⟩) (show (i + 1) ≤ gs.length ∧ (∀ (j : Nat) (h : j < gs.length), j < (i + 1) → accB gs[j]) ∧ ((gs.take (i + 1)).map Au.name).Nodup ∧ MpG kStr b1 (kvs Au.name encU (gs.take (i + 1))) C3 from ⟨by omega, fun j h hj => by
                        rcases Nat.lt_or_ge j i with h5 | h5
                        · exact hgood j h h5
                        · obtain rfl : j = i := by omega
                          exact hgi, by rw [htk]; exact hndi, by rw [htk, ← putU_new hnone, ← putU (gs.take i) gs[i] gs[i].name rfl]; exact h3⟩) (show gs.length - (i + 1) < gs.length - i by omega) (Sx.put rfl ((by repeat (first | exact Sx.refl | refine Sx.skip rfl ?_)))) (by repeat (first | exact Sp.here | exact Sp.sn | exact Sp.s0 | exact Fr.here | apply Sp.s2 | apply Sp.sx | apply Fr.fc | apply Fr.al | apply Fr.fa | apply Sp.sc | apply Sp.al | apply Sp.sa))
    · obtain rfl : i = gs.length := by omega
      rw [List.take_length] at hnd hK
      refine WC.exit ?_
      refine DN.then_exit ?_
      refine DN.then_exit ?_
      refine DN.block_exit ?_
      refine DN.then_normal ?_
      refine WC.seq ?_
      refine WC.region ?_
      refine WL.y rfl (Yd.move rfl) ?_
      refine WL.y rfl (Yd.assign rfl) ?_
      refine WL.y rfl (Yd.assign rfl) ?_
      refine WL.nil ?_
      refine DN.then_normal ?_
      refine WC.ret ?_
      first | (have hlt2 : i < gs.length := hlt; refine DN.fit (C := H) (by repeat (first | exact Sp.here | exact Sp.sn | exact Sp.s0 | exact Fr.here | apply Sp.s2 | apply Sp.sx | apply Fr.fc | apply Fr.al | apply Fr.fa | apply Sp.sc | apply Sp.al | apply Sp.sa)) ?_) | refine DN.fit (C := row b15 [.map (some b1), .map (some b2)] 57 :: (C1 ++ (C2 ++ H))) (by repeat (first | exact Sp.here | exact Sp.sn | exact Sp.s0 | exact Fr.here | apply Sp.s2 | apply Sp.sx | apply Fr.fc | apply Fr.al | apply Fr.fa | apply Sp.sc | apply Sp.al | apply Sp.sa)) ?_ | skip
      refine DN.ret2 Try.results11 rfl rfl ?_
      first
        | exact .inr ⟨fun hG => by have := hG.1; omega, rfl, rfl⟩
        | exact .inr ⟨fun hG => (hG.2.2 gs[i] (List.getElem_mem hlt)).1 hg35, rfl, rfl⟩
        | exact .inr ⟨fun hG => by have := (hG.2.2 gs[i] (List.getElem_mem hlt)).2; omega, rfl, rfl⟩
        | exact .inr ⟨fun hG => (twice_noU hlt h58) hG.2.1, rfl, rfl⟩
        | exact .inl ⟨⟨by omega, hnd, fun g hm => by obtain ⟨j, hj, rfl⟩ := List.getElem_of_mem hm; exact hgood j hj hj⟩, b15, row b15 [.map (some b1), .map (some b2)] 57 :: (C1 ++ C2), rfl, ⟨b1, b2, C1, C2, rfl, hK, h2⟩, by simp⟩

/-- drayage/drayagelaw10.act -/
theorem act_tells (p : Nat) (first K : List Au) (L : List Py) (C : List Ck) (h : PsAt 57 p K L C) (inv : PInv first K L) (x : Aq) : Tells Try.prog 13 [.pointer (some ⟨p, 0, none⟩), .agg (cellsQ x).toArray] C fun r H' => r = .int .i64 (actVP K L x) ∧ PsAt 57 p (actKP K L x) (actLP K L x) H' := by
  refine Tells.enter Try.func13 rfl Try.ntmps13 rfl ?_
  intro w0 R
  refine WC.seq ?_
  refine WC.region ?_
  refine WL.h rfl (Hd.boxA rfl fun b3 => ⟨_, rfl, ?_⟩)
  refine WL.y rfl (Yd.assign rfl) ?_
  refine WL.nil ?_
  refine DN.then_normal ?_
  refine WC.seq ?_
  refine WC.seq ?_
  refine WC.region ?_
  refine WL.y rfl (Yd.fieldAddr (k := 0) (by kernel_rfl) rfl) ?_
  refine WL.h rfl (Hd.load1 (by kernel_rfl) rfl (by repeat (first | exact List.mem_cons_self | apply List.mem_cons_of_mem | apply List.mem_append_right)) (by rfl) ⟨_, rfl, ?_⟩)
  refine WL.nil ?_
  refine DN.then_normal ?_
  refine WC.block ?_
  refine WC.seq ?_
  refine WC.seq ?_
  refine WC.region ?_
  refine WL.y rfl (Yd.eql rfl rfl) ?_
  refine WL.y rfl (Yd.assign rfl) ?_
  refine WL.nil ?_
  refine DN.then_normal ?_
  refine WC.ite rfl (fun h7 => ?_) (fun h7 => ?_)
  · refine WC.skip ?_
    refine DN.then_normal ?_
    refine WC.ite rfl (fun h7 => ?_) (fun h7 => ?_)
    · refine WC.seq ?_
      refine WC.region ?_
      refine WL.y rfl (Yd.move rfl) ?_
      refine WL.y rfl (Yd.fieldAddr (k := 1) (by kernel_rfl) rfl) ?_
      refine WL.h rfl (Hd.load1 (by kernel_rfl) rfl (by repeat (first | exact List.mem_cons_self | apply List.mem_cons_of_mem | apply List.mem_append_right)) (by rfl) ⟨_, rfl, ?_⟩)
      refine WL.y rfl (Yd.fieldAddr (k := 2) (by kernel_rfl) rfl) ?_
      refine WL.h rfl (Hd.load1 (by kernel_rfl) rfl (by repeat (first | exact List.mem_cons_self | apply List.mem_cons_of_mem | apply List.mem_append_right)) (by rfl) ⟨_, rfl, ?_⟩)
      refine WL.y rfl (Yd.fieldAddr (k := 3) (by kernel_rfl) rfl) ?_
      refine WL.h rfl (Hd.load1 (by kernel_rfl) rfl (by repeat (first | exact List.mem_cons_self | apply List.mem_cons_of_mem | apply List.mem_append_right)) (by rfl) ⟨_, rfl, ?_⟩)
      refine WL.c rfl (Ent.func Try.call24 rfl) (auth_tells p first K L C h inv x.o x.name x.n) (Sp.p (by repeat (first | exact Sp.here | exact Sp.sn | exact Sp.s0 | exact Fr.here | apply Sp.s2 | apply Sp.sx | apply Fr.fc | apply Fr.al | apply Fr.fa | apply Sp.sc | apply Sp.al | apply Sp.sa))) ?_
      rintro q C2 ⟨rfl, h2⟩
      refine WL.y rfl (Yd.assign rfl) ?_
      refine WL.nil ?_
      refine DN.then_normal ?_
      refine WC.ret ?_
      refine DN.block_ret ?_
      refine DN.then_ret ?_
      refine DN.fit (C := C2) (by repeat (first | exact Sp.here | exact Sp.sn | exact Sp.s0 | exact Fr.here | apply Sp.s2 | apply Sp.sx | apply Fr.fc | apply Fr.al | apply Fr.fa | apply Sp.sc | apply Sp.al | apply Sp.sa)) ?_
      refine DN.ret1 Try.results13 rfl ?_
      first
        | (have e : isAuth x = true := by unfold isAuth; rw [Bool.or_eq_true, decide_eq_true_eq, decide_eq_true_eq]; omega
           unfold actVP actKP actLP
           rw [e]
           simp only [if_true]
           exact ⟨by first | rfl | trivial, h2⟩)
        | (have e : isAuth x = false := by unfold isAuth; rw [Bool.or_eq_false_iff, decide_eq_false_iff_not, decide_eq_false_iff_not]; omega
           have e2 : x.k = 2 := by omega
           unfold actVP actKP actLP
           rw [e]
           simp only [Bool.false_eq_true, if_false, if_pos e2]
           exact ⟨by first | rfl | trivial, h2⟩)
        | (have e : isAuth x = false := by unfold isAuth; rw [Bool.or_eq_false_iff, decide_eq_false_iff_not, decide_eq_false_iff_not]; omega
           have e2 : ¬ x.k = 2 := by omega
           have e3 : x.k = 3 := by omega
           unfold actVP actKP actLP
           rw [e]
           simp only [Bool.false_eq_true, if_false, if_neg e2, if_pos e3]
           exact ⟨by first | rfl | trivial, h2⟩)
        | (have e : isAuth x = false := by unfold isAuth; rw [Bool.or_eq_false_iff, decide_eq_false_iff_not, decide_eq_false_iff_not]; omega
           have e2 : ¬ x.k = 2 := by omega
           have e3 : ¬ x.k = 3 := by omega
           unfold actVP actKP actLP
           rw [e]
           simp only [Bool.false_eq_true, if_false, if_neg e2, if_neg e3]
           exact ⟨by first | rfl | trivial, h2⟩)
    · refine WC.seq ?_
      refine WC.region ?_
      refine WL.y rfl (Yd.eql rfl rfl) ?_
      refine WL.y rfl (Yd.assign rfl) ?_
      refine WL.nil ?_
      refine DN.then_normal ?_
      refine WC.ite rfl (fun h18 => ?_) (fun h18 => ?_)
      · refine WC.seq ?_
        refine WC.region ?_
        refine WL.y rfl (Yd.move rfl) ?_
        refine WL.y rfl (Yd.fieldAddr (k := 1) (by kernel_rfl) rfl) ?_
        refine WL.h rfl (Hd.load1 (by kernel_rfl) rfl (by repeat (first | exact List.mem_cons_self | apply List.mem_cons_of_mem | apply List.mem_append_right)) (by rfl) ⟨_, rfl, ?_⟩)
        refine WL.c rfl (Ent.func Try.call26 rfl) (capture_tells p first K L C h inv x.o) (Sp.p (by repeat (first | exact Sp.here | exact Sp.sn | exact Sp.s0 | exact Fr.here | apply Sp.s2 | apply Sp.sx | apply Fr.fc | apply Fr.al | apply Fr.fa | apply Sp.sc | apply Sp.al | apply Sp.sa))) ?_
        rintro q C2 ⟨rfl, h2⟩
        refine WL.y rfl (Yd.assign rfl) ?_
        refine WL.nil ?_
        refine DN.then_normal ?_
        refine WC.ret ?_
        refine DN.block_ret ?_
        refine DN.then_ret ?_
        refine DN.fit (C := C2) (by repeat (first | exact Sp.here | exact Sp.sn | exact Sp.s0 | exact Fr.here | apply Sp.s2 | apply Sp.sx | apply Fr.fc | apply Fr.al | apply Fr.fa | apply Sp.sc | apply Sp.al | apply Sp.sa)) ?_
        refine DN.ret1 Try.results13 rfl ?_
        first
          | (have e : isAuth x = true := by unfold isAuth; rw [Bool.or_eq_true, decide_eq_true_eq, decide_eq_true_eq]; omega
             unfold actVP actKP actLP
             rw [e]
             simp only [if_true]
             exact ⟨by first | rfl | trivial, h2⟩)
          | (have e : isAuth x = false := by unfold isAuth; rw [Bool.or_eq_false_iff, decide_eq_false_iff_not, decide_eq_false_iff_not]; omega
             have e2 : x.k = 2 := by omega
             unfold actVP actKP actLP
             rw [e]
             simp only [Bool.false_eq_true, if_false, if_pos e2]
             exact ⟨by first | rfl | trivial, h2⟩)
          | (have e : isAuth x = false := by unfold isAuth; rw [Bool.or_eq_false_iff, decide_eq_false_iff_not, decide_eq_false_iff_not]; omega
             have e2 : ¬ x.k = 2 := by omega
             have e3 : x.k = 3 := by omega
             unfold actVP actKP actLP
             rw [e]
             simp only [Bool.false_eq_true, if_false, if_neg e2, if_pos e3]
             exact ⟨by first | rfl | trivial, h2⟩)
          | (have e : isAuth x = false := by unfold isAuth; rw [Bool.or_eq_false_iff, decide_eq_false_iff_not, decide_eq_false_iff_not]; omega
             have e2 : ¬ x.k = 2 := by omega
             have e3 : ¬ x.k = 3 := by omega
             unfold actVP actKP actLP
             rw [e]
             simp only [Bool.false_eq_true, if_false, if_neg e2, if_neg e3]
             exact ⟨by first | rfl | trivial, h2⟩)
      · refine WC.seq ?_
        refine WC.region ?_
        refine WL.y rfl (Yd.eql rfl rfl) ?_
        refine WL.y rfl (Yd.assign rfl) ?_
        refine WL.nil ?_
        refine DN.then_normal ?_
        refine WC.ite rfl (fun h24 => ?_) (fun h24 => ?_)
        · refine WC.seq ?_
          refine WC.region ?_
          refine WL.y rfl (Yd.move rfl) ?_
          refine WL.y rfl (Yd.fieldAddr (k := 1) (by kernel_rfl) rfl) ?_
          refine WL.h rfl (Hd.load1 (by kernel_rfl) rfl (by repeat (first | exact List.mem_cons_self | apply List.mem_cons_of_mem | apply List.mem_append_right)) (by rfl) ⟨_, rfl, ?_⟩)
          refine WL.c rfl (Ent.func Try.call27 rfl) (void_tells p first K L C h inv x.o) (Sp.p (by repeat (first | exact Sp.here | exact Sp.sn | exact Sp.s0 | exact Fr.here | apply Sp.s2 | apply Sp.sx | apply Fr.fc | apply Fr.al | apply Fr.fa | apply Sp.sc | apply Sp.al | apply Sp.sa))) ?_
          rintro q C2 ⟨rfl, h2⟩
          refine WL.y rfl (Yd.assign rfl) ?_
          refine WL.nil ?_
          refine DN.then_normal ?_
          refine WC.ret ?_
          refine DN.block_ret ?_
          refine DN.then_ret ?_
          refine DN.fit (C := C2) (by repeat (first | exact Sp.here | exact Sp.sn | exact Sp.s0 | exact Fr.here | apply Sp.s2 | apply Sp.sx | apply Fr.fc | apply Fr.al | apply Fr.fa | apply Sp.sc | apply Sp.al | apply Sp.sa)) ?_
          refine DN.ret1 Try.results13 rfl ?_
          first
            | (have e : isAuth x = true := by unfold isAuth; rw [Bool.or_eq_true, decide_eq_true_eq, decide_eq_true_eq]; omega
               unfold actVP actKP actLP
               rw [e]
               simp only [if_true]
               exact ⟨by first | rfl | trivial, h2⟩)
            | (have e : isAuth x = false := by unfold isAuth; rw [Bool.or_eq_false_iff, decide_eq_false_iff_not, decide_eq_false_iff_not]; omega
               have e2 : x.k = 2 := by omega
               unfold actVP actKP actLP
               rw [e]
               simp only [Bool.false_eq_true, if_false, if_pos e2]
               exact ⟨by first | rfl | trivial, h2⟩)
            | (have e : isAuth x = false := by unfold isAuth; rw [Bool.or_eq_false_iff, decide_eq_false_iff_not, decide_eq_false_iff_not]; omega
               have e2 : ¬ x.k = 2 := by omega
               have e3 : x.k = 3 := by omega
               unfold actVP actKP actLP
               rw [e]
               simp only [Bool.false_eq_true, if_false, if_neg e2, if_pos e3]
               exact ⟨by first | rfl | trivial, h2⟩)
            | (have e : isAuth x = false := by unfold isAuth; rw [Bool.or_eq_false_iff, decide_eq_false_iff_not, decide_eq_false_iff_not]; omega
               have e2 : ¬ x.k = 2 := by omega
               have e3 : ¬ x.k = 3 := by omega
               unfold actVP actKP actLP
               rw [e]
               simp only [Bool.false_eq_true, if_false, if_neg e2, if_neg e3]
               exact ⟨by first | rfl | trivial, h2⟩)
        · refine WC.skip ?_
          refine DN.block_normal ?_
          refine DN.then_normal ?_
          refine WC.seq ?_
          refine WC.region ?_
          refine WL.y rfl (Yd.move rfl) ?_
          refine WL.y rfl (Yd.fieldAddr (k := 1) (by kernel_rfl) rfl) ?_
          refine WL.h rfl (Hd.load1 (by kernel_rfl) rfl (by repeat (first | exact List.mem_cons_self | apply List.mem_cons_of_mem | apply List.mem_append_right)) (by rfl) ⟨_, rfl, ?_⟩)
          refine WL.c rfl (Ent.func Try.call25 rfl) (refund_tells p first K L C h inv x.o) (Sp.p (by repeat (first | exact Sp.here | exact Sp.sn | exact Sp.s0 | exact Fr.here | apply Sp.s2 | apply Sp.sx | apply Fr.fc | apply Fr.al | apply Fr.fa | apply Sp.sc | apply Sp.al | apply Sp.sa))) ?_
          rintro q C2 ⟨rfl, h2⟩
          refine WL.y rfl (Yd.assign rfl) ?_
          refine WL.nil ?_
          refine DN.then_normal ?_
          refine WC.ret ?_
          refine DN.fit (C := C2) (by repeat (first | exact Sp.here | exact Sp.sn | exact Sp.s0 | exact Fr.here | apply Sp.s2 | apply Sp.sx | apply Fr.fc | apply Fr.al | apply Fr.fa | apply Sp.sc | apply Sp.al | apply Sp.sa)) ?_
          refine DN.ret1 Try.results13 rfl ?_
          first
            | (have e : isAuth x = true := by unfold isAuth; rw [Bool.or_eq_true, decide_eq_true_eq, decide_eq_true_eq]; omega
               unfold actVP actKP actLP
               rw [e]
               simp only [if_true]
               exact ⟨by first | rfl | trivial, h2⟩)
            | (have e : isAuth x = false := by unfold isAuth; rw [Bool.or_eq_false_iff, decide_eq_false_iff_not, decide_eq_false_iff_not]; omega
               have e2 : x.k = 2 := by omega
               unfold actVP actKP actLP
               rw [e]
               simp only [Bool.false_eq_true, if_false, if_pos e2]
               exact ⟨by first | rfl | trivial, h2⟩)
            | (have e : isAuth x = false := by unfold isAuth; rw [Bool.or_eq_false_iff, decide_eq_false_iff_not, decide_eq_false_iff_not]; omega
               have e2 : ¬ x.k = 2 := by omega
               have e3 : x.k = 3 := by omega
               unfold actVP actKP actLP
               rw [e]
               simp only [Bool.false_eq_true, if_false, if_neg e2, if_pos e3]
               exact ⟨by first | rfl | trivial, h2⟩)
            | (have e : isAuth x = false := by unfold isAuth; rw [Bool.or_eq_false_iff, decide_eq_false_iff_not, decide_eq_false_iff_not]; omega
               have e2 : ¬ x.k = 2 := by omega
               have e3 : ¬ x.k = 3 := by omega
               unfold actVP actKP actLP
               rw [e]
               simp only [Bool.false_eq_true, if_false, if_neg e2, if_neg e3]
               exact ⟨by first | rfl | trivial, h2⟩)
  · refine WC.region ?_
    refine WL.y rfl (Yd.eql rfl rfl) ?_
    refine WL.y rfl (Yd.assign rfl) ?_
    refine WL.nil ?_
    refine DN.then_normal ?_
    refine WC.ite rfl (fun h7 => ?_) (fun h7 => ?_)
    · refine WC.seq ?_
      refine WC.region ?_
      refine WL.y rfl (Yd.move rfl) ?_
      refine WL.y rfl (Yd.fieldAddr (k := 1) (by kernel_rfl) rfl) ?_
      refine WL.h rfl (Hd.load1 (by kernel_rfl) rfl (by repeat (first | exact List.mem_cons_self | apply List.mem_cons_of_mem | apply List.mem_append_right)) (by rfl) ⟨_, rfl, ?_⟩)
      refine WL.y rfl (Yd.fieldAddr (k := 2) (by kernel_rfl) rfl) ?_
      refine WL.h rfl (Hd.load1 (by kernel_rfl) rfl (by repeat (first | exact List.mem_cons_self | apply List.mem_cons_of_mem | apply List.mem_append_right)) (by rfl) ⟨_, rfl, ?_⟩)
      refine WL.y rfl (Yd.fieldAddr (k := 3) (by kernel_rfl) rfl) ?_
      refine WL.h rfl (Hd.load1 (by kernel_rfl) rfl (by repeat (first | exact List.mem_cons_self | apply List.mem_cons_of_mem | apply List.mem_append_right)) (by rfl) ⟨_, rfl, ?_⟩)
      refine WL.c rfl (Ent.func Try.call24 rfl) (auth_tells p first K L C h inv x.o x.name x.n) (Sp.p (by repeat (first | exact Sp.here | exact Sp.sn | exact Sp.s0 | exact Fr.here | apply Sp.s2 | apply Sp.sx | apply Fr.fc | apply Fr.al | apply Fr.fa | apply Sp.sc | apply Sp.al | apply Sp.sa))) ?_
      rintro q C2 ⟨rfl, h2⟩
      refine WL.y rfl (Yd.assign rfl) ?_
      refine WL.nil ?_
      refine DN.then_normal ?_
      refine WC.ret ?_
      refine DN.block_ret ?_
      refine DN.then_ret ?_
      refine DN.fit (C := C2) (by repeat (first | exact Sp.here | exact Sp.sn | exact Sp.s0 | exact Fr.here | apply Sp.s2 | apply Sp.sx | apply Fr.fc | apply Fr.al | apply Fr.fa | apply Sp.sc | apply Sp.al | apply Sp.sa)) ?_
      refine DN.ret1 Try.results13 rfl ?_
      first
        | (have e : isAuth x = true := by unfold isAuth; rw [Bool.or_eq_true, decide_eq_true_eq, decide_eq_true_eq]; omega
           unfold actVP actKP actLP
           rw [e]
           simp only [if_true]
           exact ⟨by first | rfl | trivial, h2⟩)
        | (have e : isAuth x = false := by unfold isAuth; rw [Bool.or_eq_false_iff, decide_eq_false_iff_not, decide_eq_false_iff_not]; omega
           have e2 : x.k = 2 := by omega
           unfold actVP actKP actLP
           rw [e]
           simp only [Bool.false_eq_true, if_false, if_pos e2]
           exact ⟨by first | rfl | trivial, h2⟩)
        | (have e : isAuth x = false := by unfold isAuth; rw [Bool.or_eq_false_iff, decide_eq_false_iff_not, decide_eq_false_iff_not]; omega
           have e2 : ¬ x.k = 2 := by omega
           have e3 : x.k = 3 := by omega
           unfold actVP actKP actLP
           rw [e]
           simp only [Bool.false_eq_true, if_false, if_neg e2, if_pos e3]
           exact ⟨by first | rfl | trivial, h2⟩)
        | (have e : isAuth x = false := by unfold isAuth; rw [Bool.or_eq_false_iff, decide_eq_false_iff_not, decide_eq_false_iff_not]; omega
           have e2 : ¬ x.k = 2 := by omega
           have e3 : ¬ x.k = 3 := by omega
           unfold actVP actKP actLP
           rw [e]
           simp only [Bool.false_eq_true, if_false, if_neg e2, if_neg e3]
           exact ⟨by first | rfl | trivial, h2⟩)
    · refine WC.seq ?_
      refine WC.region ?_
      refine WL.y rfl (Yd.eql rfl rfl) ?_
      refine WL.y rfl (Yd.assign rfl) ?_
      refine WL.nil ?_
      refine DN.then_normal ?_
      refine WC.ite rfl (fun h18 => ?_) (fun h18 => ?_)
      · refine WC.seq ?_
        refine WC.region ?_
        refine WL.y rfl (Yd.move rfl) ?_
        refine WL.y rfl (Yd.fieldAddr (k := 1) (by kernel_rfl) rfl) ?_
        refine WL.h rfl (Hd.load1 (by kernel_rfl) rfl (by repeat (first | exact List.mem_cons_self | apply List.mem_cons_of_mem | apply List.mem_append_right)) (by rfl) ⟨_, rfl, ?_⟩)
        refine WL.c rfl (Ent.func Try.call26 rfl) (capture_tells p first K L C h inv x.o) (Sp.p (by repeat (first | exact Sp.here | exact Sp.sn | exact Sp.s0 | exact Fr.here | apply Sp.s2 | apply Sp.sx | apply Fr.fc | apply Fr.al | apply Fr.fa | apply Sp.sc | apply Sp.al | apply Sp.sa))) ?_
        rintro q C2 ⟨rfl, h2⟩
        refine WL.y rfl (Yd.assign rfl) ?_
        refine WL.nil ?_
        refine DN.then_normal ?_
        refine WC.ret ?_
        refine DN.block_ret ?_
        refine DN.then_ret ?_
        refine DN.fit (C := C2) (by repeat (first | exact Sp.here | exact Sp.sn | exact Sp.s0 | exact Fr.here | apply Sp.s2 | apply Sp.sx | apply Fr.fc | apply Fr.al | apply Fr.fa | apply Sp.sc | apply Sp.al | apply Sp.sa)) ?_
        refine DN.ret1 Try.results13 rfl ?_
        first
          | (have e : isAuth x = true := by unfold isAuth; rw [Bool.or_eq_true, decide_eq_true_eq, decide_eq_true_eq]; omega
             unfold actVP actKP actLP
             rw [e]
             simp only [if_true]
             exact ⟨by first | rfl | trivial, h2⟩)
          | (have e : isAuth x = false := by unfold isAuth; rw [Bool.or_eq_false_iff, decide_eq_false_iff_not, decide_eq_false_iff_not]; omega
             have e2 : x.k = 2 := by omega
             unfold actVP actKP actLP
             rw [e]
             simp only [Bool.false_eq_true, if_false, if_pos e2]
             exact ⟨by first | rfl | trivial, h2⟩)
          | (have e : isAuth x = false := by unfold isAuth; rw [Bool.or_eq_false_iff, decide_eq_false_iff_not, decide_eq_false_iff_not]; omega
             have e2 : ¬ x.k = 2 := by omega
             have e3 : x.k = 3 := by omega
             unfold actVP actKP actLP
             rw [e]
             simp only [Bool.false_eq_true, if_false, if_neg e2, if_pos e3]
             exact ⟨by first | rfl | trivial, h2⟩)
          | (have e : isAuth x = false := by unfold isAuth; rw [Bool.or_eq_false_iff, decide_eq_false_iff_not, decide_eq_false_iff_not]; omega
             have e2 : ¬ x.k = 2 := by omega
             have e3 : ¬ x.k = 3 := by omega
             unfold actVP actKP actLP
             rw [e]
             simp only [Bool.false_eq_true, if_false, if_neg e2, if_neg e3]
             exact ⟨by first | rfl | trivial, h2⟩)
      · refine WC.seq ?_
        refine WC.region ?_
        refine WL.y rfl (Yd.eql rfl rfl) ?_
        refine WL.y rfl (Yd.assign rfl) ?_
        refine WL.nil ?_
        refine DN.then_normal ?_
        refine WC.ite rfl (fun h24 => ?_) (fun h24 => ?_)
        · refine WC.seq ?_
          refine WC.region ?_
          refine WL.y rfl (Yd.move rfl) ?_
          refine WL.y rfl (Yd.fieldAddr (k := 1) (by kernel_rfl) rfl) ?_
          refine WL.h rfl (Hd.load1 (by kernel_rfl) rfl (by repeat (first | exact List.mem_cons_self | apply List.mem_cons_of_mem | apply List.mem_append_right)) (by rfl) ⟨_, rfl, ?_⟩)
          refine WL.c rfl (Ent.func Try.call27 rfl) (void_tells p first K L C h inv x.o) (Sp.p (by repeat (first | exact Sp.here | exact Sp.sn | exact Sp.s0 | exact Fr.here | apply Sp.s2 | apply Sp.sx | apply Fr.fc | apply Fr.al | apply Fr.fa | apply Sp.sc | apply Sp.al | apply Sp.sa))) ?_
          rintro q C2 ⟨rfl, h2⟩
          refine WL.y rfl (Yd.assign rfl) ?_
          refine WL.nil ?_
          refine DN.then_normal ?_
          refine WC.ret ?_
          refine DN.block_ret ?_
          refine DN.then_ret ?_
          refine DN.fit (C := C2) (by repeat (first | exact Sp.here | exact Sp.sn | exact Sp.s0 | exact Fr.here | apply Sp.s2 | apply Sp.sx | apply Fr.fc | apply Fr.al | apply Fr.fa | apply Sp.sc | apply Sp.al | apply Sp.sa)) ?_
          refine DN.ret1 Try.results13 rfl ?_
          first
            | (have e : isAuth x = true := by unfold isAuth; rw [Bool.or_eq_true, decide_eq_true_eq, decide_eq_true_eq]; omega
               unfold actVP actKP actLP
               rw [e]
               simp only [if_true]
               exact ⟨by first | rfl | trivial, h2⟩)
            | (have e : isAuth x = false := by unfold isAuth; rw [Bool.or_eq_false_iff, decide_eq_false_iff_not, decide_eq_false_iff_not]; omega
               have e2 : x.k = 2 := by omega
               unfold actVP actKP actLP
               rw [e]
               simp only [Bool.false_eq_true, if_false, if_pos e2]
               exact ⟨by first | rfl | trivial, h2⟩)
            | (have e : isAuth x = false := by unfold isAuth; rw [Bool.or_eq_false_iff, decide_eq_false_iff_not, decide_eq_false_iff_not]; omega
               have e2 : ¬ x.k = 2 := by omega
               have e3 : x.k = 3 := by omega
               unfold actVP actKP actLP
               rw [e]
               simp only [Bool.false_eq_true, if_false, if_neg e2, if_pos e3]
               exact ⟨by first | rfl | trivial, h2⟩)
            | (have e : isAuth x = false := by unfold isAuth; rw [Bool.or_eq_false_iff, decide_eq_false_iff_not, decide_eq_false_iff_not]; omega
               have e2 : ¬ x.k = 2 := by omega
               have e3 : ¬ x.k = 3 := by omega
               unfold actVP actKP actLP
               rw [e]
               simp only [Bool.false_eq_true, if_false, if_neg e2, if_neg e3]
               exact ⟨by first | rfl | trivial, h2⟩)
        · refine WC.skip ?_
          refine DN.block_normal ?_
          refine DN.then_normal ?_
          refine WC.seq ?_
          refine WC.region ?_
          refine WL.y rfl (Yd.move rfl) ?_
          refine WL.y rfl (Yd.fieldAddr (k := 1) (by kernel_rfl) rfl) ?_
          refine WL.h rfl (Hd.load1 (by kernel_rfl) rfl (by repeat (first | exact List.mem_cons_self | apply List.mem_cons_of_mem | apply List.mem_append_right)) (by rfl) ⟨_, rfl, ?_⟩)
          refine WL.c rfl (Ent.func Try.call25 rfl) (refund_tells p first K L C h inv x.o) (Sp.p (by repeat (first | exact Sp.here | exact Sp.sn | exact Sp.s0 | exact Fr.here | apply Sp.s2 | apply Sp.sx | apply Fr.fc | apply Fr.al | apply Fr.fa | apply Sp.sc | apply Sp.al | apply Sp.sa))) ?_
          rintro q C2 ⟨rfl, h2⟩
          refine WL.y rfl (Yd.assign rfl) ?_
          refine WL.nil ?_
          refine DN.then_normal ?_
          refine WC.ret ?_
          refine DN.fit (C := C2) (by repeat (first | exact Sp.here | exact Sp.sn | exact Sp.s0 | exact Fr.here | apply Sp.s2 | apply Sp.sx | apply Fr.fc | apply Fr.al | apply Fr.fa | apply Sp.sc | apply Sp.al | apply Sp.sa)) ?_
          refine DN.ret1 Try.results13 rfl ?_
          first
            | (have e : isAuth x = true := by unfold isAuth; rw [Bool.or_eq_true, decide_eq_true_eq, decide_eq_true_eq]; omega
               unfold actVP actKP actLP
               rw [e]
               simp only [if_true]
               exact ⟨by first | rfl | trivial, h2⟩)
            | (have e : isAuth x = false := by unfold isAuth; rw [Bool.or_eq_false_iff, decide_eq_false_iff_not, decide_eq_false_iff_not]; omega
               have e2 : x.k = 2 := by omega
               unfold actVP actKP actLP
               rw [e]
               simp only [Bool.false_eq_true, if_false, if_pos e2]
               exact ⟨by first | rfl | trivial, h2⟩)
            | (have e : isAuth x = false := by unfold isAuth; rw [Bool.or_eq_false_iff, decide_eq_false_iff_not, decide_eq_false_iff_not]; omega
               have e2 : ¬ x.k = 2 := by omega
               have e3 : x.k = 3 := by omega
               unfold actVP actKP actLP
               rw [e]
               simp only [Bool.false_eq_true, if_false, if_neg e2, if_pos e3]
               exact ⟨by first | rfl | trivial, h2⟩)
            | (have e : isAuth x = false := by unfold isAuth; rw [Bool.or_eq_false_iff, decide_eq_false_iff_not, decide_eq_false_iff_not]; omega
               have e2 : ¬ x.k = 2 := by omega
               have e3 : ¬ x.k = 3 := by omega
               unfold actVP actKP actLP
               rw [e]
               simp only [Bool.false_eq_true, if_false, if_neg e2, if_neg e3]
               exact ⟨by first | rfl | trivial, h2⟩)

/-- drayage/drayagelaw10.sameAccounts -/
theorem sameAccs_reads (u v : Value) (xs ys : List Au) (H : List Ck) (hu : Rs u xs.length (xs.flatMap cellsU) H) (hv : Rs v ys.length (ys.flatMap cellsU) H) (hx : xs.length ≤ 100000000) (hy : ys.length ≤ 100000000) : Reads Try.prog 18 [u, v] H (.bool (decide (xs = ys))) := by
  refine Tells.enter Try.func18 rfl Try.ntmps18 rfl ?_
  intro w0 R
  obtain ⟨uo, uc, rfl, _⟩ := hu.form
  obtain ⟨vo, vc, rfl, _⟩ := hv.form
  refine WC.seq ?_
  refine WC.region ?_
  refine WL.y rfl (Yd.assign rfl) ?_
  refine WL.nil ?_
  refine DN.then_normal ?_
  refine WC.seq ?_
  refine WC.seq ?_
  refine WC.region ?_
  refine WL.y rfl (Yd.move rfl) ?_
  refine WL.y rfl (Yd.len (e := 46) (by kernel_rfl) rfl) ?_
  refine WL.y rfl (Yd.move rfl) ?_
  refine WL.y rfl (Yd.len (e := 46) (by kernel_rfl) rfl) ?_
  refine WL.y rfl (Yd.neq rfl rfl) ?_
  refine WL.nil ?_
  refine DN.then_normal ?_
  refine WC.cond rfl (fun h10 => ?_) (fun h10 => ?_)
  · have hln : xs.length ≠ ys.length := by simp only [decide_eq_true_eq] at h10; omega
    refine WC.seq ?_
    refine WC.region ?_
    refine WL.y rfl (Yd.assign rfl) ?_
    refine WL.nil ?_
    refine DN.then_normal ?_
    refine WC.ret ?_
    refine DN.then_ret ?_
    refine DN.fit (C := H) (by repeat (first | exact Sp.here | exact Sp.sn | exact Sp.s0 | exact Fr.here | apply Sp.s2 | apply Sp.sx | apply Fr.fc | apply Fr.al | apply Fr.fa | apply Sp.sc | apply Sp.al | apply Sp.sa)) ?_
    refine DN.ret1 Try.results18 rfl ?_
    first
      | exact ⟨by rw [decide_eq_false (same_no hln)], rfl⟩
      | exact ⟨by rw [decide_eq_true (same_yes hln fun j h1 h2 => hsame j h1 h2 h1)], rfl⟩
      | exact ⟨by rw [decide_eq_false (fun e => hne (by have e2 := congrArg (fun l => l[i]?) e; simpa [hlt, show i < ys.length by omega] using e2))], rfl⟩
  · have hln : xs.length = ys.length := by simp only [decide_eq_false_iff_not] at h10; omega
    refine WC.skip ?_
    refine DN.then_normal ?_
    refine WC.seq ?_
    refine WC.seq ?_
    refine WC.region ?_
    refine WL.y rfl (Yd.assign rfl) ?_
    refine WL.nil ?_
    refine DN.then_normal ?_
    refine WC.block ?_
    refine WC.loopS (fun z : Nat => z ≤ xs.length ∧ ∀ (j : Nat) (h1 : j < xs.length) (h2 : j < ys.length), j < z → xs[j] = ys[j]) (fun z : Nat => [(5, .int .i64 (z : Int))]) (fun z : Nat => H) (fun z : Nat => xs.length - z) (0) (show 0 ≤ xs.length ∧ ∀ (j : Nat) (h1 : j < xs.length) (h2 : j < ys.length), j < 0 → xs[j] = ys[j] from ⟨by omega, fun _ _ _ _ => by omega⟩) (Sx.put rfl ((by repeat (first | exact Sx.refl | refine Sx.skip rfl ?_)))) (by repeat (first | exact Sp.here | exact Sp.sn | exact Sp.s0 | exact Fr.here | apply Sp.s2 | apply Sp.sx | apply Fr.fc | apply Fr.al | apply Fr.fa | apply Sp.sc | apply Sp.al | apply Sp.sa)) ?_
    rintro i hI
    replace hI : i ≤ xs.length ∧ ∀ (j : Nat) (h1 : j < xs.length) (h2 : j < ys.length), j < i → xs[j] = ys[j] := hI
    obtain ⟨hi, hsame⟩ := hI
    change WC _ _ _ _ _ _ ([(5, .int .i64 (i : Int))] ++ _) (H)
    refine WC.seq ?_
    refine WC.seq ?_
    refine WC.region ?_
    refine WL.y rfl (Yd.move rfl) ?_
    refine WL.y rfl (Yd.move rfl) ?_
    refine WL.y rfl (Yd.len (e := 46) (by kernel_rfl) rfl) ?_
    refine WL.y rfl (Yd.lss rfl rfl) ?_
    refine WL.nil ?_
    refine DN.then_normal ?_
    refine WC.ite rfl (fun h14 => ?_) (fun h14 => ?_)
    · have hlt : i < xs.length := by omega
      obtain ⟨ub, uf, us, uT, ufr, uex, rfl, _, hum, hus⟩ := hu.lies (by omega)
      obtain ⟨vb, vf, vs, vT, vfr, vex, rfl, _, hvm, hvs⟩ := hv.lies (by omega)
      refine WC.skip ?_
      refine DN.then_normal ?_
      refine WC.seq ?_
      refine WC.block ?_
      refine WC.seq ?_
      refine WC.draw 9 (by kernel_rfl) rfl ?_
      refine WA.y (i := 0) (NoPanic.then (NoPanic.block (NoPanic.then (NoPanic.then (NoPanic.block (NoPanic.then (NoPanic.body))))))) rfl (by kernel_rfl) (by kernel_rfl) (by kernel_rfl) rfl (Yd.move rfl) ?_
      refine WA.y (i := 1) (NoPanic.then (NoPanic.block (NoPanic.then (NoPanic.then (NoPanic.block (NoPanic.then (NoPanic.body))))))) rfl (by kernel_rfl) (by kernel_rfl) (by kernel_rfl) rfl (Yd.move rfl) ?_
      refine WA.y (i := 2) (NoPanic.then (NoPanic.block (NoPanic.then (NoPanic.then (NoPanic.block (NoPanic.then (NoPanic.body))))))) rfl (by kernel_rfl) (by kernel_rfl) (by kernel_rfl) rfl (Yd.indexAddr (e := 46) (s := 3) (by kernel_rfl) (by kernel_rfl) rfl rfl (by omega) (by omega)) ?_
      refine WA.y (i := 4) (NoPanic.then (NoPanic.block (NoPanic.then (NoPanic.then (NoPanic.block (NoPanic.then (NoPanic.body))))))) rfl (by kernel_rfl) (by kernel_rfl) (by kernel_rfl) rfl (Yd.move rfl) ?_
      refine WA.y (i := 5) (NoPanic.then (NoPanic.block (NoPanic.then (NoPanic.then (NoPanic.block (NoPanic.then (NoPanic.body))))))) rfl (by kernel_rfl) (by kernel_rfl) (by kernel_rfl) rfl (Yd.move rfl) ?_
      refine WA.y (i := 6) (NoPanic.then (NoPanic.block (NoPanic.then (NoPanic.then (NoPanic.block (NoPanic.then (NoPanic.body))))))) rfl (by kernel_rfl) (by kernel_rfl) (by kernel_rfl) rfl (Yd.indexAddr (e := 46) (s := 3) (by kernel_rfl) (by kernel_rfl) rfl rfl (by omega) (by omega)) ?_
      refine WA.two (i := 3) (j := 7) (by kernel_rfl) ?_ ?_
      · refine WO.h rfl Wt.none rfl (Hd.loadA (n := 3) (b := ub) (o := uf + (i : Int).toNat * 3) (cs := us) (vs := cellsU xs[i]) (by kernel_rfl) rfl (Gr.get (by repeat (first | exact Gr.refl | exact Gr.left Gr.refl | exact Gr.left (Gr.left Gr.refl) | exact Gr.left (Gr.app Gr.refl) | exact Gr.left (Gr.left (Gr.left Gr.refl)) | exact Gr.nil | exact Gr.app (Gr.left Gr.refl) | refine Gr.cons ?_ | refine Gr.app ?_ | refine Gr.both ?_ ?_ | refine Gr.put (by repeat (first | exact List.mem_cons_self | apply List.mem_cons_of_mem | apply List.mem_append_right)) ?_)) hum) (cellsU_len _) (rs_cell hus (by rw [flat_len cellsU 3 cellsU_len]; omega) (flat_row cellsU 3 cellsU_len xs i (by omega))) ⟨_, rfl, ?_⟩)
        refine WA.one (i := 7) (by kernel_rfl) ?_
        refine WO.h rfl Wt.none rfl (Hd.loadA (n := 3) (b := vb) (o := vf + (i : Int).toNat * 3) (cs := vs) (vs := cellsU ys[i]) (by kernel_rfl) rfl (Gr.get (by repeat (first | exact Gr.refl | exact Gr.left Gr.refl | exact Gr.left (Gr.left Gr.refl) | exact Gr.left (Gr.app Gr.refl) | exact Gr.left (Gr.left (Gr.left Gr.refl)) | exact Gr.nil | exact Gr.app (Gr.left Gr.refl) | refine Gr.cons ?_ | refine Gr.app ?_ | refine Gr.both ?_ ?_ | refine Gr.put (by repeat (first | exact List.mem_cons_self | apply List.mem_cons_of_mem | apply List.mem_append_right)) ?_)) hvm) (cellsU_len _) (rs_cell hvs (by rw [flat_len cellsU 3 cellsU_len]; omega) (flat_row cellsU 3 cellsU_len ys i (by omega))) ⟨_, rfl, ?_⟩)
        refine WA.y (i := 8) (NoPanic.then (NoPanic.block (NoPanic.then (NoPanic.then (NoPanic.block (NoPanic.then (NoPanic.body))))))) rfl (by kernel_rfl) (by kernel_rfl) (by kernel_rfl) rfl (Yd.neqSt [1, 0, 0] (by kernel_rfl) rfl rfl (same_au _ _)) ?_
        refine WA.done (by kernel_rfl) ?_
        refine DN.then_normal ?_
        refine WC.cond rfl (fun h25 => ?_) (fun h25 => ?_)
        · have hne : ¬ xs[i] = ys[i] := by simpa using h25
          refine WC.seq ?_
          refine WC.region ?_
          refine WL.y rfl (Yd.assign rfl) ?_
          refine WL.nil ?_
          refine DN.then_normal ?_
          refine WC.ret ?_
          refine DN.block_ret ?_
          refine DN.then_ret ?_
          refine DN.then_ret ?_
          refine DN.block_ret ?_
          refine DN.then_ret ?_
          refine DN.fit (C := H) (by repeat (first | exact Sp.here | exact Sp.sn | exact Sp.s0 | exact Fr.here | apply Sp.s2 | apply Sp.sx | apply Fr.fc | apply Fr.al | apply Fr.fa | apply Sp.sc | apply Sp.al | apply Sp.sa)) ?_
          refine DN.ret1 Try.results18 rfl ?_
          first
            | exact ⟨by rw [decide_eq_false (same_no hln)], rfl⟩
            | exact ⟨by rw [decide_eq_true (same_yes hln fun j h1 h2 => hsame j h1 h2 h1)], rfl⟩
            | exact ⟨by rw [decide_eq_false (fun e => hne (by have e2 := congrArg (fun l => l[i]?) e; simpa [hlt, show i < ys.length by omega] using e2))], rfl⟩
        · have heq : xs[i] = ys[i] := by simpa using h25
          refine WC.skip ?_
          refine DN.block_normal ?_
          refine DN.then_normal ?_
          refine WC.region ?_
          refine WL.y rfl (Yd.move rfl) ?_
          refine WL.y rfl (Yd.add rfl rfl (by omega) (by omega)) ?_
          refine WL.y rfl (Yd.assign rfl) ?_
          refine WL.nil ?_
          exact DN.againS (i + 1) (show (i + 1) ≤ xs.length ∧ ∀ (j : Nat) (h1 : j < xs.length) (h2 : j < ys.length), j < (i + 1) → xs[j] = ys[j] from ⟨by omega, fun j h1 h2 hj => by
            rcases Nat.lt_or_ge j i with h | h
            · exact hsame j h1 h2 h
            · obtain rfl : j = i := by omega
              exact heq⟩) (show xs.length - (i + 1) < xs.length - i by omega) (Sx.put rfl ((by repeat (first | exact Sx.refl | refine Sx.skip rfl ?_)))) (by repeat (first | exact Sp.here | exact Sp.sn | exact Sp.s0 | exact Fr.here | apply Sp.s2 | apply Sp.sx | apply Fr.fc | apply Fr.al | apply Fr.fa | apply Sp.sc | apply Sp.al | apply Sp.sa))
      · refine WO.h rfl Wt.none rfl (Hd.loadA (n := 3) (b := vb) (o := vf + (i : Int).toNat * 3) (cs := vs) (vs := cellsU ys[i]) (by kernel_rfl) rfl (Gr.get (by repeat (first | exact Gr.refl | exact Gr.left Gr.refl | exact Gr.left (Gr.left Gr.refl) | exact Gr.left (Gr.app Gr.refl) | exact Gr.left (Gr.left (Gr.left Gr.refl)) | exact Gr.nil | exact Gr.app (Gr.left Gr.refl) | refine Gr.cons ?_ | refine Gr.app ?_ | refine Gr.both ?_ ?_ | refine Gr.put (by repeat (first | exact List.mem_cons_self | apply List.mem_cons_of_mem | apply List.mem_append_right)) ?_)) hvm) (cellsU_len _) (rs_cell hvs (by rw [flat_len cellsU 3 cellsU_len]; omega) (flat_row cellsU 3 cellsU_len ys i (by omega))) ⟨_, rfl, ?_⟩)
        refine WA.one (i := 3) (by kernel_rfl) ?_
        refine WO.h rfl Wt.none rfl (Hd.loadA (n := 3) (b := ub) (o := uf + (i : Int).toNat * 3) (cs := us) (vs := cellsU xs[i]) (by kernel_rfl) rfl (Gr.get (by repeat (first | exact Gr.refl | exact Gr.left Gr.refl | exact Gr.left (Gr.left Gr.refl) | exact Gr.left (Gr.app Gr.refl) | exact Gr.left (Gr.left (Gr.left Gr.refl)) | exact Gr.nil | exact Gr.app (Gr.left Gr.refl) | refine Gr.cons ?_ | refine Gr.app ?_ | refine Gr.both ?_ ?_ | refine Gr.put (by repeat (first | exact List.mem_cons_self | apply List.mem_cons_of_mem | apply List.mem_append_right)) ?_)) hum) (cellsU_len _) (rs_cell hus (by rw [flat_len cellsU 3 cellsU_len]; omega) (flat_row cellsU 3 cellsU_len xs i (by omega))) ⟨_, rfl, ?_⟩)
        refine WA.y (i := 8) (NoPanic.then (NoPanic.block (NoPanic.then (NoPanic.then (NoPanic.block (NoPanic.then (NoPanic.body))))))) rfl (by kernel_rfl) (by kernel_rfl) (by kernel_rfl) rfl (Yd.neqSt [1, 0, 0] (by kernel_rfl) rfl rfl (same_au _ _)) ?_
        refine WA.done (by kernel_rfl) ?_
        refine DN.then_normal ?_
        refine WC.cond rfl (fun h25 => ?_) (fun h25 => ?_)
        · have hne : ¬ xs[i] = ys[i] := by simpa using h25
          refine WC.seq ?_
          refine WC.region ?_
          refine WL.y rfl (Yd.assign rfl) ?_
          refine WL.nil ?_
          refine DN.then_normal ?_
          refine WC.ret ?_
          refine DN.block_ret ?_
          refine DN.then_ret ?_
          refine DN.then_ret ?_
          refine DN.block_ret ?_
          refine DN.then_ret ?_
          refine DN.fit (C := H) (by repeat (first | exact Sp.here | exact Sp.sn | exact Sp.s0 | exact Fr.here | apply Sp.s2 | apply Sp.sx | apply Fr.fc | apply Fr.al | apply Fr.fa | apply Sp.sc | apply Sp.al | apply Sp.sa)) ?_
          refine DN.ret1 Try.results18 rfl ?_
          first
            | exact ⟨by rw [decide_eq_false (same_no hln)], rfl⟩
            | exact ⟨by rw [decide_eq_true (same_yes hln fun j h1 h2 => hsame j h1 h2 h1)], rfl⟩
            | exact ⟨by rw [decide_eq_false (fun e => hne (by have e2 := congrArg (fun l => l[i]?) e; simpa [hlt, show i < ys.length by omega] using e2))], rfl⟩
        · have heq : xs[i] = ys[i] := by simpa using h25
          refine WC.skip ?_
          refine DN.block_normal ?_
          refine DN.then_normal ?_
          refine WC.region ?_
          refine WL.y rfl (Yd.move rfl) ?_
          refine WL.y rfl (Yd.add rfl rfl (by omega) (by omega)) ?_
          refine WL.y rfl (Yd.assign rfl) ?_
          refine WL.nil ?_
          exact DN.againS (i + 1) (show (i + 1) ≤ xs.length ∧ ∀ (j : Nat) (h1 : j < xs.length) (h2 : j < ys.length), j < (i + 1) → xs[j] = ys[j] from ⟨by omega, fun j h1 h2 hj => by
            rcases Nat.lt_or_ge j i with h | h
            · exact hsame j h1 h2 h
            · obtain rfl : j = i := by omega
              exact heq⟩) (show xs.length - (i + 1) < xs.length - i by omega) (Sx.put rfl ((by repeat (first | exact Sx.refl | refine Sx.skip rfl ?_)))) (by repeat (first | exact Sp.here | exact Sp.sn | exact Sp.s0 | exact Fr.here | apply Sp.s2 | apply Sp.sx | apply Fr.fc | apply Fr.al | apply Fr.fa | apply Sp.sc | apply Sp.al | apply Sp.sa))
    · obtain rfl : i = xs.length := by omega
      refine WC.exit ?_
      refine DN.then_exit ?_
      refine DN.then_exit ?_
      refine DN.block_exit ?_
      refine DN.then_normal ?_
      refine WC.seq ?_
      refine WC.region ?_
      refine WL.y rfl (Yd.assign rfl) ?_
      refine WL.nil ?_
      refine DN.then_normal ?_
      refine WC.ret ?_
      refine DN.fit (C := H) (by repeat (first | exact Sp.here | exact Sp.sn | exact Sp.s0 | exact Fr.here | apply Sp.s2 | apply Sp.sx | apply Fr.fc | apply Fr.al | apply Fr.fa | apply Sp.sc | apply Sp.al | apply Sp.sa)) ?_
      refine DN.ret1 Try.results18 rfl ?_
      first
        | exact ⟨by rw [decide_eq_false (same_no hln)], rfl⟩
        | exact ⟨by rw [decide_eq_true (same_yes hln fun j h1 h2 => hsame j h1 h2 h1)], rfl⟩
        | exact ⟨by rw [decide_eq_false (fun e => hne (by have e2 := congrArg (fun l => l[i]?) e; simpa [hlt, show i < ys.length by omega] using e2))], rfl⟩

/-- drayage/drayagelaw10.samePays -/
theorem samePays_reads (u v : Value) (xs ys : List Py) (H : List Ck) (hu : Rs u xs.length (xs.flatMap cellsP) H) (hv : Rs v ys.length (ys.flatMap cellsP) H) (hx : xs.length ≤ 100000000) (hy : ys.length ≤ 100000000) : Reads Try.prog 20 [u, v] H (.bool (decide (xs = ys))) := by
  refine Tells.enter Try.func20 rfl Try.ntmps20 rfl ?_
  intro w0 R
  obtain ⟨uo, uc, rfl, _⟩ := hu.form
  obtain ⟨vo, vc, rfl, _⟩ := hv.form
  refine WC.seq ?_
  refine WC.region ?_
  refine WL.y rfl (Yd.assign rfl) ?_
  refine WL.nil ?_
  refine DN.then_normal ?_
  refine WC.seq ?_
  refine WC.seq ?_
  refine WC.region ?_
  refine WL.y rfl (Yd.move rfl) ?_
  refine WL.y rfl (Yd.len (e := 48) (by kernel_rfl) rfl) ?_
  refine WL.y rfl (Yd.move rfl) ?_
  refine WL.y rfl (Yd.len (e := 48) (by kernel_rfl) rfl) ?_
  refine WL.y rfl (Yd.neq rfl rfl) ?_
  refine WL.nil ?_
  refine DN.then_normal ?_
  refine WC.cond rfl (fun h10 => ?_) (fun h10 => ?_)
  · have hln : xs.length ≠ ys.length := by simp only [decide_eq_true_eq] at h10; omega
    refine WC.seq ?_
    refine WC.region ?_
    refine WL.y rfl (Yd.assign rfl) ?_
    refine WL.nil ?_
    refine DN.then_normal ?_
    refine WC.ret ?_
    refine DN.then_ret ?_
    refine DN.fit (C := H) (by repeat (first | exact Sp.here | exact Sp.sn | exact Sp.s0 | exact Fr.here | apply Sp.s2 | apply Sp.sx | apply Fr.fc | apply Fr.al | apply Fr.fa | apply Sp.sc | apply Sp.al | apply Sp.sa)) ?_
    refine DN.ret1 Try.results20 rfl ?_
    first
      | exact ⟨by rw [decide_eq_false (same_no hln)], rfl⟩
      | exact ⟨by rw [decide_eq_true (same_yes hln fun j h1 h2 => hsame j h1 h2 h1)], rfl⟩
      | exact ⟨by rw [decide_eq_false (fun e => hne (by have e2 := congrArg (fun l => l[i]?) e; simpa [hlt, show i < ys.length by omega] using e2))], rfl⟩
  · have hln : xs.length = ys.length := by simp only [decide_eq_false_iff_not] at h10; omega
    refine WC.skip ?_
    refine DN.then_normal ?_
    refine WC.seq ?_
    refine WC.seq ?_
    refine WC.region ?_
    refine WL.y rfl (Yd.assign rfl) ?_
    refine WL.nil ?_
    refine DN.then_normal ?_
    refine WC.block ?_
    refine WC.loopS (fun z : Nat => z ≤ xs.length ∧ ∀ (j : Nat) (h1 : j < xs.length) (h2 : j < ys.length), j < z → xs[j] = ys[j]) (fun z : Nat => [(5, .int .i64 (z : Int))]) (fun z : Nat => H) (fun z : Nat => xs.length - z) (0) (show 0 ≤ xs.length ∧ ∀ (j : Nat) (h1 : j < xs.length) (h2 : j < ys.length), j < 0 → xs[j] = ys[j] from ⟨by omega, fun _ _ _ _ => by omega⟩) (Sx.put rfl ((by repeat (first | exact Sx.refl | refine Sx.skip rfl ?_)))) (by repeat (first | exact Sp.here | exact Sp.sn | exact Sp.s0 | exact Fr.here | apply Sp.s2 | apply Sp.sx | apply Fr.fc | apply Fr.al | apply Fr.fa | apply Sp.sc | apply Sp.al | apply Sp.sa)) ?_
    rintro i hI
    replace hI : i ≤ xs.length ∧ ∀ (j : Nat) (h1 : j < xs.length) (h2 : j < ys.length), j < i → xs[j] = ys[j] := hI
    obtain ⟨hi, hsame⟩ := hI
    change WC _ _ _ _ _ _ ([(5, .int .i64 (i : Int))] ++ _) (H)
    refine WC.seq ?_
    refine WC.seq ?_
    refine WC.region ?_
    refine WL.y rfl (Yd.move rfl) ?_
    refine WL.y rfl (Yd.move rfl) ?_
    refine WL.y rfl (Yd.len (e := 48) (by kernel_rfl) rfl) ?_
    refine WL.y rfl (Yd.lss rfl rfl) ?_
    refine WL.nil ?_
    refine DN.then_normal ?_
    refine WC.ite rfl (fun h14 => ?_) (fun h14 => ?_)
    · have hlt : i < xs.length := by omega
      obtain ⟨ub, uf, us, uT, ufr, uex, rfl, _, hum, hus⟩ := hu.lies (by omega)
      obtain ⟨vb, vf, vs, vT, vfr, vex, rfl, _, hvm, hvs⟩ := hv.lies (by omega)
      refine WC.skip ?_
      refine DN.then_normal ?_
      refine WC.seq ?_
      refine WC.block ?_
      refine WC.seq ?_
      refine WC.draw 9 (by kernel_rfl) rfl ?_
      refine WA.y (i := 0) (NoPanic.then (NoPanic.block (NoPanic.then (NoPanic.then (NoPanic.block (NoPanic.then (NoPanic.body))))))) rfl (by kernel_rfl) (by kernel_rfl) (by kernel_rfl) rfl (Yd.move rfl) ?_
      refine WA.y (i := 1) (NoPanic.then (NoPanic.block (NoPanic.then (NoPanic.then (NoPanic.block (NoPanic.then (NoPanic.body))))))) rfl (by kernel_rfl) (by kernel_rfl) (by kernel_rfl) rfl (Yd.move rfl) ?_
      refine WA.y (i := 2) (NoPanic.then (NoPanic.block (NoPanic.then (NoPanic.then (NoPanic.block (NoPanic.then (NoPanic.body))))))) rfl (by kernel_rfl) (by kernel_rfl) (by kernel_rfl) rfl (Yd.indexAddr (e := 48) (s := 4) (by kernel_rfl) (by kernel_rfl) rfl rfl (by omega) (by omega)) ?_
      refine WA.y (i := 4) (NoPanic.then (NoPanic.block (NoPanic.then (NoPanic.then (NoPanic.block (NoPanic.then (NoPanic.body))))))) rfl (by kernel_rfl) (by kernel_rfl) (by kernel_rfl) rfl (Yd.move rfl) ?_
      refine WA.y (i := 5) (NoPanic.then (NoPanic.block (NoPanic.then (NoPanic.then (NoPanic.block (NoPanic.then (NoPanic.body))))))) rfl (by kernel_rfl) (by kernel_rfl) (by kernel_rfl) rfl (Yd.move rfl) ?_
      refine WA.y (i := 6) (NoPanic.then (NoPanic.block (NoPanic.then (NoPanic.then (NoPanic.block (NoPanic.then (NoPanic.body))))))) rfl (by kernel_rfl) (by kernel_rfl) (by kernel_rfl) rfl (Yd.indexAddr (e := 48) (s := 4) (by kernel_rfl) (by kernel_rfl) rfl rfl (by omega) (by omega)) ?_
      refine WA.two (i := 3) (j := 7) (by kernel_rfl) ?_ ?_
      · refine WO.h rfl Wt.none rfl (Hd.loadA (n := 4) (b := ub) (o := uf + (i : Int).toNat * 4) (cs := us) (vs := cellsP xs[i]) (by kernel_rfl) rfl (Gr.get (by repeat (first | exact Gr.refl | exact Gr.left Gr.refl | exact Gr.left (Gr.left Gr.refl) | exact Gr.left (Gr.app Gr.refl) | exact Gr.left (Gr.left (Gr.left Gr.refl)) | exact Gr.nil | exact Gr.app (Gr.left Gr.refl) | refine Gr.cons ?_ | refine Gr.app ?_ | refine Gr.both ?_ ?_ | refine Gr.put (by repeat (first | exact List.mem_cons_self | apply List.mem_cons_of_mem | apply List.mem_append_right)) ?_)) hum) (cellsP_len _) (rs_cell hus (by rw [flat_len cellsP 4 cellsP_len]; omega) (flat_row cellsP 4 cellsP_len xs i (by omega))) ⟨_, rfl, ?_⟩)
        refine WA.one (i := 7) (by kernel_rfl) ?_
        refine WO.h rfl Wt.none rfl (Hd.loadA (n := 4) (b := vb) (o := vf + (i : Int).toNat * 4) (cs := vs) (vs := cellsP ys[i]) (by kernel_rfl) rfl (Gr.get (by repeat (first | exact Gr.refl | exact Gr.left Gr.refl | exact Gr.left (Gr.left Gr.refl) | exact Gr.left (Gr.app Gr.refl) | exact Gr.left (Gr.left (Gr.left Gr.refl)) | exact Gr.nil | exact Gr.app (Gr.left Gr.refl) | refine Gr.cons ?_ | refine Gr.app ?_ | refine Gr.both ?_ ?_ | refine Gr.put (by repeat (first | exact List.mem_cons_self | apply List.mem_cons_of_mem | apply List.mem_append_right)) ?_)) hvm) (cellsP_len _) (rs_cell hvs (by rw [flat_len cellsP 4 cellsP_len]; omega) (flat_row cellsP 4 cellsP_len ys i (by omega))) ⟨_, rfl, ?_⟩)
        refine WA.y (i := 8) (NoPanic.then (NoPanic.block (NoPanic.then (NoPanic.then (NoPanic.block (NoPanic.then (NoPanic.body))))))) rfl (by kernel_rfl) (by kernel_rfl) (by kernel_rfl) rfl (Yd.neqSt [0, 1, 0, 0] (by kernel_rfl) rfl rfl (same_py _ _)) ?_
        refine WA.done (by kernel_rfl) ?_
        refine DN.then_normal ?_
        refine WC.cond rfl (fun h25 => ?_) (fun h25 => ?_)
        · have hne : ¬ xs[i] = ys[i] := by simpa using h25
          refine WC.seq ?_
          refine WC.region ?_
          refine WL.y rfl (Yd.assign rfl) ?_
          refine WL.nil ?_
          refine DN.then_normal ?_
          refine WC.ret ?_
          refine DN.block_ret ?_
          refine DN.then_ret ?_
          refine DN.then_ret ?_
          refine DN.block_ret ?_
          refine DN.then_ret ?_
          refine DN.fit (C := H) (by repeat (first | exact Sp.here | exact Sp.sn | exact Sp.s0 | exact Fr.here | apply Sp.s2 | apply Sp.sx | apply Fr.fc | apply Fr.al | apply Fr.fa | apply Sp.sc | apply Sp.al | apply Sp.sa)) ?_
          refine DN.ret1 Try.results20 rfl ?_
          first
            | exact ⟨by rw [decide_eq_false (same_no hln)], rfl⟩
            | exact ⟨by rw [decide_eq_true (same_yes hln fun j h1 h2 => hsame j h1 h2 h1)], rfl⟩
            | exact ⟨by rw [decide_eq_false (fun e => hne (by have e2 := congrArg (fun l => l[i]?) e; simpa [hlt, show i < ys.length by omega] using e2))], rfl⟩
        · have heq : xs[i] = ys[i] := by simpa using h25
          refine WC.skip ?_
          refine DN.block_normal ?_
          refine DN.then_normal ?_
          refine WC.region ?_
          refine WL.y rfl (Yd.move rfl) ?_
          refine WL.y rfl (Yd.add rfl rfl (by omega) (by omega)) ?_
          refine WL.y rfl (Yd.assign rfl) ?_
          refine WL.nil ?_
          exact DN.againS (i + 1) (show (i + 1) ≤ xs.length ∧ ∀ (j : Nat) (h1 : j < xs.length) (h2 : j < ys.length), j < (i + 1) → xs[j] = ys[j] from ⟨by omega, fun j h1 h2 hj => by
            rcases Nat.lt_or_ge j i with h | h
            · exact hsame j h1 h2 h
            · obtain rfl : j = i := by omega
              exact heq⟩) (show xs.length - (i + 1) < xs.length - i by omega) (Sx.put rfl ((by repeat (first | exact Sx.refl | refine Sx.skip rfl ?_)))) (by repeat (first | exact Sp.here | exact Sp.sn | exact Sp.s0 | exact Fr.here | apply Sp.s2 | apply Sp.sx | apply Fr.fc | apply Fr.al | apply Fr.fa | apply Sp.sc | apply Sp.al | apply Sp.sa))
      · refine WO.h rfl Wt.none rfl (Hd.loadA (n := 4) (b := vb) (o := vf + (i : Int).toNat * 4) (cs := vs) (vs := cellsP ys[i]) (by kernel_rfl) rfl (Gr.get (by repeat (first | exact Gr.refl | exact Gr.left Gr.refl | exact Gr.left (Gr.left Gr.refl) | exact Gr.left (Gr.app Gr.refl) | exact Gr.left (Gr.left (Gr.left Gr.refl)) | exact Gr.nil | exact Gr.app (Gr.left Gr.refl) | refine Gr.cons ?_ | refine Gr.app ?_ | refine Gr.both ?_ ?_ | refine Gr.put (by repeat (first | exact List.mem_cons_self | apply List.mem_cons_of_mem | apply List.mem_append_right)) ?_)) hvm) (cellsP_len _) (rs_cell hvs (by rw [flat_len cellsP 4 cellsP_len]; omega) (flat_row cellsP 4 cellsP_len ys i (by omega))) ⟨_, rfl, ?_⟩)
        refine WA.one (i := 3) (by kernel_rfl) ?_
        refine WO.h rfl Wt.none rfl (Hd.loadA (n := 4) (b := ub) (o := uf + (i : Int).toNat * 4) (cs := us) (vs := cellsP xs[i]) (by kernel_rfl) rfl (Gr.get (by repeat (first | exact Gr.refl | exact Gr.left Gr.refl | exact Gr.left (Gr.left Gr.refl) | exact Gr.left (Gr.app Gr.refl) | exact Gr.left (Gr.left (Gr.left Gr.refl)) | exact Gr.nil | exact Gr.app (Gr.left Gr.refl) | refine Gr.cons ?_ | refine Gr.app ?_ | refine Gr.both ?_ ?_ | refine Gr.put (by repeat (first | exact List.mem_cons_self | apply List.mem_cons_of_mem | apply List.mem_append_right)) ?_)) hum) (cellsP_len _) (rs_cell hus (by rw [flat_len cellsP 4 cellsP_len]; omega) (flat_row cellsP 4 cellsP_len xs i (by omega))) ⟨_, rfl, ?_⟩)
        refine WA.y (i := 8) (NoPanic.then (NoPanic.block (NoPanic.then (NoPanic.then (NoPanic.block (NoPanic.then (NoPanic.body))))))) rfl (by kernel_rfl) (by kernel_rfl) (by kernel_rfl) rfl (Yd.neqSt [0, 1, 0, 0] (by kernel_rfl) rfl rfl (same_py _ _)) ?_
        refine WA.done (by kernel_rfl) ?_
        refine DN.then_normal ?_
        refine WC.cond rfl (fun h25 => ?_) (fun h25 => ?_)
        · have hne : ¬ xs[i] = ys[i] := by simpa using h25
          refine WC.seq ?_
          refine WC.region ?_
          refine WL.y rfl (Yd.assign rfl) ?_
          refine WL.nil ?_
          refine DN.then_normal ?_
          refine WC.ret ?_
          refine DN.block_ret ?_
          refine DN.then_ret ?_
          refine DN.then_ret ?_
          refine DN.block_ret ?_
          refine DN.then_ret ?_
          refine DN.fit (C := H) (by repeat (first | exact Sp.here | exact Sp.sn | exact Sp.s0 | exact Fr.here | apply Sp.s2 | apply Sp.sx | apply Fr.fc | apply Fr.al | apply Fr.fa | apply Sp.sc | apply Sp.al | apply Sp.sa)) ?_
          refine DN.ret1 Try.results20 rfl ?_
          first
            | exact ⟨by rw [decide_eq_false (same_no hln)], rfl⟩
            | exact ⟨by rw [decide_eq_true (same_yes hln fun j h1 h2 => hsame j h1 h2 h1)], rfl⟩
            | exact ⟨by rw [decide_eq_false (fun e => hne (by have e2 := congrArg (fun l => l[i]?) e; simpa [hlt, show i < ys.length by omega] using e2))], rfl⟩
        · have heq : xs[i] = ys[i] := by simpa using h25
          refine WC.skip ?_
          refine DN.block_normal ?_
          refine DN.then_normal ?_
          refine WC.region ?_
          refine WL.y rfl (Yd.move rfl) ?_
          refine WL.y rfl (Yd.add rfl rfl (by omega) (by omega)) ?_
          refine WL.y rfl (Yd.assign rfl) ?_
          refine WL.nil ?_
          exact DN.againS (i + 1) (show (i + 1) ≤ xs.length ∧ ∀ (j : Nat) (h1 : j < xs.length) (h2 : j < ys.length), j < (i + 1) → xs[j] = ys[j] from ⟨by omega, fun j h1 h2 hj => by
            rcases Nat.lt_or_ge j i with h | h
            · exact hsame j h1 h2 h
            · obtain rfl : j = i := by omega
              exact heq⟩) (show xs.length - (i + 1) < xs.length - i by omega) (Sx.put rfl ((by repeat (first | exact Sx.refl | refine Sx.skip rfl ?_)))) (by repeat (first | exact Sp.here | exact Sp.sn | exact Sp.s0 | exact Fr.here | apply Sp.s2 | apply Sp.sx | apply Fr.fc | apply Fr.al | apply Fr.fa | apply Sp.sc | apply Sp.al | apply Sp.sa))
    · obtain rfl : i = xs.length := by omega
      refine WC.exit ?_
      refine DN.then_exit ?_
      refine DN.then_exit ?_
      refine DN.block_exit ?_
      refine DN.then_normal ?_
      refine WC.seq ?_
      refine WC.region ?_
      refine WL.y rfl (Yd.assign rfl) ?_
      refine WL.nil ?_
      refine DN.then_normal ?_
      refine WC.ret ?_
      refine DN.fit (C := H) (by repeat (first | exact Sp.here | exact Sp.sn | exact Sp.s0 | exact Fr.here | apply Sp.s2 | apply Sp.sx | apply Fr.fc | apply Fr.al | apply Fr.fa | apply Sp.sc | apply Sp.al | apply Sp.sa)) ?_
      refine DN.ret1 Try.results20 rfl ?_
      first
        | exact ⟨by rw [decide_eq_false (same_no hln)], rfl⟩
        | exact ⟨by rw [decide_eq_true (same_yes hln fun j h1 h2 => hsame j h1 h2 h1)], rfl⟩
        | exact ⟨by rw [decide_eq_false (fun e => hne (by have e2 := congrArg (fun l => l[i]?) e; simpa [hlt, show i < ys.length by omega] using e2))], rfl⟩

/-- drayage/drayagelaw10.long -/
theorem long_reads (u v : Value) (gs : List Au) (acts : List Aq) (H : List Ck) (hu : Rs u gs.length (gs.flatMap cellsU) H) (hv : Rs v acts.length (acts.flatMap cellsQ) H) (hx : gs.length ≤ 9223372036854775807) (hy : acts.length ≤ 9223372036854775807) : Reads Try.prog 9 [u, v] H (.bool (longBP gs acts)) := by
  refine Tells.enter Try.func9 rfl Try.ntmps9 rfl ?_
  intro w0 R
  obtain ⟨uo, uc, rfl, _⟩ := hu.form
  obtain ⟨vo, vc, rfl, _⟩ := hv.form
  refine WC.seq ?_
  refine WC.region ?_
  refine WL.y rfl (Yd.assign rfl) ?_
  refine WL.nil ?_
  refine DN.then_normal ?_
  refine WC.seq ?_
  refine WC.seq ?_
  refine WC.region ?_
  refine WL.y rfl (Yd.move rfl) ?_
  refine WL.y rfl (Yd.len (e := 46) (by kernel_rfl) rfl) ?_
  refine WL.y rfl (Yd.gtr rfl rfl) ?_
  refine WL.nil ?_
  refine DN.then_normal ?_
  refine WC.ite rfl (fun h9 => ?_) (fun h9 => ?_)
  · refine WC.seq ?_
    refine WC.region ?_
    refine WL.y rfl (Yd.assign rfl) ?_
    refine WL.nil ?_
    refine DN.then_normal ?_
    refine WC.ret ?_
    refine DN.then_ret ?_
    refine DN.ret1 Try.results9 rfl ?_
    first
      | exact ⟨by rw [longP_yes (.inl (by omega))], rfl⟩
      | exact ⟨by rw [longP_yes (.inr (.inl ⟨gs[i], List.getElem_mem hlt, by omega⟩))], rfl⟩
      | exact ⟨by rw [longP_yes (.inr (.inr ⟨i, hlt2, by omega, by omega⟩))], rfl⟩
      | exact ⟨by rw [longP_no (by omega) hall fun j h hj => hno2 j h (by omega)], rfl⟩
  · refine WC.skip ?_
    refine DN.then_normal ?_
    refine WC.seq ?_
    refine WC.seq ?_
    refine WC.region ?_
    refine WL.y rfl (Yd.assign rfl) ?_
    refine WL.nil ?_
    refine DN.then_normal ?_
    refine WC.block ?_
    refine WC.loopS (fun z : Nat => z ≤ gs.length ∧ ∀ (j : Nat) (h : j < gs.length), j < z → gs[j].name.size ≤ 1000) (fun z : Nat => [(5, .int .i64 (z : Int))]) (fun z : Nat => H) (fun z : Nat => gs.length - z) (0) (show 0 ≤ gs.length ∧ ∀ (j : Nat) (h : j < gs.length), j < 0 → gs[j].name.size ≤ 1000 from ⟨Nat.zero_le _, fun j h hj => by omega⟩) (Sx.put rfl ((by repeat (first | exact Sx.refl | refine Sx.skip rfl ?_)))) (by repeat (first | exact Sp.here | exact Sp.sn | exact Sp.s0 | exact Fr.here | apply Sp.s2 | apply Sp.sx | apply Fr.fc | apply Fr.al | apply Fr.fa | apply Sp.sc | apply Sp.al | apply Sp.sa)) ?_
    rintro i hI
    replace hI : i ≤ gs.length ∧ ∀ (j : Nat) (h : j < gs.length), j < i → gs[j].name.size ≤ 1000 := hI
    obtain ⟨hi, hno⟩ := hI
    change WC _ _ _ _ _ _ ([(5, .int .i64 (i : Int))] ++ _) (H)
    refine WC.seq ?_
    refine WC.seq ?_
    refine WC.region ?_
    refine WL.y rfl (Yd.move rfl) ?_
    refine WL.y rfl (Yd.move rfl) ?_
    refine WL.y rfl (Yd.len (e := 46) (by kernel_rfl) rfl) ?_
    refine WL.y rfl (Yd.lss rfl rfl) ?_
    refine WL.nil ?_
    refine DN.then_normal ?_
    refine WC.ite rfl (fun h13 => ?_) (fun h13 => ?_)
    · have hlt : i < gs.length := by omega
      obtain ⟨ub, uf, us, uT, ufr, uex, rfl, _, hum, hus⟩ := hu.lies (by omega)
      refine WC.skip ?_
      refine DN.then_normal ?_
      refine WC.seq ?_
      refine WC.block ?_
      refine WC.seq ?_
      refine WC.region ?_
      refine WL.y rfl (Yd.move rfl) ?_
      refine WL.y rfl (Yd.move rfl) ?_
      refine WL.y rfl (Yd.indexAddr (e := 46) (s := 3) (by kernel_rfl) (by kernel_rfl) rfl rfl (by omega) (by omega)) ?_
      refine WL.y rfl (Yd.fieldAddr (k := 0) (by kernel_rfl) rfl) ?_
      refine WL.h rfl (Hd.load1 (v := .string gs[i].name) (b := ub) (o := uf + (i : Int).toNat * 3 + 0) (cs := us) (by kernel_rfl) rfl (Gr.get (by repeat (first | exact Gr.refl | exact Gr.left Gr.refl | exact Gr.left (Gr.left Gr.refl) | exact Gr.left (Gr.app Gr.refl) | exact Gr.left (Gr.left (Gr.left Gr.refl)) | exact Gr.nil | exact Gr.app (Gr.left Gr.refl) | refine Gr.cons ?_ | refine Gr.app ?_ | refine Gr.both ?_ ?_ | refine Gr.put (by repeat (first | exact List.mem_cons_self | apply List.mem_cons_of_mem | apply List.mem_append_right)) ?_)) hum) (cell_atP (L := gs) cellsU_len hus (by omega) (by omega)) ⟨_, rfl, ?_⟩)
      refine WL.y rfl (Yd.lenS Try.underlying9 rfl) ?_
      refine WL.y rfl (Yd.gtr rfl rfl) ?_
      refine WL.nil ?_
      refine DN.then_normal ?_
      refine WC.ite rfl (fun h22 => ?_) (fun h22 => ?_)
      · refine WC.seq ?_
        refine WC.region ?_
        refine WL.y rfl (Yd.assign rfl) ?_
        refine WL.nil ?_
        refine DN.then_normal ?_
        refine WC.ret ?_
        refine DN.block_ret ?_
        refine DN.then_ret ?_
        refine DN.then_ret ?_
        refine DN.block_ret ?_
        refine DN.then_ret ?_
        refine DN.ret1 Try.results9 rfl ?_
        first
          | exact ⟨by rw [longP_yes (.inl (by omega))], rfl⟩
          | exact ⟨by rw [longP_yes (.inr (.inl ⟨gs[i], List.getElem_mem hlt, by omega⟩))], rfl⟩
          | exact ⟨by rw [longP_yes (.inr (.inr ⟨i, hlt2, by omega, by omega⟩))], rfl⟩
          | exact ⟨by rw [longP_no (by omega) hall fun j h hj => hno2 j h (by omega)], rfl⟩
      · refine WC.skip ?_
        refine DN.block_normal ?_
        refine DN.then_normal ?_
        refine WC.region ?_
        refine WL.y rfl (Yd.move rfl) ?_
        refine WL.y rfl (Yd.add rfl rfl (by omega) (by omega)) ?_
        refine WL.y rfl (Yd.assign rfl) ?_
        refine WL.nil ?_
        exact DN.againS (i + 1) (show (i + 1) ≤ gs.length ∧ ∀ (j : Nat) (h : j < gs.length), j < (i + 1) → gs[j].name.size ≤ 1000 from ⟨by omega, fun j h hj => by
          rcases Nat.lt_or_ge j i with h5 | h5
          · exact hno j h h5
          · obtain rfl : j = i := by omega
            omega⟩) (show gs.length - (i + 1) < gs.length - i by omega) (Sx.put rfl ((by repeat (first | exact Sx.refl | refine Sx.skip rfl ?_)))) (by repeat (first | exact Sp.here | exact Sp.sn | exact Sp.s0 | exact Fr.here | apply Sp.s2 | apply Sp.sx | apply Fr.fc | apply Fr.al | apply Fr.fa | apply Sp.sc | apply Sp.al | apply Sp.sa))
    · obtain rfl : i = gs.length := by omega
      have hall : ∀ (j : Nat) (h : j < gs.length), gs[j].name.size ≤ 1000 := fun j h => hno j h h
      refine WC.exit ?_
      refine DN.then_exit ?_
      refine DN.then_exit ?_
      refine DN.block_exit ?_
      refine DN.then_normal ?_
      refine WC.seq ?_
      refine WC.seq ?_
      refine WC.region ?_
      refine WL.y rfl (Yd.assign rfl) ?_
      refine WL.nil ?_
      refine DN.then_normal ?_
      refine WC.block ?_
      refine WC.loopS (fun z : Nat => z ≤ acts.length ∧ ∀ (j : Nat) (h : j < acts.length), j < z → acts[j].name.size ≤ 1000) (fun z : Nat => [(6, .int .i64 (z : Int))]) (fun z : Nat => H) (fun z : Nat => acts.length - z) (0) (show 0 ≤ acts.length ∧ ∀ (j : Nat) (h : j < acts.length), j < 0 → acts[j].name.size ≤ 1000 from ⟨Nat.zero_le _, fun j h hj => by omega⟩) (Sx.put rfl ((by repeat (first | exact Sx.refl | refine Sx.skip rfl ?_)))) (by repeat (first | exact Sp.here | exact Sp.sn | exact Sp.s0 | exact Fr.here | apply Sp.s2 | apply Sp.sx | apply Fr.fc | apply Fr.al | apply Fr.fa | apply Sp.sc | apply Sp.al | apply Sp.sa)) ?_
      rintro i hI
      replace hI : i ≤ acts.length ∧ ∀ (j : Nat) (h : j < acts.length), j < i → acts[j].name.size ≤ 1000 := hI
      obtain ⟨hi2, hno2⟩ := hI
      change WC _ _ _ _ _ _ ([(6, .int .i64 (i : Int))] ++ _) (H)
      refine WC.seq ?_
      refine WC.seq ?_
      refine WC.region ?_
      refine WL.y rfl (Yd.move rfl) ?_
      refine WL.y rfl (Yd.move rfl) ?_
      refine WL.y rfl (Yd.len (e := 35) (by kernel_rfl) rfl) ?_
      refine WL.y rfl (Yd.lss rfl rfl) ?_
      refine WL.y rfl (Yd.move rfl) ?_
      refine WL.partP (t := 27) rfl (fun hg27 => ?_) (fun hg27 => ?_)
      · refine WL.gy (dj := 27) rfl rfl rfl (Yd.move rfl) ?_
        refine WL.gy (dj := 27) rfl rfl rfl (Yd.lss rfl rfl) ?_
        refine WL.y rfl (Yd.pickT rfl rfl) ?_
        refine WL.nil ?_
        refine DN.then_normal ?_
        refine WC.ite rfl (fun h30 => ?_) (fun h30 => ?_)
        · have hlt2 : i < acts.length := by omega
          obtain ⟨vb, vf, vs, vT, vfr, vex, rfl, _, hvm, hvs⟩ := hv.lies (by omega)
          refine WC.skip ?_
          refine DN.then_normal ?_
          refine WC.seq ?_
          refine WC.block ?_
          refine WC.seq ?_
          refine WC.region ?_
          refine WL.y rfl (Yd.move rfl) ?_
          refine WL.y rfl (Yd.move rfl) ?_
          refine WL.y rfl (Yd.indexAddr (e := 35) (s := 4) (by kernel_rfl) (by kernel_rfl) rfl rfl (by omega) (by omega)) ?_
          refine WL.y rfl (Yd.fieldAddr (k := 2) (by kernel_rfl) rfl) ?_
          refine WL.h rfl (Hd.load1 (v := .string acts[i].name) (b := vb) (o := vf + (i : Int).toNat * 4 + 2) (cs := vs) (by kernel_rfl) rfl (Gr.get (by repeat (first | exact Gr.refl | exact Gr.left Gr.refl | exact Gr.left (Gr.left Gr.refl) | exact Gr.left (Gr.app Gr.refl) | exact Gr.left (Gr.left (Gr.left Gr.refl)) | exact Gr.nil | exact Gr.app (Gr.left Gr.refl) | refine Gr.cons ?_ | refine Gr.app ?_ | refine Gr.both ?_ ?_ | refine Gr.put (by repeat (first | exact List.mem_cons_self | apply List.mem_cons_of_mem | apply List.mem_append_right)) ?_)) hvm) (cell_atP (L := acts) cellsQ_len hvs (by omega) (by omega)) ⟨_, rfl, ?_⟩)
          refine WL.y rfl (Yd.lenS Try.underlying9 rfl) ?_
          refine WL.y rfl (Yd.gtr rfl rfl) ?_
          refine WL.nil ?_
          refine DN.then_normal ?_
          refine WC.ite rfl (fun h39 => ?_) (fun h39 => ?_)
          · refine WC.seq ?_
            refine WC.region ?_
            refine WL.y rfl (Yd.assign rfl) ?_
            refine WL.nil ?_
            refine DN.then_normal ?_
            refine WC.ret ?_
            refine DN.block_ret ?_
            refine DN.then_ret ?_
            refine DN.then_ret ?_
            refine DN.block_ret ?_
            refine DN.then_ret ?_
            refine DN.ret1 Try.results9 rfl ?_
            first
              | exact ⟨by rw [longP_yes (.inl (by omega))], rfl⟩
              | exact ⟨by rw [longP_yes (.inr (.inl ⟨gs[i], List.getElem_mem hlt, by omega⟩))], rfl⟩
              | exact ⟨by rw [longP_yes (.inr (.inr ⟨i, hlt2, by omega, by omega⟩))], rfl⟩
              | exact ⟨by rw [longP_no (by omega) hall fun j h hj => hno2 j h (by omega)], rfl⟩
          · refine WC.skip ?_
            refine DN.block_normal ?_
            refine DN.then_normal ?_
            refine WC.region ?_
            refine WL.y rfl (Yd.move rfl) ?_
            refine WL.y rfl (Yd.add rfl rfl (by omega) (by omega)) ?_
            refine WL.y rfl (Yd.assign rfl) ?_
            refine WL.nil ?_
            exact DN.againS (i + 1) (show (i + 1) ≤ acts.length ∧ ∀ (j : Nat) (h : j < acts.length), j < (i + 1) → acts[j].name.size ≤ 1000 from ⟨by omega, fun j h hj => by
              rcases Nat.lt_or_ge j i with h5 | h5
              · exact hno2 j h h5
              · obtain rfl : j = i := by omega
                omega⟩) (show acts.length - (i + 1) < acts.length - i by omega) (Sx.put rfl ((by repeat (first | exact Sx.refl | refine Sx.skip rfl ?_)))) (by repeat (first | exact Sp.here | exact Sp.sn | exact Sp.s0 | exact Fr.here | apply Sp.s2 | apply Sp.sx | apply Fr.fc | apply Fr.al | apply Fr.fa | apply Sp.sc | apply Sp.al | apply Sp.sa))
        · refine WC.exit ?_
          refine DN.then_exit ?_
          refine DN.then_exit ?_
          refine DN.block_exit ?_
          refine DN.then_normal ?_
          refine WC.seq ?_
          refine WC.region ?_
          refine WL.y rfl (Yd.assign rfl) ?_
          refine WL.nil ?_
          refine DN.then_normal ?_
          refine WC.ret ?_
          refine DN.ret1 Try.results9 rfl ?_
          first
            | exact ⟨by rw [longP_yes (.inl (by omega))], rfl⟩
            | exact ⟨by rw [longP_yes (.inr (.inl ⟨gs[i], List.getElem_mem hlt, by omega⟩))], rfl⟩
            | exact ⟨by rw [longP_yes (.inr (.inr ⟨i, hlt2, by omega, by omega⟩))], rfl⟩
            | exact ⟨by rw [longP_no (by omega) hall fun j h hj => hno2 j h (by omega)], rfl⟩
      · refine WL.gn (dj := 27) rfl rfl rfl rfl ?_
        refine WL.gn (dj := 27) rfl rfl rfl rfl ?_
        refine WL.y rfl (Yd.pickF rfl rfl) ?_
        refine WL.nil ?_
        refine DN.then_normal ?_
        refine WC.no rfl ?_
        refine WC.exit ?_
        refine DN.then_exit ?_
        refine DN.then_exit ?_
        refine DN.block_exit ?_
        refine DN.then_normal ?_
        refine WC.seq ?_
        refine WC.region ?_
        refine WL.y rfl (Yd.assign rfl) ?_
        refine WL.nil ?_
        refine DN.then_normal ?_
        refine WC.ret ?_
        refine DN.ret1 Try.results9 rfl ?_
        first
          | exact ⟨by rw [longP_yes (.inl (by omega))], rfl⟩
          | exact ⟨by rw [longP_yes (.inr (.inl ⟨gs[i], List.getElem_mem hlt, by omega⟩))], rfl⟩
          | exact ⟨by rw [longP_yes (.inr (.inr ⟨i, hlt2, by omega, by omega⟩))], rfl⟩
          | exact ⟨by rw [longP_no (by omega) hall fun j h hj => hno2 j h (by omega)], rfl⟩

/-- drayage/drayagelaw10.has -/
theorem has_reads (v : Value) (T : List Py) (o : BitVec 32) (H : List Ck) (hv : Rs v T.length (T.flatMap cellsP) H) (hl : T.length ≤ 100000000) : Reads Try.prog 28 [v, .int .u32 o.toNat] H (.bool (findK Py.o T o).isSome) := by
  refine Tells.enter Try.func28 rfl Try.ntmps28 rfl ?_
  intro w0 R
  obtain ⟨vo, vc, rfl, _⟩ := hv.form
  have hat := atK_spec (key := Py.o) T o
  refine WC.seq ?_
  refine WC.region ?_
  refine WL.y rfl (Yd.assign rfl) ?_
  refine WL.nil ?_
  refine DN.then_normal ?_
  refine WC.seq ?_
  refine WC.seq ?_
  refine WC.region ?_
  refine WL.y rfl (Yd.assign rfl) ?_
  refine WL.nil ?_
  refine DN.then_normal ?_
  refine WC.block ?_
  refine WC.loopS (fun z : Nat => z ≤ T.length ∧ ∀ (j : Nat) (hj : j < T.length), j < z → ¬ o = T[j].o) (fun z : Nat => [(5, .int .i64 (z : Int))]) (fun z : Nat => H) (fun z : Nat => T.length - z) (0) (show 0 ≤ T.length ∧ ∀ (j : Nat) (hj : j < T.length), j < 0 → ¬ o = T[j].o from ⟨Nat.zero_le _, fun j hj h => by omega⟩) (Sx.put rfl ((by repeat (first | exact Sx.refl | refine Sx.skip rfl ?_)))) (by repeat (first | exact Sp.here | exact Sp.sn | exact Sp.s0 | exact Fr.here | apply Sp.s2 | apply Sp.sx | apply Fr.fc | apply Fr.al | apply Fr.fa | apply Sp.sc | apply Sp.al | apply Sp.sa)) ?_
  rintro i hI
  replace hI : i ≤ T.length ∧ ∀ (j : Nat) (hj : j < T.length), j < i → ¬ o = T[j].o := hI
  obtain ⟨hi, hno⟩ := hI
  change WC _ _ _ _ _ _ ([(5, .int .i64 (i : Int))] ++ _) (H)
  refine WC.seq ?_
  refine WC.seq ?_
  refine WC.region ?_
  refine WL.y rfl (Yd.move rfl) ?_
  refine WL.y rfl (Yd.move rfl) ?_
  refine WL.y rfl (Yd.len (e := 48) (by kernel_rfl) rfl) ?_
  refine WL.y rfl (Yd.lss rfl rfl) ?_
  refine WL.nil ?_
  refine DN.then_normal ?_
  refine WC.ite rfl (fun h9 => ?_) (fun h9 => ?_)
  · have hlt : i < T.length := by omega
    obtain ⟨ub, uf, us, uT, ufr, uex, rfl, _, hum, hus⟩ := hv.lies (by omega)
    refine WC.skip ?_
    refine DN.then_normal ?_
    refine WC.seq ?_
    refine WC.block ?_
    refine WC.seq ?_
    refine WC.region ?_
    refine WL.y rfl (Yd.move rfl) ?_
    refine WL.y rfl (Yd.move rfl) ?_
    refine WL.y rfl (Yd.indexAddr (e := 48) (s := 4) (by kernel_rfl) (by kernel_rfl) rfl rfl (by omega) (by omega)) ?_
    refine WL.y rfl (Yd.fieldAddr (k := 0) (by kernel_rfl) rfl) ?_
    refine WL.h rfl (Hd.load1 (v := .int .u32 T[i].o.toNat) (b := ub) (o := uf + (i : Int).toNat * 4 + 0) (cs := us) (by kernel_rfl) rfl (Gr.get (by repeat (first | exact Gr.refl | exact Gr.left Gr.refl | exact Gr.left (Gr.left Gr.refl) | exact Gr.left (Gr.app Gr.refl) | exact Gr.left (Gr.left (Gr.left Gr.refl)) | exact Gr.nil | exact Gr.app (Gr.left Gr.refl) | refine Gr.cons ?_ | refine Gr.app ?_ | refine Gr.both ?_ ?_ | refine Gr.put (by repeat (first | exact List.mem_cons_self | apply List.mem_cons_of_mem | apply List.mem_append_right)) ?_)) hum) (cell_atP (L := T) cellsP_len hus (by omega) (by omega)) ⟨_, rfl, ?_⟩)
    refine WL.y rfl (Yd.move rfl) ?_
    refine WL.y rfl (Yd.eql32 _ _ rfl rfl rfl rfl) ?_
    refine WL.nil ?_
    refine DN.then_normal ?_
    refine WC.ite rfl (fun h18 => ?_) (fun h18 => ?_)
    · refine WC.seq ?_
      refine WC.region ?_
      refine WL.y rfl (Yd.assign rfl) ?_
      refine WL.nil ?_
      refine DN.then_normal ?_
      refine WC.ret ?_
      refine DN.block_ret ?_
      refine DN.then_ret ?_
      refine DN.then_ret ?_
      refine DN.block_ret ?_
      refine DN.then_ret ?_
      refine DN.ret1 Try.results28 rfl ?_
      first
        | (rcases hat with h | ⟨j, hj, _, h1, h2⟩
           · have := findK_none h.2 T[i] (List.getElem_mem hlt)
             exact absurd h18 this
           · exact ⟨by rw [h2]; rfl, rfl⟩)
        | (rcases hat with h | ⟨j, hj, _, h1, h2⟩
           · exact ⟨by rw [h.2]; rfl, rfl⟩
           · exact absurd h1 (hno j hj (by omega)))
    · refine WC.skip ?_
      refine DN.block_normal ?_
      refine DN.then_normal ?_
      refine WC.region ?_
      refine WL.y rfl (Yd.move rfl) ?_
      refine WL.y rfl (Yd.add rfl rfl (by omega) (by omega)) ?_
      refine WL.y rfl (Yd.assign rfl) ?_
      refine WL.nil ?_
      exact DN.againS (i + 1) (show (i + 1) ≤ T.length ∧ ∀ (j : Nat) (hj : j < T.length), j < (i + 1) → ¬ o = T[j].o from ⟨by omega, fun j hj h => by
        rcases Nat.lt_or_ge j i with h5 | h5
        · exact hno j hj h5
        · obtain rfl : j = i := by omega
          exact fun e => h18 e.symm⟩) (show T.length - (i + 1) < T.length - i by omega) (Sx.put rfl ((by repeat (first | exact Sx.refl | refine Sx.skip rfl ?_)))) (by repeat (first | exact Sp.here | exact Sp.sn | exact Sp.s0 | exact Fr.here | apply Sp.s2 | apply Sp.sx | apply Fr.fc | apply Fr.al | apply Fr.fa | apply Sp.sc | apply Sp.al | apply Sp.sa))
  · refine WC.exit ?_
    refine DN.then_exit ?_
    refine DN.then_exit ?_
    refine DN.block_exit ?_
    refine DN.then_normal ?_
    refine WC.seq ?_
    refine WC.region ?_
    refine WL.y rfl (Yd.assign rfl) ?_
    refine WL.nil ?_
    refine DN.then_normal ?_
    refine WC.ret ?_
    refine DN.ret1 Try.results28 rfl ?_
    first
      | (rcases hat with h | ⟨j, hj, _, h1, h2⟩
         · have := findK_none h.2 T[i] (List.getElem_mem hlt)
           exact absurd h18 this
         · exact ⟨by rw [h2]; rfl, rfl⟩)
      | (rcases hat with h | ⟨j, hj, _, h1, h2⟩
         · exact ⟨by rw [h.2]; rfl, rfl⟩
         · exact absurd h1 (hno j hj (by omega)))

end Go.Proofs.Ytllfnigodikbaaa
