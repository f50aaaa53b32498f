/-
  The walk of the stock's New.
-/
import Derived.Test.YtdbbkodjhmfjfaaStock2
set_option linter.unusedVariables false
set_option linter.unusedSimpArgs false
set_option maxHeartbeats 4000000
namespace Go.Proofs.Ytdbbkodjhmfjfaa
open Go.SL


/-- drayage/stock.New -/
theorem new_tells (v : Value) (gs : List Gd) (hg : ∀ g ∈ gs, g.gone = 0) (H : List Ck) (hv : Rs v gs.length (gs.flatMap cellsG) H) (hl : gs.length ≤ 9223372036854775807) : Tells Try.prog 11 [v] H fun r H' => (GoodL gs ∧ ∃ p C, r = .tuple #[.pointer (some ⟨p, 0, none⟩), .int .i64 0] ∧ StAt 57 p gs [] C ∧ H' = C ++ H) ∨ (¬ GoodL gs ∧ r = .tuple #[.pointer none, .int .i64 2] ∧ H' = H) := by
  refine Tells.enter Try.func11 rfl Try.ntmps11 rfl ?_
  intro w0 R
  obtain ⟨vo, vc, rfl, hvc⟩ := hv.form
  refine WC.seq ?_
  refine WC.region ?_
  refine WL.y rfl (Yd.assign rfl) ?_
  refine WL.y rfl (Yd.assign rfl) ?_
  refine WL.nil ?_
  refine DN.then_normal ?_
  refine WC.seq ?_
  refine WC.seq ?_
  refine WC.region ?_
  refine WL.y rfl (Yd.move rfl) ?_
  refine WL.y rfl (Yd.len (e := 32) (by kernel_rfl) rfl) ?_
  refine WL.y rfl (Yd.gtr rfl rfl) ?_
  refine WL.nil ?_
  refine DN.then_normal ?_
  refine WC.ite rfl (fun h11 => ?_) (fun h11 => ?_)
  · refine WC.seq ?_
    refine WC.region ?_
    refine WL.y rfl (Yd.assign rfl) ?_
    refine WL.y rfl (Yd.assign rfl) ?_
    refine WL.nil ?_
    refine DN.then_normal ?_
    refine WC.ret ?_
    refine DN.then_ret ?_
    first | (have hlt2 : i < gs.length := hlt; refine DN.fit (C := H) (by repeat (first | exact Sp.here | exact Sp.sn | exact Sp.s0 | exact Fr.here | apply Sp.s2 | apply Sp.sx | apply Fr.fc | apply Fr.al | apply Fr.fa | apply Sp.sc | apply Sp.al | apply Sp.sa)) ?_) | refine DN.fit (C := row b15 [.map (some b1), .map (some b2)] 57 :: (C1 ++ (C2 ++ H))) (by repeat (first | exact Sp.here | exact Sp.sn | exact Sp.s0 | exact Fr.here | apply Sp.s2 | apply Sp.sx | apply Fr.fc | apply Fr.al | apply Fr.fa | apply Sp.sc | apply Sp.al | apply Sp.sa)) ?_ | skip
    refine DN.ret2 Try.results11 rfl rfl ?_
    first
      | exact .inr ⟨fun hG => by have := hG.1; omega, rfl, rfl⟩
      | exact .inr ⟨fun hG => (hG.2.2 gs[i] (List.getElem_mem hlt)).1 hg35, rfl, rfl⟩
      | exact .inr ⟨fun hG => by have := (hG.2.2 gs[i] (List.getElem_mem hlt)).2; omega, rfl, rfl⟩
      | exact .inr ⟨fun hG => (twice_no hlt h53) hG.2.1, rfl, rfl⟩
      | exact .inl ⟨⟨by omega, hnd, fun g hm => by obtain ⟨j, hj, rfl⟩ := List.getElem_of_mem hm; exact hgood j hj hj⟩, b15, row b15 [.map (some b1), .map (some b2)] 57 :: (C1 ++ C2), rfl, ⟨b1, b2, C1, C2, rfl, hK, h2⟩, by simp⟩
  · refine WC.skip ?_
    refine DN.then_normal ?_
    refine WC.seq ?_
    refine WC.region ?_
    refine WL.h rfl (Hd.makeMapG kStr fun b1 C1 h1 => ⟨_, rfl, ?_⟩)
    refine WL.h rfl (Hd.makeMapG kU32 fun b2 C2 h2 => ⟨_, rfl, ?_⟩)
    refine WL.y rfl (Yd.buildL (pl := [(0, 1), (1, 1)]) (zs := [.map none, .map none]) (parts := [(0, .tmp 12), (1, .tmp 13)]) (vs := [(0, _), (1, _)]) (cells := [_, _]) (by kernel_rfl) (by kernel_rfl) rfl rfl) ?_
    refine WL.h rfl (Hd.boxA rfl fun b15 => ⟨_, rfl, ?_⟩)
    refine WL.y rfl (Yd.assign rfl) ?_
    refine WL.nil ?_
    refine DN.then_normal ?_
    refine WC.seq ?_
    refine WC.seq ?_
    refine WC.region ?_
    refine WL.y rfl (Yd.move rfl) ?_
    refine WL.y rfl (Yd.len (e := 32) (by kernel_rfl) rfl) ?_
    refine WL.y rfl (Yd.move rfl) ?_
    refine WL.nil ?_
    refine DN.then_normal ?_
    refine WC.block ?_
    refine WC.loopS (fun z : Nat × List Ck => z.1 ≤ gs.length ∧ (∀ (j : Nat) (h : j < gs.length), j < z.1 → goodB gs[j]) ∧ ((gs.take z.1).map Gd.name).Nodup ∧ MpG kStr b1 (kvs Gd.name encG (gs.take z.1)) z.2) (fun z : Nat × List Ck => [(18, .int .i64 (z.1 : Int))]) (fun z : Nat × List Ck => row b15 [.map (some b1), .map (some b2)] 57 :: (z.2 ++ (C2 ++ H))) (fun z : Nat × List Ck => gs.length - z.1) (⟨0, C1⟩) (show 0 ≤ gs.length ∧ (∀ (j : Nat) (h : j < gs.length), j < 0 → goodB gs[j]) ∧ ((gs.take 0).map Gd.name).Nodup ∧ MpG kStr b1 (kvs Gd.name encG (gs.take 0)) C1 from ⟨Nat.zero_le _, fun j h hj => by omega, by simp, by simpa [kvs] using h1⟩) (Sx.put rfl ((by repeat (first | exact Sx.refl | refine Sx.skip rfl ?_)))) (by repeat (first | exact Sp.here | exact Sp.sn | exact Sp.s0 | exact Fr.here | apply Sp.s2 | apply Sp.sx | apply Fr.fc | apply Fr.al | apply Fr.fa | apply Sp.sc | apply Sp.al | apply Sp.sa)) ?_
    rintro ⟨i, C1⟩ hI
    replace hI : i ≤ gs.length ∧ (∀ (j : Nat) (h : j < gs.length), j < i → goodB gs[j]) ∧ ((gs.take i).map Gd.name).Nodup ∧ MpG kStr b1 (kvs Gd.name encG (gs.take i)) C1 := hI
    obtain ⟨hi, hgood, hnd, hK⟩ := hI
    change WC _ _ _ _ _ _ ([(18, .int .i64 (i : Int))] ++ _) (row b15 [.map (some b1), .map (some b2)] 57 :: (C1 ++ (C2 ++ H)))
    refine WC.seq ?_
    refine WC.region ?_
    refine WL.y rfl (Yd.lss rfl rfl) ?_
    refine WL.nil ?_
    refine DN.then_normal ?_
    refine WC.seq ?_
    refine WC.ite rfl (fun h19 => ?_) (fun h19 => ?_)
    · have hlt : i < gs.length := by omega
      have hgn := hg gs[i] (List.getElem_mem hlt)
      have htk : gs.take (i + 1) = gs.take i ++ [gs[i]] := List.take_succ_eq_append_getElem hlt
      refine WC.skip ?_
      refine DN.then_normal ?_
      refine WC.seq ?_
      refine WC.block ?_
      refine WC.seq ?_
      refine WC.region ?_
      refine WL.elemA (e := 32) (s := 2) (by kernel_rfl) (by kernel_rfl) (by kernel_rfl) rfl rfl (rfl) (hv.mono (by repeat (first | exact Gr.refl | exact Gr.left Gr.refl | exact Gr.left (Gr.left Gr.refl) | exact Gr.left (Gr.app Gr.refl) | exact Gr.left (Gr.left (Gr.left Gr.refl)) | exact Gr.nil | exact Gr.app (Gr.left Gr.refl) | refine Gr.cons ?_ | refine Gr.app ?_ | refine Gr.both ?_ ?_ | refine Gr.put (by repeat (first | exact List.mem_cons_self | apply List.mem_cons_of_mem | apply List.mem_append_right)) ?_))) (flat_row cellsG 2 cellsG_len gs i hlt) (by rfl) (by omega) (hlt) rfl rfl ?_
      intro p20
      refine WL.h rfl (Hd.alloc (zs := [.string ⟨#[]⟩, .int .i64 0]) (by kernel_rfl) fun b6 => ⟨_, rfl, ?_⟩)
      refine WL.s (Hd.storeAll (n := 2) (by kernel_rfl) rfl rfl (by rfl) (by repeat (first | exact fun _ h => absurd h List.not_mem_nil | refine List.forall_mem_cons.2 ⟨by first | rfl | assumption, ?_⟩)) (by repeat (first | exact Fr.here | apply Fr.fc | apply Fr.al | apply Fr.fa)) (by rfl) ⟨rfl, ?_⟩)
      refine WL.nil ?_
      refine DN.then_normal ?_
      refine WC.cutK (fun z : Nat => True) (fun z : Nat => [(8, .bool (findK Gd.name (gs.take i) gs[i].name).isSome)]) (fun z : Nat => row b6 (cellsG gs[i]) 32 :: (row b15 [.map (some b1), .map (some b2)] 57 :: (C1 ++ (C2 ++ H)))) ?_ ?_
      · refine WC.draw 13 (by kernel_rfl) rfl ?_
        refine WA.y (i := 0) (NoPanic.then (NoPanic.block (NoPanic.then (NoPanic.then (NoPanic.block (NoPanic.then (NoPanic.body))))))) rfl (by kernel_rfl) (by kernel_rfl) (by kernel_rfl) rfl (Yd.move rfl) ?_
        refine WA.y (i := 1) (NoPanic.then (NoPanic.block (NoPanic.then (NoPanic.then (NoPanic.block (NoPanic.then (NoPanic.body))))))) rfl (by kernel_rfl) (by kernel_rfl) (by kernel_rfl) rfl (Yd.notNil rfl) ?_
        refine WA.y (i := 2) (NoPanic.then (NoPanic.block (NoPanic.then (NoPanic.then (NoPanic.block (NoPanic.then (NoPanic.body))))))) rfl (by kernel_rfl) (by kernel_rfl) (by kernel_rfl) rfl (Yd.fieldAddr (k := 0) (by kernel_rfl) rfl) ?_
        refine WA.y (i := 4) (NoPanic.then (NoPanic.block (NoPanic.then (NoPanic.then (NoPanic.block (NoPanic.then (NoPanic.body))))))) rfl (by kernel_rfl) (by kernel_rfl) (by kernel_rfl) rfl (Yd.fieldAddr (k := 0) (by kernel_rfl) rfl) ?_
        refine WA.three (i := 3) (j := 5) (k := 10) (by kernel_rfl) ?_ ?_ ?_
        · refine WO.h rfl Wt.none rfl (Hd.load1 (by kernel_rfl) rfl (by repeat (first | exact List.mem_cons_self | apply List.mem_cons_of_mem | apply List.mem_append_right)) (by rfl) ⟨_, rfl, ?_⟩)
          refine WA.two (i := 5) (j := 10) (by kernel_rfl) ?_ ?_
          · refine WO.h rfl Wt.none rfl (Hd.load1 (by kernel_rfl) rfl (by repeat (first | exact List.mem_cons_self | apply List.mem_cons_of_mem | apply List.mem_append_right)) (by rfl) ⟨_, rfl, ?_⟩)
            refine WA.two (i := 6) (j := 10) (by kernel_rfl) ?_ ?_
            · refine WO.h rfl Wt.none rfl (Hd.lookupG (k0 := kStr) (KT := 9) (ET := 59) (TD := .string) (n := gs[i].name) (z := .agg #[.int .i64 0, .int .i64 0]) (by kernel_rfl) Try.underlying9 rfl (by kernel_rfl) rfl rfl hK (by repeat (first | exact Sp.here | exact Sp.sn | exact Sp.s0 | exact Fr.here | apply Sp.s2 | apply Sp.sx | apply Fr.fc | apply Fr.al | apply Fr.fa | apply Sp.sc | apply Sp.al | apply Sp.sa)) (lkG2 (gs.take i) gs[i].name) ⟨_, rfl, ?_⟩)
              refine WA.y (i := 7) (NoPanic.then (NoPanic.block (NoPanic.then (NoPanic.then (NoPanic.block (NoPanic.then (NoPanic.body))))))) rfl (by kernel_rfl) (by kernel_rfl) (by kernel_rfl) rfl (Yd.move rfl) ?_
              refine WA.y (i := 8) (NoPanic.then (NoPanic.block (NoPanic.then (NoPanic.then (NoPanic.block (NoPanic.then (NoPanic.body))))))) rfl (by kernel_rfl) (by kernel_rfl) (by kernel_rfl) rfl (Yd.extract rfl rfl) ?_
              refine WA.y (i := 9) (NoPanic.then (NoPanic.block (NoPanic.then (NoPanic.then (NoPanic.block (NoPanic.then (NoPanic.body))))))) rfl (by kernel_rfl) (by kernel_rfl) (by kernel_rfl) rfl (Yd.extract rfl rfl) ?_
              refine WA.one (i := 10) (by kernel_rfl) ?_
              refine WO.h rfl Wt.none rfl (Hd.alloc (zs := [.int .i64 0, .int .i64 0]) (by kernel_rfl) fun b7 => ⟨_, rfl, ?_⟩)
              refine WA.one (i := 11) (by kernel_rfl) ?_
              refine WO.s rfl Wt.none (Hd.storeAll (n := 2) (by kernel_rfl) rfl rfl (by rfl) (by repeat (first | exact fun _ h => absurd h List.not_mem_nil | refine List.forall_mem_cons.2 ⟨by first | rfl | assumption, ?_⟩)) (by repeat (first | exact Fr.here | apply Fr.fc | apply Fr.al | apply Fr.fa)) (by rfl) ⟨rfl, ?_⟩)
              refine WA.y (i := 12) (NoPanic.then (NoPanic.block (NoPanic.then (NoPanic.then (NoPanic.block (NoPanic.then (NoPanic.body))))))) rfl (by kernel_rfl) (by kernel_rfl) (by kernel_rfl) rfl (Yd.assign rfl) ?_
              refine WA.done (by kernel_rfl) ?_
              refine DN.fit (C := row b6 (cellsG gs[i]) 32 :: (row b15 [.map (some b1), .map (some b2)] 57 :: (C1 ++ (C2 ++ H)))) (by repeat (first | exact Sp.here | exact Sp.sn | exact Sp.s0 | exact Fr.here | apply Sp.s2 | apply Sp.sx | apply Fr.fc | apply Fr.al | apply Fr.fa | apply Sp.sc | apply Sp.al | apply Sp.sa)) ?_
              exact DN.reachK (0) (trivial) (Sx.put rfl ((by repeat (first | exact Sx.refl | refine Sx.skip rfl ?_)))) (Sp.all (by repeat (first | exact Sp.here | exact Sp.sn | exact Sp.s0 | exact Fr.here | apply Sp.s2 | apply Sp.sx | apply Fr.fc | apply Fr.al | apply Fr.fa | apply Sp.sc | apply Sp.al | apply Sp.sa)))
            · refine WO.h rfl Wt.none rfl (Hd.alloc (zs := [.int .i64 0, .int .i64 0]) (by kernel_rfl) fun b7 => ⟨_, rfl, ?_⟩)
              refine WA.one (i := 6) (by kernel_rfl) ?_
              refine WO.h rfl Wt.none rfl (Hd.lookupG (k0 := kStr) (KT := 9) (ET := 59) (TD := .string) (n := gs[i].name) (z := .agg #[.int .i64 0, .int .i64 0]) (by kernel_rfl) Try.underlying9 rfl (by kernel_rfl) rfl rfl hK (by repeat (first | exact Sp.here | exact Sp.sn | exact Sp.s0 | exact Fr.here | apply Sp.s2 | apply Sp.sx | apply Fr.fc | apply Fr.al | apply Fr.fa | apply Sp.sc | apply Sp.al | apply Sp.sa)) (lkG2 (gs.take i) gs[i].name) ⟨_, rfl, ?_⟩)
              refine WA.y (i := 7) (NoPanic.then (NoPanic.block (NoPanic.then (NoPanic.then (NoPanic.block (NoPanic.then (NoPanic.body))))))) rfl (by kernel_rfl) (by kernel_rfl) (by kernel_rfl) rfl (Yd.move rfl) ?_
              refine WA.y (i := 8) (NoPanic.then (NoPanic.block (NoPanic.then (NoPanic.then (NoPanic.block (NoPanic.then (NoPanic.body))))))) rfl (by kernel_rfl) (by kernel_rfl) (by kernel_rfl) rfl (Yd.extract rfl rfl) ?_
              refine WA.y (i := 9) (NoPanic.then (NoPanic.block (NoPanic.then (NoPanic.then (NoPanic.block (NoPanic.then (NoPanic.body))))))) rfl (by kernel_rfl) (by kernel_rfl) (by kernel_rfl) rfl (Yd.extract rfl rfl) ?_
              refine WA.one (i := 11) (by kernel_rfl) ?_
              refine WO.s rfl Wt.none (Hd.storeAll (n := 2) (by kernel_rfl) rfl rfl (by rfl) (by repeat (first | exact fun _ h => absurd h List.not_mem_nil | refine List.forall_mem_cons.2 ⟨by first | rfl | assumption, ?_⟩)) (by repeat (first | exact Fr.here | apply Fr.fc | apply Fr.al | apply Fr.fa)) (by rfl) ⟨rfl, ?_⟩)
              refine WA.y (i := 12) (NoPanic.then (NoPanic.block (NoPanic.then (NoPanic.then (NoPanic.block (NoPanic.then (NoPanic.body))))))) rfl (by kernel_rfl) (by kernel_rfl) (by kernel_rfl) rfl (Yd.assign rfl) ?_
              refine WA.done (by kernel_rfl) ?_
              refine DN.fit (C := row b6 (cellsG gs[i]) 32 :: (row b15 [.map (some b1), .map (some b2)] 57 :: (C1 ++ (C2 ++ H)))) (by repeat (first | exact Sp.here | exact Sp.sn | exact Sp.s0 | exact Fr.here | apply Sp.s2 | apply Sp.sx | apply Fr.fc | apply Fr.al | apply Fr.fa | apply Sp.sc | apply Sp.al | apply Sp.sa)) ?_
              exact DN.reachK (0) (trivial) (Sx.put rfl ((by repeat (first | exact Sx.refl | refine Sx.skip rfl ?_)))) (Sp.all (by repeat (first | exact Sp.here | exact Sp.sn | exact Sp.s0 | exact Fr.here | apply Sp.s2 | apply Sp.sx | apply Fr.fc | apply Fr.al | apply Fr.fa | apply Sp.sc | apply Sp.al | apply Sp.sa)))
          · refine WO.h rfl Wt.none rfl (Hd.alloc (zs := [.int .i64 0, .int .i64 0]) (by kernel_rfl) fun b7 => ⟨_, rfl, ?_⟩)
            refine WA.one (i := 5) (by kernel_rfl) ?_
            refine WO.h rfl Wt.none rfl (Hd.load1 (by kernel_rfl) rfl (by repeat (first | exact List.mem_cons_self | apply List.mem_cons_of_mem | apply List.mem_append_right)) (by rfl) ⟨_, rfl, ?_⟩)
            refine WA.one (i := 6) (by kernel_rfl) ?_
            refine WO.h rfl Wt.none rfl (Hd.lookupG (k0 := kStr) (KT := 9) (ET := 59) (TD := .string) (n := gs[i].name) (z := .agg #[.int .i64 0, .int .i64 0]) (by kernel_rfl) Try.underlying9 rfl (by kernel_rfl) rfl rfl hK (by repeat (first | exact Sp.here | exact Sp.sn | exact Sp.s0 | exact Fr.here | apply Sp.s2 | apply Sp.sx | apply Fr.fc | apply Fr.al | apply Fr.fa | apply Sp.sc | apply Sp.al | apply Sp.sa)) (lkG2 (gs.take i) gs[i].name) ⟨_, rfl, ?_⟩)
            refine WA.y (i := 7) (NoPanic.then (NoPanic.block (NoPanic.then (NoPanic.then (NoPanic.block (NoPanic.then (NoPanic.body))))))) rfl (by kernel_rfl) (by kernel_rfl) (by kernel_rfl) rfl (Yd.move rfl) ?_
            refine WA.y (i := 8) (NoPanic.then (NoPanic.block (NoPanic.then (NoPanic.then (NoPanic.block (NoPanic.then (NoPanic.body))))))) rfl (by kernel_rfl) (by kernel_rfl) (by kernel_rfl) rfl (Yd.extract rfl rfl) ?_
            refine WA.y (i := 9) (NoPanic.then (NoPanic.block (NoPanic.then (NoPanic.then (NoPanic.block (NoPanic.then (NoPanic.body))))))) rfl (by kernel_rfl) (by kernel_rfl) (by kernel_rfl) rfl (Yd.extract rfl rfl) ?_
            refine WA.one (i := 11) (by kernel_rfl) ?_
            refine WO.s rfl Wt.none (Hd.storeAll (n := 2) (by kernel_rfl) rfl rfl (by rfl) (by repeat (first | exact fun _ h => absurd h List.not_mem_nil | refine List.forall_mem_cons.2 ⟨by first | rfl | assumption, ?_⟩)) (by repeat (first | exact Fr.here | apply Fr.fc | apply Fr.al | apply Fr.fa)) (by rfl) ⟨rfl, ?_⟩)
            refine WA.y (i := 12) (NoPanic.then (NoPanic.block (NoPanic.then (NoPanic.then (NoPanic.block (NoPanic.then (NoPanic.body))))))) rfl (by kernel_rfl) (by kernel_rfl) (by kernel_rfl) rfl (Yd.assign rfl) ?_
            refine WA.done (by kernel_rfl) ?_
            refine DN.fit (C := row b6 (cellsG gs[i]) 32 :: (row b15 [.map (some b1), .map (some b2)] 57 :: (C1 ++ (C2 ++ H)))) (by repeat (first | exact Sp.here | exact Sp.sn | exact Sp.s0 | exact Fr.here | apply Sp.s2 | apply Sp.sx | apply Fr.fc | apply Fr.al | apply Fr.fa | apply Sp.sc | apply Sp.al | apply Sp.sa)) ?_
            exact DN.reachK (0) (trivial) (Sx.put rfl ((by repeat (first | exact Sx.refl | refine Sx.skip rfl ?_)))) (Sp.all (by repeat (first | exact Sp.here | exact Sp.sn | exact Sp.s0 | exact Fr.here | apply Sp.s2 | apply Sp.sx | apply Fr.fc | apply Fr.al | apply Fr.fa | apply Sp.sc | apply Sp.al | apply Sp.sa)))
        · refine WO.h rfl Wt.none rfl (Hd.load1 (by kernel_rfl) rfl (by repeat (first | exact List.mem_cons_self | apply List.mem_cons_of_mem | apply List.mem_append_right)) (by rfl) ⟨_, rfl, ?_⟩)
          refine WA.two (i := 3) (j := 10) (by kernel_rfl) ?_ ?_
          · refine WO.h rfl Wt.none rfl (Hd.load1 (by kernel_rfl) rfl (by repeat (first | exact List.mem_cons_self | apply List.mem_cons_of_mem | apply List.mem_append_right)) (by rfl) ⟨_, rfl, ?_⟩)
            refine WA.two (i := 6) (j := 10) (by kernel_rfl) ?_ ?_
            · refine WO.h rfl Wt.none rfl (Hd.lookupG (k0 := kStr) (KT := 9) (ET := 59) (TD := .string) (n := gs[i].name) (z := .agg #[.int .i64 0, .int .i64 0]) (by kernel_rfl) Try.underlying9 rfl (by kernel_rfl) rfl rfl hK (by repeat (first | exact Sp.here | exact Sp.sn | exact Sp.s0 | exact Fr.here | apply Sp.s2 | apply Sp.sx | apply Fr.fc | apply Fr.al | apply Fr.fa | apply Sp.sc | apply Sp.al | apply Sp.sa)) (lkG2 (gs.take i) gs[i].name) ⟨_, rfl, ?_⟩)
              refine WA.y (i := 7) (NoPanic.then (NoPanic.block (NoPanic.then (NoPanic.then (NoPanic.block (NoPanic.then (NoPanic.body))))))) rfl (by kernel_rfl) (by kernel_rfl) (by kernel_rfl) rfl (Yd.move rfl) ?_
              refine WA.y (i := 8) (NoPanic.then (NoPanic.block (NoPanic.then (NoPanic.then (NoPanic.block (NoPanic.then (NoPanic.body))))))) rfl (by kernel_rfl) (by kernel_rfl) (by kernel_rfl) rfl (Yd.extract rfl rfl) ?_
              refine WA.y (i := 9) (NoPanic.then (NoPanic.block (NoPanic.then (NoPanic.then (NoPanic.block (NoPanic.then (NoPanic.body))))))) rfl (by kernel_rfl) (by kernel_rfl) (by kernel_rfl) rfl (Yd.extract rfl rfl) ?_
              refine WA.one (i := 10) (by kernel_rfl) ?_
              refine WO.h rfl Wt.none rfl (Hd.alloc (zs := [.int .i64 0, .int .i64 0]) (by kernel_rfl) fun b7 => ⟨_, rfl, ?_⟩)
              refine WA.one (i := 11) (by kernel_rfl) ?_
              refine WO.s rfl Wt.none (Hd.storeAll (n := 2) (by kernel_rfl) rfl rfl (by rfl) (by repeat (first | exact fun _ h => absurd h List.not_mem_nil | refine List.forall_mem_cons.2 ⟨by first | rfl | assumption, ?_⟩)) (by repeat (first | exact Fr.here | apply Fr.fc | apply Fr.al | apply Fr.fa)) (by rfl) ⟨rfl, ?_⟩)
              refine WA.y (i := 12) (NoPanic.then (NoPanic.block (NoPanic.then (NoPanic.then (NoPanic.block (NoPanic.then (NoPanic.body))))))) rfl (by kernel_rfl) (by kernel_rfl) (by kernel_rfl) rfl (Yd.assign rfl) ?_
              refine WA.done (by kernel_rfl) ?_
              refine DN.fit (C := row b6 (cellsG gs[i]) 32 :: (row b15 [.map (some b1), .map (some b2)] 57 :: (C1 ++ (C2 ++ H)))) (by repeat (first | exact Sp.here | exact Sp.sn | exact Sp.s0 | exact Fr.here | apply Sp.s2 | apply Sp.sx | apply Fr.fc | apply Fr.al | apply Fr.fa | apply Sp.sc | apply Sp.al | apply Sp.sa)) ?_
              exact DN.reachK (0) (trivial) (Sx.put rfl ((by repeat (first | exact Sx.refl | refine Sx.skip rfl ?_)))) (Sp.all (by repeat (first | exact Sp.here | exact Sp.sn | exact Sp.s0 | exact Fr.here | apply Sp.s2 | apply Sp.sx | apply Fr.fc | apply Fr.al | apply Fr.fa | apply Sp.sc | apply Sp.al | apply Sp.sa)))
            · refine WO.h rfl Wt.none rfl (Hd.alloc (zs := [.int .i64 0, .int .i64 0]) (by kernel_rfl) fun b7 => ⟨_, rfl, ?_⟩)
              refine WA.one (i := 6) (by kernel_rfl) ?_
              refine WO.h rfl Wt.none rfl (Hd.lookupG (k0 := kStr) (KT := 9) (ET := 59) (TD := .string) (n := gs[i].name) (z := .agg #[.int .i64 0, .int .i64 0]) (by kernel_rfl) Try.underlying9 rfl (by kernel_rfl) rfl rfl hK (by repeat (first | exact Sp.here | exact Sp.sn | exact Sp.s0 | exact Fr.here | apply Sp.s2 | apply Sp.sx | apply Fr.fc | apply Fr.al | apply Fr.fa | apply Sp.sc | apply Sp.al | apply Sp.sa)) (lkG2 (gs.take i) gs[i].name) ⟨_, rfl, ?_⟩)
              refine WA.y (i := 7) (NoPanic.then (NoPanic.block (NoPanic.then (NoPanic.then (NoPanic.block (NoPanic.then (NoPanic.body))))))) rfl (by kernel_rfl) (by kernel_rfl) (by kernel_rfl) rfl (Yd.move rfl) ?_
              refine WA.y (i := 8) (NoPanic.then (NoPanic.block (NoPanic.then (NoPanic.then (NoPanic.block (NoPanic.then (NoPanic.body))))))) rfl (by kernel_rfl) (by kernel_rfl) (by kernel_rfl) rfl (Yd.extract rfl rfl) ?_
              refine WA.y (i := 9) (NoPanic.then (NoPanic.block (NoPanic.then (NoPanic.then (NoPanic.block (NoPanic.then (NoPanic.body))))))) rfl (by kernel_rfl) (by kernel_rfl) (by kernel_rfl) rfl (Yd.extract rfl rfl) ?_
              refine WA.one (i := 11) (by kernel_rfl) ?_
              refine WO.s rfl Wt.none (Hd.storeAll (n := 2) (by kernel_rfl) rfl rfl (by rfl) (by repeat (first | exact fun _ h => absurd h List.not_mem_nil | refine List.forall_mem_cons.2 ⟨by first | rfl | assumption, ?_⟩)) (by repeat (first | exact Fr.here | apply Fr.fc | apply Fr.al | apply Fr.fa)) (by rfl) ⟨rfl, ?_⟩)
              refine WA.y (i := 12) (NoPanic.then (NoPanic.block (NoPanic.then (NoPanic.then (NoPanic.block (NoPanic.then (NoPanic.body))))))) rfl (by kernel_rfl) (by kernel_rfl) (by kernel_rfl) rfl (Yd.assign rfl) ?_
              refine WA.done (by kernel_rfl) ?_
              refine DN.fit (C := row b6 (cellsG gs[i]) 32 :: (row b15 [.map (some b1), .map (some b2)] 57 :: (C1 ++ (C2 ++ H)))) (by repeat (first | exact Sp.here | exact Sp.sn | exact Sp.s0 | exact Fr.here | apply Sp.s2 | apply Sp.sx | apply Fr.fc | apply Fr.al | apply Fr.fa | apply Sp.sc | apply Sp.al | apply Sp.sa)) ?_
              exact DN.reachK (0) (trivial) (Sx.put rfl ((by repeat (first | exact Sx.refl | refine Sx.skip rfl ?_)))) (Sp.all (by repeat (first | exact Sp.here | exact Sp.sn | exact Sp.s0 | exact Fr.here | apply Sp.s2 | apply Sp.sx | apply Fr.fc | apply Fr.al | apply Fr.fa | apply Sp.sc | apply Sp.al | apply Sp.sa)))
          · refine WO.h rfl Wt.none rfl (Hd.alloc (zs := [.int .i64 0, .int .i64 0]) (by kernel_rfl) fun b7 => ⟨_, rfl, ?_⟩)
            refine WA.one (i := 3) (by kernel_rfl) ?_
            refine WO.h rfl Wt.none rfl (Hd.load1 (by kernel_rfl) rfl (by repeat (first | exact List.mem_cons_self | apply List.mem_cons_of_mem | apply List.mem_append_right)) (by rfl) ⟨_, rfl, ?_⟩)
            refine WA.one (i := 6) (by kernel_rfl) ?_
            refine WO.h rfl Wt.none rfl (Hd.lookupG (k0 := kStr) (KT := 9) (ET := 59) (TD := .string) (n := gs[i].name) (z := .agg #[.int .i64 0, .int .i64 0]) (by kernel_rfl) Try.underlying9 rfl (by kernel_rfl) rfl rfl hK (by repeat (first | exact Sp.here | exact Sp.sn | exact Sp.s0 | exact Fr.here | apply Sp.s2 | apply Sp.sx | apply Fr.fc | apply Fr.al | apply Fr.fa | apply Sp.sc | apply Sp.al | apply Sp.sa)) (lkG2 (gs.take i) gs[i].name) ⟨_, rfl, ?_⟩)
            refine WA.y (i := 7) (NoPanic.then (NoPanic.block (NoPanic.then (NoPanic.then (NoPanic.block (NoPanic.then (NoPanic.body))))))) rfl (by kernel_rfl) (by kernel_rfl) (by kernel_rfl) rfl (Yd.move rfl) ?_
            refine WA.y (i := 8) (NoPanic.then (NoPanic.block (NoPanic.then (NoPanic.then (NoPanic.block (NoPanic.then (NoPanic.body))))))) rfl (by kernel_rfl) (by kernel_rfl) (by kernel_rfl) rfl (Yd.extract rfl rfl) ?_
            refine WA.y (i := 9) (NoPanic.then (NoPanic.block (NoPanic.then (NoPanic.then (NoPanic.block (NoPanic.then (NoPanic.body))))))) rfl (by kernel_rfl) (by kernel_rfl) (by kernel_rfl) rfl (Yd.extract rfl rfl) ?_
            refine WA.one (i := 11) (by kernel_rfl) ?_
            refine WO.s rfl Wt.none (Hd.storeAll (n := 2) (by kernel_rfl) rfl rfl (by rfl) (by repeat (first | exact fun _ h => absurd h List.not_mem_nil | refine List.forall_mem_cons.2 ⟨by first | rfl | assumption, ?_⟩)) (by repeat (first | exact Fr.here | apply Fr.fc | apply Fr.al | apply Fr.fa)) (by rfl) ⟨rfl, ?_⟩)
            refine WA.y (i := 12) (NoPanic.then (NoPanic.block (NoPanic.then (NoPanic.then (NoPanic.block (NoPanic.then (NoPanic.body))))))) rfl (by kernel_rfl) (by kernel_rfl) (by kernel_rfl) rfl (Yd.assign rfl) ?_
            refine WA.done (by kernel_rfl) ?_
            refine DN.fit (C := row b6 (cellsG gs[i]) 32 :: (row b15 [.map (some b1), .map (some b2)] 57 :: (C1 ++ (C2 ++ H)))) (by repeat (first | exact Sp.here | exact Sp.sn | exact Sp.s0 | exact Fr.here | apply Sp.s2 | apply Sp.sx | apply Fr.fc | apply Fr.al | apply Fr.fa | apply Sp.sc | apply Sp.al | apply Sp.sa)) ?_
            exact DN.reachK (0) (trivial) (Sx.put rfl ((by repeat (first | exact Sx.refl | refine Sx.skip rfl ?_)))) (Sp.all (by repeat (first | exact Sp.here | exact Sp.sn | exact Sp.s0 | exact Fr.here | apply Sp.s2 | apply Sp.sx | apply Fr.fc | apply Fr.al | apply Fr.fa | apply Sp.sc | apply Sp.al | apply Sp.sa)))
        · refine WO.h rfl Wt.none rfl (Hd.alloc (zs := [.int .i64 0, .int .i64 0]) (by kernel_rfl) fun b7 => ⟨_, rfl, ?_⟩)
          refine WA.two (i := 3) (j := 5) (by kernel_rfl) ?_ ?_
          · refine WO.h rfl Wt.none rfl (Hd.load1 (by kernel_rfl) rfl (by repeat (first | exact List.mem_cons_self | apply List.mem_cons_of_mem | apply List.mem_append_right)) (by rfl) ⟨_, rfl, ?_⟩)
            refine WA.one (i := 5) (by kernel_rfl) ?_
            refine WO.h rfl Wt.none rfl (Hd.load1 (by kernel_rfl) rfl (by repeat (first | exact List.mem_cons_self | apply List.mem_cons_of_mem | apply List.mem_append_right)) (by rfl) ⟨_, rfl, ?_⟩)
            refine WA.one (i := 6) (by kernel_rfl) ?_
            refine WO.h rfl Wt.none rfl (Hd.lookupG (k0 := kStr) (KT := 9) (ET := 59) (TD := .string) (n := gs[i].name) (z := .agg #[.int .i64 0, .int .i64 0]) (by kernel_rfl) Try.underlying9 rfl (by kernel_rfl) rfl rfl hK (by repeat (first | exact Sp.here | exact Sp.sn | exact Sp.s0 | exact Fr.here | apply Sp.s2 | apply Sp.sx | apply Fr.fc | apply Fr.al | apply Fr.fa | apply Sp.sc | apply Sp.al | apply Sp.sa)) (lkG2 (gs.take i) gs[i].name) ⟨_, rfl, ?_⟩)
            refine WA.y (i := 7) (NoPanic.then (NoPanic.block (NoPanic.then (NoPanic.then (NoPanic.block (NoPanic.then (NoPanic.body))))))) rfl (by kernel_rfl) (by kernel_rfl) (by kernel_rfl) rfl (Yd.move rfl) ?_
            refine WA.y (i := 8) (NoPanic.then (NoPanic.block (NoPanic.then (NoPanic.then (NoPanic.block (NoPanic.then (NoPanic.body))))))) rfl (by kernel_rfl) (by kernel_rfl) (by kernel_rfl) rfl (Yd.extract rfl rfl) ?_
            refine WA.y (i := 9) (NoPanic.then (NoPanic.block (NoPanic.then (NoPanic.then (NoPanic.block (NoPanic.then (NoPanic.body))))))) rfl (by kernel_rfl) (by kernel_rfl) (by kernel_rfl) rfl (Yd.extract rfl rfl) ?_
            refine WA.one (i := 11) (by kernel_rfl) ?_
            refine WO.s rfl Wt.none (Hd.storeAll (n := 2) (by kernel_rfl) rfl rfl (by rfl) (by repeat (first | exact fun _ h => absurd h List.not_mem_nil | refine List.forall_mem_cons.2 ⟨by first | rfl | assumption, ?_⟩)) (by repeat (first | exact Fr.here | apply Fr.fc | apply Fr.al | apply Fr.fa)) (by rfl) ⟨rfl, ?_⟩)
            refine WA.y (i := 12) (NoPanic.then (NoPanic.block (NoPanic.then (NoPanic.then (NoPanic.block (NoPanic.then (NoPanic.body))))))) rfl (by kernel_rfl) (by kernel_rfl) (by kernel_rfl) rfl (Yd.assign rfl) ?_
            refine WA.done (by kernel_rfl) ?_
            refine DN.fit (C := row b6 (cellsG gs[i]) 32 :: (row b15 [.map (some b1), .map (some b2)] 57 :: (C1 ++ (C2 ++ H)))) (by repeat (first | exact Sp.here | exact Sp.sn | exact Sp.s0 | exact Fr.here | apply Sp.s2 | apply Sp.sx | apply Fr.fc | apply Fr.al | apply Fr.fa | apply Sp.sc | apply Sp.al | apply Sp.sa)) ?_
            exact DN.reachK (0) (trivial) (Sx.put rfl ((by repeat (first | exact Sx.refl | refine Sx.skip rfl ?_)))) (Sp.all (by repeat (first | exact Sp.here | exact Sp.sn | exact Sp.s0 | exact Fr.here | apply Sp.s2 | apply Sp.sx | apply Fr.fc | apply Fr.al | apply Fr.fa | apply Sp.sc | apply Sp.al | apply Sp.sa)))
          · refine WO.h rfl Wt.none rfl (Hd.load1 (by kernel_rfl) rfl (by repeat (first | exact List.mem_cons_self | apply List.mem_cons_of_mem | apply List.mem_append_right)) (by rfl) ⟨_, rfl, ?_⟩)
            refine WA.one (i := 3) (by kernel_rfl) ?_
            refine WO.h rfl Wt.none rfl (Hd.load1 (by kernel_rfl) rfl (by repeat (first | exact List.mem_cons_self | apply List.mem_cons_of_mem | apply List.mem_append_right)) (by rfl) ⟨_, rfl, ?_⟩)
            refine WA.one (i := 6) (by kernel_rfl) ?_
            refine WO.h rfl Wt.none rfl (Hd.lookupG (k0 := kStr) (KT := 9) (ET := 59) (TD := .string) (n := gs[i].name) (z := .agg #[.int .i64 0, .int .i64 0]) (by kernel_rfl) Try.underlying9 rfl (by kernel_rfl) rfl rfl hK (by repeat (first | exact Sp.here | exact Sp.sn | exact Sp.s0 | exact Fr.here | apply Sp.s2 | apply Sp.sx | apply Fr.fc | apply Fr.al | apply Fr.fa | apply Sp.sc | apply Sp.al | apply Sp.sa)) (lkG2 (gs.take i) gs[i].name) ⟨_, rfl, ?_⟩)
            refine WA.y (i := 7) (NoPanic.then (NoPanic.block (NoPanic.then (NoPanic.then (NoPanic.block (NoPanic.then (NoPanic.body))))))) rfl (by kernel_rfl) (by kernel_rfl) (by kernel_rfl) rfl (Yd.move rfl) ?_
            refine WA.y (i := 8) (NoPanic.then (NoPanic.block (NoPanic.then (NoPanic.then (NoPanic.block (NoPanic.then (NoPanic.body))))))) rfl (by kernel_rfl) (by kernel_rfl) (by kernel_rfl) rfl (Yd.extract rfl rfl) ?_
            refine WA.y (i := 9) (NoPanic.then (NoPanic.block (NoPanic.then (NoPanic.then (NoPanic.block (NoPanic.then (NoPanic.body))))))) rfl (by kernel_rfl) (by kernel_rfl) (by kernel_rfl) rfl (Yd.extract rfl rfl) ?_
            refine WA.one (i := 11) (by kernel_rfl) ?_
            refine WO.s rfl Wt.none (Hd.storeAll (n := 2) (by kernel_rfl) rfl rfl (by rfl) (by repeat (first | exact fun _ h => absurd h List.not_mem_nil | refine List.forall_mem_cons.2 ⟨by first | rfl | assumption, ?_⟩)) (by repeat (first | exact Fr.here | apply Fr.fc | apply Fr.al | apply Fr.fa)) (by rfl) ⟨rfl, ?_⟩)
            refine WA.y (i := 12) (NoPanic.then (NoPanic.block (NoPanic.then (NoPanic.then (NoPanic.block (NoPanic.then (NoPanic.body))))))) rfl (by kernel_rfl) (by kernel_rfl) (by kernel_rfl) rfl (Yd.assign rfl) ?_
            refine WA.done (by kernel_rfl) ?_
            refine DN.fit (C := row b6 (cellsG gs[i]) 32 :: (row b15 [.map (some b1), .map (some b2)] 57 :: (C1 ++ (C2 ++ H)))) (by repeat (first | exact Sp.here | exact Sp.sn | exact Sp.s0 | exact Fr.here | apply Sp.s2 | apply Sp.sx | apply Fr.fc | apply Fr.al | apply Fr.fa | apply Sp.sc | apply Sp.al | apply Sp.sa)) ?_
            exact DN.reachK (0) (trivial) (Sx.put rfl ((by repeat (first | exact Sx.refl | refine Sx.skip rfl ?_)))) (Sp.all (by repeat (first | exact Sp.here | exact Sp.sn | exact Sp.s0 | exact Fr.here | apply Sp.s2 | apply Sp.sx | apply Fr.fc | apply Fr.al | apply Fr.fa | apply Sp.sc | apply Sp.al | apply Sp.sa)))
      · intro _ _
        refine WC.seq ?_
        refine WC.seq ?_
        refine WC.region ?_
        refine WL.y rfl (Yd.fieldAddr (k := 0) (by kernel_rfl) rfl) ?_
        refine WL.h rfl (Hd.load1 (by kernel_rfl) rfl (by repeat (first | exact List.mem_cons_self | apply List.mem_cons_of_mem | apply List.mem_append_right)) (by rfl) ⟨_, rfl, ?_⟩)
        refine WL.y rfl (Yd.eqlS rfl rfl) ?_
        refine WL.y rfl (Yd.move rfl) ?_
        refine WL.partP (t := 35) rfl (fun hg35 => ?_) (fun hg35 => ?_)
        · refine WL.gn (dj := 35) rfl rfl rfl rfl ?_
          refine WL.gn (dj := 35) rfl rfl rfl rfl ?_
          refine WL.gn (dj := 35) rfl rfl rfl rfl ?_
          refine WL.gn (dj := 35) rfl rfl rfl rfl ?_
          refine WL.y rfl (Yd.pickT rfl rfl) ?_
          refine WL.y rfl (Yd.move rfl) ?_
          refine WL.gn (dj := 41) rfl rfl rfl rfl ?_
          refine WL.gn (dj := 41) rfl rfl rfl rfl ?_
          refine WL.gn (dj := 41) rfl rfl rfl rfl ?_
          refine WL.y rfl (Yd.pickT rfl rfl) ?_
          refine WL.y rfl (Yd.move rfl) ?_
          refine WL.gn (dj := 46) rfl rfl rfl rfl ?_
          refine WL.gn (dj := 46) rfl rfl rfl rfl ?_
          refine WL.gn (dj := 46) rfl rfl rfl rfl ?_
          refine WL.y rfl (Yd.pickT rfl rfl) ?_
          refine WL.y rfl (Yd.move rfl) ?_
          refine WL.gn (dj := 51) rfl rfl rfl rfl ?_
          refine WL.y rfl (Yd.pickT rfl rfl) ?_
          refine WL.nil ?_
          refine DN.then_normal ?_
          refine WC.yes rfl ?_
          refine WC.seq ?_
          refine WC.region ?_
          refine WL.y rfl (Yd.assign rfl) ?_
          refine WL.y rfl (Yd.assign rfl) ?_
          refine WL.nil ?_
          refine DN.then_normal ?_
          refine WC.ret ?_
          refine DN.then_ret ?_
          refine DN.block_ret ?_
          refine DN.then_ret ?_
          refine DN.then_ret ?_
          refine DN.block_ret ?_
          refine DN.then_ret ?_
          first | (have hlt2 : i < gs.length := hlt; refine DN.fit (C := H) (by repeat (first | exact Sp.here | exact Sp.sn | exact Sp.s0 | exact Fr.here | apply Sp.s2 | apply Sp.sx | apply Fr.fc | apply Fr.al | apply Fr.fa | apply Sp.sc | apply Sp.al | apply Sp.sa)) ?_) | refine DN.fit (C := row b15 [.map (some b1), .map (some b2)] 57 :: (C1 ++ (C2 ++ H))) (by repeat (first | exact Sp.here | exact Sp.sn | exact Sp.s0 | exact Fr.here | apply Sp.s2 | apply Sp.sx | apply Fr.fc | apply Fr.al | apply Fr.fa | apply Sp.sc | apply Sp.al | apply Sp.sa)) ?_ | skip
          refine DN.ret2 Try.results11 rfl rfl ?_
          first
            | exact .inr ⟨fun hG => by have := hG.1; omega, rfl, rfl⟩
            | exact .inr ⟨fun hG => (hG.2.2 gs[i] (List.getElem_mem hlt)).1 hg35, rfl, rfl⟩
            | exact .inr ⟨fun hG => by have := (hG.2.2 gs[i] (List.getElem_mem hlt)).2; omega, rfl, rfl⟩
            | exact .inr ⟨fun hG => (twice_no hlt h53) hG.2.1, rfl, rfl⟩
            | exact .inl ⟨⟨by omega, hnd, fun g hm => by obtain ⟨j, hj, rfl⟩ := List.getElem_of_mem hm; exact hgood j hj hj⟩, b15, row b15 [.map (some b1), .map (some b2)] 57 :: (C1 ++ C2), rfl, ⟨b1, b2, C1, C2, rfl, hK, h2⟩, by simp⟩
        · refine WL.gy (dj := 35) rfl rfl rfl (Yd.fieldAddr (k := 0) (by kernel_rfl) rfl) ?_
          refine WL.gh (dj := 35) rfl rfl rfl (Hd.load1 (by kernel_rfl) rfl (by repeat (first | exact List.mem_cons_self | apply List.mem_cons_of_mem | apply List.mem_append_right)) (by rfl) ⟨_, rfl, ?_⟩)
          refine WL.gy (dj := 35) rfl rfl rfl (Yd.lenS Try.underlying9 rfl) ?_
          refine WL.gy (dj := 35) rfl rfl rfl (Yd.gtr rfl rfl) ?_
          refine WL.y rfl (Yd.pickF rfl rfl) ?_
          refine WL.y rfl (Yd.move rfl) ?_
          refine WL.partP (t := 41) rfl (fun hg41 => ?_) (fun hg41 => ?_)
          · refine WL.gn (dj := 41) rfl rfl rfl rfl ?_
            refine WL.gn (dj := 41) rfl rfl rfl rfl ?_
            refine WL.gn (dj := 41) rfl rfl rfl rfl ?_
            refine WL.y rfl (Yd.pickT rfl rfl) ?_
            refine WL.y rfl (Yd.move rfl) ?_
            refine WL.gn (dj := 46) rfl rfl rfl rfl ?_
            refine WL.gn (dj := 46) rfl rfl rfl rfl ?_
            refine WL.gn (dj := 46) rfl rfl rfl rfl ?_
            refine WL.y rfl (Yd.pickT rfl rfl) ?_
            refine WL.y rfl (Yd.move rfl) ?_
            refine WL.gn (dj := 51) rfl rfl rfl rfl ?_
            refine WL.y rfl (Yd.pickT rfl rfl) ?_
            refine WL.nil ?_
            refine DN.then_normal ?_
            refine WC.yes rfl ?_
            refine WC.seq ?_
            refine WC.region ?_
            refine WL.y rfl (Yd.assign rfl) ?_
            refine WL.y rfl (Yd.assign rfl) ?_
            refine WL.nil ?_
            refine DN.then_normal ?_
            refine WC.ret ?_
            refine DN.then_ret ?_
            refine DN.block_ret ?_
            refine DN.then_ret ?_
            refine DN.then_ret ?_
            refine DN.block_ret ?_
            refine DN.then_ret ?_
            first | (have hlt2 : i < gs.length := hlt; refine DN.fit (C := H) (by repeat (first | exact Sp.here | exact Sp.sn | exact Sp.s0 | exact Fr.here | apply Sp.s2 | apply Sp.sx | apply Fr.fc | apply Fr.al | apply Fr.fa | apply Sp.sc | apply Sp.al | apply Sp.sa)) ?_) | refine DN.fit (C := row b15 [.map (some b1), .map (some b2)] 57 :: (C1 ++ (C2 ++ H))) (by repeat (first | exact Sp.here | exact Sp.sn | exact Sp.s0 | exact Fr.here | apply Sp.s2 | apply Sp.sx | apply Fr.fc | apply Fr.al | apply Fr.fa | apply Sp.sc | apply Sp.al | apply Sp.sa)) ?_ | skip
            refine DN.ret2 Try.results11 rfl rfl ?_
            first
              | exact .inr ⟨fun hG => by have := hG.1; omega, rfl, rfl⟩
              | exact .inr ⟨fun hG => (hG.2.2 gs[i] (List.getElem_mem hlt)).1 hg35, rfl, rfl⟩
              | exact .inr ⟨fun hG => by have := (hG.2.2 gs[i] (List.getElem_mem hlt)).2; omega, rfl, rfl⟩
              | exact .inr ⟨fun hG => (twice_no hlt h53) hG.2.1, rfl, rfl⟩
              | exact .inl ⟨⟨by omega, hnd, fun g hm => by obtain ⟨j, hj, rfl⟩ := List.getElem_of_mem hm; exact hgood j hj hj⟩, b15, row b15 [.map (some b1), .map (some b2)] 57 :: (C1 ++ C2), rfl, ⟨b1, b2, C1, C2, rfl, hK, h2⟩, by simp⟩
          · refine WL.gy (dj := 41) rfl rfl rfl (Yd.fieldAddr (k := 1) (by kernel_rfl) rfl) ?_
            refine WL.gh (dj := 41) rfl rfl rfl (Hd.load1 (by kernel_rfl) rfl (by repeat (first | exact List.mem_cons_self | apply List.mem_cons_of_mem | apply List.mem_append_right)) (by rfl) ⟨_, rfl, ?_⟩)
            refine WL.gy (dj := 41) rfl rfl rfl (Yd.lss rfl rfl) ?_
            refine WL.y rfl (Yd.pickF rfl rfl) ?_
            refine WL.y rfl (Yd.move rfl) ?_
            refine WL.partP (t := 46) rfl (fun hg46 => ?_) (fun hg46 => ?_)
            · refine WL.gn (dj := 46) rfl rfl rfl rfl ?_
              refine WL.gn (dj := 46) rfl rfl rfl rfl ?_
              refine WL.gn (dj := 46) rfl rfl rfl rfl ?_
              refine WL.y rfl (Yd.pickT rfl rfl) ?_
              refine WL.y rfl (Yd.move rfl) ?_
              refine WL.gn (dj := 51) rfl rfl rfl rfl ?_
              refine WL.y rfl (Yd.pickT rfl rfl) ?_
              refine WL.nil ?_
              refine DN.then_normal ?_
              refine WC.yes rfl ?_
              refine WC.seq ?_
              refine WC.region ?_
              refine WL.y rfl (Yd.assign rfl) ?_
              refine WL.y rfl (Yd.assign rfl) ?_
              refine WL.nil ?_
              refine DN.then_normal ?_
              refine WC.ret ?_
              refine DN.then_ret ?_
              refine DN.block_ret ?_
              refine DN.then_ret ?_
              refine DN.then_ret ?_
              refine DN.block_ret ?_
              refine DN.then_ret ?_
              first | (have hlt2 : i < gs.length := hlt; refine DN.fit (C := H) (by repeat (first | exact Sp.here | exact Sp.sn | exact Sp.s0 | exact Fr.here | apply Sp.s2 | apply Sp.sx | apply Fr.fc | apply Fr.al | apply Fr.fa | apply Sp.sc | apply Sp.al | apply Sp.sa)) ?_) | refine DN.fit (C := row b15 [.map (some b1), .map (some b2)] 57 :: (C1 ++ (C2 ++ H))) (by repeat (first | exact Sp.here | exact Sp.sn | exact Sp.s0 | exact Fr.here | apply Sp.s2 | apply Sp.sx | apply Fr.fc | apply Fr.al | apply Fr.fa | apply Sp.sc | apply Sp.al | apply Sp.sa)) ?_ | skip
              refine DN.ret2 Try.results11 rfl rfl ?_
              first
                | exact .inr ⟨fun hG => by have := hG.1; omega, rfl, rfl⟩
                | exact .inr ⟨fun hG => (hG.2.2 gs[i] (List.getElem_mem hlt)).1 hg35, rfl, rfl⟩
                | exact .inr ⟨fun hG => by have := (hG.2.2 gs[i] (List.getElem_mem hlt)).2; omega, rfl, rfl⟩
                | exact .inr ⟨fun hG => (twice_no hlt h53) hG.2.1, rfl, rfl⟩
                | exact .inl ⟨⟨by omega, hnd, fun g hm => by obtain ⟨j, hj, rfl⟩ := List.getElem_of_mem hm; exact hgood j hj hj⟩, b15, row b15 [.map (some b1), .map (some b2)] 57 :: (C1 ++ C2), rfl, ⟨b1, b2, C1, C2, rfl, hK, h2⟩, by simp⟩
            · refine WL.gy (dj := 46) rfl rfl rfl (Yd.fieldAddr (k := 1) (by kernel_rfl) rfl) ?_
              refine WL.gh (dj := 46) rfl rfl rfl (Hd.load1 (by kernel_rfl) rfl (by repeat (first | exact List.mem_cons_self | apply List.mem_cons_of_mem | apply List.mem_append_right)) (by rfl) ⟨_, rfl, ?_⟩)
              refine WL.gy (dj := 46) rfl rfl rfl (Yd.gtr rfl rfl) ?_
              refine WL.y rfl (Yd.pickF rfl rfl) ?_
              refine WL.y rfl (Yd.move rfl) ?_
              refine WL.partP (t := 51) rfl (fun hg51 => ?_) (fun hg51 => ?_)
              · refine WL.gn (dj := 51) rfl rfl rfl rfl ?_
                refine WL.y rfl (Yd.pickT rfl rfl) ?_
                refine WL.nil ?_
                refine DN.then_normal ?_
                refine WC.yes rfl ?_
                refine WC.seq ?_
                refine WC.region ?_
                refine WL.y rfl (Yd.assign rfl) ?_
                refine WL.y rfl (Yd.assign rfl) ?_
                refine WL.nil ?_
                refine DN.then_normal ?_
                refine WC.ret ?_
                refine DN.then_ret ?_
                refine DN.block_ret ?_
                refine DN.then_ret ?_
                refine DN.then_ret ?_
                refine DN.block_ret ?_
                refine DN.then_ret ?_
                first | (have hlt2 : i < gs.length := hlt; refine DN.fit (C := H) (by repeat (first | exact Sp.here | exact Sp.sn | exact Sp.s0 | exact Fr.here | apply Sp.s2 | apply Sp.sx | apply Fr.fc | apply Fr.al | apply Fr.fa | apply Sp.sc | apply Sp.al | apply Sp.sa)) ?_) | refine DN.fit (C := row b15 [.map (some b1), .map (some b2)] 57 :: (C1 ++ (C2 ++ H))) (by repeat (first | exact Sp.here | exact Sp.sn | exact Sp.s0 | exact Fr.here | apply Sp.s2 | apply Sp.sx | apply Fr.fc | apply Fr.al | apply Fr.fa | apply Sp.sc | apply Sp.al | apply Sp.sa)) ?_ | skip
                refine DN.ret2 Try.results11 rfl rfl ?_
                first
                  | exact .inr ⟨fun hG => by have := hG.1; omega, rfl, rfl⟩
                  | exact .inr ⟨fun hG => (hG.2.2 gs[i] (List.getElem_mem hlt)).1 hg35, rfl, rfl⟩
                  | exact .inr ⟨fun hG => by have := (hG.2.2 gs[i] (List.getElem_mem hlt)).2; omega, rfl, rfl⟩
                  | exact .inr ⟨fun hG => (twice_no hlt h53) hG.2.1, rfl, rfl⟩
                  | exact .inl ⟨⟨by omega, hnd, fun g hm => by obtain ⟨j, hj, rfl⟩ := List.getElem_of_mem hm; exact hgood j hj hj⟩, b15, row b15 [.map (some b1), .map (some b2)] 57 :: (C1 ++ C2), rfl, ⟨b1, b2, C1, C2, rfl, hK, h2⟩, by simp⟩
              · refine WL.gy (dj := 51) rfl rfl rfl (Yd.move rfl) ?_
                refine WL.y rfl (Yd.pickF rfl rfl) ?_
                refine WL.nil ?_
                refine DN.then_normal ?_
                refine WC.cond rfl (fun h53 => ?_) (fun h53 => ?_)
                · refine WC.seq ?_
                  refine WC.region ?_
                  refine WL.y rfl (Yd.assign rfl) ?_
                  refine WL.y rfl (Yd.assign rfl) ?_
                  refine WL.nil ?_
                  refine DN.then_normal ?_
                  refine WC.ret ?_
                  refine DN.then_ret ?_
                  refine DN.block_ret ?_
                  refine DN.then_ret ?_
                  refine DN.then_ret ?_
                  refine DN.block_ret ?_
                  refine DN.then_ret ?_
                  first | (have hlt2 : i < gs.length := hlt; refine DN.fit (C := H) (by repeat (first | exact Sp.here | exact Sp.sn | exact Sp.s0 | exact Fr.here | apply Sp.s2 | apply Sp.sx | apply Fr.fc | apply Fr.al | apply Fr.fa | apply Sp.sc | apply Sp.al | apply Sp.sa)) ?_) | refine DN.fit (C := row b15 [.map (some b1), .map (some b2)] 57 :: (C1 ++ (C2 ++ H))) (by repeat (first | exact Sp.here | exact Sp.sn | exact Sp.s0 | exact Fr.here | apply Sp.s2 | apply Sp.sx | apply Fr.fc | apply Fr.al | apply Fr.fa | apply Sp.sc | apply Sp.al | apply Sp.sa)) ?_ | skip
                  refine DN.ret2 Try.results11 rfl rfl ?_
                  first
                    | exact .inr ⟨fun hG => by have := hG.1; omega, rfl, rfl⟩
                    | exact .inr ⟨fun hG => (hG.2.2 gs[i] (List.getElem_mem hlt)).1 hg35, rfl, rfl⟩
                    | exact .inr ⟨fun hG => by have := (hG.2.2 gs[i] (List.getElem_mem hlt)).2; omega, rfl, rfl⟩
                    | exact .inr ⟨fun hG => (twice_no hlt h53) hG.2.1, rfl, rfl⟩
                    | exact .inl ⟨⟨by omega, hnd, fun g hm => by obtain ⟨j, hj, rfl⟩ := List.getElem_of_mem hm; exact hgood j hj hj⟩, b15, row b15 [.map (some b1), .map (some b2)] 57 :: (C1 ++ C2), rfl, ⟨b1, b2, C1, C2, rfl, hK, h2⟩, by simp⟩
                · have hgi : goodB gs[i] := ⟨hg35, by omega, by omega, by omega⟩
                  have hnone : findK Gd.name (gs.take i) gs[i].name = none := by simpa using h53
                  have hndi := once_more hnd hnone
                  refine WC.skip ?_
                  refine DN.then_normal ?_
                  refine WC.draw 10 (by kernel_rfl) rfl ?_
                  refine WA.y (i := 0) (NoPanic.block (NoPanic.then (NoPanic.then (NoPanic.block (NoPanic.then (NoPanic.body)))))) rfl (by kernel_rfl) (by kernel_rfl) (by kernel_rfl) rfl (Yd.move rfl) ?_
                  refine WA.y (i := 1) (NoPanic.block (NoPanic.then (NoPanic.then (NoPanic.block (NoPanic.then (NoPanic.body)))))) rfl (by kernel_rfl) (by kernel_rfl) (by kernel_rfl) rfl (Yd.notNil rfl) ?_
                  refine WA.y (i := 2) (NoPanic.block (NoPanic.then (NoPanic.then (NoPanic.block (NoPanic.then (NoPanic.body)))))) rfl (by kernel_rfl) (by kernel_rfl) (by kernel_rfl) rfl (Yd.fieldAddr (k := 0) (by kernel_rfl) rfl) ?_
                  refine WA.y (i := 4) (NoPanic.block (NoPanic.then (NoPanic.then (NoPanic.block (NoPanic.then (NoPanic.body)))))) rfl (by kernel_rfl) (by kernel_rfl) (by kernel_rfl) rfl (Yd.fieldAddr (k := 0) (by kernel_rfl) rfl) ?_
                  refine WA.y (i := 6) (NoPanic.block (NoPanic.then (NoPanic.then (NoPanic.block (NoPanic.then (NoPanic.body)))))) rfl (by kernel_rfl) (by kernel_rfl) (by kernel_rfl) rfl (Yd.fieldAddr (k := 1) (by kernel_rfl) rfl) ?_
                  refine WA.three (i := 3) (j := 5) (k := 7) (by kernel_rfl) ?_ ?_ ?_
                  · refine WO.h rfl Wt.none rfl (Hd.load1 (by kernel_rfl) rfl (by repeat (first | exact List.mem_cons_self | apply List.mem_cons_of_mem | apply List.mem_append_right)) (by rfl) ⟨_, rfl, ?_⟩)
                    refine WA.two (i := 5) (j := 7) (by kernel_rfl) ?_ ?_
                    · refine WO.h rfl Wt.none rfl (Hd.load1 (by kernel_rfl) rfl (by repeat (first | exact List.mem_cons_self | apply List.mem_cons_of_mem | apply List.mem_append_right)) (by rfl) ⟨_, rfl, ?_⟩)
                      refine WA.one (i := 7) (by kernel_rfl) ?_
                      refine WO.h rfl Wt.none rfl (Hd.load1 (by kernel_rfl) rfl (by repeat (first | exact List.mem_cons_self | apply List.mem_cons_of_mem | apply List.mem_append_right)) (by rfl) ⟨_, rfl, ?_⟩)
                      refine WA.y (i := 8) (NoPanic.block (NoPanic.then (NoPanic.then (NoPanic.block (NoPanic.then (NoPanic.body)))))) rfl (by kernel_rfl) (by kernel_rfl) (by kernel_rfl) rfl (Yd.buildL (pl := [(0, 1), (1, 1)]) (zs := [.int .i64 0, .int .i64 0]) (parts := [(0, .tmp 61)]) (vs := [(0, _)]) (cells := [_, .int .i64 0]) (by kernel_rfl) (by kernel_rfl) rfl rfl) ?_
                      refine WA.one (i := 9) (by kernel_rfl) ?_
                      refine WO.s rfl Wt.none (Hd.mapSet (k0 := kStr) (KT := 9) (ET := 59) (TD := .string) (n := gs[i].name) (by kernel_rfl) Try.underlying9 rfl rfl rfl rfl hK (by rw [kvs_keys]; exact hnd) (by repeat (first | exact Sp.here | exact Sp.sn | exact Sp.s0 | exact Fr.here | apply Sp.s2 | apply Sp.sx | apply Fr.fc | apply Fr.al | apply Fr.fa | apply Sp.sc | apply Sp.al | apply Sp.sa)) fun C3 h3 => ⟨rfl, ?_⟩)
                      refine WA.done (by kernel_rfl) ?_
                      refine DN.block_normal ?_
                      refine DN.then_normal ?_
                      refine WC.region ?_
                      refine WL.y rfl (Yd.add rfl rfl (by omega) (by omega)) ?_
                      refine WL.y rfl (Yd.move rfl) ?_
                      refine WL.nil ?_
                      exact DN.againS (⟨i + 1, C3⟩) (show (i + 1) ≤ gs.length ∧ (∀ (j : Nat) (h : j < gs.length), j < (i + 1) → goodB gs[j]) ∧ ((gs.take (i + 1)).map Gd.name).Nodup ∧ MpG kStr b1 (kvs Gd.name encG (gs.take (i + 1))) C3 from ⟨by omega, fun j h hj => by
                        rcases Nat.lt_or_ge j i with h5 | h5
                        · exact hgood j h h5
                        · obtain rfl : j = i := by omega
                          exact hgi, by rw [htk]; exact hndi, by rw [htk]; exact put_more hgn hnone h3⟩) (show gs.length - (i + 1) < gs.length - i by omega) (Sx.put rfl ((by repeat (first | exact Sx.refl | refine Sx.skip rfl ?_)))) (by repeat (first | exact Sp.here | exact Sp.sn | exact Sp.s0 | exact Fr.here | apply Sp.s2 | apply Sp.sx | apply Fr.fc | apply Fr.al | apply Fr.fa | apply Sp.sc | apply Sp.al | apply Sp.sa))
                    · refine WO.h rfl Wt.none rfl (Hd.load1 (by kernel_rfl) rfl (by repeat (first | exact List.mem_cons_self | apply List.mem_cons_of_mem | apply List.mem_append_right)) (by rfl) ⟨_, rfl, ?_⟩)
                      refine WA.y (i := 8) (NoPanic.block (NoPanic.then (NoPanic.then (NoPanic.block (NoPanic.then (NoPanic.body)))))) rfl (by kernel_rfl) (by kernel_rfl) (by kernel_rfl) rfl (Yd.buildL (pl := [(0, 1), (1, 1)]) (zs := [.int .i64 0, .int .i64 0]) (parts := [(0, .tmp 61)]) (vs := [(0, _)]) (cells := [_, .int .i64 0]) (by kernel_rfl) (by kernel_rfl) rfl rfl) ?_
                      refine WA.one (i := 5) (by kernel_rfl) ?_
                      refine WO.h rfl Wt.none rfl (Hd.load1 (by kernel_rfl) rfl (by repeat (first | exact List.mem_cons_self | apply List.mem_cons_of_mem | apply List.mem_append_right)) (by rfl) ⟨_, rfl, ?_⟩)
                      refine WA.one (i := 9) (by kernel_rfl) ?_
                      refine WO.s rfl Wt.none (Hd.mapSet (k0 := kStr) (KT := 9) (ET := 59) (TD := .string) (n := gs[i].name) (by kernel_rfl) Try.underlying9 rfl rfl rfl rfl hK (by rw [kvs_keys]; exact hnd) (by repeat (first | exact Sp.here | exact Sp.sn | exact Sp.s0 | exact Fr.here | apply Sp.s2 | apply Sp.sx | apply Fr.fc | apply Fr.al | apply Fr.fa | apply Sp.sc | apply Sp.al | apply Sp.sa)) fun C3 h3 => ⟨rfl, ?_⟩)
                      refine WA.done (by kernel_rfl) ?_
                      refine DN.block_normal ?_
                      refine DN.then_normal ?_
                      refine WC.region ?_
                      refine WL.y rfl (Yd.add rfl rfl (by omega) (by omega)) ?_
                      refine WL.y rfl (Yd.move rfl) ?_
                      refine WL.nil ?_
                      exact DN.againS (⟨i + 1, C3⟩) (show (i + 1) ≤ gs.length ∧ (∀ (j : Nat) (h : j < gs.length), j < (i + 1) → goodB gs[j]) ∧ ((gs.take (i + 1)).map Gd.name).Nodup ∧ MpG kStr b1 (kvs Gd.name encG (gs.take (i + 1))) C3 from ⟨by omega, fun j h hj => by
                        rcases Nat.lt_or_ge j i with h5 | h5
                        · exact hgood j h h5
                        · obtain rfl : j = i := by omega
                          exact hgi, by rw [htk]; exact hndi, by rw [htk]; exact put_more hgn hnone h3⟩) (show gs.length - (i + 1) < gs.length - i by omega) (Sx.put rfl ((by repeat (first | exact Sx.refl | refine Sx.skip rfl ?_)))) (by repeat (first | exact Sp.here | exact Sp.sn | exact Sp.s0 | exact Fr.here | apply Sp.s2 | apply Sp.sx | apply Fr.fc | apply Fr.al | apply Fr.fa | apply Sp.sc | apply Sp.al | apply Sp.sa))
                  · refine WO.h rfl Wt.none rfl (Hd.load1 (by kernel_rfl) rfl (by repeat (first | exact List.mem_cons_self | apply List.mem_cons_of_mem | apply List.mem_append_right)) (by rfl) ⟨_, rfl, ?_⟩)
                    refine WA.two (i := 3) (j := 7) (by kernel_rfl) ?_ ?_
                    · refine WO.h rfl Wt.none rfl (Hd.load1 (by kernel_rfl) rfl (by repeat (first | exact List.mem_cons_self | apply List.mem_cons_of_mem | apply List.mem_append_right)) (by rfl) ⟨_, rfl, ?_⟩)
                      refine WA.one (i := 7) (by kernel_rfl) ?_
                      refine WO.h rfl Wt.none rfl (Hd.load1 (by kernel_rfl) rfl (by repeat (first | exact List.mem_cons_self | apply List.mem_cons_of_mem | apply List.mem_append_right)) (by rfl) ⟨_, rfl, ?_⟩)
                      refine WA.y (i := 8) (NoPanic.block (NoPanic.then (NoPanic.then (NoPanic.block (NoPanic.then (NoPanic.body)))))) rfl (by kernel_rfl) (by kernel_rfl) (by kernel_rfl) rfl (Yd.buildL (pl := [(0, 1), (1, 1)]) (zs := [.int .i64 0, .int .i64 0]) (parts := [(0, .tmp 61)]) (vs := [(0, _)]) (cells := [_, .int .i64 0]) (by kernel_rfl) (by kernel_rfl) rfl rfl) ?_
                      refine WA.one (i := 9) (by kernel_rfl) ?_
                      refine WO.s rfl Wt.none (Hd.mapSet (k0 := kStr) (KT := 9) (ET := 59) (TD := .string) (n := gs[i].name) (by kernel_rfl) Try.underlying9 rfl rfl rfl rfl hK (by rw [kvs_keys]; exact hnd) (by repeat (first | exact Sp.here | exact Sp.sn | exact Sp.s0 | exact Fr.here | apply Sp.s2 | apply Sp.sx | apply Fr.fc | apply Fr.al | apply Fr.fa | apply Sp.sc | apply Sp.al | apply Sp.sa)) fun C3 h3 => ⟨rfl, ?_⟩)
                      refine WA.done (by kernel_rfl) ?_
                      refine DN.block_normal ?_
                      refine DN.then_normal ?_
                      refine WC.region ?_
                      refine WL.y rfl (Yd.add rfl rfl (by omega) (by omega)) ?_
                      refine WL.y rfl (Yd.move rfl) ?_
                      refine WL.nil ?_
                      exact DN.againS (⟨i + 1, C3⟩) (show (i + 1) ≤ gs.length ∧ (∀ (j : Nat) (h : j < gs.length), j < (i + 1) → goodB gs[j]) ∧ ((gs.take (i + 1)).map Gd.name).Nodup ∧ MpG kStr b1 (kvs Gd.name encG (gs.take (i + 1))) C3 from ⟨by omega, fun j h hj => by
                        rcases Nat.lt_or_ge j i with h5 | h5
                        · exact hgood j h h5
                        · obtain rfl : j = i := by omega
                          exact hgi, by rw [htk]; exact hndi, by rw [htk]; exact put_more hgn hnone h3⟩) (show gs.length - (i + 1) < gs.length - i by omega) (Sx.put rfl ((by repeat (first | exact Sx.refl | refine Sx.skip rfl ?_)))) (by repeat (first | exact Sp.here | exact Sp.sn | exact Sp.s0 | exact Fr.here | apply Sp.s2 | apply Sp.sx | apply Fr.fc | apply Fr.al | apply Fr.fa | apply Sp.sc | apply Sp.al | apply Sp.sa))
                    · refine WO.h rfl Wt.none rfl (Hd.load1 (by kernel_rfl) rfl (by repeat (first | exact List.mem_cons_self | apply List.mem_cons_of_mem | apply List.mem_append_right)) (by rfl) ⟨_, rfl, ?_⟩)
                      refine WA.y (i := 8) (NoPanic.block (NoPanic.then (NoPanic.then (NoPanic.block (NoPanic.then (NoPanic.body)))))) rfl (by kernel_rfl) (by kernel_rfl) (by kernel_rfl) rfl (Yd.buildL (pl := [(0, 1), (1, 1)]) (zs := [.int .i64 0, .int .i64 0]) (parts := [(0, .tmp 61)]) (vs := [(0, _)]) (cells := [_, .int .i64 0]) (by kernel_rfl) (by kernel_rfl) rfl rfl) ?_
                      refine WA.one (i := 3) (by kernel_rfl) ?_
                      refine WO.h rfl Wt.none rfl (Hd.load1 (by kernel_rfl) rfl (by repeat (first | exact List.mem_cons_self | apply List.mem_cons_of_mem | apply List.mem_append_right)) (by rfl) ⟨_, rfl, ?_⟩)
                      refine WA.one (i := 9) (by kernel_rfl) ?_
                      refine WO.s rfl Wt.none (Hd.mapSet (k0 := kStr) (KT := 9) (ET := 59) (TD := .string) (n := gs[i].name) (by kernel_rfl) Try.underlying9 rfl rfl rfl rfl hK (by rw [kvs_keys]; exact hnd) (by repeat (first | exact Sp.here | exact Sp.sn | exact Sp.s0 | exact Fr.here | apply Sp.s2 | apply Sp.sx | apply Fr.fc | apply Fr.al | apply Fr.fa | apply Sp.sc | apply Sp.al | apply Sp.sa)) fun C3 h3 => ⟨rfl, ?_⟩)
                      refine WA.done (by kernel_rfl) ?_
                      refine DN.block_normal ?_
                      refine DN.then_normal ?_
                      refine WC.region ?_
                      refine WL.y rfl (Yd.add rfl rfl (by omega) (by omega)) ?_
                      refine WL.y rfl (Yd.move rfl) ?_
                      refine WL.nil ?_
                      exact DN.againS (⟨i + 1, C3⟩) (show (i + 1) ≤ gs.length ∧ (∀ (j : Nat) (h : j < gs.length), j < (i + 1) → goodB gs[j]) ∧ ((gs.take (i + 1)).map Gd.name).Nodup ∧ MpG kStr b1 (kvs Gd.name encG (gs.take (i + 1))) C3 from ⟨by omega, fun j h hj => by
                        rcases Nat.lt_or_ge j i with h5 | h5
                        · exact hgood j h h5
                        · obtain rfl : j = i := by omega
                          exact hgi, by rw [htk]; exact hndi, by rw [htk]; exact put_more hgn hnone h3⟩) (show gs.length - (i + 1) < gs.length - i by omega) (Sx.put rfl ((by repeat (first | exact Sx.refl | refine Sx.skip rfl ?_)))) (by repeat (first | exact Sp.here | exact Sp.sn | exact Sp.s0 | exact Fr.here | apply Sp.s2 | apply Sp.sx | apply Fr.fc | apply Fr.al | apply Fr.fa | apply Sp.sc | apply Sp.al | apply Sp.sa))
                  · refine WO.h rfl Wt.none rfl (Hd.load1 (by kernel_rfl) rfl (by repeat (first | exact List.mem_cons_self | apply List.mem_cons_of_mem | apply List.mem_append_right)) (by rfl) ⟨_, rfl, ?_⟩)
                    refine WA.y (i := 8) (NoPanic.block (NoPanic.then (NoPanic.then (NoPanic.block (NoPanic.then (NoPanic.body)))))) rfl (by kernel_rfl) (by kernel_rfl) (by kernel_rfl) rfl (Yd.buildL (pl := [(0, 1), (1, 1)]) (zs := [.int .i64 0, .int .i64 0]) (parts := [(0, .tmp 61)]) (vs := [(0, _)]) (cells := [_, .int .i64 0]) (by kernel_rfl) (by kernel_rfl) rfl rfl) ?_
                    refine WA.two (i := 3) (j := 5) (by kernel_rfl) ?_ ?_
                    · refine WO.h rfl Wt.none rfl (Hd.load1 (by kernel_rfl) rfl (by repeat (first | exact List.mem_cons_self | apply List.mem_cons_of_mem | apply List.mem_append_right)) (by rfl) ⟨_, rfl, ?_⟩)
                      refine WA.one (i := 5) (by kernel_rfl) ?_
                      refine WO.h rfl Wt.none rfl (Hd.load1 (by kernel_rfl) rfl (by repeat (first | exact List.mem_cons_self | apply List.mem_cons_of_mem | apply List.mem_append_right)) (by rfl) ⟨_, rfl, ?_⟩)
                      refine WA.one (i := 9) (by kernel_rfl) ?_
                      refine WO.s rfl Wt.none (Hd.mapSet (k0 := kStr) (KT := 9) (ET := 59) (TD := .string) (n := gs[i].name) (by kernel_rfl) Try.underlying9 rfl rfl rfl rfl hK (by rw [kvs_keys]; exact hnd) (by repeat (first | exact Sp.here | exact Sp.sn | exact Sp.s0 | exact Fr.here | apply Sp.s2 | apply Sp.sx | apply Fr.fc | apply Fr.al | apply Fr.fa | apply Sp.sc | apply Sp.al | apply Sp.sa)) fun C3 h3 => ⟨rfl, ?_⟩)
                      refine WA.done (by kernel_rfl) ?_
                      refine DN.block_normal ?_
                      refine DN.then_normal ?_
                      refine WC.region ?_
                      refine WL.y rfl (Yd.add rfl rfl (by omega) (by omega)) ?_
                      refine WL.y rfl (Yd.move rfl) ?_
                      refine WL.nil ?_
                      exact DN.againS (⟨i + 1, C3⟩) (show (i + 1) ≤ gs.length ∧ (∀ (j : Nat) (h : j < gs.length), j < (i + 1) → goodB gs[j]) ∧ ((gs.take (i + 1)).map Gd.name).Nodup ∧ MpG kStr b1 (kvs Gd.name encG (gs.take (i + 1))) C3 from ⟨by omega, fun j h hj => by
                        rcases Nat.lt_or_ge j i with h5 | h5
                        · exact hgood j h h5
                        · obtain rfl : j = i := by omega
                          exact hgi, by rw [htk]; exact hndi, by rw [htk]; exact put_more hgn hnone h3⟩) (show gs.length - (i + 1) < gs.length - i by omega) (Sx.put rfl ((by repeat (first | exact Sx.refl | refine Sx.skip rfl ?_)))) (by repeat (first | exact Sp.here | exact Sp.sn | exact Sp.s0 | exact Fr.here | apply Sp.s2 | apply Sp.sx | apply Fr.fc | apply Fr.al | apply Fr.fa | apply Sp.sc | apply Sp.al | apply Sp.sa))
                    · refine WO.h rfl Wt.none rfl (Hd.load1 (by kernel_rfl) rfl (by repeat (first | exact List.mem_cons_self | apply List.mem_cons_of_mem | apply List.mem_append_right)) (by rfl) ⟨_, rfl, ?_⟩)
                      refine WA.one (i := 3) (by kernel_rfl) ?_
                      refine WO.h rfl Wt.none rfl (Hd.load1 (by kernel_rfl) rfl (by repeat (first | exact List.mem_cons_self | apply List.mem_cons_of_mem | apply List.mem_append_right)) (by rfl) ⟨_, rfl, ?_⟩)
                      refine WA.one (i := 9) (by kernel_rfl) ?_
                      refine WO.s rfl Wt.none (Hd.mapSet (k0 := kStr) (KT := 9) (ET := 59) (TD := .string) (n := gs[i].name) (by kernel_rfl) Try.underlying9 rfl rfl rfl rfl hK (by rw [kvs_keys]; exact hnd) (by repeat (first | exact Sp.here | exact Sp.sn | exact Sp.s0 | exact Fr.here | apply Sp.s2 | apply Sp.sx | apply Fr.fc | apply Fr.al | apply Fr.fa | apply Sp.sc | apply Sp.al | apply Sp.sa)) fun C3 h3 => ⟨rfl, ?_⟩)
                      refine WA.done (by kernel_rfl) ?_
                      refine DN.block_normal ?_
                      refine DN.then_normal ?_
                      refine WC.region ?_
                      refine WL.y rfl (Yd.add rfl rfl (by omega) (by omega)) ?_
                      refine WL.y rfl (Yd.move rfl) ?_
                      refine WL.nil ?_
                      exact DN.againS (⟨i + 1, C3⟩) (show (i + 1) ≤ gs.length ∧ (∀ (j : Nat) (h : j < gs.length), j < (i + 1) → goodB gs[j]) ∧ ((gs.take (i + 1)).map Gd.name).Nodup ∧ MpG kStr b1 (kvs Gd.name encG (gs.take (i + 1))) C3 from ⟨by omega, fun j h hj => by
                        rcases Nat.lt_or_ge j i with h5 | h5
                        · exact hgood j h h5
                        · obtain rfl : j = i := by omega
                          exact hgi, by rw [htk]; exact hndi, by rw [htk]; exact put_more hgn hnone h3⟩) (show gs.length - (i + 1) < gs.length - i by omega) (Sx.put rfl ((by repeat (first | exact Sx.refl | refine Sx.skip rfl ?_)))) (by repeat (first | exact Sp.here | exact Sp.sn | exact Sp.s0 | exact Fr.here | apply Sp.s2 | apply Sp.sx | apply Fr.fc | apply Fr.al | apply Fr.fa | apply Sp.sc | apply Sp.al | apply Sp.sa))
    · obtain rfl : i = gs.length := by omega
      rw [List.take_length] at hnd hK
      refine WC.exit ?_
      refine DN.then_exit ?_
      refine DN.then_exit ?_
      refine DN.block_exit ?_
      refine DN.then_normal ?_
      refine WC.seq ?_
      refine WC.region ?_
      refine WL.y rfl (Yd.move rfl) ?_
      refine WL.y rfl (Yd.assign rfl) ?_
      refine WL.y rfl (Yd.assign rfl) ?_
      refine WL.nil ?_
      refine DN.then_normal ?_
      refine WC.ret ?_
      first | (have hlt2 : i < gs.length := hlt; refine DN.fit (C := H) (by repeat (first | exact Sp.here | exact Sp.sn | exact Sp.s0 | exact Fr.here | apply Sp.s2 | apply Sp.sx | apply Fr.fc | apply Fr.al | apply Fr.fa | apply Sp.sc | apply Sp.al | apply Sp.sa)) ?_) | refine DN.fit (C := row b15 [.map (some b1), .map (some b2)] 57 :: (C1 ++ (C2 ++ H))) (by repeat (first | exact Sp.here | exact Sp.sn | exact Sp.s0 | exact Fr.here | apply Sp.s2 | apply Sp.sx | apply Fr.fc | apply Fr.al | apply Fr.fa | apply Sp.sc | apply Sp.al | apply Sp.sa)) ?_ | skip
      refine DN.ret2 Try.results11 rfl rfl ?_
      first
        | exact .inr ⟨fun hG => by have := hG.1; omega, rfl, rfl⟩
        | exact .inr ⟨fun hG => (hG.2.2 gs[i] (List.getElem_mem hlt)).1 hg35, rfl, rfl⟩
        | exact .inr ⟨fun hG => by have := (hG.2.2 gs[i] (List.getElem_mem hlt)).2; omega, rfl, rfl⟩
        | exact .inr ⟨fun hG => (twice_no hlt h53) hG.2.1, rfl, rfl⟩
        | exact .inl ⟨⟨by omega, hnd, fun g hm => by obtain ⟨j, hj, rfl⟩ := List.getElem_of_mem hm; exact hgood j hj hj⟩, b15, row b15 [.map (some b1), .map (some b2)] 57 :: (C1 ++ C2), rfl, ⟨b1, b2, C1, C2, rfl, hK, h2⟩, by simp⟩

end Go.Proofs.Ytdbbkodjhmfjfaa
