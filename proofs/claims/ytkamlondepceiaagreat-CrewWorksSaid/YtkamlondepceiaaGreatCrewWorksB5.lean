/-
  Lemmas and walks that CrewWorks stands on (part 5); no condition.
-/
import Derived.Orders
import Derived.Tactics
import Derived.Scope
import Derived.Below
import Derived.WalkKit
import Derived.KernelRfl
import Derived.Laws.RangeString
import Derived.Laws.StructEq
import Derived.Lib.AppendZerosOnto
import Derived.Laws.CopyRow
import Derived.Lib.Overlaps
import Derived.Laws.IdiomStrings
import Derived.Deep.Quiet
import Derived.Lib.Bytealg
import Derived.Shelf.SlSortCmp.NoneTotal
import Derived.ProofKit
import Derived.OpenShut
import Derived.ShutString
import Derived.ChangeOld
import Derived.Test.YtkamlondepceiaaGreatRows
import Derived.Ground.SlsfProg
import Derived.Shelf.Small.Strs
import Derived.Test.YtkamlondepceiaaGreatCrewWorksB4

set_option linter.unusedVariables false
set_option linter.unusedSimpArgs false
set_option maxHeartbeats 4000000
namespace Go.Proofs.YtkamlondepceiaaGreat.St
open Go.SL
theorem new_tells (v : Value) (gs : List Gd) (hg : ∀ g ∈ gs, g.gone = 0) (H : List Ck) (hv : Rs v gs.length (gs.flatMap cellsG) H) (hl : gs.length ≤ 9223372036854775807) : Tells Tryz.prog 63 [v] H fun r H' => (GoodL gs ∧ ∃ p C, r = .tuple #[.pointer (some ⟨p, 0, none⟩), .int .i64 0] ∧ StAt 189 p gs [] C ∧ H' = C ++ H) ∨ (¬ GoodL gs ∧ r = .tuple #[.pointer none, .int .i64 2] ∧ H' = H) := by
 refine Tells.enter Tryz.func63 rfl Tryz.ntmps63 rfl ?_
 intro w0 R
 obtain ⟨vo, vc, rfl, hvc⟩ := hv.form
 refine sr_ ?_
 refine a_ rfl rfl ?_
 refine a_ rfl rfl ?_
 refine nt_ ?_
 refine WC.seq ?_
 refine sr_ ?_
 refine m_ rfl rfl ?_
 refine WL.y rfl (Yd.len (e := 73) kr_ rfl) ?_
 refine WL.y rfl (Yd.gtr rfl rfl) ?_
 refine nt_ ?_
 refine WC.ite rfl (fun h11 => ?_) (fun h11 => ?_)
 ·refine sr_ ?_
  refine a_ rfl rfl ?_
  refine a_ rfl rfl ?_
  refine nt_ ?_
  refine WC.ret ?_
  refine DN.then_ret ?_
  first | (have hlt2 : i < gs.length := hlt; refine DN.fit (C := H) sp_ ?_) | refine DN.fit (C := row b15 [.map (some b1), .map (some b2)] 189 :: (C1 ++ (C2 ++ H))) sp_ ?_ | skip
  refine DN.ret2 Tryz.results63 rfl rfl ?_
  first
    | exact .inr ⟨fun hG => by have := hG.1; omega, rfl, rfl⟩
    | exact .inr ⟨fun hG => (hG.2.2 gs[i] (List.getElem_mem hlt)).1 hg35, rfl, rfl⟩
    | exact .inr ⟨fun hG => by have := (hG.2.2 gs[i] (List.getElem_mem hlt)).2; omega, rfl, rfl⟩
    | exact .inr ⟨fun hG => (twice_no hlt h53) hG.2.1, rfl, rfl⟩
    | exact .inl ⟨⟨by omega, hnd, fun g hm => by obtain ⟨j, hj, rfl⟩ := List.getElem_of_mem hm; exact hgood j hj hj⟩, b15, row b15 [.map (some b1), .map (some b2)] 189 :: (C1 ++ C2), rfl, ⟨b1, b2, C1, C2, rfl, hK, h2⟩, by simp⟩
 ·refine WC.skip ?_
  refine ts_ ?_
  refine WC.region ?_
  refine WL.h rfl (Hd.makeMapG kStr fun b1 C1 h1 => ⟨_, rfl, ?_⟩)
  refine WL.h rfl (Hd.makeMapG kU32 fun b2 C2 h2 => ⟨_, rfl, ?_⟩)
  refine WL.y rfl (Yd.buildL (pl := [(0, 1), (1, 1)]) (zs := [.map none, .map none]) (parts := [(0, .tmp 12), (1, .tmp 13)]) (vs := [(0, _), (1, _)]) (cells := [_, _]) kr_ kr_ rfl rfl) ?_
  refine WL.h rfl (Hd.boxA rfl fun b15 => ⟨_, rfl, ?_⟩)
  refine a_ rfl rfl ?_
  refine nt_ ?_
  refine WC.seq ?_
  refine sr_ ?_
  refine m_ rfl rfl ?_
  refine WL.y rfl (Yd.len (e := 73) kr_ rfl) ?_
  refine m_ rfl rfl ?_
  refine nt_ ?_
  refine WC.block ?_
  refine WC.loopS (fun z : Nat × List Ck => z.1 ≤ gs.length ∧ (∀ (j : Nat) (h : j < gs.length), j < z.1 → goodB gs[j]) ∧ ((gs.take z.1).map Gd.name).Nodup ∧ MpG kStr b1 (kvs Gd.name encG (gs.take z.1)) z.2) (fun z : Nat × List Ck => [(18, .int .i64 (z.1 : Int))]) (fun z : Nat × List Ck => row b15 [.map (some b1), .map (some b2)] 189 :: (z.2 ++ (C2 ++ H))) (fun z : Nat × List Ck => gs.length - z.1) (⟨0, C1⟩) (show 0 ≤ gs.length ∧ (∀ (j : Nat) (h : j < gs.length), j < 0 → goodB gs[j]) ∧ ((gs.take 0).map Gd.name).Nodup ∧ MpG kStr b1 (kvs Gd.name encG (gs.take 0)) C1 from ⟨Nat.zero_le _, fun j h hj => by omega, by simp, by simpa [kvs] using h1⟩) (Sx.put rfl (sx_)) sp_ ?_
  rintro ⟨i, C1⟩ hI
  replace hI : i ≤ gs.length ∧ (∀ (j : Nat) (h : j < gs.length), j < i → goodB gs[j]) ∧ ((gs.take i).map Gd.name).Nodup ∧ MpG kStr b1 (kvs Gd.name encG (gs.take i)) C1 := hI
  obtain ⟨hi, hgood, hnd, hK⟩ := hI
  change WC _ _ _ _ _ _ ([(18, .int .i64 (i : Int))] ++ _) (row b15 [.map (some b1), .map (some b2)] 189 :: (C1 ++ (C2 ++ H)))
  refine sr_ ?_
  refine WL.y rfl (Yd.lss rfl rfl) ?_
  refine nt_ ?_
  refine WC.seq ?_
  refine WC.ite rfl (fun h19 => ?_) (fun h19 => ?_)
  ·have hlt : i < gs.length := by omega
   have hgn := hg gs[i] (List.getElem_mem hlt)
   have htk : gs.take (i + 1) = gs.take i ++ [gs[i]] := List.take_succ_eq_append_getElem hlt
   refine WC.skip ?_
   refine ts_ ?_
   refine WC.block ?_
   refine sr_ ?_
   refine WL.elemA (e := 73) (s := 2) kr_ kr_ kr_ rfl rfl (rfl) (hv.mono gr_) (flat_row cellsG 2 cellsG_len gs i hlt) (by rfl) (by omega) (hlt) rfl rfl ?_
   intro p20
   refine WL.h rfl (Hd.alloc (zs := [.string ⟨#[]⟩, .int .i64 0]) kr_ fun b6 => ⟨_, rfl, ?_⟩)
   refine WL.s (Hd.storeAll (n := 2) kr_ rfl rfl (by rfl) one_ fr_ (by rfl) ⟨rfl, ?_⟩)
   refine nt_ ?_
   refine WC.cutK (fun z : Nat => True) (fun z : Nat => [(8, .bool (findK Gd.name (gs.take i) gs[i].name).isSome)]) (fun z : Nat => row b6 (cellsG gs[i]) 73 :: (row b15 [.map (some b1), .map (some b2)] 189 :: (C1 ++ (C2 ++ H)))) ?_ ?_
   ·refine WC.draw 13 kr_ rfl ?_
    refine WA.y (i := 0) (NoPanic.then (NoPanic.block (NoPanic.then (NoPanic.then (NoPanic.block (NoPanic.then (NoPanic.body))))))) rfl kr_ kr_ kr_ rfl (Yd.move rfl) ?_
    refine WA.y (i := 1) (NoPanic.then (NoPanic.block (NoPanic.then (NoPanic.then (NoPanic.block (NoPanic.then (NoPanic.body))))))) rfl kr_ kr_ kr_ rfl (Yd.notNil rfl) ?_
    refine WA.y (i := 2) (NoPanic.then (NoPanic.block (NoPanic.then (NoPanic.then (NoPanic.block (NoPanic.then (NoPanic.body))))))) rfl kr_ kr_ kr_ rfl (Yd.fieldAddr (k := 0) kr_ rfl) ?_
    refine WA.y (i := 4) (NoPanic.then (NoPanic.block (NoPanic.then (NoPanic.then (NoPanic.block (NoPanic.then (NoPanic.body))))))) rfl kr_ kr_ kr_ rfl (Yd.fieldAddr (k := 0) kr_ rfl) ?_
    refine WA.three (i := 3) (j := 5) (k := 10) kr_ ?_ ?_ ?_
    ·refine WO.h rfl Wt.none rfl (Hd.load1 kr_ rfl mem_ (by rfl) ⟨_, rfl, ?_⟩)
     refine WA.two (i := 5) (j := 10) kr_ ?_ ?_
     ·refine WO.h rfl Wt.none rfl (Hd.load1 kr_ rfl mem_ (by rfl) ⟨_, rfl, ?_⟩)
      refine WA.two (i := 6) (j := 10) kr_ ?_ ?_
      ·refine WO.h rfl Wt.none rfl (Hd.lookupG (k0 := kStr) (KT := 9) (ET := 191) (TD := .string) (n := gs[i].name) (z := .agg #[.int .i64 0, .int .i64 0]) kr_ Tryz.underlying9 rfl kr_ rfl rfl hK sp_ (lkG2 (gs.take i) gs[i].name) ⟨_, rfl, ?_⟩)
       refine WA.y (i := 7) (NoPanic.then (NoPanic.block (NoPanic.then (NoPanic.then (NoPanic.block (NoPanic.then (NoPanic.body))))))) rfl kr_ kr_ kr_ rfl (Yd.move rfl) ?_
       refine WA.y (i := 8) (NoPanic.then (NoPanic.block (NoPanic.then (NoPanic.then (NoPanic.block (NoPanic.then (NoPanic.body))))))) rfl kr_ kr_ kr_ rfl (Yd.extract rfl rfl) ?_
       refine WA.y (i := 9) (NoPanic.then (NoPanic.block (NoPanic.then (NoPanic.then (NoPanic.block (NoPanic.then (NoPanic.body))))))) rfl kr_ kr_ kr_ rfl (Yd.extract rfl rfl) ?_
       refine WA.one (i := 10) kr_ ?_
       refine WO.h rfl Wt.none rfl (Hd.alloc (zs := [.int .i64 0, .int .i64 0]) kr_ fun b7 => ⟨_, rfl, ?_⟩)
       refine WA.one (i := 11) kr_ ?_
       refine WO.s rfl Wt.none (Hd.storeAll (n := 2) kr_ rfl rfl (by rfl) one_ fr_ (by rfl) ⟨rfl, ?_⟩)
       refine WA.y (i := 12) (NoPanic.then (NoPanic.block (NoPanic.then (NoPanic.then (NoPanic.block (NoPanic.then (NoPanic.body))))))) rfl kr_ kr_ kr_ rfl (Yd.assign rfl) ?_
       refine WA.done kr_ ?_
       refine DN.fit (C := row b6 (cellsG gs[i]) 73 :: (row b15 [.map (some b1), .map (some b2)] 189 :: (C1 ++ (C2 ++ H)))) sp_ ?_
       exact DN.reachK (0) (trivial) (Sx.put rfl (sx_)) (Sp.all sp_)
      ·refine WO.h rfl Wt.none rfl (Hd.alloc (zs := [.int .i64 0, .int .i64 0]) kr_ fun b7 => ⟨_, rfl, ?_⟩)
       refine WA.one (i := 6) kr_ ?_
       refine WO.h rfl Wt.none rfl (Hd.lookupG (k0 := kStr) (KT := 9) (ET := 191) (TD := .string) (n := gs[i].name) (z := .agg #[.int .i64 0, .int .i64 0]) kr_ Tryz.underlying9 rfl kr_ rfl rfl hK sp_ (lkG2 (gs.take i) gs[i].name) ⟨_, rfl, ?_⟩)
       refine WA.y (i := 7) (NoPanic.then (NoPanic.block (NoPanic.then (NoPanic.then (NoPanic.block (NoPanic.then (NoPanic.body))))))) rfl kr_ kr_ kr_ rfl (Yd.move rfl) ?_
       refine WA.y (i := 8) (NoPanic.then (NoPanic.block (NoPanic.then (NoPanic.then (NoPanic.block (NoPanic.then (NoPanic.body))))))) rfl kr_ kr_ kr_ rfl (Yd.extract rfl rfl) ?_
       refine WA.y (i := 9) (NoPanic.then (NoPanic.block (NoPanic.then (NoPanic.then (NoPanic.block (NoPanic.then (NoPanic.body))))))) rfl kr_ kr_ kr_ rfl (Yd.extract rfl rfl) ?_
       refine WA.one (i := 11) kr_ ?_
       refine WO.s rfl Wt.none (Hd.storeAll (n := 2) kr_ rfl rfl (by rfl) one_ fr_ (by rfl) ⟨rfl, ?_⟩)
       refine WA.y (i := 12) (NoPanic.then (NoPanic.block (NoPanic.then (NoPanic.then (NoPanic.block (NoPanic.then (NoPanic.body))))))) rfl kr_ kr_ kr_ rfl (Yd.assign rfl) ?_
       refine WA.done kr_ ?_
       refine DN.fit (C := row b6 (cellsG gs[i]) 73 :: (row b15 [.map (some b1), .map (some b2)] 189 :: (C1 ++ (C2 ++ H)))) sp_ ?_
       exact DN.reachK (0) (trivial) (Sx.put rfl (sx_)) (Sp.all sp_)
     ·refine WO.h rfl Wt.none rfl (Hd.alloc (zs := [.int .i64 0, .int .i64 0]) kr_ fun b7 => ⟨_, rfl, ?_⟩)
      refine WA.one (i := 5) kr_ ?_
      refine WO.h rfl Wt.none rfl (Hd.load1 kr_ rfl mem_ (by rfl) ⟨_, rfl, ?_⟩)
      refine WA.one (i := 6) kr_ ?_
      refine WO.h rfl Wt.none rfl (Hd.lookupG (k0 := kStr) (KT := 9) (ET := 191) (TD := .string) (n := gs[i].name) (z := .agg #[.int .i64 0, .int .i64 0]) kr_ Tryz.underlying9 rfl kr_ rfl rfl hK sp_ (lkG2 (gs.take i) gs[i].name) ⟨_, rfl, ?_⟩)
      refine WA.y (i := 7) (NoPanic.then (NoPanic.block (NoPanic.then (NoPanic.then (NoPanic.block (NoPanic.then (NoPanic.body))))))) rfl kr_ kr_ kr_ rfl (Yd.move rfl) ?_
      refine WA.y (i := 8) (NoPanic.then (NoPanic.block (NoPanic.then (NoPanic.then (NoPanic.block (NoPanic.then (NoPanic.body))))))) rfl kr_ kr_ kr_ rfl (Yd.extract rfl rfl) ?_
      refine WA.y (i := 9) (NoPanic.then (NoPanic.block (NoPanic.then (NoPanic.then (NoPanic.block (NoPanic.then (NoPanic.body))))))) rfl kr_ kr_ kr_ rfl (Yd.extract rfl rfl) ?_
      refine WA.one (i := 11) kr_ ?_
      refine WO.s rfl Wt.none (Hd.storeAll (n := 2) kr_ rfl rfl (by rfl) one_ fr_ (by rfl) ⟨rfl, ?_⟩)
      refine WA.y (i := 12) (NoPanic.then (NoPanic.block (NoPanic.then (NoPanic.then (NoPanic.block (NoPanic.then (NoPanic.body))))))) rfl kr_ kr_ kr_ rfl (Yd.assign rfl) ?_
      refine WA.done kr_ ?_
      refine DN.fit (C := row b6 (cellsG gs[i]) 73 :: (row b15 [.map (some b1), .map (some b2)] 189 :: (C1 ++ (C2 ++ H)))) sp_ ?_
      exact DN.reachK (0) (trivial) (Sx.put rfl (sx_)) (Sp.all sp_)
    ·refine WO.h rfl Wt.none rfl (Hd.load1 kr_ rfl mem_ (by rfl) ⟨_, rfl, ?_⟩)
     refine WA.two (i := 3) (j := 10) kr_ ?_ ?_
     ·refine WO.h rfl Wt.none rfl (Hd.load1 kr_ rfl mem_ (by rfl) ⟨_, rfl, ?_⟩)
      refine WA.two (i := 6) (j := 10) kr_ ?_ ?_
      ·refine WO.h rfl Wt.none rfl (Hd.lookupG (k0 := kStr) (KT := 9) (ET := 191) (TD := .string) (n := gs[i].name) (z := .agg #[.int .i64 0, .int .i64 0]) kr_ Tryz.underlying9 rfl kr_ rfl rfl hK sp_ (lkG2 (gs.take i) gs[i].name) ⟨_, rfl, ?_⟩)
       refine WA.y (i := 7) (NoPanic.then (NoPanic.block (NoPanic.then (NoPanic.then (NoPanic.block (NoPanic.then (NoPanic.body))))))) rfl kr_ kr_ kr_ rfl (Yd.move rfl) ?_
       refine WA.y (i := 8) (NoPanic.then (NoPanic.block (NoPanic.then (NoPanic.then (NoPanic.block (NoPanic.then (NoPanic.body))))))) rfl kr_ kr_ kr_ rfl (Yd.extract rfl rfl) ?_
       refine WA.y (i := 9) (NoPanic.then (NoPanic.block (NoPanic.then (NoPanic.then (NoPanic.block (NoPanic.then (NoPanic.body))))))) rfl kr_ kr_ kr_ rfl (Yd.extract rfl rfl) ?_
       refine WA.one (i := 10) kr_ ?_
       refine WO.h rfl Wt.none rfl (Hd.alloc (zs := [.int .i64 0, .int .i64 0]) kr_ fun b7 => ⟨_, rfl, ?_⟩)
       refine WA.one (i := 11) kr_ ?_
       refine WO.s rfl Wt.none (Hd.storeAll (n := 2) kr_ rfl rfl (by rfl) one_ fr_ (by rfl) ⟨rfl, ?_⟩)
       refine WA.y (i := 12) (NoPanic.then (NoPanic.block (NoPanic.then (NoPanic.then (NoPanic.block (NoPanic.then (NoPanic.body))))))) rfl kr_ kr_ kr_ rfl (Yd.assign rfl) ?_
       refine WA.done kr_ ?_
       refine DN.fit (C := row b6 (cellsG gs[i]) 73 :: (row b15 [.map (some b1), .map (some b2)] 189 :: (C1 ++ (C2 ++ H)))) sp_ ?_
       exact DN.reachK (0) (trivial) (Sx.put rfl (sx_)) (Sp.all sp_)
      ·refine WO.h rfl Wt.none rfl (Hd.alloc (zs := [.int .i64 0, .int .i64 0]) kr_ fun b7 => ⟨_, rfl, ?_⟩)
       refine WA.one (i := 6) kr_ ?_
       refine WO.h rfl Wt.none rfl (Hd.lookupG (k0 := kStr) (KT := 9) (ET := 191) (TD := .string) (n := gs[i].name) (z := .agg #[.int .i64 0, .int .i64 0]) kr_ Tryz.underlying9 rfl kr_ rfl rfl hK sp_ (lkG2 (gs.take i) gs[i].name) ⟨_, rfl, ?_⟩)
       refine WA.y (i := 7) (NoPanic.then (NoPanic.block (NoPanic.then (NoPanic.then (NoPanic.block (NoPanic.then (NoPanic.body))))))) rfl kr_ kr_ kr_ rfl (Yd.move rfl) ?_
       refine WA.y (i := 8) (NoPanic.then (NoPanic.block (NoPanic.then (NoPanic.then (NoPanic.block (NoPanic.then (NoPanic.body))))))) rfl kr_ kr_ kr_ rfl (Yd.extract rfl rfl) ?_
       refine WA.y (i := 9) (NoPanic.then (NoPanic.block (NoPanic.then (NoPanic.then (NoPanic.block (NoPanic.then (NoPanic.body))))))) rfl kr_ kr_ kr_ rfl (Yd.extract rfl rfl) ?_
       refine WA.one (i := 11) kr_ ?_
       refine WO.s rfl Wt.none (Hd.storeAll (n := 2) kr_ rfl rfl (by rfl) one_ fr_ (by rfl) ⟨rfl, ?_⟩)
       refine WA.y (i := 12) (NoPanic.then (NoPanic.block (NoPanic.then (NoPanic.then (NoPanic.block (NoPanic.then (NoPanic.body))))))) rfl kr_ kr_ kr_ rfl (Yd.assign rfl) ?_
       refine WA.done kr_ ?_
       refine DN.fit (C := row b6 (cellsG gs[i]) 73 :: (row b15 [.map (some b1), .map (some b2)] 189 :: (C1 ++ (C2 ++ H)))) sp_ ?_
       exact DN.reachK (0) (trivial) (Sx.put rfl (sx_)) (Sp.all sp_)
     ·refine WO.h rfl Wt.none rfl (Hd.alloc (zs := [.int .i64 0, .int .i64 0]) kr_ fun b7 => ⟨_, rfl, ?_⟩)
      refine WA.one (i := 3) kr_ ?_
      refine WO.h rfl Wt.none rfl (Hd.load1 kr_ rfl mem_ (by rfl) ⟨_, rfl, ?_⟩)
      refine WA.one (i := 6) kr_ ?_
      refine WO.h rfl Wt.none rfl (Hd.lookupG (k0 := kStr) (KT := 9) (ET := 191) (TD := .string) (n := gs[i].name) (z := .agg #[.int .i64 0, .int .i64 0]) kr_ Tryz.underlying9 rfl kr_ rfl rfl hK sp_ (lkG2 (gs.take i) gs[i].name) ⟨_, rfl, ?_⟩)
      refine WA.y (i := 7) (NoPanic.then (NoPanic.block (NoPanic.then (NoPanic.then (NoPanic.block (NoPanic.then (NoPanic.body))))))) rfl kr_ kr_ kr_ rfl (Yd.move rfl) ?_
      refine WA.y (i := 8) (NoPanic.then (NoPanic.block (NoPanic.then (NoPanic.then (NoPanic.block (NoPanic.then (NoPanic.body))))))) rfl kr_ kr_ kr_ rfl (Yd.extract rfl rfl) ?_
      refine WA.y (i := 9) (NoPanic.then (NoPanic.block (NoPanic.then (NoPanic.then (NoPanic.block (NoPanic.then (NoPanic.body))))))) rfl kr_ kr_ kr_ rfl (Yd.extract rfl rfl) ?_
      refine WA.one (i := 11) kr_ ?_
      refine WO.s rfl Wt.none (Hd.storeAll (n := 2) kr_ rfl rfl (by rfl) one_ fr_ (by rfl) ⟨rfl, ?_⟩)
      refine WA.y (i := 12) (NoPanic.then (NoPanic.block (NoPanic.then (NoPanic.then (NoPanic.block (NoPanic.then (NoPanic.body))))))) rfl kr_ kr_ kr_ rfl (Yd.assign rfl) ?_
      refine WA.done kr_ ?_
      refine DN.fit (C := row b6 (cellsG gs[i]) 73 :: (row b15 [.map (some b1), .map (some b2)] 189 :: (C1 ++ (C2 ++ H)))) sp_ ?_
      exact DN.reachK (0) (trivial) (Sx.put rfl (sx_)) (Sp.all sp_)
    ·refine WO.h rfl Wt.none rfl (Hd.alloc (zs := [.int .i64 0, .int .i64 0]) kr_ fun b7 => ⟨_, rfl, ?_⟩)
     refine WA.two (i := 3) (j := 5) kr_ ?_ ?_
     ·refine WO.h rfl Wt.none rfl (Hd.load1 kr_ rfl mem_ (by rfl) ⟨_, rfl, ?_⟩)
      refine WA.one (i := 5) kr_ ?_
      refine WO.h rfl Wt.none rfl (Hd.load1 kr_ rfl mem_ (by rfl) ⟨_, rfl, ?_⟩)
      refine WA.one (i := 6) kr_ ?_
      refine WO.h rfl Wt.none rfl (Hd.lookupG (k0 := kStr) (KT := 9) (ET := 191) (TD := .string) (n := gs[i].name) (z := .agg #[.int .i64 0, .int .i64 0]) kr_ Tryz.underlying9 rfl kr_ rfl rfl hK sp_ (lkG2 (gs.take i) gs[i].name) ⟨_, rfl, ?_⟩)
      refine WA.y (i := 7) (NoPanic.then (NoPanic.block (NoPanic.then (NoPanic.then (NoPanic.block (NoPanic.then (NoPanic.body))))))) rfl kr_ kr_ kr_ rfl (Yd.move rfl) ?_
      refine WA.y (i := 8) (NoPanic.then (NoPanic.block (NoPanic.then (NoPanic.then (NoPanic.block (NoPanic.then (NoPanic.body))))))) rfl kr_ kr_ kr_ rfl (Yd.extract rfl rfl) ?_
      refine WA.y (i := 9) (NoPanic.then (NoPanic.block (NoPanic.then (NoPanic.then (NoPanic.block (NoPanic.then (NoPanic.body))))))) rfl kr_ kr_ kr_ rfl (Yd.extract rfl rfl) ?_
      refine WA.one (i := 11) kr_ ?_
      refine WO.s rfl Wt.none (Hd.storeAll (n := 2) kr_ rfl rfl (by rfl) one_ fr_ (by rfl) ⟨rfl, ?_⟩)
      refine WA.y (i := 12) (NoPanic.then (NoPanic.block (NoPanic.then (NoPanic.then (NoPanic.block (NoPanic.then (NoPanic.body))))))) rfl kr_ kr_ kr_ rfl (Yd.assign rfl) ?_
      refine WA.done kr_ ?_
      refine DN.fit (C := row b6 (cellsG gs[i]) 73 :: (row b15 [.map (some b1), .map (some b2)] 189 :: (C1 ++ (C2 ++ H)))) sp_ ?_
      exact DN.reachK (0) (trivial) (Sx.put rfl (sx_)) (Sp.all sp_)
     ·refine WO.h rfl Wt.none rfl (Hd.load1 kr_ rfl mem_ (by rfl) ⟨_, rfl, ?_⟩)
      refine WA.one (i := 3) kr_ ?_
      refine WO.h rfl Wt.none rfl (Hd.load1 kr_ rfl mem_ (by rfl) ⟨_, rfl, ?_⟩)
      refine WA.one (i := 6) kr_ ?_
      refine WO.h rfl Wt.none rfl (Hd.lookupG (k0 := kStr) (KT := 9) (ET := 191) (TD := .string) (n := gs[i].name) (z := .agg #[.int .i64 0, .int .i64 0]) kr_ Tryz.underlying9 rfl kr_ rfl rfl hK sp_ (lkG2 (gs.take i) gs[i].name) ⟨_, rfl, ?_⟩)
      refine WA.y (i := 7) (NoPanic.then (NoPanic.block (NoPanic.then (NoPanic.then (NoPanic.block (NoPanic.then (NoPanic.body))))))) rfl kr_ kr_ kr_ rfl (Yd.move rfl) ?_
      refine WA.y (i := 8) (NoPanic.then (NoPanic.block (NoPanic.then (NoPanic.then (NoPanic.block (NoPanic.then (NoPanic.body))))))) rfl kr_ kr_ kr_ rfl (Yd.extract rfl rfl) ?_
      refine WA.y (i := 9) (NoPanic.then (NoPanic.block (NoPanic.then (NoPanic.then (NoPanic.block (NoPanic.then (NoPanic.body))))))) rfl kr_ kr_ kr_ rfl (Yd.extract rfl rfl) ?_
      refine WA.one (i := 11) kr_ ?_
      refine WO.s rfl Wt.none (Hd.storeAll (n := 2) kr_ rfl rfl (by rfl) one_ fr_ (by rfl) ⟨rfl, ?_⟩)
      refine WA.y (i := 12) (NoPanic.then (NoPanic.block (NoPanic.then (NoPanic.then (NoPanic.block (NoPanic.then (NoPanic.body))))))) rfl kr_ kr_ kr_ rfl (Yd.assign rfl) ?_
      refine WA.done kr_ ?_
      refine DN.fit (C := row b6 (cellsG gs[i]) 73 :: (row b15 [.map (some b1), .map (some b2)] 189 :: (C1 ++ (C2 ++ H)))) sp_ ?_
      exact DN.reachK (0) (trivial) (Sx.put rfl (sx_)) (Sp.all sp_)
   ·intro _ _
    refine WC.seq ?_
    refine sr_ ?_
    refine f_ 0 kr_ rfl rfl ?_
    refine d_ kr_ rfl mem_ (by rfl) rfl ?_
    refine WL.y rfl (Yd.eqlS rfl rfl) ?_
    refine m_ rfl rfl ?_
    refine WL.partP (t := 35) rfl (fun hg35 => ?_) (fun hg35 => ?_)
    ·iterate 4 refine gn_ 35 rfl rfl rfl rfl ?_
     refine WL.y rfl (Yd.pickT rfl rfl) ?_
     refine m_ rfl rfl ?_
     iterate 3 refine gn_ 41 rfl rfl rfl rfl ?_
     refine WL.y rfl (Yd.pickT rfl rfl) ?_
     refine m_ rfl rfl ?_
     iterate 3 refine gn_ 46 rfl rfl rfl rfl ?_
     refine WL.y rfl (Yd.pickT rfl rfl) ?_
     refine m_ rfl rfl ?_
     refine gn_ 51 rfl rfl rfl rfl ?_
     refine WL.y rfl (Yd.pickT rfl rfl) ?_
     refine nt_ ?_
     refine WC.yes rfl ?_
     refine sr_ ?_
     refine a_ rfl rfl ?_
     refine a_ rfl rfl ?_
     refine nt_ ?_
     refine WC.ret ?_
     refine DN.then_ret ?_
     refine DN.block_ret ?_
     refine DN.then_ret ?_
     refine DN.then_ret ?_
     refine DN.block_ret ?_
     refine DN.then_ret ?_
     first | (have hlt2 : i < gs.length := hlt; refine DN.fit (C := H) sp_ ?_) | refine DN.fit (C := row b15 [.map (some b1), .map (some b2)] 189 :: (C1 ++ (C2 ++ H))) sp_ ?_ | skip
     refine DN.ret2 Tryz.results63 rfl rfl ?_
     first
       | exact .inr ⟨fun hG => by have := hG.1; omega, rfl, rfl⟩
       | exact .inr ⟨fun hG => (hG.2.2 gs[i] (List.getElem_mem hlt)).1 hg35, rfl, rfl⟩
       | exact .inr ⟨fun hG => by have := (hG.2.2 gs[i] (List.getElem_mem hlt)).2; omega, rfl, rfl⟩
       | exact .inr ⟨fun hG => (twice_no hlt h53) hG.2.1, rfl, rfl⟩
       | exact .inl ⟨⟨by omega, hnd, fun g hm => by obtain ⟨j, hj, rfl⟩ := List.getElem_of_mem hm; exact hgood j hj hj⟩, b15, row b15 [.map (some b1), .map (some b2)] 189 :: (C1 ++ C2), rfl, ⟨b1, b2, C1, C2, rfl, hK, h2⟩, by simp⟩
    ·refine gy_ 35 rfl rfl rfl (Yd.fieldAddr (k := 0) kr_ rfl) ?_
     refine WL.gh (dj := 35) rfl rfl rfl (Hd.load1 kr_ rfl mem_ (by rfl) ⟨_, rfl, ?_⟩)
     refine gy_ 35 rfl rfl rfl (Yd.lenS Tryz.underlying9 rfl) ?_
     refine gy_ 35 rfl rfl rfl (Yd.gtr rfl rfl) ?_
     refine WL.y rfl (Yd.pickF rfl rfl) ?_
     refine m_ rfl rfl ?_
     refine WL.partP (t := 41) rfl (fun hg41 => ?_) (fun hg41 => ?_)
     ·iterate 3 refine gn_ 41 rfl rfl rfl rfl ?_
      refine WL.y rfl (Yd.pickT rfl rfl) ?_
      refine m_ rfl rfl ?_
      iterate 3 refine gn_ 46 rfl rfl rfl rfl ?_
      refine WL.y rfl (Yd.pickT rfl rfl) ?_
      refine m_ rfl rfl ?_
      refine gn_ 51 rfl rfl rfl rfl ?_
      refine WL.y rfl (Yd.pickT rfl rfl) ?_
      refine nt_ ?_
      refine WC.yes rfl ?_
      refine sr_ ?_
      refine a_ rfl rfl ?_
      refine a_ rfl rfl ?_
      refine nt_ ?_
      refine WC.ret ?_
      refine DN.then_ret ?_
      refine DN.block_ret ?_
      refine DN.then_ret ?_
      refine DN.then_ret ?_
      refine DN.block_ret ?_
      refine DN.then_ret ?_
      first | (have hlt2 : i < gs.length := hlt; refine DN.fit (C := H) sp_ ?_) | refine DN.fit (C := row b15 [.map (some b1), .map (some b2)] 189 :: (C1 ++ (C2 ++ H))) sp_ ?_ | skip
      refine DN.ret2 Tryz.results63 rfl rfl ?_
      first
        | exact .inr ⟨fun hG => by have := hG.1; omega, rfl, rfl⟩
        | exact .inr ⟨fun hG => (hG.2.2 gs[i] (List.getElem_mem hlt)).1 hg35, rfl, rfl⟩
        | exact .inr ⟨fun hG => by have := (hG.2.2 gs[i] (List.getElem_mem hlt)).2; omega, rfl, rfl⟩
        | exact .inr ⟨fun hG => (twice_no hlt h53) hG.2.1, rfl, rfl⟩
        | exact .inl ⟨⟨by omega, hnd, fun g hm => by obtain ⟨j, hj, rfl⟩ := List.getElem_of_mem hm; exact hgood j hj hj⟩, b15, row b15 [.map (some b1), .map (some b2)] 189 :: (C1 ++ C2), rfl, ⟨b1, b2, C1, C2, rfl, hK, h2⟩, by simp⟩
     ·refine gy_ 41 rfl rfl rfl (Yd.fieldAddr (k := 1) kr_ rfl) ?_
      refine WL.gh (dj := 41) rfl rfl rfl (Hd.load1 kr_ rfl mem_ (by rfl) ⟨_, rfl, ?_⟩)
      refine gy_ 41 rfl rfl rfl (Yd.lss rfl rfl) ?_
      refine WL.y rfl (Yd.pickF rfl rfl) ?_
      refine m_ rfl rfl ?_
      refine WL.partP (t := 46) rfl (fun hg46 => ?_) (fun hg46 => ?_)
      ·iterate 3 refine gn_ 46 rfl rfl rfl rfl ?_
       refine WL.y rfl (Yd.pickT rfl rfl) ?_
       refine m_ rfl rfl ?_
       refine gn_ 51 rfl rfl rfl rfl ?_
       refine WL.y rfl (Yd.pickT rfl rfl) ?_
       refine nt_ ?_
       refine WC.yes rfl ?_
       refine sr_ ?_
       refine a_ rfl rfl ?_
       refine a_ rfl rfl ?_
       refine nt_ ?_
       refine WC.ret ?_
       refine DN.then_ret ?_
       refine DN.block_ret ?_
       refine DN.then_ret ?_
       refine DN.then_ret ?_
       refine DN.block_ret ?_
       refine DN.then_ret ?_
       first | (have hlt2 : i < gs.length := hlt; refine DN.fit (C := H) sp_ ?_) | refine DN.fit (C := row b15 [.map (some b1), .map (some b2)] 189 :: (C1 ++ (C2 ++ H))) sp_ ?_ | skip
       refine DN.ret2 Tryz.results63 rfl rfl ?_
       first
         | exact .inr ⟨fun hG => by have := hG.1; omega, rfl, rfl⟩
         | exact .inr ⟨fun hG => (hG.2.2 gs[i] (List.getElem_mem hlt)).1 hg35, rfl, rfl⟩
         | exact .inr ⟨fun hG => by have := (hG.2.2 gs[i] (List.getElem_mem hlt)).2; omega, rfl, rfl⟩
         | exact .inr ⟨fun hG => (twice_no hlt h53) hG.2.1, rfl, rfl⟩
         | exact .inl ⟨⟨by omega, hnd, fun g hm => by obtain ⟨j, hj, rfl⟩ := List.getElem_of_mem hm; exact hgood j hj hj⟩, b15, row b15 [.map (some b1), .map (some b2)] 189 :: (C1 ++ C2), rfl, ⟨b1, b2, C1, C2, rfl, hK, h2⟩, by simp⟩
      ·refine gy_ 46 rfl rfl rfl (Yd.fieldAddr (k := 1) kr_ rfl) ?_
       refine WL.gh (dj := 46) rfl rfl rfl (Hd.load1 kr_ rfl mem_ (by rfl) ⟨_, rfl, ?_⟩)
       refine gy_ 46 rfl rfl rfl (Yd.gtr rfl rfl) ?_
       refine WL.y rfl (Yd.pickF rfl rfl) ?_
       refine m_ rfl rfl ?_
       refine WL.partP (t := 51) rfl (fun hg51 => ?_) (fun hg51 => ?_)
       ·refine gn_ 51 rfl rfl rfl rfl ?_
        refine WL.y rfl (Yd.pickT rfl rfl) ?_
        refine nt_ ?_
        refine WC.yes rfl ?_
        refine sr_ ?_
        refine a_ rfl rfl ?_
        refine a_ rfl rfl ?_
        refine nt_ ?_
        refine WC.ret ?_
        refine DN.then_ret ?_
        refine DN.block_ret ?_
        refine DN.then_ret ?_
        refine DN.then_ret ?_
        refine DN.block_ret ?_
        refine DN.then_ret ?_
        first | (have hlt2 : i < gs.length := hlt; refine DN.fit (C := H) sp_ ?_) | refine DN.fit (C := row b15 [.map (some b1), .map (some b2)] 189 :: (C1 ++ (C2 ++ H))) sp_ ?_ | skip
        refine DN.ret2 Tryz.results63 rfl rfl ?_
        first
          | exact .inr ⟨fun hG => by have := hG.1; omega, rfl, rfl⟩
          | exact .inr ⟨fun hG => (hG.2.2 gs[i] (List.getElem_mem hlt)).1 hg35, rfl, rfl⟩
          | exact .inr ⟨fun hG => by have := (hG.2.2 gs[i] (List.getElem_mem hlt)).2; omega, rfl, rfl⟩
          | exact .inr ⟨fun hG => (twice_no hlt h53) hG.2.1, rfl, rfl⟩
          | exact .inl ⟨⟨by omega, hnd, fun g hm => by obtain ⟨j, hj, rfl⟩ := List.getElem_of_mem hm; exact hgood j hj hj⟩, b15, row b15 [.map (some b1), .map (some b2)] 189 :: (C1 ++ C2), rfl, ⟨b1, b2, C1, C2, rfl, hK, h2⟩, by simp⟩
       ·refine gy_ 51 rfl rfl rfl (Yd.move rfl) ?_
        refine WL.y rfl (Yd.pickF rfl rfl) ?_
        refine nt_ ?_
        refine WC.cond rfl (fun h53 => ?_) (fun h53 => ?_)
        ·refine sr_ ?_
         refine a_ rfl rfl ?_
         refine a_ rfl rfl ?_
         refine nt_ ?_
         refine WC.ret ?_
         refine DN.then_ret ?_
         refine DN.block_ret ?_
         refine DN.then_ret ?_
         refine DN.then_ret ?_
         refine DN.block_ret ?_
         refine DN.then_ret ?_
         first | (have hlt2 : i < gs.length := hlt; refine DN.fit (C := H) sp_ ?_) | refine DN.fit (C := row b15 [.map (some b1), .map (some b2)] 189 :: (C1 ++ (C2 ++ H))) sp_ ?_ | skip
         refine DN.ret2 Tryz.results63 rfl rfl ?_
         first
           | exact .inr ⟨fun hG => by have := hG.1; omega, rfl, rfl⟩
           | exact .inr ⟨fun hG => (hG.2.2 gs[i] (List.getElem_mem hlt)).1 hg35, rfl, rfl⟩
           | exact .inr ⟨fun hG => by have := (hG.2.2 gs[i] (List.getElem_mem hlt)).2; omega, rfl, rfl⟩
           | exact .inr ⟨fun hG => (twice_no hlt h53) hG.2.1, rfl, rfl⟩
           | exact .inl ⟨⟨by omega, hnd, fun g hm => by obtain ⟨j, hj, rfl⟩ := List.getElem_of_mem hm; exact hgood j hj hj⟩, b15, row b15 [.map (some b1), .map (some b2)] 189 :: (C1 ++ C2), rfl, ⟨b1, b2, C1, C2, rfl, hK, h2⟩, by simp⟩
        ·have hgi : goodB gs[i] := ⟨hg35, by omega, by omega, by omega⟩
         have hnone : findK Gd.name (gs.take i) gs[i].name = none := by simpa using h53
         have hndi := once_more hnd hnone
         refine WC.skip ?_
         refine DN.then_normal ?_
         refine WC.draw 10 kr_ rfl ?_
         refine WA.y (i := 0) (NoPanic.block (NoPanic.then (NoPanic.then (NoPanic.block (NoPanic.then (NoPanic.body)))))) rfl kr_ kr_ kr_ rfl (Yd.move rfl) ?_
         refine WA.y (i := 1) (NoPanic.block (NoPanic.then (NoPanic.then (NoPanic.block (NoPanic.then (NoPanic.body)))))) rfl kr_ kr_ kr_ rfl (Yd.notNil rfl) ?_
         refine WA.y (i := 2) (NoPanic.block (NoPanic.then (NoPanic.then (NoPanic.block (NoPanic.then (NoPanic.body)))))) rfl kr_ kr_ kr_ rfl (Yd.fieldAddr (k := 0) kr_ rfl) ?_
         refine WA.y (i := 4) (NoPanic.block (NoPanic.then (NoPanic.then (NoPanic.block (NoPanic.then (NoPanic.body)))))) rfl kr_ kr_ kr_ rfl (Yd.fieldAddr (k := 0) kr_ rfl) ?_
         refine WA.y (i := 6) (NoPanic.block (NoPanic.then (NoPanic.then (NoPanic.block (NoPanic.then (NoPanic.body)))))) rfl kr_ kr_ kr_ rfl (Yd.fieldAddr (k := 1) kr_ rfl) ?_
         refine WA.three (i := 3) (j := 5) (k := 7) kr_ ?_ ?_ ?_
         ·refine WO.h rfl Wt.none rfl (Hd.load1 kr_ rfl mem_ (by rfl) ⟨_, rfl, ?_⟩)
          refine WA.two (i := 5) (j := 7) kr_ ?_ ?_
          ·refine WO.h rfl Wt.none rfl (Hd.load1 kr_ rfl mem_ (by rfl) ⟨_, rfl, ?_⟩)
           refine WA.one (i := 7) kr_ ?_
           refine WO.h rfl Wt.none rfl (Hd.load1 kr_ rfl mem_ (by rfl) ⟨_, rfl, ?_⟩)
           refine WA.y (i := 8) (NoPanic.block (NoPanic.then (NoPanic.then (NoPanic.block (NoPanic.then (NoPanic.body)))))) rfl kr_ kr_ kr_ rfl (Yd.buildL (pl := [(0, 1), (1, 1)]) (zs := [.int .i64 0, .int .i64 0]) (parts := [(0, .tmp 61)]) (vs := [(0, _)]) (cells := [_, .int .i64 0]) kr_ kr_ rfl rfl) ?_
           refine WA.one (i := 9) kr_ ?_
           refine WO.s rfl Wt.none (Hd.mapSet (k0 := kStr) (KT := 9) (ET := 191) (TD := .string) (n := gs[i].name) kr_ Tryz.underlying9 rfl rfl rfl rfl hK (by rw [kvs_keys]; exact hnd) sp_ fun C3 h3 => ⟨rfl, ?_⟩)
           refine WA.done kr_ ?_
           refine DN.block_normal ?_
           refine DN.then_normal ?_
           refine WC.region ?_
           refine WL.y rfl (Yd.add rfl rfl (by omega) (by omega)) ?_
           refine m_ rfl rfl ?_
           refine WL.nil ?_
           exact DN.againS (⟨i + 1, C3⟩) (show (i + 1) ≤ gs.length ∧ (∀ (j : Nat) (h : j < gs.length), j < (i + 1) → goodB gs[j]) ∧ ((gs.take (i + 1)).map Gd.name).Nodup ∧ MpG kStr b1 (kvs Gd.name encG (gs.take (i + 1))) C3 from ⟨by omega, fun j h hj => by
             rcases Nat.lt_or_ge j i with h5 | h5
             · exact hgood j h h5
             · obtain rfl : j = i := by omega
               exact hgi, by rw [htk]; exact hndi, by rw [htk]; exact put_more hgn hnone h3⟩) (show gs.length - (i + 1) < gs.length - i by omega) (Sx.put rfl (sx_)) sp_
          ·refine WO.h rfl Wt.none rfl (Hd.load1 kr_ rfl mem_ (by rfl) ⟨_, rfl, ?_⟩)
           refine WA.y (i := 8) (NoPanic.block (NoPanic.then (NoPanic.then (NoPanic.block (NoPanic.then (NoPanic.body)))))) rfl kr_ kr_ kr_ rfl (Yd.buildL (pl := [(0, 1), (1, 1)]) (zs := [.int .i64 0, .int .i64 0]) (parts := [(0, .tmp 61)]) (vs := [(0, _)]) (cells := [_, .int .i64 0]) kr_ kr_ rfl rfl) ?_
           refine WA.one (i := 5) kr_ ?_
           refine WO.h rfl Wt.none rfl (Hd.load1 kr_ rfl mem_ (by rfl) ⟨_, rfl, ?_⟩)
           refine WA.one (i := 9) kr_ ?_
           refine WO.s rfl Wt.none (Hd.mapSet (k0 := kStr) (KT := 9) (ET := 191) (TD := .string) (n := gs[i].name) kr_ Tryz.underlying9 rfl rfl rfl rfl hK (by rw [kvs_keys]; exact hnd) sp_ fun C3 h3 => ⟨rfl, ?_⟩)
           refine WA.done kr_ ?_
           refine DN.block_normal ?_
           refine DN.then_normal ?_
           refine WC.region ?_
           refine WL.y rfl (Yd.add rfl rfl (by omega) (by omega)) ?_
           refine m_ rfl rfl ?_
           refine WL.nil ?_
           exact DN.againS (⟨i + 1, C3⟩) (show (i + 1) ≤ gs.length ∧ (∀ (j : Nat) (h : j < gs.length), j < (i + 1) → goodB gs[j]) ∧ ((gs.take (i + 1)).map Gd.name).Nodup ∧ MpG kStr b1 (kvs Gd.name encG (gs.take (i + 1))) C3 from ⟨by omega, fun j h hj => by
             rcases Nat.lt_or_ge j i with h5 | h5
             · exact hgood j h h5
             · obtain rfl : j = i := by omega
               exact hgi, by rw [htk]; exact hndi, by rw [htk]; exact put_more hgn hnone h3⟩) (show gs.length - (i + 1) < gs.length - i by omega) (Sx.put rfl (sx_)) sp_
         ·refine WO.h rfl Wt.none rfl (Hd.load1 kr_ rfl mem_ (by rfl) ⟨_, rfl, ?_⟩)
          refine WA.two (i := 3) (j := 7) kr_ ?_ ?_
          ·refine WO.h rfl Wt.none rfl (Hd.load1 kr_ rfl mem_ (by rfl) ⟨_, rfl, ?_⟩)
           refine WA.one (i := 7) kr_ ?_
           refine WO.h rfl Wt.none rfl (Hd.load1 kr_ rfl mem_ (by rfl) ⟨_, rfl, ?_⟩)
           refine WA.y (i := 8) (NoPanic.block (NoPanic.then (NoPanic.then (NoPanic.block (NoPanic.then (NoPanic.body)))))) rfl kr_ kr_ kr_ rfl (Yd.buildL (pl := [(0, 1), (1, 1)]) (zs := [.int .i64 0, .int .i64 0]) (parts := [(0, .tmp 61)]) (vs := [(0, _)]) (cells := [_, .int .i64 0]) kr_ kr_ rfl rfl) ?_
           refine WA.one (i := 9) kr_ ?_
           refine WO.s rfl Wt.none (Hd.mapSet (k0 := kStr) (KT := 9) (ET := 191) (TD := .string) (n := gs[i].name) kr_ Tryz.underlying9 rfl rfl rfl rfl hK (by rw [kvs_keys]; exact hnd) sp_ fun C3 h3 => ⟨rfl, ?_⟩)
           refine WA.done kr_ ?_
           refine DN.block_normal ?_
           refine DN.then_normal ?_
           refine WC.region ?_
           refine WL.y rfl (Yd.add rfl rfl (by omega) (by omega)) ?_
           refine m_ rfl rfl ?_
           refine WL.nil ?_
           exact DN.againS (⟨i + 1, C3⟩) (show (i + 1) ≤ gs.length ∧ (∀ (j : Nat) (h : j < gs.length), j < (i + 1) → goodB gs[j]) ∧ ((gs.take (i + 1)).map Gd.name).Nodup ∧ MpG kStr b1 (kvs Gd.name encG (gs.take (i + 1))) C3 from ⟨by omega, fun j h hj => by
             rcases Nat.lt_or_ge j i with h5 | h5
             · exact hgood j h h5
             · obtain rfl : j = i := by omega
               exact hgi, by rw [htk]; exact hndi, by rw [htk]; exact put_more hgn hnone h3⟩) (show gs.length - (i + 1) < gs.length - i by omega) (Sx.put rfl (sx_)) sp_
          ·refine WO.h rfl Wt.none rfl (Hd.load1 kr_ rfl mem_ (by rfl) ⟨_, rfl, ?_⟩)
           refine WA.y (i := 8) (NoPanic.block (NoPanic.then (NoPanic.then (NoPanic.block (NoPanic.then (NoPanic.body)))))) rfl kr_ kr_ kr_ rfl (Yd.buildL (pl := [(0, 1), (1, 1)]) (zs := [.int .i64 0, .int .i64 0]) (parts := [(0, .tmp 61)]) (vs := [(0, _)]) (cells := [_, .int .i64 0]) kr_ kr_ rfl rfl) ?_
           refine WA.one (i := 3) kr_ ?_
           refine WO.h rfl Wt.none rfl (Hd.load1 kr_ rfl mem_ (by rfl) ⟨_, rfl, ?_⟩)
           refine WA.one (i := 9) kr_ ?_
           refine WO.s rfl Wt.none (Hd.mapSet (k0 := kStr) (KT := 9) (ET := 191) (TD := .string) (n := gs[i].name) kr_ Tryz.underlying9 rfl rfl rfl rfl hK (by rw [kvs_keys]; exact hnd) sp_ fun C3 h3 => ⟨rfl, ?_⟩)
           refine WA.done kr_ ?_
           refine DN.block_normal ?_
           refine DN.then_normal ?_
           refine WC.region ?_
           refine WL.y rfl (Yd.add rfl rfl (by omega) (by omega)) ?_
           refine m_ rfl rfl ?_
           refine WL.nil ?_
           exact DN.againS (⟨i + 1, C3⟩) (show (i + 1) ≤ gs.length ∧ (∀ (j : Nat) (h : j < gs.length), j < (i + 1) → goodB gs[j]) ∧ ((gs.take (i + 1)).map Gd.name).Nodup ∧ MpG kStr b1 (kvs Gd.name encG (gs.take (i + 1))) C3 from ⟨by omega, fun j h hj => by
             rcases Nat.lt_or_ge j i with h5 | h5
             · exact hgood j h h5
             · obtain rfl : j = i := by omega
               exact hgi, by rw [htk]; exact hndi, by rw [htk]; exact put_more hgn hnone h3⟩) (show gs.length - (i + 1) < gs.length - i by omega) (Sx.put rfl (sx_)) sp_
         ·refine WO.h rfl Wt.none rfl (Hd.load1 kr_ rfl mem_ (by rfl) ⟨_, rfl, ?_⟩)
          refine WA.y (i := 8) (NoPanic.block (NoPanic.then (NoPanic.then (NoPanic.block (NoPanic.then (NoPanic.body)))))) rfl kr_ kr_ kr_ rfl (Yd.buildL (pl := [(0, 1), (1, 1)]) (zs := [.int .i64 0, .int .i64 0]) (parts := [(0, .tmp 61)]) (vs := [(0, _)]) (cells := [_, .int .i64 0]) kr_ kr_ rfl rfl) ?_
          refine WA.two (i := 3) (j := 5) kr_ ?_ ?_
          ·refine WO.h rfl Wt.none rfl (Hd.load1 kr_ rfl mem_ (by rfl) ⟨_, rfl, ?_⟩)
           refine WA.one (i := 5) kr_ ?_
           refine WO.h rfl Wt.none rfl (Hd.load1 kr_ rfl mem_ (by rfl) ⟨_, rfl, ?_⟩)
           refine WA.one (i := 9) kr_ ?_
           refine WO.s rfl Wt.none (Hd.mapSet (k0 := kStr) (KT := 9) (ET := 191) (TD := .string) (n := gs[i].name) kr_ Tryz.underlying9 rfl rfl rfl rfl hK (by rw [kvs_keys]; exact hnd) sp_ fun C3 h3 => ⟨rfl, ?_⟩)
           refine WA.done kr_ ?_
           refine DN.block_normal ?_
           refine DN.then_normal ?_
           refine WC.region ?_
           refine WL.y rfl (Yd.add rfl rfl (by omega) (by omega)) ?_
           refine m_ rfl rfl ?_
           refine WL.nil ?_
           exact DN.againS (⟨i + 1, C3⟩) (show (i + 1) ≤ gs.length ∧ (∀ (j : Nat) (h : j < gs.length), j < (i + 1) → goodB gs[j]) ∧ ((gs.take (i + 1)).map Gd.name).Nodup ∧ MpG kStr b1 (kvs Gd.name encG (gs.take (i + 1))) C3 from ⟨by omega, fun j h hj => by
             rcases Nat.lt_or_ge j i with h5 | h5
             · exact hgood j h h5
             · obtain rfl : j = i := by omega
               exact hgi, by rw [htk]; exact hndi, by rw [htk]; exact put_more hgn hnone h3⟩) (show gs.length - (i + 1) < gs.length - i by omega) (Sx.put rfl (sx_)) sp_
          ·refine WO.h rfl Wt.none rfl (Hd.load1 kr_ rfl mem_ (by rfl) ⟨_, rfl, ?_⟩)
           refine WA.one (i := 3) kr_ ?_
           refine WO.h rfl Wt.none rfl (Hd.load1 kr_ rfl mem_ (by rfl) ⟨_, rfl, ?_⟩)
           refine WA.one (i := 9) kr_ ?_
           refine WO.s rfl Wt.none (Hd.mapSet (k0 := kStr) (KT := 9) (ET := 191) (TD := .string) (n := gs[i].name) kr_ Tryz.underlying9 rfl rfl rfl rfl hK (by rw [kvs_keys]; exact hnd) sp_ fun C3 h3 => ⟨rfl, ?_⟩)
           refine WA.done kr_ ?_
           refine DN.block_normal ?_
           refine DN.then_normal ?_
           refine WC.region ?_
           refine WL.y rfl (Yd.add rfl rfl (by omega) (by omega)) ?_
           refine m_ rfl rfl ?_
           refine WL.nil ?_
           exact DN.againS (⟨i + 1, C3⟩) (show (i + 1) ≤ gs.length ∧ (∀ (j : Nat) (h : j < gs.length), j < (i + 1) → goodB gs[j]) ∧ ((gs.take (i + 1)).map Gd.name).Nodup ∧ MpG kStr b1 (kvs Gd.name encG (gs.take (i + 1))) C3 from ⟨by omega, fun j h hj => by
             rcases Nat.lt_or_ge j i with h5 | h5
             · exact hgood j h h5
             · obtain rfl : j = i := by omega
               exact hgi, by rw [htk]; exact hndi, by rw [htk]; exact put_more hgn hnone h3⟩) (show gs.length - (i + 1) < gs.length - i by omega) (Sx.put rfl (sx_)) sp_
  ·obtain rfl : i = gs.length := by omega
   rw [List.take_length] at hnd hK
   refine WC.exit ?_
   refine DN.then_exit ?_
   refine DN.then_exit ?_
   refine DN.block_exit ?_
   refine ts_ ?_
   refine WC.region ?_
   refine m_ rfl rfl ?_
   refine a_ rfl rfl ?_
   refine a_ rfl rfl ?_
   refine nt_ ?_
   refine WC.ret ?_
   first | (have hlt2 : i < gs.length := hlt; refine DN.fit (C := H) sp_ ?_) | refine DN.fit (C := row b15 [.map (some b1), .map (some b2)] 189 :: (C1 ++ (C2 ++ H))) sp_ ?_ | skip
   refine DN.ret2 Tryz.results63 rfl rfl ?_
   first
     | exact .inr ⟨fun hG => by have := hG.1; omega, rfl, rfl⟩
     | exact .inr ⟨fun hG => (hG.2.2 gs[i] (List.getElem_mem hlt)).1 hg35, rfl, rfl⟩
     | exact .inr ⟨fun hG => by have := (hG.2.2 gs[i] (List.getElem_mem hlt)).2; omega, rfl, rfl⟩
     | exact .inr ⟨fun hG => (twice_no hlt h53) hG.2.1, rfl, rfl⟩
     | exact .inl ⟨⟨by omega, hnd, fun g hm => by obtain ⟨j, hj, rfl⟩ := List.getElem_of_mem hm; exact hgood j hj hj⟩, b15, row b15 [.map (some b1), .map (some b2)] 189 :: (C1 ++ C2), rfl, ⟨b1, b2, C1, C2, rfl, hK, h2⟩, by simp⟩
end Go.Proofs.YtkamlondepceiaaGreat.St

set_option linter.unusedVariables false
set_option linter.unusedSimpArgs false
set_option maxHeartbeats 4000000
namespace Go.Proofs.YtkamlondepceiaaGreat.Pu
open Go.SL
theorem new_tells (v : Value) (gs : List Au) (H : List Ck) (hv : Rs v gs.length (gs.flatMap cellsU) H) (hl : gs.length ≤ 9223372036854775807) : Tells Tryz.prog 64 [v] H fun r H' => (AccL gs ∧ ∃ p C, r = .tuple #[.pointer (some ⟨p, 0, none⟩), .int .i64 0] ∧ PsAt 198 p gs [] C ∧ H' = C ++ H) ∨ (¬ AccL gs ∧ r = .tuple #[.pointer none, .int .i64 2] ∧ H' = H) := by
 refine Tells.enter Tryz.func64 rfl Tryz.ntmps64 rfl ?_
 intro w0 R
 obtain ⟨vo, vc, rfl, hvc⟩ := hv.form
 refine sr_ ?_
 refine a_ rfl rfl ?_
 refine a_ rfl rfl ?_
 refine nt_ ?_
 refine WC.seq ?_
 refine sr_ ?_
 refine m_ rfl rfl ?_
 refine WL.y rfl (Yd.len (e := 71) kr_ rfl) ?_
 refine WL.y rfl (Yd.gtr rfl rfl) ?_
 refine nt_ ?_
 refine WC.ite rfl (fun h11 => ?_) (fun h11 => ?_)
 ·refine sr_ ?_
  refine a_ rfl rfl ?_
  refine a_ rfl rfl ?_
  refine nt_ ?_
  refine WC.ret ?_
  refine DN.then_ret ?_
  first | (have hlt2 : i < gs.length := hlt; refine DN.fit (C := H) sp_ ?_) | refine DN.fit (C := row b15 [.map (some b1), .map (some b2)] 198 :: (C1 ++ (C2 ++ H))) sp_ ?_ | skip
  refine DN.ret2 Tryz.results64 rfl rfl ?_
  first
    | exact .inr ⟨fun hG => by have := hG.1; omega, rfl, rfl⟩
    | exact .inr ⟨fun hG => (hG.2.2 gs[i] (List.getElem_mem hlt)).1 hg35, rfl, rfl⟩
    | exact .inr ⟨fun hG => by have := (hG.2.2 gs[i] (List.getElem_mem hlt)).2; omega, rfl, rfl⟩
    | exact .inr ⟨fun hG => (twice_noU hlt h58) hG.2.1, rfl, rfl⟩
    | exact .inl ⟨⟨by omega, hnd, fun g hm => by obtain ⟨j, hj, rfl⟩ := List.getElem_of_mem hm; exact hgood j hj hj⟩, b15, row b15 [.map (some b1), .map (some b2)] 198 :: (C1 ++ C2), rfl, ⟨b1, b2, C1, C2, rfl, hK, h2⟩, by simp⟩
 ·refine WC.skip ?_
  refine ts_ ?_
  refine WC.region ?_
  refine WL.h rfl (Hd.makeMapG kStr fun b1 C1 h1 => ⟨_, rfl, ?_⟩)
  refine WL.h rfl (Hd.makeMapG kU32 fun b2 C2 h2 => ⟨_, rfl, ?_⟩)
  refine WL.y rfl (Yd.buildL (pl := [(0, 1), (1, 1)]) (zs := [.map none, .map none]) (parts := [(0, .tmp 12), (1, .tmp 13)]) (vs := [(0, _), (1, _)]) (cells := [_, _]) kr_ kr_ rfl rfl) ?_
  refine WL.h rfl (Hd.boxA rfl fun b15 => ⟨_, rfl, ?_⟩)
  refine a_ rfl rfl ?_
  refine nt_ ?_
  refine WC.seq ?_
  refine sr_ ?_
  refine m_ rfl rfl ?_
  refine WL.y rfl (Yd.len (e := 71) kr_ rfl) ?_
  refine m_ rfl rfl ?_
  refine nt_ ?_
  refine WC.block ?_
  refine WC.loopS (fun z : Nat × List Ck => z.1 ≤ gs.length ∧ (∀ (j : Nat) (h : j < gs.length), j < z.1 → accB gs[j]) ∧ ((gs.take z.1).map Au.name).Nodup ∧ MpG kStr b1 (kvs Au.name encU (gs.take z.1)) z.2) (fun z : Nat × List Ck => [(18, .int .i64 (z.1 : Int))]) (fun z : Nat × List Ck => row b15 [.map (some b1), .map (some b2)] 198 :: (z.2 ++ (C2 ++ H))) (fun z : Nat × List Ck => gs.length - z.1) (⟨0, C1⟩) (show 0 ≤ gs.length ∧ (∀ (j : Nat) (h : j < gs.length), j < 0 → accB gs[j]) ∧ ((gs.take 0).map Au.name).Nodup ∧ MpG kStr b1 (kvs Au.name encU (gs.take 0)) C1 from ⟨Nat.zero_le _, fun j h hj => by omega, by simp, by simpa [kvs] using h1⟩) (Sx.put rfl (sx_)) sp_ ?_
  rintro ⟨i, C1⟩ hI
  replace hI : i ≤ gs.length ∧ (∀ (j : Nat) (h : j < gs.length), j < i → accB gs[j]) ∧ ((gs.take i).map Au.name).Nodup ∧ MpG kStr b1 (kvs Au.name encU (gs.take i)) C1 := hI
  obtain ⟨hi, hgood, hnd, hK⟩ := hI
  change WC _ _ _ _ _ _ ([(18, .int .i64 (i : Int))] ++ _) (row b15 [.map (some b1), .map (some b2)] 198 :: (C1 ++ (C2 ++ H)))
  refine sr_ ?_
  refine WL.y rfl (Yd.lss rfl rfl) ?_
  refine nt_ ?_
  refine WC.seq ?_
  refine WC.ite rfl (fun h19 => ?_) (fun h19 => ?_)
  ·have hlt : i < gs.length := by omega
   have htk : gs.take (i + 1) = gs.take i ++ [gs[i]] := List.take_succ_eq_append_getElem hlt
   refine WC.skip ?_
   refine ts_ ?_
   refine WC.block ?_
   refine sr_ ?_
   refine WL.elemA (e := 71) (s := 3) kr_ kr_ kr_ rfl rfl (rfl) (hv.mono gr_) (flat_row cellsU 3 cellsU_len gs i hlt) (by rfl) (by omega) (hlt) rfl rfl ?_
   intro p20
   refine WL.h rfl (Hd.alloc (zs := [.string ⟨#[]⟩, .int .i64 0, .int .i64 0]) kr_ fun b6 => ⟨_, rfl, ?_⟩)
   refine WL.s (Hd.storeAll (n := 3) kr_ rfl rfl (by rfl) one_ fr_ (by rfl) ⟨rfl, ?_⟩)
   refine nt_ ?_
   refine WC.cutK (fun z : Nat => True) (fun z : Nat => [(8, .bool (findK Au.name (gs.take i) gs[i].name).isSome)]) (fun z : Nat => row b6 (cellsU gs[i]) 71 :: (row b15 [.map (some b1), .map (some b2)] 198 :: (C1 ++ (C2 ++ H)))) ?_ ?_
   ·refine WC.draw 13 kr_ rfl ?_
    refine WA.y (i := 0) (NoPanic.then (NoPanic.block (NoPanic.then (NoPanic.then (NoPanic.block (NoPanic.then (NoPanic.body))))))) rfl kr_ kr_ kr_ rfl (Yd.move rfl) ?_
    refine WA.y (i := 1) (NoPanic.then (NoPanic.block (NoPanic.then (NoPanic.then (NoPanic.block (NoPanic.then (NoPanic.body))))))) rfl kr_ kr_ kr_ rfl (Yd.notNil rfl) ?_
    refine WA.y (i := 2) (NoPanic.then (NoPanic.block (NoPanic.then (NoPanic.then (NoPanic.block (NoPanic.then (NoPanic.body))))))) rfl kr_ kr_ kr_ rfl (Yd.fieldAddr (k := 0) kr_ rfl) ?_
    refine WA.y (i := 4) (NoPanic.then (NoPanic.block (NoPanic.then (NoPanic.then (NoPanic.block (NoPanic.then (NoPanic.body))))))) rfl kr_ kr_ kr_ rfl (Yd.fieldAddr (k := 0) kr_ rfl) ?_
    refine WA.reads [(3, 26, _), (5, 28, _)] [3, 5] [([], 10), ([3], 10), ([5], 10)] 7 rfl rfl (List.forall_mem_cons.2 ⟨ReadAt.mk rfl Wt.none rfl (Rd.load1 kr_ rfl mem_ (by rfl)), List.forall_mem_cons.2 ⟨ReadAt.mk rfl Wt.none rfl (Rd.load1 kr_ rfl mem_ (by rfl)), fun _ h => absurd h List.not_mem_nil⟩⟩) (by decide) (by simp) (List.forall_mem_cons.2 ⟨rfl, List.forall_mem_cons.2 ⟨rfl, fun _ h => absurd h List.not_mem_nil⟩⟩) kr_ (List.forall_mem_cons.2 ⟨?_, List.forall_mem_cons.2 ⟨?_, List.forall_mem_cons.2 ⟨?_, fun _ h => absurd h List.not_mem_nil⟩⟩⟩) ?_
    ·change WO _ _ _ _ _ _ 8 _ 10 ([] ++ _) _
     refine WO.h rfl Wt.none rfl (Hd.alloc (zs := [.string ⟨#[]⟩, .int .i64 0, .int .i64 0]) kr_ fun b7 => ⟨_, rfl, ?_⟩)
     refine WA.reads [(3, 26, _), (5, 28, _)] [3, 5] [] 6 rfl rfl (List.forall_mem_cons.2 ⟨ReadAt.mk rfl Wt.none rfl (Rd.load1 kr_ rfl mem_ (by rfl)), List.forall_mem_cons.2 ⟨ReadAt.mk rfl Wt.none rfl (Rd.load1 kr_ rfl mem_ (by rfl)), fun _ h => absurd h List.not_mem_nil⟩⟩) (by decide) (by simp) (List.forall_mem_cons.2 ⟨rfl, List.forall_mem_cons.2 ⟨rfl, fun _ h => absurd h List.not_mem_nil⟩⟩) kr_ (fun _ h => absurd h List.not_mem_nil) ?_
     ·change WA _ _ _ _ _ _ 6 _ ([(26, _), (28, _)] ++ _) _
      refine WA.one (i := 6) kr_ ?_
      refine WO.h rfl Wt.none rfl (Hd.lookupG (k0 := kStr) (KT := 9) (ET := 71) (TD := .string) (n := gs[i].name) (z := .agg #[.string ⟨#[]⟩, .int .i64 0, .int .i64 0]) kr_ Tryz.underlying9 rfl kr_ rfl rfl hK sp_ (lkU2 (gs.take i) gs[i].name) ⟨_, rfl, ?_⟩)
      refine WA.y (i := 7) (NoPanic.then (NoPanic.block (NoPanic.then (NoPanic.then (NoPanic.block (NoPanic.then (NoPanic.body))))))) rfl kr_ kr_ kr_ rfl (Yd.move rfl) ?_
      refine WA.y (i := 8) (NoPanic.then (NoPanic.block (NoPanic.then (NoPanic.then (NoPanic.block (NoPanic.then (NoPanic.body))))))) rfl kr_ kr_ kr_ rfl (Yd.extract rfl rfl) ?_
      refine WA.y (i := 9) (NoPanic.then (NoPanic.block (NoPanic.then (NoPanic.then (NoPanic.block (NoPanic.then (NoPanic.body))))))) rfl kr_ kr_ kr_ rfl (Yd.extract rfl rfl) ?_
      refine WA.one (i := 11) kr_ ?_
      refine WO.s rfl Wt.none (Hd.storeAll (n := 3) kr_ rfl rfl (by rfl) one_ fr_ (by rfl) ⟨rfl, ?_⟩)
      refine WA.y (i := 12) (NoPanic.then (NoPanic.block (NoPanic.then (NoPanic.then (NoPanic.block (NoPanic.then (NoPanic.body))))))) rfl kr_ kr_ kr_ rfl (Yd.assign rfl) ?_
      refine WA.done kr_ ?_
      refine DN.fit (C := row b6 (cellsU gs[i]) 71 :: (row b15 [.map (some b1), .map (some b2)] 198 :: (C1 ++ (C2 ++ H)))) sp_ ?_
      exact DN.reachK (0) (trivial) (Sx.put rfl (sx_)) (Sp.all sp_)
    ·change WO _ _ _ _ _ _ 7 _ 10 ([(26, _)] ++ _) _
     refine WO.h rfl Wt.none rfl (Hd.alloc (zs := [.string ⟨#[]⟩, .int .i64 0, .int .i64 0]) kr_ fun b7 => ⟨_, rfl, ?_⟩)
     refine WA.one (i := 5) kr_ ?_
     refine WO.h rfl Wt.none rfl (Hd.load1 kr_ rfl mem_ (by rfl) ⟨_, rfl, ?_⟩)
     refine WA.one (i := 6) kr_ ?_
     refine WO.h rfl Wt.none rfl (Hd.lookupG (k0 := kStr) (KT := 9) (ET := 71) (TD := .string) (n := gs[i].name) (z := .agg #[.string ⟨#[]⟩, .int .i64 0, .int .i64 0]) kr_ Tryz.underlying9 rfl kr_ rfl rfl hK sp_ (lkU2 (gs.take i) gs[i].name) ⟨_, rfl, ?_⟩)
     refine WA.y (i := 7) (NoPanic.then (NoPanic.block (NoPanic.then (NoPanic.then (NoPanic.block (NoPanic.then (NoPanic.body))))))) rfl kr_ kr_ kr_ rfl (Yd.move rfl) ?_
     refine WA.y (i := 8) (NoPanic.then (NoPanic.block (NoPanic.then (NoPanic.then (NoPanic.block (NoPanic.then (NoPanic.body))))))) rfl kr_ kr_ kr_ rfl (Yd.extract rfl rfl) ?_
     refine WA.y (i := 9) (NoPanic.then (NoPanic.block (NoPanic.then (NoPanic.then (NoPanic.block (NoPanic.then (NoPanic.body))))))) rfl kr_ kr_ kr_ rfl (Yd.extract rfl rfl) ?_
     refine WA.one (i := 11) kr_ ?_
     refine WO.s rfl Wt.none (Hd.storeAll (n := 3) kr_ rfl rfl (by rfl) one_ fr_ (by rfl) ⟨rfl, ?_⟩)
     refine WA.y (i := 12) (NoPanic.then (NoPanic.block (NoPanic.then (NoPanic.then (NoPanic.block (NoPanic.then (NoPanic.body))))))) rfl kr_ kr_ kr_ rfl (Yd.assign rfl) ?_
     refine WA.done kr_ ?_
     refine DN.fit (C := row b6 (cellsU gs[i]) 71 :: (row b15 [.map (some b1), .map (some b2)] 198 :: (C1 ++ (C2 ++ H)))) sp_ ?_
     exact DN.reachK (0) (trivial) (Sx.put rfl (sx_)) (Sp.all sp_)
    ·change WO _ _ _ _ _ _ 7 _ 10 ([(28, _)] ++ _) _
     refine WO.h rfl Wt.none rfl (Hd.alloc (zs := [.string ⟨#[]⟩, .int .i64 0, .int .i64 0]) kr_ fun b7 => ⟨_, rfl, ?_⟩)
     refine WA.one (i := 3) kr_ ?_
     refine WO.h rfl Wt.none rfl (Hd.load1 kr_ rfl mem_ (by rfl) ⟨_, rfl, ?_⟩)
     refine WA.one (i := 6) kr_ ?_
     refine WO.h rfl Wt.none rfl (Hd.lookupG (k0 := kStr) (KT := 9) (ET := 71) (TD := .string) (n := gs[i].name) (z := .agg #[.string ⟨#[]⟩, .int .i64 0, .int .i64 0]) kr_ Tryz.underlying9 rfl kr_ rfl rfl hK sp_ (lkU2 (gs.take i) gs[i].name) ⟨_, rfl, ?_⟩)
     refine WA.y (i := 7) (NoPanic.then (NoPanic.block (NoPanic.then (NoPanic.then (NoPanic.block (NoPanic.then (NoPanic.body))))))) rfl kr_ kr_ kr_ rfl (Yd.move rfl) ?_
     refine WA.y (i := 8) (NoPanic.then (NoPanic.block (NoPanic.then (NoPanic.then (NoPanic.block (NoPanic.then (NoPanic.body))))))) rfl kr_ kr_ kr_ rfl (Yd.extract rfl rfl) ?_
     refine WA.y (i := 9) (NoPanic.then (NoPanic.block (NoPanic.then (NoPanic.then (NoPanic.block (NoPanic.then (NoPanic.body))))))) rfl kr_ kr_ kr_ rfl (Yd.extract rfl rfl) ?_
     refine WA.one (i := 11) kr_ ?_
     refine WO.s rfl Wt.none (Hd.storeAll (n := 3) kr_ rfl rfl (by rfl) one_ fr_ (by rfl) ⟨rfl, ?_⟩)
     refine WA.y (i := 12) (NoPanic.then (NoPanic.block (NoPanic.then (NoPanic.then (NoPanic.block (NoPanic.then (NoPanic.body))))))) rfl kr_ kr_ kr_ rfl (Yd.assign rfl) ?_
     refine WA.done kr_ ?_
     refine DN.fit (C := row b6 (cellsU gs[i]) 71 :: (row b15 [.map (some b1), .map (some b2)] 198 :: (C1 ++ (C2 ++ H)))) sp_ ?_
     exact DN.reachK (0) (trivial) (Sx.put rfl (sx_)) (Sp.all sp_)
    ·change WA _ _ _ _ _ _ 7 _ ([(26, _), (28, _)] ++ _) _
     refine WA.two (i := 6) (j := 10) kr_ ?_ ?_
     ·refine WO.h rfl Wt.none rfl (Hd.lookupG (k0 := kStr) (KT := 9) (ET := 71) (TD := .string) (n := gs[i].name) (z := .agg #[.string ⟨#[]⟩, .int .i64 0, .int .i64 0]) kr_ Tryz.underlying9 rfl kr_ rfl rfl hK sp_ (lkU2 (gs.take i) gs[i].name) ⟨_, rfl, ?_⟩)
      refine WA.y (i := 7) (NoPanic.then (NoPanic.block (NoPanic.then (NoPanic.then (NoPanic.block (NoPanic.then (NoPanic.body))))))) rfl kr_ kr_ kr_ rfl (Yd.move rfl) ?_
      refine WA.y (i := 8) (NoPanic.then (NoPanic.block (NoPanic.then (NoPanic.then (NoPanic.block (NoPanic.then (NoPanic.body))))))) rfl kr_ kr_ kr_ rfl (Yd.extract rfl rfl) ?_
      refine WA.y (i := 9) (NoPanic.then (NoPanic.block (NoPanic.then (NoPanic.then (NoPanic.block (NoPanic.then (NoPanic.body))))))) rfl kr_ kr_ kr_ rfl (Yd.extract rfl rfl) ?_
      refine WA.one (i := 10) kr_ ?_
      refine WO.h rfl Wt.none rfl (Hd.alloc (zs := [.string ⟨#[]⟩, .int .i64 0, .int .i64 0]) kr_ fun b7 => ⟨_, rfl, ?_⟩)
      refine WA.one (i := 11) kr_ ?_
      refine WO.s rfl Wt.none (Hd.storeAll (n := 3) kr_ rfl rfl (by rfl) one_ fr_ (by rfl) ⟨rfl, ?_⟩)
      refine WA.y (i := 12) (NoPanic.then (NoPanic.block (NoPanic.then (NoPanic.then (NoPanic.block (NoPanic.then (NoPanic.body))))))) rfl kr_ kr_ kr_ rfl (Yd.assign rfl) ?_
      refine WA.done kr_ ?_
      refine DN.fit (C := row b6 (cellsU gs[i]) 71 :: (row b15 [.map (some b1), .map (some b2)] 198 :: (C1 ++ (C2 ++ H)))) sp_ ?_
      exact DN.reachK (0) (trivial) (Sx.put rfl (sx_)) (Sp.all sp_)
     ·refine WO.h rfl Wt.none rfl (Hd.alloc (zs := [.string ⟨#[]⟩, .int .i64 0, .int .i64 0]) kr_ fun b7 => ⟨_, rfl, ?_⟩)
      refine WA.one (i := 6) kr_ ?_
      refine WO.h rfl Wt.none rfl (Hd.lookupG (k0 := kStr) (KT := 9) (ET := 71) (TD := .string) (n := gs[i].name) (z := .agg #[.string ⟨#[]⟩, .int .i64 0, .int .i64 0]) kr_ Tryz.underlying9 rfl kr_ rfl rfl hK sp_ (lkU2 (gs.take i) gs[i].name) ⟨_, rfl, ?_⟩)
      refine WA.y (i := 7) (NoPanic.then (NoPanic.block (NoPanic.then (NoPanic.then (NoPanic.block (NoPanic.then (NoPanic.body))))))) rfl kr_ kr_ kr_ rfl (Yd.move rfl) ?_
      refine WA.y (i := 8) (NoPanic.then (NoPanic.block (NoPanic.then (NoPanic.then (NoPanic.block (NoPanic.then (NoPanic.body))))))) rfl kr_ kr_ kr_ rfl (Yd.extract rfl rfl) ?_
      refine WA.y (i := 9) (NoPanic.then (NoPanic.block (NoPanic.then (NoPanic.then (NoPanic.block (NoPanic.then (NoPanic.body))))))) rfl kr_ kr_ kr_ rfl (Yd.extract rfl rfl) ?_
      refine WA.one (i := 11) kr_ ?_
      refine WO.s rfl Wt.none (Hd.storeAll (n := 3) kr_ rfl rfl (by rfl) one_ fr_ (by rfl) ⟨rfl, ?_⟩)
      refine WA.y (i := 12) (NoPanic.then (NoPanic.block (NoPanic.then (NoPanic.then (NoPanic.block (NoPanic.then (NoPanic.body))))))) rfl kr_ kr_ kr_ rfl (Yd.assign rfl) ?_
      refine WA.done kr_ ?_
      refine DN.fit (C := row b6 (cellsU gs[i]) 71 :: (row b15 [.map (some b1), .map (some b2)] 198 :: (C1 ++ (C2 ++ H)))) sp_ ?_
      exact DN.reachK (0) (trivial) (Sx.put rfl (sx_)) (Sp.all sp_)
   ·intro _ _
    refine WC.seq ?_
    refine sr_ ?_
    refine f_ 0 kr_ rfl rfl ?_
    refine d_ kr_ rfl mem_ (by rfl) rfl ?_
    refine WL.y rfl (Yd.eqlS rfl rfl) ?_
    refine m_ rfl rfl ?_
    refine WL.partP (t := 35) rfl (fun hg35 => ?_) (fun hg35 => ?_)
    ·iterate 4 refine gn_ 35 rfl rfl rfl rfl ?_
     refine WL.y rfl (Yd.pickT rfl rfl) ?_
     refine m_ rfl rfl ?_
     iterate 3 refine gn_ 41 rfl rfl rfl rfl ?_
     refine WL.y rfl (Yd.pickT rfl rfl) ?_
     refine m_ rfl rfl ?_
     iterate 3 refine gn_ 46 rfl rfl rfl rfl ?_
     refine WL.y rfl (Yd.pickT rfl rfl) ?_
     refine m_ rfl rfl ?_
     iterate 3 refine gn_ 51 rfl rfl rfl rfl ?_
     refine WL.y rfl (Yd.pickT rfl rfl) ?_
     refine m_ rfl rfl ?_
     refine gn_ 56 rfl rfl rfl rfl ?_
     refine WL.y rfl (Yd.pickT rfl rfl) ?_
     refine nt_ ?_
     refine WC.yes rfl ?_
     refine sr_ ?_
     refine a_ rfl rfl ?_
     refine a_ rfl rfl ?_
     refine nt_ ?_
     refine WC.ret ?_
     refine DN.then_ret ?_
     refine DN.block_ret ?_
     refine DN.then_ret ?_
     refine DN.then_ret ?_
     refine DN.block_ret ?_
     refine DN.then_ret ?_
     first | (have hlt2 : i < gs.length := hlt; refine DN.fit (C := H) sp_ ?_) | refine DN.fit (C := row b15 [.map (some b1), .map (some b2)] 198 :: (C1 ++ (C2 ++ H))) sp_ ?_ | skip
     refine DN.ret2 Tryz.results64 rfl rfl ?_
     first
       | exact .inr ⟨fun hG => by have := hG.1; omega, rfl, rfl⟩
       | exact .inr ⟨fun hG => (hG.2.2 gs[i] (List.getElem_mem hlt)).1 hg35, rfl, rfl⟩
       | exact .inr ⟨fun hG => by have := (hG.2.2 gs[i] (List.getElem_mem hlt)).2; omega, rfl, rfl⟩
       | exact .inr ⟨fun hG => (twice_noU hlt h58) hG.2.1, rfl, rfl⟩
       | exact .inl ⟨⟨by omega, hnd, fun g hm => by obtain ⟨j, hj, rfl⟩ := List.getElem_of_mem hm; exact hgood j hj hj⟩, b15, row b15 [.map (some b1), .map (some b2)] 198 :: (C1 ++ C2), rfl, ⟨b1, b2, C1, C2, rfl, hK, h2⟩, by simp⟩
    ·refine gy_ 35 rfl rfl rfl (Yd.fieldAddr (k := 0) kr_ rfl) ?_
     refine WL.gh (dj := 35) rfl rfl rfl (Hd.load1 kr_ rfl mem_ (by rfl) ⟨_, rfl, ?_⟩)
     refine gy_ 35 rfl rfl rfl (Yd.lenS Tryz.underlying9 rfl) ?_
     refine gy_ 35 rfl rfl rfl (Yd.gtr rfl rfl) ?_
     refine WL.y rfl (Yd.pickF rfl rfl) ?_
     refine m_ rfl rfl ?_
     refine WL.partP (t := 41) rfl (fun hg41 => ?_) (fun hg41 => ?_)
     ·iterate 3 refine gn_ 41 rfl rfl rfl rfl ?_
      refine WL.y rfl (Yd.pickT rfl rfl) ?_
      refine m_ rfl rfl ?_
      iterate 3 refine gn_ 46 rfl rfl rfl rfl ?_
      refine WL.y rfl (Yd.pickT rfl rfl) ?_
      refine m_ rfl rfl ?_
      iterate 3 refine gn_ 51 rfl rfl rfl rfl ?_
      refine WL.y rfl (Yd.pickT rfl rfl) ?_
      refine m_ rfl rfl ?_
      refine gn_ 56 rfl rfl rfl rfl ?_
      refine WL.y rfl (Yd.pickT rfl rfl) ?_
      refine nt_ ?_
      refine WC.yes rfl ?_
      refine sr_ ?_
      refine a_ rfl rfl ?_
      refine a_ rfl rfl ?_
      refine nt_ ?_
      refine WC.ret ?_
      refine DN.then_ret ?_
      refine DN.block_ret ?_
      refine DN.then_ret ?_
      refine DN.then_ret ?_
      refine DN.block_ret ?_
      refine DN.then_ret ?_
      first | (have hlt2 : i < gs.length := hlt; refine DN.fit (C := H) sp_ ?_) | refine DN.fit (C := row b15 [.map (some b1), .map (some b2)] 198 :: (C1 ++ (C2 ++ H))) sp_ ?_ | skip
      refine DN.ret2 Tryz.results64 rfl rfl ?_
      first
        | exact .inr ⟨fun hG => by have := hG.1; omega, rfl, rfl⟩
        | exact .inr ⟨fun hG => (hG.2.2 gs[i] (List.getElem_mem hlt)).1 hg35, rfl, rfl⟩
        | exact .inr ⟨fun hG => by have := (hG.2.2 gs[i] (List.getElem_mem hlt)).2; omega, rfl, rfl⟩
        | exact .inr ⟨fun hG => (twice_noU hlt h58) hG.2.1, rfl, rfl⟩
        | exact .inl ⟨⟨by omega, hnd, fun g hm => by obtain ⟨j, hj, rfl⟩ := List.getElem_of_mem hm; exact hgood j hj hj⟩, b15, row b15 [.map (some b1), .map (some b2)] 198 :: (C1 ++ C2), rfl, ⟨b1, b2, C1, C2, rfl, hK, h2⟩, by simp⟩
     ·refine gy_ 41 rfl rfl rfl (Yd.fieldAddr (k := 1) kr_ rfl) ?_
      refine WL.gh (dj := 41) rfl rfl rfl (Hd.load1 kr_ rfl mem_ (by rfl) ⟨_, rfl, ?_⟩)
      refine gy_ 41 rfl rfl rfl (Yd.lss rfl rfl) ?_
      refine WL.y rfl (Yd.pickF rfl rfl) ?_
      refine m_ rfl rfl ?_
      refine WL.partP (t := 46) rfl (fun hg46 => ?_) (fun hg46 => ?_)
      ·iterate 3 refine gn_ 46 rfl rfl rfl rfl ?_
       refine WL.y rfl (Yd.pickT rfl rfl) ?_
       refine m_ rfl rfl ?_
       iterate 3 refine gn_ 51 rfl rfl rfl rfl ?_
       refine WL.y rfl (Yd.pickT rfl rfl) ?_
       refine m_ rfl rfl ?_
       refine gn_ 56 rfl rfl rfl rfl ?_
       refine WL.y rfl (Yd.pickT rfl rfl) ?_
       refine nt_ ?_
       refine WC.yes rfl ?_
       refine sr_ ?_
       refine a_ rfl rfl ?_
       refine a_ rfl rfl ?_
       refine nt_ ?_
       refine WC.ret ?_
       refine DN.then_ret ?_
       refine DN.block_ret ?_
       refine DN.then_ret ?_
       refine DN.then_ret ?_
       refine DN.block_ret ?_
       refine DN.then_ret ?_
       first | (have hlt2 : i < gs.length := hlt; refine DN.fit (C := H) sp_ ?_) | refine DN.fit (C := row b15 [.map (some b1), .map (some b2)] 198 :: (C1 ++ (C2 ++ H))) sp_ ?_ | skip
       refine DN.ret2 Tryz.results64 rfl rfl ?_
       first
         | exact .inr ⟨fun hG => by have := hG.1; omega, rfl, rfl⟩
         | exact .inr ⟨fun hG => (hG.2.2 gs[i] (List.getElem_mem hlt)).1 hg35, rfl, rfl⟩
         | exact .inr ⟨fun hG => by have := (hG.2.2 gs[i] (List.getElem_mem hlt)).2; omega, rfl, rfl⟩
         | exact .inr ⟨fun hG => (twice_noU hlt h58) hG.2.1, rfl, rfl⟩
         | exact .inl ⟨⟨by omega, hnd, fun g hm => by obtain ⟨j, hj, rfl⟩ := List.getElem_of_mem hm; exact hgood j hj hj⟩, b15, row b15 [.map (some b1), .map (some b2)] 198 :: (C1 ++ C2), rfl, ⟨b1, b2, C1, C2, rfl, hK, h2⟩, by simp⟩
      ·refine gy_ 46 rfl rfl rfl (Yd.fieldAddr (k := 1) kr_ rfl) ?_
       refine WL.gh (dj := 46) rfl rfl rfl (Hd.load1 kr_ rfl mem_ (by rfl) ⟨_, rfl, ?_⟩)
       refine gy_ 46 rfl rfl rfl (Yd.gtr rfl rfl) ?_
       refine WL.y rfl (Yd.pickF rfl rfl) ?_
       refine m_ rfl rfl ?_
       refine WL.partP (t := 51) rfl (fun hg51 => ?_) (fun hg51 => ?_)
       ·iterate 3 refine gn_ 51 rfl rfl rfl rfl ?_
        refine WL.y rfl (Yd.pickT rfl rfl) ?_
        refine m_ rfl rfl ?_
        refine gn_ 56 rfl rfl rfl rfl ?_
        refine WL.y rfl (Yd.pickT rfl rfl) ?_
        refine nt_ ?_
        refine WC.yes rfl ?_
        refine sr_ ?_
        refine a_ rfl rfl ?_
        refine a_ rfl rfl ?_
        refine nt_ ?_
        refine WC.ret ?_
        refine DN.then_ret ?_
        refine DN.block_ret ?_
        refine DN.then_ret ?_
        refine DN.then_ret ?_
        refine DN.block_ret ?_
        refine DN.then_ret ?_
        first | (have hlt2 : i < gs.length := hlt; refine DN.fit (C := H) sp_ ?_) | refine DN.fit (C := row b15 [.map (some b1), .map (some b2)] 198 :: (C1 ++ (C2 ++ H))) sp_ ?_ | skip
        refine DN.ret2 Tryz.results64 rfl rfl ?_
        first
          | exact .inr ⟨fun hG => by have := hG.1; omega, rfl, rfl⟩
          | exact .inr ⟨fun hG => (hG.2.2 gs[i] (List.getElem_mem hlt)).1 hg35, rfl, rfl⟩
          | exact .inr ⟨fun hG => by have := (hG.2.2 gs[i] (List.getElem_mem hlt)).2; omega, rfl, rfl⟩
          | exact .inr ⟨fun hG => (twice_noU hlt h58) hG.2.1, rfl, rfl⟩
          | exact .inl ⟨⟨by omega, hnd, fun g hm => by obtain ⟨j, hj, rfl⟩ := List.getElem_of_mem hm; exact hgood j hj hj⟩, b15, row b15 [.map (some b1), .map (some b2)] 198 :: (C1 ++ C2), rfl, ⟨b1, b2, C1, C2, rfl, hK, h2⟩, by simp⟩
       ·refine gy_ 51 rfl rfl rfl (Yd.fieldAddr (k := 2) kr_ rfl) ?_
        refine WL.gh (dj := 51) rfl rfl rfl (Hd.load1 kr_ rfl mem_ (by rfl) ⟨_, rfl, ?_⟩)
        refine gy_ 51 rfl rfl rfl (Yd.neq rfl rfl) ?_
        refine WL.y rfl (Yd.pickF rfl rfl) ?_
        refine m_ rfl rfl ?_
        refine WL.partP (t := 56) rfl (fun hg56 => ?_) (fun hg56 => ?_)
        ·refine gn_ 56 rfl rfl rfl rfl ?_
         refine WL.y rfl (Yd.pickT rfl rfl) ?_
         refine nt_ ?_
         refine WC.yes rfl ?_
         refine sr_ ?_
         refine a_ rfl rfl ?_
         refine a_ rfl rfl ?_
         refine nt_ ?_
         refine WC.ret ?_
         refine DN.then_ret ?_
         refine DN.block_ret ?_
         refine DN.then_ret ?_
         refine DN.then_ret ?_
         refine DN.block_ret ?_
         refine DN.then_ret ?_
         first | (have hlt2 : i < gs.length := hlt; refine DN.fit (C := H) sp_ ?_) | refine DN.fit (C := row b15 [.map (some b1), .map (some b2)] 198 :: (C1 ++ (C2 ++ H))) sp_ ?_ | skip
         refine DN.ret2 Tryz.results64 rfl rfl ?_
         first
           | exact .inr ⟨fun hG => by have := hG.1; omega, rfl, rfl⟩
           | exact .inr ⟨fun hG => (hG.2.2 gs[i] (List.getElem_mem hlt)).1 hg35, rfl, rfl⟩
           | exact .inr ⟨fun hG => by have := (hG.2.2 gs[i] (List.getElem_mem hlt)).2; omega, rfl, rfl⟩
           | exact .inr ⟨fun hG => (twice_noU hlt h58) hG.2.1, rfl, rfl⟩
           | exact .inl ⟨⟨by omega, hnd, fun g hm => by obtain ⟨j, hj, rfl⟩ := List.getElem_of_mem hm; exact hgood j hj hj⟩, b15, row b15 [.map (some b1), .map (some b2)] 198 :: (C1 ++ C2), rfl, ⟨b1, b2, C1, C2, rfl, hK, h2⟩, by simp⟩
        ·refine gy_ 56 rfl rfl rfl (Yd.move rfl) ?_
         refine WL.y rfl (Yd.pickF rfl rfl) ?_
         refine nt_ ?_
         refine WC.cond rfl (fun h58 => ?_) (fun h58 => ?_)
         ·refine sr_ ?_
          refine a_ rfl rfl ?_
          refine a_ rfl rfl ?_
          refine nt_ ?_
          refine WC.ret ?_
          refine DN.then_ret ?_
          refine DN.block_ret ?_
          refine DN.then_ret ?_
          refine DN.then_ret ?_
          refine DN.block_ret ?_
          refine DN.then_ret ?_
          first | (have hlt2 : i < gs.length := hlt; refine DN.fit (C := H) sp_ ?_) | refine DN.fit (C := row b15 [.map (some b1), .map (some b2)] 198 :: (C1 ++ (C2 ++ H))) sp_ ?_ | skip
          refine DN.ret2 Tryz.results64 rfl rfl ?_
          first
            | exact .inr ⟨fun hG => by have := hG.1; omega, rfl, rfl⟩
            | exact .inr ⟨fun hG => (hG.2.2 gs[i] (List.getElem_mem hlt)).1 hg35, rfl, rfl⟩
            | exact .inr ⟨fun hG => by have := (hG.2.2 gs[i] (List.getElem_mem hlt)).2; omega, rfl, rfl⟩
            | exact .inr ⟨fun hG => (twice_noU hlt h58) hG.2.1, rfl, rfl⟩
            | exact .inl ⟨⟨by omega, hnd, fun g hm => by obtain ⟨j, hj, rfl⟩ := List.getElem_of_mem hm; exact hgood j hj hj⟩, b15, row b15 [.map (some b1), .map (some b2)] 198 :: (C1 ++ C2), rfl, ⟨b1, b2, C1, C2, rfl, hK, h2⟩, by simp⟩
         ·have hgi : accB gs[i] := ⟨hg35, by omega, by omega, by omega, by omega⟩
          have hnone : findK Au.name (gs.take i) gs[i].name = none := by simpa using h58
          have hndi := once_moreU hnd hnone
          refine WC.skip ?_
          refine DN.then_normal ?_
          refine WC.draw 8 kr_ rfl ?_
          refine WA.y (i := 0) (NoPanic.block (NoPanic.then (NoPanic.then (NoPanic.block (NoPanic.then (NoPanic.body)))))) rfl kr_ kr_ kr_ rfl (Yd.move rfl) ?_
          refine WA.y (i := 1) (NoPanic.block (NoPanic.then (NoPanic.then (NoPanic.block (NoPanic.then (NoPanic.body)))))) rfl kr_ kr_ kr_ rfl (Yd.notNil rfl) ?_
          refine WA.y (i := 2) (NoPanic.block (NoPanic.then (NoPanic.then (NoPanic.block (NoPanic.then (NoPanic.body)))))) rfl kr_ kr_ kr_ rfl (Yd.fieldAddr (k := 0) kr_ rfl) ?_
          refine WA.y (i := 4) (NoPanic.block (NoPanic.then (NoPanic.then (NoPanic.block (NoPanic.then (NoPanic.body)))))) rfl kr_ kr_ kr_ rfl (Yd.fieldAddr (k := 0) kr_ rfl) ?_
          refine WA.reads [(3, 62, _), (5, 64, _), (6, 65, _)] [3, 5, 6] [] 1 rfl rfl (List.forall_mem_cons.2 ⟨ReadAt.mk rfl Wt.none rfl (Rd.load1 kr_ rfl mem_ (by rfl)), List.forall_mem_cons.2 ⟨ReadAt.mk rfl Wt.none rfl (Rd.load1 kr_ rfl mem_ (by rfl)), List.forall_mem_cons.2 ⟨ReadAt.mk rfl Wt.none rfl (Rd.loadAll (n := 3) kr_ rfl mem_ (by rfl)), fun _ h => absurd h List.not_mem_nil⟩⟩⟩) (by decide) (by simp) (List.forall_mem_cons.2 ⟨rfl, List.forall_mem_cons.2 ⟨rfl, List.forall_mem_cons.2 ⟨rfl, fun _ h => absurd h List.not_mem_nil⟩⟩⟩) kr_ (fun _ h => absurd h List.not_mem_nil) ?_
          ·change WA _ _ _ _ _ _ 1 _ ([(62, _), (64, _), (65, _)] ++ _) _
           refine WA.one (i := 7) kr_ ?_
           refine WO.s rfl Wt.none (Hd.mapSet (k0 := kStr) (KT := 9) (ET := 71) (TD := .string) (n := gs[i].name) kr_ Tryz.underlying9 rfl rfl rfl rfl hK (by rw [kvs_keys]; exact hnd) sp_ fun C3 h3 => ⟨rfl, ?_⟩)
           refine WA.done kr_ ?_
           refine DN.block_normal ?_
           refine DN.then_normal ?_
           refine WC.region ?_
           refine WL.y rfl (Yd.add rfl rfl (by omega) (by omega)) ?_
           refine m_ rfl rfl ?_
           refine WL.nil ?_
           exact DN.againS (⟨i + 1, C3⟩) (show (i + 1) ≤ gs.length ∧ (∀ (j : Nat) (h : j < gs.length), j < (i + 1) → accB gs[j]) ∧ ((gs.take (i + 1)).map Au.name).Nodup ∧ MpG kStr b1 (kvs Au.name encU (gs.take (i + 1))) C3 from ⟨by omega, fun j h hj => by
             rcases Nat.lt_or_ge j i with h5 | h5
             · exact hgood j h h5
             · obtain rfl : j = i := by omega
               exact hgi, by rw [htk]; exact hndi, by rw [htk, ← putU_new hnone, ← putU (gs.take i) gs[i] gs[i].name rfl]; exact h3⟩) (show gs.length - (i + 1) < gs.length - i by omega) (Sx.put rfl (sx_)) sp_
  ·obtain rfl : i = gs.length := by omega
   rw [List.take_length] at hnd hK
   refine WC.exit ?_
   refine DN.then_exit ?_
   refine DN.then_exit ?_
   refine DN.block_exit ?_
   refine ts_ ?_
   refine WC.region ?_
   refine m_ rfl rfl ?_
   refine a_ rfl rfl ?_
   refine a_ rfl rfl ?_
   refine nt_ ?_
   refine WC.ret ?_
   first | (have hlt2 : i < gs.length := hlt; refine DN.fit (C := H) sp_ ?_) | refine DN.fit (C := row b15 [.map (some b1), .map (some b2)] 198 :: (C1 ++ (C2 ++ H))) sp_ ?_ | skip
   refine DN.ret2 Tryz.results64 rfl rfl ?_
   first
     | exact .inr ⟨fun hG => by have := hG.1; omega, rfl, rfl⟩
     | exact .inr ⟨fun hG => (hG.2.2 gs[i] (List.getElem_mem hlt)).1 hg35, rfl, rfl⟩
     | exact .inr ⟨fun hG => by have := (hG.2.2 gs[i] (List.getElem_mem hlt)).2; omega, rfl, rfl⟩
     | exact .inr ⟨fun hG => (twice_noU hlt h58) hG.2.1, rfl, rfl⟩
     | exact .inl ⟨⟨by omega, hnd, fun g hm => by obtain ⟨j, hj, rfl⟩ := List.getElem_of_mem hm; exact hgood j hj hj⟩, b15, row b15 [.map (some b1), .map (some b2)] 198 :: (C1 ++ C2), rfl, ⟨b1, b2, C1, C2, rfl, hK, h2⟩, by simp⟩
end Go.Proofs.YtkamlondepceiaaGreat.Pu

set_option linter.unusedVariables false
set_option linter.unusedSimpArgs false
set_option maxHeartbeats 4000000
namespace Go.Proofs.YtkamlondepceiaaGreat
open Go.SL
theorem cnew_tells (v1 v2 v3 : Value) (gs : List Gd) (us : List Au) (rs : List Int) (hg : ∀ g ∈ gs, g.gone = 0) (H : List Ck) (h1 : Rs v1 gs.length (gs.flatMap cellsG) H) (h2 : Rs v2 us.length (us.flatMap cellsU) H) (h3 : Rs v3 rs.length (ic rs) H) (hl1 : gs.length ≤ 9223372036854775807) (hl2 : us.length ≤ 9223372036854775807) (hl3 : rs.length ≤ 9223372036854775807) : Tells Tryz.prog 31 [v1, v2, v3] H fun r H' => ((GoodL gs ∧ AccL us ∧ ((rs.findIdx? Do.badRoom).isSome = false ∧ rs.length ≤ 60)) ∧ ∃ p C, r = .tuple #[.pointer (some ⟨p, 0, none⟩), .int .i64 0] ∧ CwAt 189 198 203 3 5 118 111 22 116 p (Cw.new gs us rs) C ∧ H' = C ++ H) ∨ (¬ (GoodL gs ∧ AccL us ∧ ((rs.findIdx? Do.badRoom).isSome = false ∧ rs.length ≤ 60)) ∧ r = .tuple #[.pointer none, .int .i64 2] ∧ H' = H) := by
 refine Tells.enter Tryz.func31 rfl Tryz.ntmps31 rfl ?_
 intro w0 R
 obtain ⟨ao1, ac1, rfl, _⟩ := h1.form
 obtain ⟨ao2, ac2, rfl, _⟩ := h2.form
 obtain ⟨ao3, ac3, rfl, _⟩ := h3.form
 refine sr_ ?_
 refine a_ rfl rfl ?_
 refine a_ rfl rfl ?_
 refine ntsr_ ?_
 refine m_ rfl rfl ?_
 refine WL.c rfl (Ent.func Tryz.call63 rfl) (St.new_tells _ gs hg H h1 hl1) (Sp.p sp_) ?_
 intro x H9 h9
 have h91 : ∃ a e C, x = .tuple #[.pointer a, .int .i64 e] ∧ H9 = C ++ H ∧ ((e = 0 ∧ GoodL gs ∧ ∃ p, a = some ⟨p, 0, none⟩ ∧ StAt 189 p gs [] C) ∨ (e = 2 ∧ ¬ GoodL gs)) := by
   rcases h9 with ⟨hg, p, C, rfl, hC, rfl⟩ | ⟨hn, rfl, rfl⟩
   · exact ⟨_, _, C, rfl, rfl, .inl ⟨rfl, hg, p, rfl, hC⟩⟩
   · exact ⟨none, 2, [], rfl, rfl, .inr ⟨rfl, hn⟩⟩
 clear h9
 obtain ⟨a1, e1, C1, rfl, rfl, h91⟩ := h91
 refine m_ rfl rfl ?_
 refine x_ rfl rfl rfl ?_
 refine x_ rfl rfl rfl ?_
 refine a_ rfl rfl ?_
 refine a_ rfl rfl ?_
 refine nt_ ?_
 refine WC.seq ?_
 refine sr_ ?_
 refine m_ rfl rfl ?_
 refine WL.y rfl (Yd.neq rfl rfl) ?_
 refine nt_ ?_
 refine WC.ite rfl (fun h18 => ?_) (fun h18 => ?_)
 ·obtain ⟨rfl, hn1⟩ := h91.resolve_left (fun q => h18 q.1)
  refine sr_ ?_
  refine m_ rfl rfl ?_
  refine a_ rfl rfl ?_
  refine a_ rfl rfl ?_
  refine nt_ ?_
  refine WC.ret ?_
  refine DN.then_ret ?_
  refine DN.fit (C := H) sp_ ?_
  refine DN.ret2 Tryz.results31 rfl rfl ?_
  exact .inr ⟨fun q => hn1 q.1, rfl, rfl⟩
 ·obtain ⟨rfl, hg1, p1, rfl, hC1⟩ := h91.resolve_right (fun q => h18 (by rw [q.1]; decide))
  refine WC.skip ?_
  refine ts_ ?_
  refine WC.region ?_
  refine m_ rfl rfl ?_
  refine WL.c rfl (Ent.func Tryz.call64 rfl) (Pu.new_tells _ us H h2 hl2) (Sp.p sp_) ?_
  intro x H9 h9
  have h92 : ∃ a e C, x = .tuple #[.pointer a, .int .i64 e] ∧ H9 = C ++ H ∧ ((e = 0 ∧ AccL us ∧ ∃ p, a = some ⟨p, 0, none⟩ ∧ PsAt 198 p us [] C) ∨ (e = 2 ∧ ¬ AccL us)) := by
    rcases h9 with ⟨hg, p, C, rfl, hC, rfl⟩ | ⟨hn, rfl, rfl⟩
    · exact ⟨_, _, C, rfl, rfl, .inl ⟨rfl, hg, p, rfl, hC⟩⟩
    · exact ⟨none, 2, [], rfl, rfl, .inr ⟨rfl, hn⟩⟩
  clear h9
  obtain ⟨a2, e2, C2, rfl, rfl, h92⟩ := h92
  refine m_ rfl rfl ?_
  refine x_ rfl rfl rfl ?_
  refine x_ rfl rfl rfl ?_
  refine a_ rfl rfl ?_
  refine a_ rfl rfl ?_
  refine nt_ ?_
  refine WC.seq ?_
  refine sr_ ?_
  refine m_ rfl rfl ?_
  refine WL.y rfl (Yd.neq rfl rfl) ?_
  refine nt_ ?_
  refine WC.ite rfl (fun h26 => ?_) (fun h26 => ?_)
  ·obtain ⟨rfl, hn2⟩ := h92.resolve_left (fun q => h26 q.1)
   refine sr_ ?_
   refine m_ rfl rfl ?_
   refine a_ rfl rfl ?_
   refine a_ rfl rfl ?_
   refine nt_ ?_
   refine WC.ret ?_
   refine DN.then_ret ?_
   refine DN.fit (C := H) sp_ ?_
   refine DN.ret2 Tryz.results31 rfl rfl ?_
   exact .inr ⟨fun q => hn2 q.2.1, rfl, rfl⟩
  ·obtain ⟨rfl, hg2, p2, rfl, hC2⟩ := h92.resolve_right (fun q => h26 (by rw [q.1]; decide))
   refine WC.skip ?_
   refine ts_ ?_
   refine WC.region ?_
   refine m_ rfl rfl ?_
   refine WL.c rfl (Ent.func Tryz.call65 rfl) (Do.new_tells _ rs H h3 hl3) (Sp.p sp_) ?_
   intro x H9 h9
   obtain ⟨a3, e3, C3, rfl, rfl, h93⟩ : ∃ a e C, x = .tuple #[.pointer a, .int .i64 e] ∧ H9 = C ++ H ∧ ((e = 0 ∧ ((rs.findIdx? Do.badRoom).isSome = false ∧ rs.length ≤ 60) ∧ ∃ p, a = some ⟨p, 0, none⟩ ∧ DockAt 203 3 p rs [] C) ∨ (e = 2 ∧ ¬ ((rs.findIdx? Do.badRoom).isSome = false ∧ rs.length ≤ 60))) := by
     by_cases hg3 : ((rs.findIdx? Do.badRoom).isSome = false ∧ rs.length ≤ 60)
     · rw [if_pos hg3] at h9
       obtain ⟨p, C, rfl, hC, rfl⟩ := h9
       exact ⟨_, _, C, rfl, rfl, .inl ⟨rfl, hg3, p, rfl, hC⟩⟩
     · rw [if_neg hg3] at h9
       obtain ⟨rfl, rfl⟩ := h9
       exact ⟨none, 2, [], rfl, rfl, .inr ⟨rfl, hg3⟩⟩
   clear h9
   refine m_ rfl rfl ?_
   refine x_ rfl rfl rfl ?_
   refine x_ rfl rfl rfl ?_
   refine a_ rfl rfl ?_
   refine a_ rfl rfl ?_
   refine nt_ ?_
   refine WC.seq ?_
   refine sr_ ?_
   refine m_ rfl rfl ?_
   refine WL.y rfl (Yd.neq rfl rfl) ?_
   refine nt_ ?_
   refine WC.ite rfl (fun h34 => ?_) (fun h34 => ?_)
   ·obtain ⟨rfl, hn3⟩ := h93.resolve_left (fun q => h34 q.1)
    refine sr_ ?_
    refine m_ rfl rfl ?_
    refine a_ rfl rfl ?_
    refine a_ rfl rfl ?_
    refine nt_ ?_
    refine WC.ret ?_
    refine DN.then_ret ?_
    refine DN.fit (C := H) sp_ ?_
    refine DN.ret2 Tryz.results31 rfl rfl ?_
    exact .inr ⟨fun q => hn3 q.2.2, rfl, rfl⟩
   ·obtain ⟨rfl, hg3, p3, rfl, hC3⟩ := h93.resolve_right (fun q => h34 (by rw [q.1]; decide))
    refine WC.skip ?_
    refine ts_ ?_
    refine WC.region ?_
    iterate 3 refine m_ rfl rfl ?_
    refine WL.y rfl (Yd.build (pl := [(0, 1), (1, 1), (2, 1), (3, 2), (5, 1), (6, 1)]) (zs := [.pointer none, .pointer none, .pointer none, .int .u32 0, .slice none 0 0, .slice none 0 0, .slice none 0 0]) (parts := [(0, .tmp 36), (1, .tmp 37), (2, .tmp 38)]) (vs := [(0, .pointer (some ⟨p3, 0, none⟩)), (1, .pointer (some ⟨p1, 0, none⟩)), (2, .pointer (some ⟨p2, 0, none⟩))]) (cells := [.pointer (some ⟨p3, 0, none⟩), .pointer (some ⟨p1, 0, none⟩), .pointer (some ⟨p2, 0, none⟩), .int .u32 0, .slice none 0 0, .slice none 0 0, .slice none 0 0]) kr_ kr_ rfl rfl) ?_
    refine WL.h rfl (Hd.box rfl fun p => ⟨_, rfl, ?_⟩)
    refine a_ rfl rfl ?_
    refine a_ rfl rfl ?_
    refine nt_ ?_
    refine WC.ret ?_
    refine DN.fit (C := (row p [.pointer (some ⟨p3, 0, none⟩), .pointer (some ⟨p1, 0, none⟩), .pointer (some ⟨p2, 0, none⟩), .int .u32 0, .slice none 0 0, .slice none 0 0, .slice none 0 0] 116 :: (C1 ++ (C2 ++ (C3 ++ ([] ++ ([] ++ ([] ++ []))))))) ++ H) sp_ ?_
    refine DN.ret2 Tryz.results31 rfl rfl ?_
    exact .inl ⟨⟨hg1, hg2, hg3⟩, p, _, rfl, ⟨p3, p1, p2, _, _, _, C1, C2, C3, [], [], [], [], [], rfl, hC1, hC2, hC3, FAt.nil _ _, Own.nil _ _, Own.nil _ _, .nil⟩, rfl⟩
theorem cepoch_reads (p : Nat) (s : Cw) (C : List Ck) (h : CwAt 189 198 203 3 5 118 111 22 116 p s C) : Reads Tryz.prog 24 [.pointer (some ⟨p, 0, none⟩)] C (.int .u32 s.e.toNat) := by
 refine Tells.enter Tryz.func24 rfl Tryz.ntmps24 rfl ?_
 intro w0 R
 obtain ⟨pd, ps, pp, vL, vE, vN, CS, CP, CD, CF, CE, cn, CN, DO, rfl, hS, hP, hD, hF, hE, hN, hO⟩ := h
 obtain ⟨lo, lc, rfl⟩ := hF.form
 obtain ⟨eo, ec, rfl, hec⟩ := hE.form
 obtain ⟨no, nc, rfl, hnc⟩ := hN.form
 refine sr_ ?_
 refine WL.y rfl (Yd.assign (v := .int .u32 ((0#32).toNat : Int)) rfl) ?_
 refine nt_ ?_
 refine WC.seq ?_
 refine sr_ ?_
 refine m_ rfl rfl ?_
 refine WL.y rfl (Yd.eqlNil Tryz.underlying40 rfl rfl) ?_
 refine WL.renamed (t := 4) (v := .bool false) rfl (congrArg Value.bool (rfl)) ?_
 refine nt_ ?_
 refine WC.no rfl ?_
 refine WC.skip ?_
 refine ts_ ?_
 refine WC.region ?_
 refine m_ rfl rfl ?_
 refine n_ rfl rfl ?_
 refine f_ 3 kr_ rfl rfl ?_
 refine f_ 0 kr_ rfl rfl ?_
 refine d_ kr_ rfl mem_ (by rfl) rfl ?_
 refine a_ rfl rfl ?_
 refine nt_ ?_
 refine WC.ret ?_
 refine DN.ret1 Tryz.results24 rfl ?_
 exact ⟨rfl, rfl⟩
theorem cgoods_tells (p : Nat) (s : Cw) (C : List Ck) (h : CwAt 189 198 203 3 5 118 111 22 116 p s C) (hl : s.K.length ≤ 100000000) : Tells Tryz.prog 25 [.pointer (some ⟨p, 0, none⟩)] C fun r C' => ∃ S Cs, ToldK Gd.name sLt s.K S ∧ Own r S.length (S.flatMap cellsG) 73 2 Cs ∧ C' = Cs ++ C := by
 refine Tells.enter Tryz.func25 rfl Tryz.ntmps25 rfl ?_
 intro w0 R
 obtain ⟨pd, ps, pp, vL, vE, vN, CS, CP, CD, CF, CE, cn, CN, DO, rfl, hS, hP, hD, hF, hE, hN, hO⟩ := h
 obtain ⟨lo, lc, rfl⟩ := hF.form
 obtain ⟨eo, ec, rfl, hec⟩ := hE.form
 obtain ⟨no, nc, rfl, hnc⟩ := hN.form
 refine sr_ ?_
 refine a_ rfl rfl ?_
 refine nt_ ?_
 refine WC.seq ?_
 refine sr_ ?_
 refine m_ rfl rfl ?_
 refine WL.y rfl (Yd.eqlNil Tryz.underlying40 rfl rfl) ?_
 refine WL.renamed (t := 4) (v := .bool false) rfl (congrArg Value.bool (rfl)) ?_
 refine nt_ ?_
 refine WC.no rfl ?_
 refine WC.skip ?_
 refine ts_ ?_
 refine WC.region ?_
 refine m_ rfl rfl ?_
 refine n_ rfl rfl ?_
 refine f_ 1 kr_ rfl rfl ?_
 refine d_ kr_ rfl mem_ (by rfl) rfl ?_
 refine WL.c rfl (Ent.func Tryz.call60 rfl) (St.goods_tells ps s.K s.L CS hS hl) (Sp.p sp_) ?_
 rintro x H9 ⟨S, Cs, hT, ho, rfl⟩
 refine a_ rfl rfl ?_
 refine nt_ ?_
 refine WC.ret ?_
 refine DN.fit (C := Cs ++ (row p [.pointer (some ⟨pd, 0, none⟩), .pointer (some ⟨ps, 0, none⟩), .pointer (some ⟨pp, 0, none⟩), .int .u32 s.e.toNat, .slice lo s.ks.length lc, .slice eo s.ef.length ec, .slice no s.no.length nc] 116 :: (CS ++ (CP ++ (CD ++ (CF ++ (CE ++ (CN ++ DO)))))))) sp_ ?_
 refine DN.ret1 Tryz.results25 rfl ?_
 exact ⟨S, Cs, hT, ho, rfl⟩
end Go.Proofs.YtkamlondepceiaaGreat

set_option linter.unusedVariables false
set_option linter.unusedSimpArgs false
set_option maxHeartbeats 4000000
namespace Go.Proofs.YtkamlondepceiaaGreat
open Go.SL
theorem efs_len (l : List Ef) : (l.flatMap efc).length = 3 * l.length := by
  induction l with
  | nil => rfl
  | cons x l ih => rw [List.flatMap_cons, List.length_append, ih, efc_len, List.length_cons]; omega
theorem efs_one (l : List Ef) : ∀ v ∈ l.flatMap efc, v.oneCell' = true := by
  intro v hv
  obtain ⟨x, _, h⟩ := List.mem_flatMap.1 hv
  exact efc_one x v h
theorem clonee_tells (v : Value) (rs : List Ef) (H : List Ck) (hv : Rs v rs.length (rs.flatMap efc) H) (hl : rs.length ≤ 1000000) : Tells Tryz.prog 54 [v] H fun r H' => ∃ C, Own r rs.length (rs.flatMap efc) 111 3 C ∧ H' = C ++ H := by
 refine Tells.enter Tryz.func54 rfl Tryz.ntmps54 rfl ?_
 intro w0 R
 obtain ⟨vo, vc, rfl, hvc⟩ := hv.form
 have hnil : vo = none → rs = [] := by
   rintro rfl
   rcases hv with ⟨_, _, e, h0, _⟩ | ⟨b, o, cap, cs, T, fr, ex, e, _⟩
   · exact List.eq_nil_of_length_eq_zero h0
   · cases e
 refine sr_ ?_
 refine a_ rfl rfl ?_
 refine nt_ ?_
 refine WC.seq ?_
 refine sr_ ?_
 refine m_ rfl rfl ?_
 refine WL.y rfl (Yd.eqlNilS Tryz.underlying56 rfl rfl) ?_
 refine nt_ ?_
 refine WC.cond rfl (fun h4 => ?_) (fun h4 => ?_)
 ·refine sr_ ?_
  refine a_ rfl rfl ?_
  refine nt_ ?_
  refine WC.ret ?_
  refine DN.then_ret ?_
  refine DN.ret1 Tryz.results54 rfl ?_
  have e0 : rs = [] := hnil (by simpa using h4)
  subst e0
  exact ⟨[], Own.nil _ _, rfl⟩
 ·refine WC.skip ?_
  refine ts_ ?_
  refine WC.region ?_
  refine WL.h rfl (Hd.buildSlice (e := 111) (sz := 3) (zs := [.int .u32 0, .int .i64 0, .bool false]) (parts := []) (vs := []) (cells := []) kr_ kr_ kr_ rfl kr_ kr_ fun rb => ⟨_, rfl, ?_⟩)
  refine m_ rfl rfl ?_
  refine WL.h rfl (Hd.append (e := 111) (sz := 3) (bytes := 24) (zs := [.int .u32 0, .int .i64 0, .bool false]) (n := 0) (xs := []) (C := [row rb [] 111]) (D := H) (m := rs.length) (news := rs.flatMap efc) kr_ kr_ rfl (by omega) rfl rfl (.inr ⟨rb, 0, [], rfl, Nat.le_refl _, by simp only [maxLen]; omega, rfl, rfl, rfl⟩) (hv.mono fun y hy => by simp [hy]) (by rw [efs_len]; omega) (efs_one _) (by simp only [maxLen]; omega) (by omega) (List.Perm.refl _) fun v2 C2 h2 _ => ⟨_, rfl, ?_⟩)
  refine a_ rfl rfl ?_
  refine nt_ ?_
  refine WC.ret ?_
  refine DN.ret1 Tryz.results54 rfl ?_
  exact ⟨C2, by simpa using h2, rfl⟩
theorem ceffs_tells (p : Nat) (s : Cw) (C : List Ck) (h : CwAt 189 198 203 3 5 118 111 22 116 p s C) (hl : s.ef.length ≤ 1000000) : Tells Tryz.prog 21 [.pointer (some ⟨p, 0, none⟩)] C fun r C' => ∃ D, Own r s.ef.length (s.ef.flatMap efc) 111 3 D ∧ C' = D ++ C := by
 refine Tells.enter Tryz.func21 rfl Tryz.ntmps21 rfl ?_
 intro w0 R
 obtain ⟨pd, ps, pp, vL, vE, vN, CS, CP, CD, CF, CE, cn, CN, DO, rfl, hS, hP, hD, hF, hE, hN, hO⟩ := h
 obtain ⟨lo, lc, rfl⟩ := hF.form
 obtain ⟨eo, ec, rfl, hec⟩ := hE.form
 obtain ⟨no, nc, rfl, hnc⟩ := hN.form
 refine sr_ ?_
 refine a_ rfl rfl ?_
 refine nt_ ?_
 refine WC.seq ?_
 refine sr_ ?_
 refine m_ rfl rfl ?_
 refine WL.y rfl (Yd.eqlNil Tryz.underlying40 rfl rfl) ?_
 refine WL.renamed (t := 4) (v := .bool false) rfl (congrArg Value.bool (rfl)) ?_
 refine nt_ ?_
 refine WC.no rfl ?_
 refine WC.skip ?_
 refine ts_ ?_
 refine WC.region ?_
 refine m_ rfl rfl ?_
 refine n_ rfl rfl ?_
 refine f_ 5 kr_ rfl rfl ?_
 refine d_ kr_ rfl mem_ (by rfl) rfl ?_
 refine WL.c rfl (Ent.func Tryz.call54 rfl) (clonee_tells _ s.ef CE hE.rs hl) (Sp.p sp_) ?_
 rintro x H9 ⟨D, ho, rfl⟩
 refine a_ rfl rfl ?_
 refine nt_ ?_
 refine WC.ret ?_
 refine DN.fit (C := D ++ (row p [.pointer (some ⟨pd, 0, none⟩), .pointer (some ⟨ps, 0, none⟩), .pointer (some ⟨pp, 0, none⟩), .int .u32 s.e.toNat, .slice lo s.ks.length lc, .slice eo s.ef.length ec, .slice no s.no.length nc] 116 :: (CS ++ (CP ++ (CD ++ (CF ++ (CE ++ (CN ++ DO)))))))) sp_ ?_
 refine DN.ret1 Tryz.results21 rfl ?_
 exact ⟨D, ho, rfl⟩
end Go.Proofs.YtkamlondepceiaaGreat

set_option linter.unusedVariables false
set_option linter.unusedSimpArgs false
namespace Go.Proofs.YtkamlondepceiaaGreat
open Go.SL
abbrev B8 := BitVec 8
theorem copy_spec (v : Value) (bs : List B8) (H : List Ck) (hv : Bs v bs H) (hl : bs.length ≤ 1000000) : Tells Tryz.prog 40 [v] H fun r H' => ∃ C, Ob 5 r bs C ∧ H' = C ++ H := by
 refine Tells.enter Tryz.func40 rfl Tryz.ntmps40 rfl ?_
 intro w0 R
 refine sr_ ?_
 refine a_ rfl rfl ?_
 refine ntsr_ ?_
 refine a_ rfl rfl ?_
 refine ntsr_ ?_
 refine m_ rfl rfl ?_
 refine m_ rfl rfl ?_
 refine WL.h rfl (Hd.appendB (e := 5) (zs := [.int .u8 0]) (C := []) (D := H) kr_ kr_ rfl rfl rfl (Ob.nil _) hv (by simp; omega) (List.Perm.refl _) fun r C hC _ => ⟨_, rfl, ?_⟩)
 refine a_ rfl rfl ?_
 refine nt_ ?_
 refine WC.ret ?_
 refine DN.ret1 Tryz.results40 rfl ?_
 exact ⟨C, by simpa using hC, rfl⟩
theorem lent_spec (v : Value) (bs : List B8) (H : List Ck) (hv : Bs v bs H) (hl : bs.length ≤ 1000000) : Tells Tryz.prog 10 [v] H fun r H' => ∃ ao cap C, r = .slice ao bs.length cap ∧ Ob 5 (.slice ao (bs.length + 2) cap) (bs ++ [91#8, 92#8]) C ∧ H' = C ++ H := by
 refine Tells.enter Tryz.func10 rfl Tryz.ntmps10 rfl ?_
 intro w0 R
 obtain ⟨vo, vc, rfl, hvc⟩ := Bs.form hv
 refine sr_ ?_
 refine a_ rfl rfl ?_
 refine ntsr_ ?_
 refine m_ rfl rfl ?_
 refine WL.ca rfl (Ent.func Tryz.call40 rfl) (copy_spec _ bs H hv hl) ?_
 rintro x H1 ⟨C, hC, rfl⟩
 refine a_ rfl rfl ?_
 refine ntsr_ ?_
 refine m_ rfl rfl ?_
 refine WL.h rfl (Hd.buildBytes (e := 5) [91#8, 92#8] kr_ kr_ kr_ rfl rfl kr_ fun b => ⟨_, rfl, ?_⟩)
 refine WL.h rfl (Hd.appendB (e := 5) (zs := [.int .u8 0]) (C := C) (D := row b (bc [91#8, 92#8]) 5 :: H) kr_ kr_ rfl rfl rfl hC (Bs.block (bs := [91#8, 92#8]) rfl (by decide) (List.mem_append_right _ List.mem_cons_self)) (by simp; omega) List.perm_middle.symm fun r C2 hC2 _ => ⟨_, rfl, ?_⟩)
 refine a_ rfl rfl ?_
 refine ntsr_ ?_
 obtain ⟨ro, rc, rfl, hrc⟩ := Ob.form hC2
 rw [List.length_append] at hrc
 simp only [List.length_append] at hC2 ⊢
 refine m_ rfl rfl ?_
 refine m_ rfl rfl ?_
 refine WL.y rfl (Yd.len (e := 5) kr_ rfl) ?_
 refine WL.y rfl (Yd.sliceTo (e := 5) (s := 1) (j := bs.length) kr_ kr_ rfl rfl rfl (by omega)) ?_
 refine a_ rfl rfl ?_
 refine nt_ ?_
 refine WC.ret ?_
 refine DN.forget (C2 ++ H) (List.Sublist.append (List.Sublist.refl _) (List.sublist_cons_self _ _)) ?_
 refine DN.ret1 Tryz.results10 rfl ?_
 exact ⟨_, _, C2, rfl, hC2, rfl⟩
theorem whole_reads (ao : Option Addr) (cap : Nat) (v : Value) (bs : List B8) (H : List Ck) (hx : Bs (.slice ao (bs.length + 2) cap) (bs ++ [91#8, 92#8]) H) (hv : Bs v bs H) (hl : bs.length ≤ 1000000) : Reads Tryz.prog 15 [.slice ao bs.length cap, v] H (.bool true) := by
 refine Tells.enter Tryz.func15 rfl Tryz.ntmps15 rfl ?_
 intro w0 R
 obtain ⟨vo, vc, rfl, hvc⟩ := Bs.form hv
 have hcap : bs.length + 2 ≤ cap := by
   obtain ⟨_, _, h1, h2⟩ := Bs.form hx
   simp at h1 h2; omega
 refine sr_ ?_
 refine a_ rfl rfl ?_
 refine nt_ ?_
 refine WC.seq ?_
 refine sr_ ?_
 refine m_ rfl rfl ?_
 refine WL.y rfl (Yd.len (e := 5) kr_ rfl) ?_
 refine m_ rfl rfl ?_
 refine WL.y rfl (Yd.len (e := 5) kr_ rfl) ?_
 refine WL.y rfl (Yd.neq rfl rfl) ?_
 refine WL.renamed (t := 10) (v := .bool false) rfl (congrArg Value.bool (by simp)) ?_
 refine nt_ ?_
 refine WC.no rfl ?_
 refine WC.skip ?_
 refine ts_ ?_
 refine WC.region ?_
 refine m_ rfl rfl ?_
 refine m_ rfl rfl ?_
 refine WL.y rfl (Yd.len (e := 5) kr_ rfl) ?_
 refine WL.y rfl (Yd.add rfl rfl (by omega) (by omega)) ?_
 refine WL.y rfl (Yd.sliceTo (e := 5) (s := 1) (j := bs.length + 2) kr_ kr_ rfl rfl (by omega) hcap) ?_
 refine a_ rfl rfl ?_
 refine ntsr_ ?_
 refine m_ rfl rfl ?_
 refine m_ rfl rfl ?_
 refine WL.y rfl (Yd.len (e := 5) kr_ rfl) ?_
 refine WL.elem (e := 5) kr_ kr_ kr_ rfl rfl (rfl) (hx) (show (bc (bs ++ [91#8, 92#8]))[bs.length]? = some (.int .u8 (91#8).toNat) by simp [bc]) (by omega) rfl rfl ?_
 intro _
 refine WL.y rfl (Yd.eql8 _ (91#8) rfl rfl rfl rfl) ?_
 refine WL.renamed (t := 21) (v := .bool true) rfl (congrArg Value.bool (decide_eq_true rfl)) ?_
 refine m_ rfl rfl ?_
 refine gy_ 22 rfl rfl rfl (Yd.move rfl) ?_
 refine gy_ 22 rfl rfl rfl (Yd.move rfl) ?_
 refine gy_ 22 rfl rfl rfl (Yd.len (e := 5) kr_ rfl) ?_
 refine gy_ 22 rfl rfl rfl (Yd.add rfl rfl (by omega) (by omega)) ?_
 refine WL.elemN (e := 5) (dj := 22) kr_ kr_ kr_ rfl rfl (by omega) (hx) (show (bc (bs ++ [91#8, 92#8]))[bs.length + 1]? = some (.int .u8 (92#8).toNat) by simp [bc]) (by omega) rfl rfl rfl rfl rfl ?_
 intro _
 refine gy_ 22 rfl rfl rfl (Yd.eql8 _ (92#8) rfl rfl rfl rfl) ?_
 refine WL.renamed (t := 29) (v := .bool true) rfl (congrArg Value.bool (decide_eq_true rfl)) ?_
 refine WL.y rfl (Yd.pickT rfl rfl) ?_
 refine m_ rfl rfl ?_
 refine gy_ 31 rfl rfl rfl (Yd.move rfl) ?_
 refine WL.gh (dj := 31) rfl rfl rfl (Hd.toStr (e := 5) (bs := bs) kr_ kr_ Tryz.underlying9 rfl (by have := Bs.upto (j := bs.length) hx (by omega); simpa using this) ⟨_, rfl, ?_⟩)
 refine gy_ 31 rfl rfl rfl (Yd.move rfl) ?_
 refine WL.gh (dj := 31) rfl rfl rfl (Hd.toStr (e := 5) (bs := bs) kr_ kr_ Tryz.underlying9 rfl hv ⟨_, rfl, ?_⟩)
 refine gy_ 31 rfl rfl rfl (Yd.eqlS rfl rfl) ?_
 refine WL.renamed (t := 36) (v := .bool true) rfl (congrArg Value.bool (decide_eq_true rfl)) ?_
 refine WL.y rfl (Yd.pickT rfl rfl) ?_
 refine a_ rfl rfl ?_
 refine nt_ ?_
 refine WC.ret ?_
 refine DN.ret1 Tryz.results15 rfl ?_
 exact ⟨rfl, rfl⟩
theorem same_reads (u v : Value) (xs bs : List B8) (H : List Ck) (hu : Bs u xs H) (hv : Bs v bs H) : Reads Tryz.prog 17 [u, v] H (.bool (decide (xs = bs))) := by
 refine Tells.enter Tryz.func17 rfl Tryz.ntmps17 rfl ?_
 intro w0 R
 refine sr_ ?_
 refine a_ rfl rfl ?_
 refine ntsr_ ?_
 refine m_ rfl rfl ?_
 refine WL.h rfl (Hd.toStr (e := 5) (bs := xs) kr_ kr_ Tryz.underlying9 rfl hu ⟨_, rfl, ?_⟩)
 refine m_ rfl rfl ?_
 refine WL.h rfl (Hd.toStr (e := 5) (bs := bs) kr_ kr_ Tryz.underlying9 rfl hv ⟨_, rfl, ?_⟩)
 refine WL.y rfl (Yd.eqlS rfl rfl) ?_
 refine a_ rfl rfl ?_
 refine nt_ ?_
 refine WC.ret ?_
 refine DN.ret1 Tryz.results17 rfl ?_
 exact ⟨by simp [str_inj], rfl⟩
end Go.Proofs.YtkamlondepceiaaGreat

set_option linter.unusedVariables false
set_option linter.unusedSimpArgs false
set_option maxHeartbeats 4000000
namespace Go.Proofs.YtkamlondepceiaaGreat
open Go.SL
theorem rnum_tells (n : BitVec 64) (size : Nat) (hs : size ≤ 8) (H : List Ck) : Tells Tryz.prog 116 [.int .u64 n.toNat, .int .i64 size] H fun r H' => ∃ C, Ob 5 r (beW n size) C ∧ H' = C ++ H := by
 refine Tells.enter Tryz.func116 rfl Tryz.ntmps116 rfl ?_
 intro w0 R
 refine sr_ ?_
 refine a_ rfl rfl ?_
 refine ntsr_ ?_
 refine a_ rfl rfl ?_
 refine nt_ ?_
 refine WC.seq ?_
 refine sr_ ?_
 refine a_ rfl rfl ?_
 refine nt_ ?_
 refine WC.block ?_
 refine WC.loopS (fun z : Nat × Value × List Ck => z.1 ≤ size ∧ Ob 5 z.2.1 (loW n z.1) z.2.2) (fun z : Nat × Value × List Ck => [(0, .int .u64 (n >>> (8 * z.1)).toNat), (5, z.2.1), (6, .int .i64 (z.1 : Int))]) (fun z : Nat × Value × List Ck => z.2.2 ++ H) (fun z : Nat × Value × List Ck => size - z.1) (⟨0, .slice none 0 0, []⟩) (show 0 ≤ size ∧ Ob 5 (.slice none 0 0) (loW n 0) [] from ⟨Nat.zero_le _, Ob.nil _⟩) (Sx.put rfl (Sx.put rfl (Sx.put rfl (sx_)))) sp_ ?_
 rintro ⟨i, u, C⟩ hI
 replace hI : i ≤ size ∧ Ob 5 u (loW n i) C := hI
 obtain ⟨hi, hu⟩ := hI
 change WC _ _ _ _ _ _ ([(0, .int .u64 (n >>> (8 * i)).toNat), (5, u), (6, .int .i64 (i : Int))] ++ _) (C ++ H)
 obtain ⟨uo, uc, rfl, huc⟩ := hu.form
 rw [loW_len] at huc
 refine WC.seq ?_
 refine sr_ ?_
 refine m_ rfl rfl ?_
 refine m_ rfl rfl ?_
 refine WL.y rfl (Yd.lss rfl rfl) ?_
 refine nt_ ?_
 refine WC.ite rfl (fun h11 => ?_) (fun h11 => ?_)
 ·have hlt : i < size := by omega
  refine WC.skip ?_
  refine ts_ ?_
  refine WC.block ?_
  refine sr_ ?_
  refine m_ rfl rfl ?_
  refine m_ rfl rfl ?_
  refine WL.y rfl (Yd.rem64 _ (256#64) rfl rfl rfl rfl (by decide)) ?_
  refine WL.y rfl (Yd.conv64_8 _ kr_ kr_ rfl rfl) ?_
  refine WL.renamed (t := 17) (v := .int .u8 ((n >>> (8 * i)).setWidth 8).toNat) rfl (congrArg (fun q : BitVec 8 => Value.int .u8 q.toNat) (low_rem _)) ?_
  refine WL.h rfl (Hd.build1 (e := 5) (z := .int .u8 0) kr_ kr_ kr_ rfl rfl fun b18 => ⟨_, rfl, ?_⟩)
  refine WL.h rfl (Hd.appendBs (e := 5) (zs := [.int .u8 0]) kr_ kr_ rfl rfl rfl hu sp_ (Bs.block (bs := [(n >>> (8 * i)).setWidth 8]) rfl (by simp) mem_) (by rw [loW_len]; simp only [List.length_cons, List.length_nil]; omega) fun v1 C1 ho1 => ⟨_, rfl, ?_⟩)
  refine a_ rfl rfl ?_
  refine ntr_ ?_
  refine m_ rfl rfl ?_
  refine WL.y rfl (Yd.quo64 _ (256#64) rfl rfl rfl rfl (by decide)) ?_
  refine WL.renamed (t := 21) (v := .int .u64 (n >>> (8 * (i + 1))).toNat) rfl (congrArg (fun q : BitVec 64 => Value.int .u64 q.toNat) (low_quo n i)) ?_
  refine a_ rfl rfl ?_
  refine WL.nil ?_
  refine DN.block_normal ?_
  refine DN.then_normal ?_
  refine WC.region ?_
  refine m_ rfl rfl ?_
  refine WL.y rfl (Yd.add rfl rfl (by omega) (by omega)) ?_
  refine a_ rfl rfl ?_
  refine WL.nil ?_
  exact DN.againS (⟨i + 1, v1, C1⟩) (show (i + 1) ≤ size ∧ Ob 5 v1 (loW n (i + 1)) C1 from ⟨by omega, by rw [loW_next]; exact ho1⟩) (show size - (i + 1) < size - i by omega) (Sx.put rfl (Sx.put rfl (Sx.put rfl (sx_)))) sp_
 ·obtain rfl : size = i := by omega
  refine WC.exit ?_
  refine DN.then_exit ?_
  refine DN.then_exit ?_
  refine DN.block_exit ?_
  refine ts_ ?_
  refine WC.region ?_
  refine a_ rfl rfl ?_
  refine nt_ ?_
  refine WC.seq ?_
  refine sr_ ?_
  refine m_ rfl rfl ?_
  refine WL.y rfl (Yd.sub rfl rfl (by omega) (by omega)) ?_
  refine WL.renamed (t := 23) (v := .int .i64 ((size : Int) - 1 - ((0 : Nat) : Int))) rfl (congrArg (Value.int .i64) (by omega)) ?_
  refine a_ rfl rfl ?_
  refine nt_ ?_
  refine WC.block ?_
  refine WC.loopS (fun z : Nat × Value × List Ck => z.1 ≤ size ∧ Ob 5 z.2.1 ((beW n size).take z.1) z.2.2) (fun z : Nat × Value × List Ck => [(7, z.2.1), (8, .int .i64 ((size : Int) - 1 - z.1))]) (fun z : Nat × Value × List Ck => z.2.2 ++ (C ++ H)) (fun z : Nat × Value × List Ck => size - z.1) (⟨0, .slice none 0 0, []⟩) (show 0 ≤ size ∧ Ob 5 (.slice none 0 0) ((beW n size).take 0) [] from ⟨Nat.zero_le _, Ob.nil _⟩) (Sx.put rfl (Sx.put rfl (sx_))) sp_ ?_
  rintro ⟨j, w, D⟩ hI
  replace hI : j ≤ size ∧ Ob 5 w ((beW n size).take j) D := hI
  obtain ⟨hj, hw⟩ := hI
  change WC _ _ _ _ _ _ ([(7, w), (8, .int .i64 ((size : Int) - 1 - j))] ++ _) (D ++ (C ++ H))
  refine WC.seq ?_
  refine sr_ ?_
  refine m_ rfl rfl ?_
  refine WL.y rfl (Yd.geq rfl rfl) ?_
  refine nt_ ?_
  refine WC.ite rfl (fun h25 => ?_) (fun h25 => ?_)
  ·have hlt2 : j < size := by omega
   have hll : ((beW n size).take j).length ≤ 8 := by rw [List.length_take]; omega
   refine WC.skip ?_
   refine ts_ ?_
   refine WC.block ?_
   refine WC.region ?_
   iterate 3 refine m_ rfl rfl ?_
   refine WL.elem (e := 5) kr_ kr_ kr_ rfl rfl (by omega) (hu.bs.mono gr_) (bc_at (loW_get (n := n) (show size - 1 - j < size by omega))) (by rw [loW_len]; omega) rfl rfl ?_
   intro _
   refine WL.h rfl (Hd.build1 (e := 5) (z := .int .u8 0) kr_ kr_ kr_ rfl rfl fun b33 => ⟨_, rfl, ?_⟩)
   refine WL.h rfl (Hd.appendBs (e := 5) (zs := [.int .u8 0]) kr_ kr_ rfl rfl rfl hw sp_ (Bs.block (bs := [(n >>> (8 * (size - 1 - j))).setWidth 8]) rfl (by simp) mem_) (by simp only [List.length_cons, List.length_nil]; omega) fun v2 C2 ho2 => ⟨_, rfl, ?_⟩)
   refine a_ rfl rfl ?_
   refine WL.nil ?_
   refine DN.block_normal ?_
   refine DN.then_normal ?_
   refine WC.region ?_
   refine m_ rfl rfl ?_
   refine WL.y rfl (Yd.sub rfl rfl (by omega) (by omega)) ?_
   refine a_ rfl rfl ?_
   refine WL.nil ?_
   rw [show (size : Int) - 1 - (j : Int) - 1 = (size : Int) - 1 - ((j + 1 : Nat) : Int) by omega]
   exact DN.againS (j + 1, v2, C2) ⟨by show j + 1 ≤ size; omega, by rw [beW_next n size j hlt2]; exact ho2⟩ (by show size - (j + 1) < size - j; omega) ((Sx.put rfl (Sx.put rfl (sx_)))) sp_
  ·obtain rfl : size = j := by omega
   rw [List.take_of_length_le (by rw [beW_length]; omega)] at hw
   refine WC.exit ?_
   refine DN.then_exit ?_
   refine DN.then_exit ?_
   refine DN.block_exit ?_
   refine ts_ ?_
   refine WC.region ?_
   refine m_ rfl rfl ?_
   refine a_ rfl rfl ?_
   refine nt_ ?_
   refine WC.ret ?_
   refine DN.fit (C := D ++ H) sp_ ?_
   refine DN.ret1 Tryz.results116 rfl ?_
   exact ⟨D, hw, rfl⟩
theorem rof_reads (v : Value) (b : List (BitVec 8)) (H : List Ck) (hv : Bs v b H) (hl : b.length ≤ 1000000) : Reads Tryz.prog 81 [v] H (.int .u64 (beN b).toNat) := by
 refine Tells.enter Tryz.func81 rfl Tryz.ntmps81 rfl ?_
 intro w0 R
 obtain ⟨vo, vc, rfl, hvc⟩ := hv.form
 refine sr_ ?_
 refine WL.y rfl (Yd.assign (v := .int .u64 ((0#64).toNat : Int)) rfl) ?_
 refine ntsr_ ?_
 refine WL.y rfl (Yd.assign (v := .int .u64 ((0#64).toNat : Int)) rfl) ?_
 refine nt_ ?_
 refine WC.seq ?_
 refine sr_ ?_
 refine a_ rfl rfl ?_
 refine nt_ ?_
 refine WC.block ?_
 refine WC.loopS (fun z : Nat => z ≤ b.length) (fun z : Nat => [(3, .int .u64 (beN (b.take z)).toNat), (4, .int .i64 (z : Int))]) (fun z : Nat => H) (fun z : Nat => b.length - z) (0) (show 0 ≤ b.length from Nat.zero_le _) (Sx.put rfl (Sx.put rfl (sx_))) sp_ ?_
 rintro i hI
 replace hI : i ≤ b.length := hI
 obtain hi := hI
 change WC _ _ _ _ _ _ ([(3, .int .u64 (beN (b.take i)).toNat), (4, .int .i64 (i : Int))] ++ _) (H)
 refine WC.seq ?_
 refine sr_ ?_
 refine m_ rfl rfl ?_
 refine m_ rfl rfl ?_
 refine WL.y rfl (Yd.len (e := 5) kr_ rfl) ?_
 refine WL.y rfl (Yd.lss rfl rfl) ?_
 refine nt_ ?_
 refine WC.ite rfl (fun h8 => ?_) (fun h8 => ?_)
 ·have hlt : i < b.length := by omega
  refine WC.skip ?_
  refine ts_ ?_
  refine WC.block ?_
  refine WC.region ?_
  refine m_ rfl rfl ?_
  refine WL.y rfl (Yd.mul64 _ (256#64) rfl rfl rfl rfl) ?_
  refine m_ rfl rfl ?_
  refine m_ rfl rfl ?_
  refine WL.elem (e := 5) kr_ kr_ kr_ rfl rfl (rfl) (hv) (bc_get hlt) (hlt) rfl rfl ?_
  intro _
  refine WL.y rfl (Yd.conv8_64 _ kr_ kr_ rfl rfl) ?_
  refine WL.y rfl (Yd.add64 _ _ rfl rfl rfl rfl) ?_
  refine a_ rfl rfl ?_
  refine WL.nil ?_
  refine DN.block_normal ?_
  refine DN.then_normal ?_
  refine WC.region ?_
  refine m_ rfl rfl ?_
  refine WL.y rfl (Yd.add rfl rfl (by omega) (by omega)) ?_
  refine a_ rfl rfl ?_
  refine WL.nil ?_
  rw [of_step, ← beN_next b i hlt]
  exact DN.againS (i + 1) (by show i + 1 ≤ b.length; omega) (by show b.length - (i + 1) < b.length - i; omega) ((Sx.put rfl (Sx.put rfl (sx_)))) sp_
 ·have hie : i = b.length := by omega
  subst hie
  rw [List.take_length]
  refine WC.exit ?_
  refine DN.then_exit ?_
  refine DN.then_exit ?_
  refine DN.block_exit ?_
  refine ts_ ?_
  refine WC.region ?_
  refine m_ rfl rfl ?_
  refine a_ rfl rfl ?_
  refine nt_ ?_
  refine WC.ret ?_
  refine DN.ret1 Tryz.results81 rfl ?_
  exact ⟨rfl, rfl⟩
theorem rone_tells (f : Fld) (vt : Value) (H : List Ck) (hvt : Bs vt f.text H) (hl : f.text.length ≤ 1000000) (hs : f.size ≤ 8) : Tells Tryz.prog 77 [.agg (fdc f vt).toArray] H fun r H' => ∃ w A, r = .tuple #[w, .int .i64 (oneF f).2] ∧ Ob 5 w (oneF f).1 A ∧ H' = A ++ H := by
 refine Tells.enter Tryz.func77 rfl Tryz.ntmps77 rfl ?_
 intro w0 R
 obtain ⟨to_, tc, rfl, htc⟩ := hvt.form
 refine sr_ ?_
 refine WL.h rfl (Hd.boxA rfl fun b1 => ⟨_, rfl, ?_⟩)
 refine a_ rfl rfl ?_
 refine a_ rfl rfl ?_
 refine nt_ ?_
 refine WC.seq ?_
 refine sr_ ?_
 refine f_ 0 kr_ rfl rfl ?_
 refine d_ kr_ rfl mem_ (by rfl) rfl ?_
 refine nt_ ?_
 refine WC.block ?_
 refine sr_ ?_
 refine WL.y rfl (Yd.eql rfl rfl) ?_
 refine a_ rfl rfl ?_
 refine nt_ ?_
 refine WC.ite rfl (fun h7 => ?_) (fun h7 => ?_)
 ·have hs0 : f.size = 0 := by omega
  refine WC.seq ?_
  refine sr_ ?_
  refine f_ 1 kr_ rfl rfl ?_
  refine d_ kr_ rfl mem_ (by rfl) rfl ?_
  refine WL.y rfl (Yd.neq64 _ (0#64) rfl rfl rfl rfl) ?_
  refine nt_ ?_
  refine WC.ite rfl (fun h11 => ?_) (fun h11 => ?_)
  ·refine sr_ ?_
   refine a_ rfl rfl ?_
   refine a_ rfl rfl ?_
   refine nt_ ?_
   refine WC.ret ?_
   refine DN.then_ret ?_
   refine DN.block_ret ?_
   refine DN.then_ret ?_
   first | refine DN.fit (C := C1 ++ H) sp_ ?_ | refine DN.fit (C := H) sp_ ?_
   refine DN.ret2 Tryz.results77 rfl rfl ?_
   first
   | (rw [oneF_0a hs0 h11]; exact ⟨_, [], rfl, Ob.nil _, rfl⟩)
   | (rw [oneF_0b hs0 h11 (by omega)]; exact ⟨_, [], rfl, Ob.nil _, rfl⟩)
   | (rw [oneF_0c hs0 h11 (by omega)]; exact ⟨_, C1, rfl, ho1, rfl⟩)
   | (rw [oneF_1b hs0 (of_decide_eq_true (hz25.symm.trans h25)) (one_ok hg33 h42)]; exact ⟨_, C1, rfl, hC1, rfl⟩)
   | (rw [oneF_1a hs0 (of_decide_eq_true (hz25.symm.trans h25)) (.inl (by omega))]; exact ⟨_, [], rfl, Ob.nil _, rfl⟩)
   | (rw [oneF_1a hs0 (of_decide_eq_true (hz25.symm.trans h25)) (.inr (Int.ofNat_le.1 h42))]; exact ⟨_, [], rfl, Ob.nil _, rfl⟩)
   | (rw [oneF_8a hs0 (of_decide_eq_false (hz25.symm.trans h25)) hs8 (by omega)]; exact ⟨_, [], rfl, Ob.nil _, rfl⟩)
   | (rw [oneF_8b hs0 (of_decide_eq_false (hz25.symm.trans h25)) hs8 (by omega)]; exact ⟨_, C1, rfl, hC1, rfl⟩)
   | (rw [oneF_no hs0 (of_decide_eq_false (hz25.symm.trans h25)) hs8]; exact ⟨_, [], rfl, Ob.nil _, rfl⟩)
  ·refine WC.skip ?_
   refine ts_ ?_
   refine sr_ ?_
   refine f_ 2 kr_ rfl rfl ?_
   refine d_ kr_ rfl mem_ (by rfl) rfl ?_
   refine WL.y rfl (Yd.len (e := 5) kr_ rfl) ?_
   refine WL.y rfl (Yd.gtr rfl rfl) ?_
   refine nt_ ?_
   refine WC.ite rfl (fun h15 => ?_) (fun h15 => ?_)
   ·refine sr_ ?_
    refine a_ rfl rfl ?_
    refine a_ rfl rfl ?_
    refine nt_ ?_
    refine WC.ret ?_
    refine DN.then_ret ?_
    refine DN.block_ret ?_
    refine DN.then_ret ?_
    first | refine DN.fit (C := C1 ++ H) sp_ ?_ | refine DN.fit (C := H) sp_ ?_
    refine DN.ret2 Tryz.results77 rfl rfl ?_
    first
    | (rw [oneF_0a hs0 h11]; exact ⟨_, [], rfl, Ob.nil _, rfl⟩)
    | (rw [oneF_0b hs0 h11 (by omega)]; exact ⟨_, [], rfl, Ob.nil _, rfl⟩)
    | (rw [oneF_0c hs0 h11 (by omega)]; exact ⟨_, C1, rfl, ho1, rfl⟩)
    | (rw [oneF_1b hs0 (of_decide_eq_true (hz25.symm.trans h25)) (one_ok hg33 h42)]; exact ⟨_, C1, rfl, hC1, rfl⟩)
    | (rw [oneF_1a hs0 (of_decide_eq_true (hz25.symm.trans h25)) (.inl (by omega))]; exact ⟨_, [], rfl, Ob.nil _, rfl⟩)
    | (rw [oneF_1a hs0 (of_decide_eq_true (hz25.symm.trans h25)) (.inr (Int.ofNat_le.1 h42))]; exact ⟨_, [], rfl, Ob.nil _, rfl⟩)
    | (rw [oneF_8a hs0 (of_decide_eq_false (hz25.symm.trans h25)) hs8 (by omega)]; exact ⟨_, [], rfl, Ob.nil _, rfl⟩)
    | (rw [oneF_8b hs0 (of_decide_eq_false (hz25.symm.trans h25)) hs8 (by omega)]; exact ⟨_, C1, rfl, hC1, rfl⟩)
    | (rw [oneF_no hs0 (of_decide_eq_false (hz25.symm.trans h25)) hs8]; exact ⟨_, [], rfl, Ob.nil _, rfl⟩)
   ·refine WC.skip ?_
    refine ts_ ?_
    refine WC.region ?_
    refine f_ 2 kr_ rfl rfl ?_
    refine d_ kr_ rfl mem_ (by rfl) rfl ?_
    refine WL.y rfl (Yd.len (e := 5) kr_ rfl) ?_
    refine WL.y rfl (Yd.to8 _ kr_ kr_ rfl rfl) ?_
    refine WL.h rfl (Hd.build1 (e := 5) (z := .int .u8 0) kr_ kr_ kr_ rfl rfl fun b20 => ⟨_, rfl, ?_⟩)
    refine a_ rfl rfl ?_
    refine ntsr_ ?_
    refine m_ rfl rfl ?_
    refine f_ 2 kr_ rfl rfl ?_
    refine d_ kr_ rfl mem_ (by rfl) rfl ?_
    refine WL.h rfl (Hd.appendBs (e := 5) (zs := [.int .u8 0]) kr_ kr_ rfl rfl rfl (Ob.block (T := 5) b20 [BitVec.ofInt 8 (f.text.length : Int)] (by simp only [maxLen, List.length_cons, List.length_nil]; omega)) sp_ (hvt.mono gr_) (by simp only [List.length_cons, List.length_nil]; omega) fun v1 C1 ho1 => ⟨_, rfl, ?_⟩)
    refine a_ rfl rfl ?_
    refine a_ rfl rfl ?_
    refine nt_ ?_
    refine WC.ret ?_
    refine DN.block_ret ?_
    refine DN.then_ret ?_
    first | refine DN.fit (C := C1 ++ H) sp_ ?_ | refine DN.fit (C := H) sp_ ?_
    refine DN.ret2 Tryz.results77 rfl rfl ?_
    first
    | (rw [oneF_0a hs0 h11]; exact ⟨_, [], rfl, Ob.nil _, rfl⟩)
    | (rw [oneF_0b hs0 h11 (by omega)]; exact ⟨_, [], rfl, Ob.nil _, rfl⟩)
    | (rw [oneF_0c hs0 h11 (by omega)]; exact ⟨_, C1, rfl, ho1, rfl⟩)
    | (rw [oneF_1b hs0 (of_decide_eq_true (hz25.symm.trans h25)) (one_ok hg33 h42)]; exact ⟨_, C1, rfl, hC1, rfl⟩)
    | (rw [oneF_1a hs0 (of_decide_eq_true (hz25.symm.trans h25)) (.inl (by omega))]; exact ⟨_, [], rfl, Ob.nil _, rfl⟩)
    | (rw [oneF_1a hs0 (of_decide_eq_true (hz25.symm.trans h25)) (.inr (Int.ofNat_le.1 h42))]; exact ⟨_, [], rfl, Ob.nil _, rfl⟩)
    | (rw [oneF_8a hs0 (of_decide_eq_false (hz25.symm.trans h25)) hs8 (by omega)]; exact ⟨_, [], rfl, Ob.nil _, rfl⟩)
    | (rw [oneF_8b hs0 (of_decide_eq_false (hz25.symm.trans h25)) hs8 (by omega)]; exact ⟨_, C1, rfl, hC1, rfl⟩)
    | (rw [oneF_no hs0 (of_decide_eq_false (hz25.symm.trans h25)) hs8]; exact ⟨_, [], rfl, Ob.nil _, rfl⟩)
 ·have hs0 : ¬ f.size = 0 := by omega
  refine WC.cutK (fun z : Bool => z = decide (f.size = 1 ∨ f.size = 2 ∨ f.size = 4)) (fun z : Bool => [(25, .bool z)]) (fun z : Bool => row b1 (fdc f (.slice to_ f.text.length tc)) 98 :: H) ?_ ?_
  ·refine sr_ ?_
   refine WL.y rfl (Yd.eql rfl rfl) ?_
   refine a_ rfl rfl ?_
   refine nt_ ?_
   first | refine WC.ite rfl (fun h25 => ?_) (fun h25 => ?_) | refine WC.cond rfl (fun h25 => ?_) (fun h25 => ?_)
   ·refine WC.skip ?_
    exact DN.reachK (_) (by rw [Bool.eq_iff_iff]; simp only [decide_eq_true_eq, eq_self, true_iff, Bool.false_eq_true, false_iff]; omega) (Sx.put rfl (sx_)) (Sp.all sp_)
   ·refine sr_ ?_
    skip
    refine WL.y rfl (Yd.eql rfl rfl) ?_
    refine a_ rfl rfl ?_
    refine nt_ ?_
    first | refine WC.ite rfl (fun h25 => ?_) (fun h25 => ?_) | refine WC.cond rfl (fun h25 => ?_) (fun h25 => ?_)
    ·refine WC.skip ?_
     exact DN.reachK (_) (by rw [Bool.eq_iff_iff]; simp only [decide_eq_true_eq, eq_self, true_iff, Bool.false_eq_true, false_iff]; omega) (Sx.put rfl (sx_)) (Sp.all sp_)
    ·refine WC.region ?_
     refine WL.y rfl (Yd.eql rfl rfl) ?_
     refine a_ rfl rfl ?_
     refine WL.nil ?_
     exact DN.reachK (_) (by rw [Bool.eq_iff_iff]; simp only [decide_eq_true_eq, eq_self, true_iff, Bool.false_eq_true, false_iff]; omega) (Sx.put rfl (sx_)) (Sp.all sp_)
  ·intro z25 hz25
   first | refine WC.ite rfl (fun h25 => ?_) (fun h25 => ?_) | refine WC.cond rfl (fun h25 => ?_) (fun h25 => ?_)
   ·refine WC.seq ?_
    refine sr_ ?_
    refine f_ 2 kr_ rfl rfl ?_
    refine d_ kr_ rfl mem_ (by rfl) rfl ?_
    refine WL.y rfl (Yd.len (e := 5) kr_ rfl) ?_
    refine WL.y rfl (Yd.neq rfl rfl) ?_
    refine m_ rfl rfl ?_
    refine WL.partP (t := 33) rfl (fun hg33 => ?_) (fun hg33 => ?_)
    ·iterate 8 refine gn_ 33 rfl rfl rfl rfl ?_
     refine WL.y rfl (Yd.pickT rfl rfl) ?_
     refine nt_ ?_
     refine WC.yes rfl ?_
     refine sr_ ?_
     refine a_ rfl rfl ?_
     refine a_ rfl rfl ?_
     refine nt_ ?_
     refine WC.ret ?_
     refine DN.then_ret ?_
     refine DN.block_ret ?_
     refine DN.then_ret ?_
     first | refine DN.fit (C := C1 ++ H) sp_ ?_ | refine DN.fit (C := H) sp_ ?_
     refine DN.ret2 Tryz.results77 rfl rfl ?_
     first
     | (rw [oneF_0a hs0 h11]; exact ⟨_, [], rfl, Ob.nil _, rfl⟩)
     | (rw [oneF_0b hs0 h11 (by omega)]; exact ⟨_, [], rfl, Ob.nil _, rfl⟩)
     | (rw [oneF_0c hs0 h11 (by omega)]; exact ⟨_, C1, rfl, ho1, rfl⟩)
     | (rw [oneF_1b hs0 (of_decide_eq_true (hz25.symm.trans h25)) (one_ok hg33 h42)]; exact ⟨_, C1, rfl, hC1, rfl⟩)
     | (rw [oneF_1a hs0 (of_decide_eq_true (hz25.symm.trans h25)) (.inl (by omega))]; exact ⟨_, [], rfl, Ob.nil _, rfl⟩)
     | (rw [oneF_1a hs0 (of_decide_eq_true (hz25.symm.trans h25)) (.inr (Int.ofNat_le.1 h42))]; exact ⟨_, [], rfl, Ob.nil _, rfl⟩)
     | (rw [oneF_8a hs0 (of_decide_eq_false (hz25.symm.trans h25)) hs8 (by omega)]; exact ⟨_, [], rfl, Ob.nil _, rfl⟩)
     | (rw [oneF_8b hs0 (of_decide_eq_false (hz25.symm.trans h25)) hs8 (by omega)]; exact ⟨_, C1, rfl, hC1, rfl⟩)
     | (rw [oneF_no hs0 (of_decide_eq_false (hz25.symm.trans h25)) hs8]; exact ⟨_, [], rfl, Ob.nil _, rfl⟩)
    ·refine gy_ 33 rfl rfl rfl (Yd.fieldAddr (k := 1) kr_ rfl) ?_
     refine WL.gh (dj := 33) rfl rfl rfl (Hd.load1 kr_ rfl mem_ (by rfl) ⟨_, rfl, ?_⟩)
     refine gy_ 33 rfl rfl rfl (Yd.fieldAddr (k := 0) kr_ rfl) ?_
     refine WL.gh (dj := 33) rfl rfl rfl (Hd.load1 kr_ rfl mem_ (by rfl) ⟨_, rfl, ?_⟩)
     refine gy_ 33 rfl rfl rfl (Yd.mul rfl rfl (by omega) (by omega)) ?_
     refine gy_ 33 rfl rfl rfl (Yd.to64 _ kr_ kr_ rfl rfl) ?_
     refine gy_ 33 rfl rfl rfl (Yd.shl64 (1#64) _ rfl rfl rfl rfl) ?_
     refine gy_ 33 rfl rfl rfl (Yd.geq rfl rfl) ?_
     refine WL.y rfl (Yd.pickF rfl rfl) ?_
     refine nt_ ?_
     refine WC.ite rfl (fun h42 => ?_) (fun h42 => ?_)
     ·refine sr_ ?_
      refine a_ rfl rfl ?_
      refine a_ rfl rfl ?_
      refine nt_ ?_
      refine WC.ret ?_
      refine DN.then_ret ?_
      refine DN.block_ret ?_
      refine DN.then_ret ?_
      first | refine DN.fit (C := C1 ++ H) sp_ ?_ | refine DN.fit (C := H) sp_ ?_
      refine DN.ret2 Tryz.results77 rfl rfl ?_
      first
      | (rw [oneF_0a hs0 h11]; exact ⟨_, [], rfl, Ob.nil _, rfl⟩)
      | (rw [oneF_0b hs0 h11 (by omega)]; exact ⟨_, [], rfl, Ob.nil _, rfl⟩)
      | (rw [oneF_0c hs0 h11 (by omega)]; exact ⟨_, C1, rfl, ho1, rfl⟩)
      | (rw [oneF_1b hs0 (of_decide_eq_true (hz25.symm.trans h25)) (one_ok hg33 h42)]; exact ⟨_, C1, rfl, hC1, rfl⟩)
      | (rw [oneF_1a hs0 (of_decide_eq_true (hz25.symm.trans h25)) (.inl (by omega))]; exact ⟨_, [], rfl, Ob.nil _, rfl⟩)
      | (rw [oneF_1a hs0 (of_decide_eq_true (hz25.symm.trans h25)) (.inr (Int.ofNat_le.1 h42))]; exact ⟨_, [], rfl, Ob.nil _, rfl⟩)
      | (rw [oneF_8a hs0 (of_decide_eq_false (hz25.symm.trans h25)) hs8 (by omega)]; exact ⟨_, [], rfl, Ob.nil _, rfl⟩)
      | (rw [oneF_8b hs0 (of_decide_eq_false (hz25.symm.trans h25)) hs8 (by omega)]; exact ⟨_, C1, rfl, hC1, rfl⟩)
      | (rw [oneF_no hs0 (of_decide_eq_false (hz25.symm.trans h25)) hs8]; exact ⟨_, [], rfl, Ob.nil _, rfl⟩)
     ·refine WC.skip ?_
      refine ts_ ?_
      refine WC.region ?_
      refine f_ 1 kr_ rfl rfl ?_
      refine d_ kr_ rfl mem_ (by rfl) rfl ?_
      refine f_ 0 kr_ rfl rfl ?_
      refine d_ kr_ rfl mem_ (by rfl) rfl ?_
      refine WL.c rfl (Ent.func Tryz.call116 rfl) (rnum_tells f.n f.size hs H) (Sp.p sp_) ?_
      rintro x1 H1 ⟨C1, hC1, rfl⟩
      refine a_ rfl rfl ?_
      refine a_ rfl rfl ?_
      refine nt_ ?_
      refine WC.ret ?_
      refine DN.block_ret ?_
      refine DN.then_ret ?_
      first | refine DN.fit (C := C1 ++ H) sp_ ?_ | refine DN.fit (C := H) sp_ ?_
      refine DN.ret2 Tryz.results77 rfl rfl ?_
      first
      | (rw [oneF_0a hs0 h11]; exact ⟨_, [], rfl, Ob.nil _, rfl⟩)
      | (rw [oneF_0b hs0 h11 (by omega)]; exact ⟨_, [], rfl, Ob.nil _, rfl⟩)
      | (rw [oneF_0c hs0 h11 (by omega)]; exact ⟨_, C1, rfl, ho1, rfl⟩)
      | (rw [oneF_1b hs0 (of_decide_eq_true (hz25.symm.trans h25)) (one_ok hg33 h42)]; exact ⟨_, C1, rfl, hC1, rfl⟩)
      | (rw [oneF_1a hs0 (of_decide_eq_true (hz25.symm.trans h25)) (.inl (by omega))]; exact ⟨_, [], rfl, Ob.nil _, rfl⟩)
      | (rw [oneF_1a hs0 (of_decide_eq_true (hz25.symm.trans h25)) (.inr (Int.ofNat_le.1 h42))]; exact ⟨_, [], rfl, Ob.nil _, rfl⟩)
      | (rw [oneF_8a hs0 (of_decide_eq_false (hz25.symm.trans h25)) hs8 (by omega)]; exact ⟨_, [], rfl, Ob.nil _, rfl⟩)
      | (rw [oneF_8b hs0 (of_decide_eq_false (hz25.symm.trans h25)) hs8 (by omega)]; exact ⟨_, C1, rfl, hC1, rfl⟩)
      | (rw [oneF_no hs0 (of_decide_eq_false (hz25.symm.trans h25)) hs8]; exact ⟨_, [], rfl, Ob.nil _, rfl⟩)
   ·refine sr_ ?_
    refine WL.y rfl (Yd.eql rfl rfl) ?_
    refine a_ rfl rfl ?_
    refine nt_ ?_
    refine WC.ite rfl (fun h48 => ?_) (fun h48 => ?_)
    ·have hs8 : f.size = 8 := by omega
     refine WC.seq ?_
     refine sr_ ?_
     refine f_ 2 kr_ rfl rfl ?_
     refine d_ kr_ rfl mem_ (by rfl) rfl ?_
     refine WL.y rfl (Yd.len (e := 5) kr_ rfl) ?_
     refine WL.y rfl (Yd.neq rfl rfl) ?_
     refine nt_ ?_
     refine WC.ite rfl (fun h53 => ?_) (fun h53 => ?_)
     ·refine sr_ ?_
      refine a_ rfl rfl ?_
      refine a_ rfl rfl ?_
      refine nt_ ?_
      refine WC.ret ?_
      refine DN.then_ret ?_
      refine DN.block_ret ?_
      refine DN.then_ret ?_
      first | refine DN.fit (C := C1 ++ H) sp_ ?_ | refine DN.fit (C := H) sp_ ?_
      refine DN.ret2 Tryz.results77 rfl rfl ?_
      first
      | (rw [oneF_0a hs0 h11]; exact ⟨_, [], rfl, Ob.nil _, rfl⟩)
      | (rw [oneF_0b hs0 h11 (by omega)]; exact ⟨_, [], rfl, Ob.nil _, rfl⟩)
      | (rw [oneF_0c hs0 h11 (by omega)]; exact ⟨_, C1, rfl, ho1, rfl⟩)
      | (rw [oneF_1b hs0 (of_decide_eq_true (hz25.symm.trans h25)) (one_ok hg33 h42)]; exact ⟨_, C1, rfl, hC1, rfl⟩)
      | (rw [oneF_1a hs0 (of_decide_eq_true (hz25.symm.trans h25)) (.inl (by omega))]; exact ⟨_, [], rfl, Ob.nil _, rfl⟩)
      | (rw [oneF_1a hs0 (of_decide_eq_true (hz25.symm.trans h25)) (.inr (Int.ofNat_le.1 h42))]; exact ⟨_, [], rfl, Ob.nil _, rfl⟩)
      | (rw [oneF_8a hs0 (of_decide_eq_false (hz25.symm.trans h25)) hs8 (by omega)]; exact ⟨_, [], rfl, Ob.nil _, rfl⟩)
      | (rw [oneF_8b hs0 (of_decide_eq_false (hz25.symm.trans h25)) hs8 (by omega)]; exact ⟨_, C1, rfl, hC1, rfl⟩)
      | (rw [oneF_no hs0 (of_decide_eq_false (hz25.symm.trans h25)) hs8]; exact ⟨_, [], rfl, Ob.nil _, rfl⟩)
     ·refine WC.skip ?_
      refine ts_ ?_
      refine WC.region ?_
      refine f_ 1 kr_ rfl rfl ?_
      refine d_ kr_ rfl mem_ (by rfl) rfl ?_
      refine WL.c rfl (Ent.func Tryz.call116 rfl) (rnum_tells f.n 8 (by omega) H) (Sp.p sp_) ?_
      rintro x1 H1 ⟨C1, hC1, rfl⟩
      refine a_ rfl rfl ?_
      refine a_ rfl rfl ?_
      refine nt_ ?_
      refine WC.ret ?_
      refine DN.block_ret ?_
      refine DN.then_ret ?_
      first | refine DN.fit (C := C1 ++ H) sp_ ?_ | refine DN.fit (C := H) sp_ ?_
      refine DN.ret2 Tryz.results77 rfl rfl ?_
      first
      | (rw [oneF_0a hs0 h11]; exact ⟨_, [], rfl, Ob.nil _, rfl⟩)
      | (rw [oneF_0b hs0 h11 (by omega)]; exact ⟨_, [], rfl, Ob.nil _, rfl⟩)
      | (rw [oneF_0c hs0 h11 (by omega)]; exact ⟨_, C1, rfl, ho1, rfl⟩)
      | (rw [oneF_1b hs0 (of_decide_eq_true (hz25.symm.trans h25)) (one_ok hg33 h42)]; exact ⟨_, C1, rfl, hC1, rfl⟩)
      | (rw [oneF_1a hs0 (of_decide_eq_true (hz25.symm.trans h25)) (.inl (by omega))]; exact ⟨_, [], rfl, Ob.nil _, rfl⟩)
      | (rw [oneF_1a hs0 (of_decide_eq_true (hz25.symm.trans h25)) (.inr (Int.ofNat_le.1 h42))]; exact ⟨_, [], rfl, Ob.nil _, rfl⟩)
      | (rw [oneF_8a hs0 (of_decide_eq_false (hz25.symm.trans h25)) hs8 (by omega)]; exact ⟨_, [], rfl, Ob.nil _, rfl⟩)
      | (rw [oneF_8b hs0 (of_decide_eq_false (hz25.symm.trans h25)) hs8 (by omega)]; exact ⟨_, C1, rfl, hC1, rfl⟩)
      | (rw [oneF_no hs0 (of_decide_eq_false (hz25.symm.trans h25)) hs8]; exact ⟨_, [], rfl, Ob.nil _, rfl⟩)
    ·have hs8 : ¬ f.size = 8 := by omega
     refine WC.skip ?_
     refine DN.block_normal ?_
     refine ts_ ?_
     refine WC.region ?_
     refine a_ rfl rfl ?_
     refine a_ rfl rfl ?_
     refine nt_ ?_
     refine WC.ret ?_
     first | refine DN.fit (C := C1 ++ H) sp_ ?_ | refine DN.fit (C := H) sp_ ?_
     refine DN.ret2 Tryz.results77 rfl rfl ?_
     first
     | (rw [oneF_0a hs0 h11]; exact ⟨_, [], rfl, Ob.nil _, rfl⟩)
     | (rw [oneF_0b hs0 h11 (by omega)]; exact ⟨_, [], rfl, Ob.nil _, rfl⟩)
     | (rw [oneF_0c hs0 h11 (by omega)]; exact ⟨_, C1, rfl, ho1, rfl⟩)
     | (rw [oneF_1b hs0 (of_decide_eq_true (hz25.symm.trans h25)) (one_ok hg33 h42)]; exact ⟨_, C1, rfl, hC1, rfl⟩)
     | (rw [oneF_1a hs0 (of_decide_eq_true (hz25.symm.trans h25)) (.inl (by omega))]; exact ⟨_, [], rfl, Ob.nil _, rfl⟩)
     | (rw [oneF_1a hs0 (of_decide_eq_true (hz25.symm.trans h25)) (.inr (Int.ofNat_le.1 h42))]; exact ⟨_, [], rfl, Ob.nil _, rfl⟩)
     | (rw [oneF_8a hs0 (of_decide_eq_false (hz25.symm.trans h25)) hs8 (by omega)]; exact ⟨_, [], rfl, Ob.nil _, rfl⟩)
     | (rw [oneF_8b hs0 (of_decide_eq_false (hz25.symm.trans h25)) hs8 (by omega)]; exact ⟨_, C1, rfl, hC1, rfl⟩)
     | (rw [oneF_no hs0 (of_decide_eq_false (hz25.symm.trans h25)) hs8]; exact ⟨_, [], rfl, Ob.nil _, rfl⟩)
theorem rput_tells (v : Value) (cs : List Value) (fs : List Fld) (H : List Ck) (hr : Rs v fs.length cs H) (hk : FVs H cs fs) (hl : fs.length ≤ 3000) (hb : ∀ f ∈ fs, f.text.length ≤ 1000000 ∧ f.size ≤ 8) : Tells Tryz.prog 46 [v] H fun r H' => ∃ w A, r = .tuple #[w, .int .i64 (putL fs []).2] ∧ Ob 5 w (putL fs []).1 A ∧ H' = A ++ H := by
 refine Tells.enter Tryz.func46 rfl Tryz.ntmps46 rfl ?_
 intro w0 R
 obtain ⟨ao, c, rfl, hc⟩ := hr.form
 have hcl := hk.len
 refine sr_ ?_
 refine a_ rfl rfl ?_
 refine a_ rfl rfl ?_
 refine ntsr_ ?_
 refine a_ rfl rfl ?_
 refine nt_ ?_
 refine WC.seq ?_
 refine sr_ ?_
 refine a_ rfl rfl ?_
 refine nt_ ?_
 refine WC.block ?_
 refine WC.loopS (fun z : Nat × List (BitVec 8) × Value × List Ck => z.1 ≤ fs.length ∧ z.2.1.length ≤ z.1 * 256 ∧ putL fs [] = putL (fs.drop z.1) z.2.1 ∧ Ob 5 z.2.2.1 z.2.1 z.2.2.2) (fun z : Nat × List (BitVec 8) × Value × List Ck => [(4, z.2.2.1), (5, .int .i64 (z.1 : Int))]) (fun z : Nat × List (BitVec 8) × Value × List Ck => z.2.2.2 ++ H) (fun z : Nat × List (BitVec 8) × Value × List Ck => fs.length - z.1) (⟨0, [], .slice none 0 0, []⟩) (show 0 ≤ fs.length ∧ [].length ≤ 0 * 256 ∧ putL fs [] = putL (fs.drop 0) [] ∧ Ob 5 (.slice none 0 0) [] [] from ⟨Nat.zero_le _, Nat.le_refl _, rfl, Ob.nil _⟩) (Sx.put rfl (Sx.put rfl (sx_))) sp_ ?_
 rintro ⟨i, o, w, A⟩ hI
 replace hI : i ≤ fs.length ∧ o.length ≤ i * 256 ∧ putL fs [] = putL (fs.drop i) o ∧ Ob 5 w o A := hI
 obtain ⟨hi, hol, hput, hA⟩ := hI
 change WC _ _ _ _ _ _ ([(4, w), (5, .int .i64 (i : Int))] ++ _) (A ++ H)
 refine WC.seq ?_
 refine sr_ ?_
 refine m_ rfl rfl ?_
 refine m_ rfl rfl ?_
 refine WL.y rfl (Yd.len (e := 98) kr_ rfl) ?_
 refine WL.y rfl (Yd.lss rfl rfl) ?_
 refine nt_ ?_
 refine WC.ite rfl (fun h11 => ?_) (fun h11 => ?_)
 ·have hlt : i < fs.length := by omega
  obtain ⟨vt, hg, hvt⟩ := hk.at i hlt
  have hcons := List.drop_eq_getElem_cons hlt
  have hbi := hb _ (List.getElem_mem hlt)
  have hol1 := oneF_len fs[i]
  refine WC.skip ?_
  refine ts_ ?_
  refine WC.block ?_
  refine sr_ ?_
  refine m_ rfl rfl ?_
  refine m_ rfl rfl ?_
  refine WL.elemA (e := 98) (s := 3) kr_ kr_ kr_ rfl rfl (rfl) (hr.mono gr_) (hg) (by rfl) (by omega) (hlt) rfl rfl ?_
  intro p17
  refine WL.c rfl (Ent.func Tryz.call77 rfl) (rone_tells fs[i] vt H hvt hbi.1 hbi.2) (Sp.p sp_) ?_
  rintro x1 H1 ⟨w1, A1, rfl, hA1, rfl⟩
  refine m_ rfl rfl ?_
  refine x_ rfl rfl rfl ?_
  refine x_ rfl rfl rfl ?_
  refine a_ rfl rfl ?_
  refine a_ rfl rfl ?_
  refine nt_ ?_
  refine WC.seq ?_
  refine sr_ ?_
  refine m_ rfl rfl ?_
  refine WL.y rfl (Yd.neq rfl rfl) ?_
  refine nt_ ?_
  refine WC.ite rfl (fun h23 => ?_) (fun h23 => ?_)
  ·refine sr_ ?_
   refine m_ rfl rfl ?_
   refine a_ rfl rfl ?_
   refine a_ rfl rfl ?_
   refine nt_ ?_
   refine WC.ret ?_
   refine DN.then_ret ?_
   refine DN.block_ret ?_
   refine DN.then_ret ?_
   refine DN.then_ret ?_
   refine DN.block_ret ?_
   refine DN.then_ret ?_
   refine DN.fit (C := H) sp_ ?_
   refine DN.ret2 Tryz.results46 rfl rfl ?_
   rw [hput, hcons, putL_err h23]
   exact ⟨_, [], rfl, Ob.nil _, rfl⟩
  ·refine WC.skip ?_
   refine DN.then_normal ?_
   refine WC.region ?_
   refine m_ rfl rfl ?_
   refine m_ rfl rfl ?_
   refine WL.h rfl (Hd.appendBs (e := 5) (zs := [.int .u8 0]) kr_ kr_ rfl rfl rfl hA sp_ (hA1.bs.mono gr_) (by omega) fun v2 C2 ho2 => ⟨_, rfl, ?_⟩)
   refine a_ rfl rfl ?_
   refine WL.nil ?_
   refine DN.block_normal ?_
   refine DN.then_normal ?_
   refine WC.region ?_
   refine m_ rfl rfl ?_
   refine WL.y rfl (Yd.add rfl rfl (by omega) (by omega)) ?_
   refine a_ rfl rfl ?_
   refine WL.nil ?_
   exact DN.againS (⟨i + 1, o ++ (oneF fs[i]).1, v2, C2⟩) (show (i + 1) ≤ fs.length ∧ (o ++ (oneF fs[i]).1).length ≤ (i + 1) * 256 ∧ putL fs [] = putL (fs.drop (i + 1)) (o ++ (oneF fs[i]).1) ∧ Ob 5 v2 (o ++ (oneF fs[i]).1) C2 from ⟨by omega, by rw [List.length_append]; omega, by rw [hput, hcons, putL_ok h23], ho2⟩) (show fs.length - (i + 1) < fs.length - i by omega) (Sx.put rfl (Sx.put rfl (sx_))) sp_
 ·obtain rfl : fs.length = i := by omega
  rw [List.drop_length] at hput
  refine WC.exit ?_
  refine DN.then_exit ?_
  refine DN.then_exit ?_
  refine DN.block_exit ?_
  refine ts_ ?_
  refine WC.region ?_
  refine m_ rfl rfl ?_
  refine a_ rfl rfl ?_
  refine a_ rfl rfl ?_
  refine nt_ ?_
  refine WC.ret ?_
  refine DN.fit (C := A ++ H) sp_ ?_
  refine DN.ret2 Tryz.results46 rfl rfl ?_
  rw [hput]
  exact ⟨_, A, rfl, hA, rfl⟩
theorem rtake_tells (p : Nat) (v : Value) (b : List (BitVec 8)) (a : Nat) (sh : Bool) (H : List Ck) (hv : Bs v b H) (hl : b.length ≤ 1000000) (ha : a ≤ b.length) (k : Nat) (hk : k ≤ 1000) : Tells Tryz.prog 80 [.pointer (some ⟨p, 0, none⟩), .int .i64 k] (row p [v, .int .i64 (a : Nat), .bool sh] 107 :: H) fun r H' => ∃ w A a', r = .tuple #[w, .bool (!(rdShort (b.drop a) sh k))] ∧ Ob 5 w (rdGot (b.drop a) sh k) A ∧ a' ≤ b.length ∧ b.drop a' = rdRest (b.drop a) sh k ∧ H' = A ++ (row p [v, .int .i64 (a' : Nat), .bool (rdShort (b.drop a) sh k)] 107 :: H) := by
 refine Tells.enter Tryz.func80 rfl Tryz.ntmps80 rfl ?_
 intro w0 R
 obtain ⟨bo, bc_, rfl, hbc⟩ := hv.form
 have hdl : (b.drop a).length = b.length - a := List.length_drop
 refine sr_ ?_
 refine a_ rfl rfl ?_
 refine a_ rfl rfl ?_
 refine nt_ ?_
 refine WC.seq ?_
 refine WC.cutK (fun z : Bool => z = rdShort (b.drop a) sh k) (fun z : Bool => [(24, .bool z)]) (fun z : Bool => row p [.slice bo b.length bc_, .int .i64 (a : Nat), .bool sh] 107 :: H) ?_ ?_
 ·refine WC.draw 18 kr_ rfl ?_
  refine WA.float (N := 18) rfl ?_
  refine WAF.add (i := 0) (d := 7) rfl (QF.mk [] [] rfl rfl kr_ rfl (QAt.y Wt.none (Yd.move rfl))) ?_
  refine WAF.add (i := 1) (d := 8) rfl (QF.mk [0] [(7, _)] rfl rfl kr_ rfl (QAt.y Wt.none (Yd.notNil rfl))) ?_
  refine WAF.add (i := 2) (d := 9) rfl (QF.mk [1] [(8, _)] rfl rfl kr_ rfl (QAt.y Wt.none (Yd.fieldAddr (k := 2) kr_ rfl))) ?_
  refine WAF.add (i := 3) (d := 10) rfl (QF.mk [2] [(9, _)] rfl rfl kr_ rfl (QAt.rd Wt.none (Rd.load1 kr_ rfl mem_ (by rfl)))) ?_
  refine WAF.add (i := 4) (d := 11) rfl (QF.mk [3] [(10, _)] rfl rfl kr_ rfl (QAt.y Wt.none (Yd.move rfl))) ?_
  refine WAF.part (fun hg11 => ?_) (fun hg11 => ?_)
  ·refine WAF.add (i := 5) (d := 12) rfl (QF.mk [4] [(11, _)] rfl rfl kr_ rfl (QAt.gn rfl rfl rfl)) ?_
   refine WAF.add (i := 6) (d := 13) rfl (QF.mk [5, 4] [(12, _), (11, _)] rfl rfl kr_ rfl (QAt.gn rfl rfl rfl)) ?_
   refine WAF.add (i := 7) (d := 14) rfl (QF.mk [6, 4] [(13, _), (11, _)] rfl rfl kr_ rfl (QAt.gn rfl rfl rfl)) ?_
   refine WAF.add (i := 8) (d := 15) rfl (QF.mk [7, 4] [(14, _), (11, _)] rfl rfl kr_ rfl (QAt.gn rfl rfl rfl)) ?_
   refine WAF.add (i := 9) (d := 16) rfl (QF.mk [8, 4] [(15, _), (11, _)] rfl rfl kr_ rfl (QAt.gn rfl rfl rfl)) ?_
   refine WAF.add (i := 10) (d := 17) rfl (QF.mk [4] [(11, _)] rfl rfl kr_ rfl (QAt.gn rfl rfl rfl)) ?_
   refine WAF.add (i := 11) (d := 18) rfl (QF.mk [10, 4] [(17, _), (11, _)] rfl rfl kr_ rfl (QAt.gn rfl rfl rfl)) ?_
   refine WAF.add (i := 12) (d := 19) rfl (QF.mk [11, 4] [(18, _), (11, _)] rfl rfl kr_ rfl (QAt.gn rfl rfl rfl)) ?_
   refine WAF.add (i := 13) (d := 20) rfl (QF.mk [12, 4] [(19, _), (11, _)] rfl rfl kr_ rfl (QAt.gn rfl rfl rfl)) ?_
   refine WAF.add (i := 14) (d := 21) rfl (QF.mk [13, 9, 4] [(20, _), (16, _), (11, _)] rfl rfl kr_ rfl (QAt.gn rfl rfl rfl)) ?_
   refine WAF.add (i := 15) (d := 22) rfl (QF.mk [4] [(11, _)] rfl rfl kr_ rfl (QAt.gn rfl rfl rfl)) ?_
   refine WAF.add (i := 16) (d := 23) rfl (QF.mk [15, 14, 4] [(22, _), (21, _), (11, _)] rfl rfl kr_ rfl (QAt.gn rfl rfl rfl)) ?_
   refine WAF.add (i := 17) (d := 24) rfl (QF.mk [16, 4] [(23, _), (11, _)] rfl rfl kr_ rfl (QAt.y Wt.none (Yd.pickT rfl rfl))) ?_
   refine WAF.done (pd := [(17, 24), (16, 23), (15, 22), (14, 21), (13, 20), (12, 19), (11, 18), (10, 17), (9, 16), (8, 15), (7, 14), (6, 13), (5, 12), (4, 11), (3, 10), (2, 9), (1, 8), (0, 7)]) rfl kr_ kr_ (all_c rfl (all_c rfl (all_c rfl (all_c rfl (all_c rfl (all_c rfl (all_c rfl (all_c rfl (all_c rfl (all_c rfl (all_c rfl (all_c rfl (all_c rfl (all_c rfl (all_c rfl (all_c rfl (all_c rfl (all_c rfl (all_n))))))))))))))))))) (all_c (QF.mk [16, 4] [(23, _), (11, _)] rfl rfl kr_ rfl (QAt.y Wt.none (Yd.pickT rfl rfl))) (all_c (QF.mk [15, 14, 4] [(22, _), (21, _), (11, _)] rfl rfl kr_ rfl (QAt.gn rfl rfl rfl)) (all_c (QF.mk [4] [(11, _)] rfl rfl kr_ rfl (QAt.gn rfl rfl rfl)) (all_c (QF.mk [13, 9, 4] [(20, _), (16, _), (11, _)] rfl rfl kr_ rfl (QAt.gn rfl rfl rfl)) (all_c (QF.mk [12, 4] [(19, _), (11, _)] rfl rfl kr_ rfl (QAt.gn rfl rfl rfl)) (all_c (QF.mk [11, 4] [(18, _), (11, _)] rfl rfl kr_ rfl (QAt.gn rfl rfl rfl)) (all_c (QF.mk [10, 4] [(17, _), (11, _)] rfl rfl kr_ rfl (QAt.gn rfl rfl rfl)) (all_c (QF.mk [4] [(11, _)] rfl rfl kr_ rfl (QAt.gn rfl rfl rfl)) (all_c (QF.mk [8, 4] [(15, _), (11, _)] rfl rfl kr_ rfl (QAt.gn rfl rfl rfl)) (all_c (QF.mk [7, 4] [(14, _), (11, _)] rfl rfl kr_ rfl (QAt.gn rfl rfl rfl)) (all_c (QF.mk [6, 4] [(13, _), (11, _)] rfl rfl kr_ rfl (QAt.gn rfl rfl rfl)) (all_c (QF.mk [5, 4] [(12, _), (11, _)] rfl rfl kr_ rfl (QAt.gn rfl rfl rfl)) (all_c (QF.mk [4] [(11, _)] rfl rfl kr_ rfl (QAt.gn rfl rfl rfl)) (all_c (QF.ren (congrArg Value.bool hg11) (QF.mk [3] [(10, _)] rfl rfl kr_ rfl (QAt.y Wt.none (Yd.move rfl)))) (all_c (QF.mk [2] [(9, _)] rfl rfl kr_ rfl (QAt.rd Wt.none (Rd.load1 kr_ rfl mem_ (by rfl)))) (all_c (QF.mk [1] [(8, _)] rfl rfl kr_ rfl (QAt.y Wt.none (Yd.fieldAddr (k := 2) kr_ rfl))) (all_c (QF.mk [0] [(7, _)] rfl rfl kr_ rfl (QAt.y Wt.none (Yd.notNil rfl))) (all_c (QF.mk [] [] rfl rfl kr_ rfl (QAt.y Wt.none (Yd.move rfl))) (all_n))))))))))))))))))) ?_
   change DN _ _ _ _ _ _ ([(24, _), (23, _), (22, _), (21, _), (20, _), (19, _), (18, _), (17, _), (16, _), (15, _), (14, _), (13, _), (12, _), (11, _), (10, _), (9, _), (8, _), (7, _)] ++ _) _
   exact DN.reachK (_) (by unfold rdShort; rw [hg11]; rfl) (Sx.put rfl (sx_)) (Sp.all sp_)
  ·refine WAF.add (i := 5) (d := 12) rfl (QF.mk [4] [(11, _)] rfl rfl kr_ rfl (QAt.y (Wt.yes (dj := 11) rfl rfl) (Yd.move rfl))) ?_
   refine WAF.add (i := 6) (d := 13) rfl (QF.mk [5, 4] [(12, _), (11, _)] rfl rfl kr_ rfl (QAt.y (Wt.yes (dj := 11) rfl rfl) (Yd.notNil rfl))) ?_
   refine WAF.add (i := 7) (d := 14) rfl (QF.mk [6, 4] [(13, _), (11, _)] rfl rfl kr_ rfl (QAt.y (Wt.yes (dj := 11) rfl rfl) (Yd.fieldAddr (k := 0) kr_ rfl))) ?_
   refine WAF.add (i := 8) (d := 15) rfl (QF.mk [7, 4] [(14, _), (11, _)] rfl rfl kr_ rfl (QAt.rd (Wt.yes (dj := 11) rfl rfl) (Rd.load1 kr_ rfl mem_ (by rfl)))) ?_
   refine WAF.add (i := 9) (d := 16) rfl (QF.mk [8, 4] [(15, _), (11, _)] rfl rfl kr_ rfl (QAt.y (Wt.yes (dj := 11) rfl rfl) (Yd.len (e := 5) kr_ rfl))) ?_
   refine WAF.add (i := 10) (d := 17) rfl (QF.mk [4] [(11, _)] rfl rfl kr_ rfl (QAt.y (Wt.yes (dj := 11) rfl rfl) (Yd.move rfl))) ?_
   refine WAF.add (i := 11) (d := 18) rfl (QF.mk [10, 4] [(17, _), (11, _)] rfl rfl kr_ rfl (QAt.y (Wt.yes (dj := 11) rfl rfl) (Yd.notNil rfl))) ?_
   refine WAF.add (i := 12) (d := 19) rfl (QF.mk [11, 4] [(18, _), (11, _)] rfl rfl kr_ rfl (QAt.y (Wt.yes (dj := 11) rfl rfl) (Yd.fieldAddr (k := 1) kr_ rfl))) ?_
   refine WAF.add (i := 13) (d := 20) rfl (QF.mk [12, 4] [(19, _), (11, _)] rfl rfl kr_ rfl (QAt.rd (Wt.yes (dj := 11) rfl rfl) (Rd.load1 kr_ rfl mem_ (by rfl)))) ?_
   refine WAF.add (i := 14) (d := 21) rfl (QF.mk [13, 9, 4] [(20, _), (16, _), (11, _)] rfl rfl kr_ rfl (QAt.y (Wt.yes (dj := 11) rfl rfl) (Yd.sub rfl rfl (by omega) (by omega)))) ?_
   refine WAF.add (i := 15) (d := 22) rfl (QF.mk [4] [(11, _)] rfl rfl kr_ rfl (QAt.y (Wt.yes (dj := 11) rfl rfl) (Yd.move rfl))) ?_
   refine WAF.add (i := 16) (d := 23) rfl (QF.mk [15, 14, 4] [(22, _), (21, _), (11, _)] rfl rfl kr_ rfl (QAt.y (Wt.yes (dj := 11) rfl rfl) (Yd.lss rfl rfl))) ?_
   refine WAF.add (i := 17) (d := 24) rfl (QF.mk [16, 4] [(23, _), (11, _)] rfl rfl kr_ rfl (QAt.y Wt.none (Yd.pickF rfl rfl))) ?_
   refine WAF.done (pd := [(17, 24), (16, 23), (15, 22), (14, 21), (13, 20), (12, 19), (11, 18), (10, 17), (9, 16), (8, 15), (7, 14), (6, 13), (5, 12), (4, 11), (3, 10), (2, 9), (1, 8), (0, 7)]) rfl kr_ kr_ (all_c rfl (all_c rfl (all_c rfl (all_c rfl (all_c rfl (all_c rfl (all_c rfl (all_c rfl (all_c rfl (all_c rfl (all_c rfl (all_c rfl (all_c rfl (all_c rfl (all_c rfl (all_c rfl (all_c rfl (all_c rfl (all_n))))))))))))))))))) (all_c (QF.mk [16, 4] [(23, _), (11, _)] rfl rfl kr_ rfl (QAt.y Wt.none (Yd.pickF rfl rfl))) (all_c (QF.mk [15, 14, 4] [(22, _), (21, _), (11, _)] rfl rfl kr_ rfl (QAt.y (Wt.yes (dj := 11) rfl rfl) (Yd.lss rfl rfl))) (all_c (QF.mk [4] [(11, _)] rfl rfl kr_ rfl (QAt.y (Wt.yes (dj := 11) rfl rfl) (Yd.move rfl))) (all_c (QF.mk [13, 9, 4] [(20, _), (16, _), (11, _)] rfl rfl kr_ rfl (QAt.y (Wt.yes (dj := 11) rfl rfl) (Yd.sub rfl rfl (by omega) (by omega)))) (all_c (QF.mk [12, 4] [(19, _), (11, _)] rfl rfl kr_ rfl (QAt.rd (Wt.yes (dj := 11) rfl rfl) (Rd.load1 kr_ rfl mem_ (by rfl)))) (all_c (QF.mk [11, 4] [(18, _), (11, _)] rfl rfl kr_ rfl (QAt.y (Wt.yes (dj := 11) rfl rfl) (Yd.fieldAddr (k := 1) kr_ rfl))) (all_c (QF.mk [10, 4] [(17, _), (11, _)] rfl rfl kr_ rfl (QAt.y (Wt.yes (dj := 11) rfl rfl) (Yd.notNil rfl))) (all_c (QF.mk [4] [(11, _)] rfl rfl kr_ rfl (QAt.y (Wt.yes (dj := 11) rfl rfl) (Yd.move rfl))) (all_c (QF.mk [8, 4] [(15, _), (11, _)] rfl rfl kr_ rfl (QAt.y (Wt.yes (dj := 11) rfl rfl) (Yd.len (e := 5) kr_ rfl))) (all_c (QF.mk [7, 4] [(14, _), (11, _)] rfl rfl kr_ rfl (QAt.rd (Wt.yes (dj := 11) rfl rfl) (Rd.load1 kr_ rfl mem_ (by rfl)))) (all_c (QF.mk [6, 4] [(13, _), (11, _)] rfl rfl kr_ rfl (QAt.y (Wt.yes (dj := 11) rfl rfl) (Yd.fieldAddr (k := 0) kr_ rfl))) (all_c (QF.mk [5, 4] [(12, _), (11, _)] rfl rfl kr_ rfl (QAt.y (Wt.yes (dj := 11) rfl rfl) (Yd.notNil rfl))) (all_c (QF.mk [4] [(11, _)] rfl rfl kr_ rfl (QAt.y (Wt.yes (dj := 11) rfl rfl) (Yd.move rfl))) (all_c (QF.ren (congrArg Value.bool hg11) (QF.mk [3] [(10, _)] rfl rfl kr_ rfl (QAt.y Wt.none (Yd.move rfl)))) (all_c (QF.mk [2] [(9, _)] rfl rfl kr_ rfl (QAt.rd Wt.none (Rd.load1 kr_ rfl mem_ (by rfl)))) (all_c (QF.mk [1] [(8, _)] rfl rfl kr_ rfl (QAt.y Wt.none (Yd.fieldAddr (k := 2) kr_ rfl))) (all_c (QF.mk [0] [(7, _)] rfl rfl kr_ rfl (QAt.y Wt.none (Yd.notNil rfl))) (all_c (QF.mk [] [] rfl rfl kr_ rfl (QAt.y Wt.none (Yd.move rfl))) (all_n))))))))))))))))))) ?_
   change DN _ _ _ _ _ _ ([(24, _), (23, _), (22, _), (21, _), (20, _), (19, _), (18, _), (17, _), (16, _), (15, _), (14, _), (13, _), (12, _), (11, _), (10, _), (9, _), (8, _), (7, _)] ++ _) _
   exact DN.reachK (_) (by unfold rdShort; rw [hg11, hdl, Bool.false_or, Bool.eq_iff_iff, decide_eq_true_eq, decide_eq_true_eq]; omega) (Sx.put rfl (sx_)) (Sp.all sp_)
 ·intro z hz
  refine WC.cond rfl (fun h24 => ?_) (fun h24 => ?_)
  ·have hs1 : rdShort (b.drop a) sh k = true := hz.symm.trans h24
   refine sr_ ?_
   refine m_ rfl rfl ?_
   refine n_ rfl rfl ?_
   refine f_ 2 kr_ rfl rfl ?_
   refine WL.s (Hd.store1s kr_ rfl rfl (by rfl) fr_ (by rfl) (by first | (simp only [List.set_cons_zero, List.set_cons_succ, Nat.zero_add, Nat.add_zero, Nat.reduceAdd]; rfl) | rfl) ⟨rfl, ?_⟩)
   refine ntsr_ ?_
   refine a_ rfl rfl ?_
   refine a_ rfl rfl ?_
   refine nt_ ?_
   refine WC.ret ?_
   refine DN.then_ret ?_
   refine DN.ret2 Tryz.results80 rfl rfl ?_
   rw [hs1]
   exact ⟨_, [], a, rfl, by unfold rdGot; rw [hs1]; exact Ob.nil _, ha, by unfold rdRest; rw [hs1]; rfl, rfl⟩
  ·have hs0 : rdShort (b.drop a) sh k = false := hz.symm.trans h24
   have hs2 : sh = false ∧ a + k ≤ b.length := by
     have h9 := hs0
     unfold rdShort at h9
     rw [Bool.or_eq_false_iff, decide_eq_false_iff_not, hdl] at h9
     exact ⟨h9.1, by omega⟩
   have hcut : Bs (.slice (if bc_ = a then bo else bo.map (·.add (a * 1))) (a + k - a) (bc_ - a)) ((b.drop a).take k) H := by
     have h9 := hv.sub (i := a) (j := a + k) (by omega) hs2.2
     rw [show (b.drop a).take (a + k - a) = (b.drop a).take k by congr 1; omega] at h9
     exact h9
   have hcn : ((b.drop a).take k).length = k := by rw [List.length_take]; omega
   refine WC.skip ?_
   refine ts_ ?_
   refine WC.draw 16 kr_ rfl ?_
   refine WA.float (N := 16) rfl ?_
   refine WAF.add (i := 0) (d := 28) rfl (QF.mk [] [] rfl rfl kr_ rfl (QAt.y Wt.none (Yd.move rfl))) ?_
   refine WAF.add (i := 1) (d := 29) rfl (QF.mk [0] [(28, _)] rfl rfl kr_ rfl (QAt.y Wt.none (Yd.notNil rfl))) ?_
   refine WAF.add (i := 2) (d := 30) rfl (QF.mk [1] [(29, _)] rfl rfl kr_ rfl (QAt.y Wt.none (Yd.fieldAddr (k := 0) kr_ rfl))) ?_
   refine WAF.add (i := 3) (d := 31) rfl (QF.mk [2] [(30, _)] rfl rfl kr_ rfl (QAt.rd Wt.none (Rd.load1 kr_ rfl mem_ (by rfl)))) ?_
   refine WAF.add (i := 4) (d := 32) rfl (QF.mk [] [] rfl rfl kr_ rfl (QAt.y Wt.none (Yd.move rfl))) ?_
   refine WAF.add (i := 5) (d := 33) rfl (QF.mk [4] [(32, _)] rfl rfl kr_ rfl (QAt.y Wt.none (Yd.notNil rfl))) ?_
   refine WAF.add (i := 6) (d := 34) rfl (QF.mk [5] [(33, _)] rfl rfl kr_ rfl (QAt.y Wt.none (Yd.fieldAddr (k := 1) kr_ rfl))) ?_
   refine WAF.add (i := 7) (d := 35) rfl (QF.mk [6] [(34, _)] rfl rfl kr_ rfl (QAt.rd Wt.none (Rd.load1 kr_ rfl mem_ (by rfl)))) ?_
   refine WAF.add (i := 8) (d := 36) rfl (QF.mk [] [] rfl rfl kr_ rfl (QAt.y Wt.none (Yd.move rfl))) ?_
   refine WAF.add (i := 9) (d := 37) rfl (QF.mk [8] [(36, _)] rfl rfl kr_ rfl (QAt.y Wt.none (Yd.notNil rfl))) ?_
   refine WAF.add (i := 10) (d := 38) rfl (QF.mk [9] [(37, _)] rfl rfl kr_ rfl (QAt.y Wt.none (Yd.fieldAddr (k := 1) kr_ rfl))) ?_
   refine WAF.add (i := 11) (d := 39) rfl (QF.mk [10] [(38, _)] rfl rfl kr_ rfl (QAt.rd Wt.none (Rd.load1 kr_ rfl mem_ (by rfl)))) ?_
   refine WAF.add (i := 12) (d := 40) rfl (QF.mk [] [] rfl rfl kr_ rfl (QAt.y Wt.none (Yd.move rfl))) ?_
   refine WAF.add (i := 13) (d := 41) rfl (QF.mk [12, 11] [(40, _), (39, _)] rfl rfl kr_ rfl (QAt.y Wt.none (Yd.add rfl rfl (by omega) (by omega)))) ?_
   refine WAF.add (i := 14) (d := 42) rfl (QF.mk [13, 7, 3] [(41, _), (35, _), (31, _)] rfl rfl kr_ rfl (QAt.y Wt.none (Yd.slice (e := 5) (s := 1) (i := a) (j := a + k) kr_ kr_ rfl ⟨_, _, rfl, rfl⟩ ⟨_, _, rfl, by omega⟩ (by omega) (by omega)))) ?_
   refine WAF.add (i := 15) (d := 6) rfl (QF.mk [14, 13, 12, 11, 10, 9, 8, 7, 6, 5, 4, 3, 2, 1, 0] [(42, _), (41, _), (40, _), (39, _), (38, _), (37, _), (36, _), (35, _), (34, _), (33, _), (32, _), (31, _), (30, _), (29, _), (28, _)] rfl rfl kr_ rfl (QAt.y Wt.none (Yd.assign rfl))) ?_
   refine WAF.done (pd := [(15, 6), (14, 42), (13, 41), (12, 40), (11, 39), (10, 38), (9, 37), (8, 36), (7, 35), (6, 34), (5, 33), (4, 32), (3, 31), (2, 30), (1, 29), (0, 28)]) rfl kr_ kr_ (all_c rfl (all_c rfl (all_c rfl (all_c rfl (all_c rfl (all_c rfl (all_c rfl (all_c rfl (all_c rfl (all_c rfl (all_c rfl (all_c rfl (all_c rfl (all_c rfl (all_c rfl (all_c rfl (all_n))))))))))))))))) (all_c (QF.mk [14, 13, 12, 11, 10, 9, 8, 7, 6, 5, 4, 3, 2, 1, 0] [(42, _), (41, _), (40, _), (39, _), (38, _), (37, _), (36, _), (35, _), (34, _), (33, _), (32, _), (31, _), (30, _), (29, _), (28, _)] rfl rfl kr_ rfl (QAt.y Wt.none (Yd.assign rfl))) (all_c (QF.mk [13, 7, 3] [(41, _), (35, _), (31, _)] rfl rfl kr_ rfl (QAt.y Wt.none (Yd.slice (e := 5) (s := 1) (i := a) (j := a + k) kr_ kr_ rfl ⟨_, _, rfl, rfl⟩ ⟨_, _, rfl, by omega⟩ (by omega) (by omega)))) (all_c (QF.mk [12, 11] [(40, _), (39, _)] rfl rfl kr_ rfl (QAt.y Wt.none (Yd.add rfl rfl (by omega) (by omega)))) (all_c (QF.mk [] [] rfl rfl kr_ rfl (QAt.y Wt.none (Yd.move rfl))) (all_c (QF.mk [10] [(38, _)] rfl rfl kr_ rfl (QAt.rd Wt.none (Rd.load1 kr_ rfl mem_ (by rfl)))) (all_c (QF.mk [9] [(37, _)] rfl rfl kr_ rfl (QAt.y Wt.none (Yd.fieldAddr (k := 1) kr_ rfl))) (all_c (QF.mk [8] [(36, _)] rfl rfl kr_ rfl (QAt.y Wt.none (Yd.notNil rfl))) (all_c (QF.mk [] [] rfl rfl kr_ rfl (QAt.y Wt.none (Yd.move rfl))) (all_c (QF.mk [6] [(34, _)] rfl rfl kr_ rfl (QAt.rd Wt.none (Rd.load1 kr_ rfl mem_ (by rfl)))) (all_c (QF.mk [5] [(33, _)] rfl rfl kr_ rfl (QAt.y Wt.none (Yd.fieldAddr (k := 1) kr_ rfl))) (all_c (QF.mk [4] [(32, _)] rfl rfl kr_ rfl (QAt.y Wt.none (Yd.notNil rfl))) (all_c (QF.mk [] [] rfl rfl kr_ rfl (QAt.y Wt.none (Yd.move rfl))) (all_c (QF.mk [2] [(30, _)] rfl rfl kr_ rfl (QAt.rd Wt.none (Rd.load1 kr_ rfl mem_ (by rfl)))) (all_c (QF.mk [1] [(29, _)] rfl rfl kr_ rfl (QAt.y Wt.none (Yd.fieldAddr (k := 0) kr_ rfl))) (all_c (QF.mk [0] [(28, _)] rfl rfl kr_ rfl (QAt.y Wt.none (Yd.notNil rfl))) (all_c (QF.mk [] [] rfl rfl kr_ rfl (QAt.y Wt.none (Yd.move rfl))) (all_n))))))))))))))))) ?_
   change DN _ _ _ _ _ _ ([(6, _), (42, _), (41, _), (40, _), (39, _), (38, _), (37, _), (36, _), (35, _), (34, _), (33, _), (32, _), (31, _), (30, _), (29, _), (28, _)] ++ _) _
   refine ts_ ?_
   refine WC.region ?_
   refine m_ rfl rfl ?_
   refine m_ rfl rfl ?_
   refine n_ rfl rfl ?_
   refine f_ 1 kr_ rfl rfl ?_
   refine d_ kr_ rfl mem_ (by rfl) rfl ?_
   refine m_ rfl rfl ?_
   refine WL.y rfl (Yd.add rfl rfl (by omega) (by omega)) ?_
   refine n_ rfl rfl ?_
   refine f_ 1 kr_ rfl rfl ?_
   refine WL.s (Hd.store1s kr_ rfl rfl (by rfl) fr_ (by rfl) (by first | (simp only [List.set_cons_zero, List.set_cons_succ, Nat.zero_add, Nat.add_zero, Nat.reduceAdd]; rfl) | rfl) ⟨rfl, ?_⟩)
   refine ntsr_ ?_
   refine m_ rfl rfl ?_
   refine WL.c rfl (Ent.func Tryz.call40 rfl) (copy_spec _ ((b.drop a).take k) H hcut (by omega)) (Sp.p sp_) ?_
   rintro x1 H1 ⟨C1, hC1, rfl⟩
   refine a_ rfl rfl ?_
   refine a_ rfl rfl ?_
   refine nt_ ?_
   refine WC.ret ?_
   refine DN.fit (C := C1 ++ (row p [.slice bo b.length bc_, .int .i64 ((a : Int) + k), .bool sh] 107 :: H)) sp_ ?_
   refine DN.ret2 Tryz.results80 rfl rfl ?_
   rw [hs0]
   exact ⟨_, C1, a + k, rfl, by unfold rdGot; rw [hs0]; exact hC1, hs2.2, by unfold rdRest; rw [hs0, if_neg (by decide), List.drop_drop], by rw [hs2.1]; rfl⟩
theorem rnum2_tells (p : Nat) (v : Value) (b : List (BitVec 8)) (a : Nat) (sh : Bool) (H : List Ck) (hv : Bs v b H) (hl : b.length ≤ 1000000) (ha : a ≤ b.length) (k : Nat) (hk : k ≤ 8) : Tells Tryz.prog 52 [.pointer (some ⟨p, 0, none⟩), .int .i64 k] (row p [v, .int .i64 (a : Nat), .bool sh] 107 :: H) fun r H' => ∃ a', r = .int .u64 (beN (rdGot (b.drop a) sh k)).toNat ∧ a' ≤ b.length ∧ b.drop a' = rdRest (b.drop a) sh k ∧ H' = row p [v, .int .i64 (a' : Nat), .bool (rdShort (b.drop a) sh k)] 107 :: H := by
 refine Tells.enter Tryz.func52 rfl Tryz.ntmps52 rfl ?_
 intro w0 R
 refine sr_ ?_
 refine WL.y rfl (Yd.assign (v := .int .u64 ((0#64).toNat : Int)) rfl) ?_
 refine ntsr_ ?_
 refine m_ rfl rfl ?_
 refine m_ rfl rfl ?_
 refine WL.c rfl (Ent.func Tryz.call80 rfl) (rtake_tells p v b a sh H hv hl ha k (by omega)) (Sp.p sp_) ?_
 rintro x1 H1 ⟨w, A, a', rfl, hA, ha', hrest, rfl⟩
 obtain ⟨wo, wc, rfl, _⟩ := hA.form
 refine m_ rfl rfl ?_
 refine x_ rfl rfl rfl ?_
 refine x_ rfl rfl rfl ?_
 refine a_ rfl rfl ?_
 refine a_ rfl rfl ?_
 refine ntsr_ ?_
 refine m_ rfl rfl ?_
 refine WL.r rfl (Ent.func Tryz.call81 rfl) (rof_reads _ (rdGot (b.drop a) sh k) _ (hA.bs.mono gr_) (by have := rdGot_len (b.drop a) sh k; omega)) ?_
 refine a_ rfl rfl ?_
 refine nt_ ?_
 refine WC.ret ?_
 refine DN.fit (C := row p [v, .int .i64 (a' : Nat), .bool (rdShort (b.drop a) sh k)] 107 :: H) sp_ ?_
 refine DN.ret1 Tryz.results52 rfl ?_
 exact ⟨a', rfl, ha', hrest, rfl⟩
theorem rtext2_tells (p : Nat) (v : Value) (b : List (BitVec 8)) (a : Nat) (sh : Bool) (H : List Ck) (hv : Bs v b H) (hl : b.length ≤ 1000000) (ha : a ≤ b.length) : Tells Tryz.prog 53 [.pointer (some ⟨p, 0, none⟩)] (row p [v, .int .i64 (a : Nat), .bool sh] 107 :: H) fun r H' => ∃ A a', Bs r (txGot (b.drop a) sh) A ∧ a' ≤ b.length ∧ b.drop a' = rdRest (b.drop a) sh (txN (b.drop a)) ∧ H' = A ++ (row p [v, .int .i64 (a' : Nat), .bool (rdShort (b.drop a) sh (txN (b.drop a)))] 107 :: H) := by
 refine Tells.enter Tryz.func53 rfl Tryz.ntmps53 rfl ?_
 intro w0 R
 obtain ⟨bo, bc_, rfl, hbc⟩ := hv.form
 have htx := txN_le (b.drop a)
 refine sr_ ?_
 refine a_ rfl rfl ?_
 refine ntsr_ ?_
 refine a_ rfl rfl ?_
 refine nt_ ?_
 refine WC.cutK (fun _z : Unit => True) (fun _z : Unit => [(3, .int .i64 (((b.drop a).headD 0#8).toNat : Int))]) (fun _z : Unit => row p [.slice bo b.length bc_, .int .i64 (a : Nat), .bool sh] 107 :: H) ?_ ?_
 ·refine WC.seq ?_
  refine WC.draw 10 kr_ rfl ?_
  refine WA.float (N := 10) rfl ?_
  refine WAF.add (i := 0) (d := 6) rfl (QF.mk [] [] rfl rfl kr_ rfl (QAt.y Wt.none (Yd.move rfl))) ?_
  refine WAF.add (i := 1) (d := 7) rfl (QF.mk [0] [(6, _)] rfl rfl kr_ rfl (QAt.y Wt.none (Yd.notNil rfl))) ?_
  refine WAF.add (i := 2) (d := 8) rfl (QF.mk [1] [(7, _)] rfl rfl kr_ rfl (QAt.y Wt.none (Yd.fieldAddr (k := 1) kr_ rfl))) ?_
  refine WAF.add (i := 3) (d := 9) rfl (QF.mk [2] [(8, _)] rfl rfl kr_ rfl (QAt.rd Wt.none (Rd.load1 kr_ rfl mem_ (by rfl)))) ?_
  refine WAF.add (i := 4) (d := 10) rfl (QF.mk [] [] rfl rfl kr_ rfl (QAt.y Wt.none (Yd.move rfl))) ?_
  refine WAF.add (i := 5) (d := 11) rfl (QF.mk [4] [(10, _)] rfl rfl kr_ rfl (QAt.y Wt.none (Yd.notNil rfl))) ?_
  refine WAF.add (i := 6) (d := 12) rfl (QF.mk [5] [(11, _)] rfl rfl kr_ rfl (QAt.y Wt.none (Yd.fieldAddr (k := 0) kr_ rfl))) ?_
  refine WAF.add (i := 7) (d := 13) rfl (QF.mk [6] [(12, _)] rfl rfl kr_ rfl (QAt.rd Wt.none (Rd.load1 kr_ rfl mem_ (by rfl)))) ?_
  refine WAF.add (i := 8) (d := 14) rfl (QF.mk [7] [(13, _)] rfl rfl kr_ rfl (QAt.y Wt.none (Yd.len (e := 5) kr_ rfl))) ?_
  refine WAF.add (i := 9) (d := 15) rfl (QF.mk [8, 3] [(14, _), (9, _)] rfl rfl kr_ rfl (QAt.y Wt.none (Yd.lss rfl rfl))) ?_
  refine WAF.done (pd := [(9, 15), (8, 14), (7, 13), (6, 12), (5, 11), (4, 10), (3, 9), (2, 8), (1, 7), (0, 6)]) rfl kr_ kr_ (all_c rfl (all_c rfl (all_c rfl (all_c rfl (all_c rfl (all_c rfl (all_c rfl (all_c rfl (all_c rfl (all_c rfl (all_n))))))))))) (all_c (QF.mk [8, 3] [(14, _), (9, _)] rfl rfl kr_ rfl (QAt.y Wt.none (Yd.lss rfl rfl))) (all_c (QF.mk [7] [(13, _)] rfl rfl kr_ rfl (QAt.y Wt.none (Yd.len (e := 5) kr_ rfl))) (all_c (QF.mk [6] [(12, _)] rfl rfl kr_ rfl (QAt.rd Wt.none (Rd.load1 kr_ rfl mem_ (by rfl)))) (all_c (QF.mk [5] [(11, _)] rfl rfl kr_ rfl (QAt.y Wt.none (Yd.fieldAddr (k := 0) kr_ rfl))) (all_c (QF.mk [4] [(10, _)] rfl rfl kr_ rfl (QAt.y Wt.none (Yd.notNil rfl))) (all_c (QF.mk [] [] rfl rfl kr_ rfl (QAt.y Wt.none (Yd.move rfl))) (all_c (QF.mk [2] [(8, _)] rfl rfl kr_ rfl (QAt.rd Wt.none (Rd.load1 kr_ rfl mem_ (by rfl)))) (all_c (QF.mk [1] [(7, _)] rfl rfl kr_ rfl (QAt.y Wt.none (Yd.fieldAddr (k := 1) kr_ rfl))) (all_c (QF.mk [0] [(6, _)] rfl rfl kr_ rfl (QAt.y Wt.none (Yd.notNil rfl))) (all_c (QF.mk [] [] rfl rfl kr_ rfl (QAt.y Wt.none (Yd.move rfl))) (all_n))))))))))) ?_
  change DN _ _ _ _ _ _ ([(15, _), (14, _), (13, _), (12, _), (11, _), (10, _), (9, _), (8, _), (7, _), (6, _)] ++ _) _
  refine DN.then_normal ?_
  refine WC.ite rfl (fun h15 => ?_) (fun h15 => ?_)
  ·refine WC.draw 12 kr_ rfl ?_
   refine WA.float (N := 12) rfl ?_
   refine WAF.add (i := 0) (d := 16) rfl (QF.mk [] [] rfl rfl kr_ rfl (QAt.y Wt.none (Yd.move rfl))) ?_
   refine WAF.add (i := 1) (d := 17) rfl (QF.mk [0] [(16, _)] rfl rfl kr_ rfl (QAt.y Wt.none (Yd.notNil rfl))) ?_
   refine WAF.add (i := 2) (d := 18) rfl (QF.mk [1] [(17, _)] rfl rfl kr_ rfl (QAt.y Wt.none (Yd.fieldAddr (k := 0) kr_ rfl))) ?_
   refine WAF.add (i := 3) (d := 19) rfl (QF.mk [2] [(18, _)] rfl rfl kr_ rfl (QAt.rd Wt.none (Rd.load1 kr_ rfl mem_ (by rfl)))) ?_
   refine WAF.add (i := 4) (d := 20) rfl (QF.mk [] [] rfl rfl kr_ rfl (QAt.y Wt.none (Yd.move rfl))) ?_
   refine WAF.add (i := 5) (d := 21) rfl (QF.mk [4] [(20, _)] rfl rfl kr_ rfl (QAt.y Wt.none (Yd.notNil rfl))) ?_
   refine WAF.add (i := 6) (d := 22) rfl (QF.mk [5] [(21, _)] rfl rfl kr_ rfl (QAt.y Wt.none (Yd.fieldAddr (k := 1) kr_ rfl))) ?_
   refine WAF.add (i := 7) (d := 23) rfl (QF.mk [6] [(22, _)] rfl rfl kr_ rfl (QAt.rd Wt.none (Rd.load1 kr_ rfl mem_ (by rfl)))) ?_
   have hlt : a < b.length := by omega
   have hhd : (b.drop a).headD 0#8 = b[a] := by rw [List.drop_eq_getElem_cons hlt]; rfl
   obtain ⟨lb, lf, lcs, lT, lfr, lex, elo, _, hlm, hlcs⟩ := Rs.lies hv (by omega)
   rw [hhd]
   refine WAF.add (i := 8) (d := 24) rfl (QF.mk [7, 3] [(23, _), (19, _)] rfl rfl kr_ rfl (QAt.y Wt.none (Yd.indexAddr (e := 5) (s := 1) (b := lb) (o := lf) (n := b.length) (c := bc_) kr_ kr_ (congrArg (fun q => some (Value.slice q b.length bc_)) elo) rfl (by omega) (by omega)))) ?_
   refine WAF.add (i := 9) (d := 25) rfl (QF.mk [8] [(24, _)] rfl rfl kr_ rfl (QAt.rd Wt.none (Rd.load1 (v := .int .u8 b[a].toNat) (b := lb) (o := lf + (a : Int).toNat * 1) (cs := lcs) kr_ rfl (Gr.get2 gr_ hlm) (rs_cell1 hlcs (bc_get hlt))))) ?_
   refine WAF.add (i := 10) (d := 26) rfl (QF.mk [9] [(25, _)] rfl rfl kr_ rfl (QAt.y Wt.none (Yd.int8 _ kr_ kr_ rfl rfl))) ?_
   refine WAF.step (pd := [(10, 26), (9, 25), (8, 24), (7, 23), (6, 22), (5, 21), (4, 20), (3, 19), (2, 18), (1, 17), (0, 16)]) [(11, [10, 9, 8, 7, 6, 5, 4, 3, 2, 1, 0])] rfl kr_ kr_ (all_c rfl (all_c rfl (all_c rfl (all_c rfl (all_c rfl (all_c rfl (all_c rfl (all_c rfl (all_c rfl (all_c rfl (all_c rfl (all_n)))))))))))) (all_c (QF.mk [9] [(25, _)] rfl rfl kr_ rfl (QAt.y Wt.none (Yd.int8 _ kr_ kr_ rfl rfl))) (all_c (QF.mk [8] [(24, _)] rfl rfl kr_ rfl (QAt.rd Wt.none (Rd.load1 (v := .int .u8 b[a].toNat) (b := lb) (o := lf + (a : Int).toNat * 1) (cs := lcs) kr_ rfl (Gr.get2 gr_ hlm) (rs_cell1 hlcs (bc_get hlt))))) (all_c (QF.mk [7, 3] [(23, _), (19, _)] rfl rfl kr_ rfl (QAt.y Wt.none (Yd.indexAddr (e := 5) (s := 1) (b := lb) (o := lf) (n := b.length) (c := bc_) kr_ kr_ (congrArg (fun q => some (Value.slice q b.length bc_)) elo) rfl (by omega) (by omega)))) (all_c (QF.mk [6] [(22, _)] rfl rfl kr_ rfl (QAt.rd Wt.none (Rd.load1 kr_ rfl mem_ (by rfl)))) (all_c (QF.mk [5] [(21, _)] rfl rfl kr_ rfl (QAt.y Wt.none (Yd.fieldAddr (k := 1) kr_ rfl))) (all_c (QF.mk [4] [(20, _)] rfl rfl kr_ rfl (QAt.y Wt.none (Yd.notNil rfl))) (all_c (QF.mk [] [] rfl rfl kr_ rfl (QAt.y Wt.none (Yd.move rfl))) (all_c (QF.mk [2] [(18, _)] rfl rfl kr_ rfl (QAt.rd Wt.none (Rd.load1 kr_ rfl mem_ (by rfl)))) (all_c (QF.mk [1] [(17, _)] rfl rfl kr_ rfl (QAt.y Wt.none (Yd.fieldAddr (k := 0) kr_ rfl))) (all_c (QF.mk [0] [(16, _)] rfl rfl kr_ rfl (QAt.y Wt.none (Yd.notNil rfl))) (all_c (QF.mk [] [] rfl rfl kr_ rfl (QAt.y Wt.none (Yd.move rfl))) (all_n)))))))))))) (all_c ?_ (all_n))
   ·change SO _ _ _ _ _ _ 11 ([(26, _), (25, _), (24, _), (23, _), (22, _), (21, _), (20, _), (19, _), (18, _), (17, _), (16, _)] ++ _) _ _
    refine SO.y rfl Wt.none rfl (Yd.assign rfl) ?_
    change WAF _ _ _ _ _ _ [] _ [11, 10, 9, 8, 7, 6, 5, 4, 3, 2, 1, 0] ((3, _) :: ([(26, _), (25, _), (24, _), (23, _), (22, _), (21, _), (20, _), (19, _), (18, _), (17, _), (16, _)] ++ _)) _
    refine WAF.done (pd := []) rfl kr_ kr_ (all_n) (all_n) ?_
    change DN _ _ _ _ _ _ ([] ++ _) _
    exact DN.reachK (()) (trivial) (Sx.put rfl (sx_)) (Sp.all sp_)
  ·refine WC.skip ?_
   rw [show ((b.drop a).headD 0#8) = 0#8 by rw [List.drop_of_length_le (by omega)]; rfl]
   exact DN.reachK (()) (trivial) (Sx.put rfl (sx_)) (Sp.all sp_)
 ·intro _ _
  refine sr_ ?_
  refine m_ rfl rfl ?_
  refine m_ rfl rfl ?_
  refine WL.y rfl (Yd.add rfl rfl (by omega) (by omega)) ?_
  refine WL.renamed (t := 30) (v := .int .i64 ((txN (b.drop a) : Nat) : Int)) rfl (congrArg (Value.int .i64) (by unfold txN; omega)) ?_
  refine WL.c rfl (Ent.func Tryz.call80 rfl) (rtake_tells p _ b a sh H hv hl ha (txN (b.drop a)) (by omega)) (Sp.p sp_) ?_
  rintro x1 H1 ⟨w, A, a', rfl, hA, ha', hrest, rfl⟩
  obtain ⟨got, hgot⟩ : ∃ got, got = rdGot (b.drop a) sh (txN (b.drop a)) := ⟨_, rfl⟩
  rw [← hgot] at hA
  have htg : txGot (b.drop a) sh = got.drop 1 := by rw [hgot]; rfl
  obtain ⟨wo, wc, rfl, hwc⟩ := hA.form
  refine m_ rfl rfl ?_
  refine x_ rfl rfl rfl ?_
  refine x_ rfl rfl rfl ?_
  refine a_ rfl rfl ?_
  refine a_ rfl rfl ?_
  refine nt_ ?_
  refine WC.seq ?_
  refine sr_ ?_
  refine m_ rfl rfl ?_
  refine WL.y rfl (Yd.notB rfl) ?_
  refine nt_ ?_
  refine WC.cond rfl (fun h35 => ?_) (fun h35 => ?_)
  ·have hs1 : rdShort (b.drop a) sh (txN (b.drop a)) = true := by simpa using h35
   have hg0 : got = [] := by rw [hgot]; unfold rdGot; rw [hs1]; rfl
   refine sr_ ?_
   refine a_ rfl rfl ?_
   refine nt_ ?_
   refine WC.ret ?_
   refine DN.then_ret ?_
   refine DN.fit (C := row p [.slice bo b.length bc_, .int .i64 (a' : Nat), .bool (rdShort (b.drop a) sh (txN (b.drop a)))] 107 :: H) sp_ ?_
   refine DN.ret1 Tryz.results53 rfl ?_
   exact ⟨[], a', by rw [htg, hg0]; exact .inl ⟨_, _, rfl, rfl, rfl⟩, ha', hrest, rfl⟩
  ·have hs0 : rdShort (b.drop a) sh (txN (b.drop a)) = false := by simpa using h35
   have hgl : 1 ≤ got.length := by
     have h9 := hs0
     unfold rdShort at h9
     rw [Bool.or_eq_false_iff, decide_eq_false_iff_not] at h9
     rw [hgot]; unfold rdGot; rw [hs0, if_neg (by decide), List.length_take]
     have : 1 ≤ txN (b.drop a) := by unfold txN; omega
     omega
   refine WC.skip ?_
   refine ts_ ?_
   refine WC.region ?_
   refine m_ rfl rfl ?_
   refine WL.y rfl (Yd.slice (e := 5) (s := 1) (i := 1) (j := got.length) kr_ kr_ rfl ⟨_, _, rfl, rfl⟩ rfl (by omega) (by omega)) ?_
   refine a_ rfl rfl ?_
   refine nt_ ?_
   refine WC.ret ?_
   refine DN.fit (C := A ++ (row p [.slice bo b.length bc_, .int .i64 (a' : Nat), .bool (rdShort (b.drop a) sh (txN (b.drop a)))] 107 :: H)) sp_ ?_
   refine DN.ret1 Tryz.results53 rfl ?_
   exact ⟨A, a', by rw [htg]; have := hA.bs.sub (i := 1) (j := got.length) hgl (Nat.le_refl _); rw [List.take_of_length_le (by simp)] at this; exact this, ha', hrest, rfl⟩
end Go.Proofs.YtkamlondepceiaaGreat

set_option linter.unusedVariables false
set_option linter.unusedSimpArgs false
set_option maxHeartbeats 4000000
namespace Go.Proofs.YtkamlondepceiaaGreat
open Go.SL
theorem rencode_tells (w : Wk) (v : Value) (H : List Ck) (hv : Bs v w.name H) (hl : w.name.length ≤ 1000000) : Tells Tryz.prog 12 [.agg (wkc w v).toArray] H fun r H' => ∃ x A, r = .tuple #[x, .int .i64 (encE w)] ∧ Ob 5 x (encB w) A ∧ H' = A ++ H := by
 refine Tells.enter Tryz.func12 rfl Tryz.ntmps12 rfl ?_
 intro w0 R
 obtain ⟨no, nc, rfl, hnc⟩ := hv.form
 refine sr_ ?_
 refine WL.h rfl (Hd.boxA rfl fun b1 => ⟨_, rfl, ?_⟩)
 refine a_ rfl rfl ?_
 refine a_ rfl rfl ?_
 refine nt_ ?_
 refine WC.seq ?_
 refine WC.cutK (fun z : Bool => z = !decide (wkGood w)) (fun z : Bool => [(27, .bool z)]) (fun z : Bool => row b1 (wkc w (.slice no w.name.length nc)) 24 :: H) ?_ ?_
 ·refine WC.region ?_
  refine f_ 0 kr_ rfl rfl ?_
  refine d_ kr_ rfl mem_ (by rfl) rfl ?_
  refine WL.y rfl (Yd.lss rfl rfl) ?_
  refine m_ rfl rfl ?_
  refine WL.partP (t := 7) rfl (fun hg7 => ?_) (fun hg7 => ?_)
  ·iterate 3 refine gn_ 7 rfl rfl rfl rfl ?_
   refine WL.y rfl (Yd.pickT rfl rfl) ?_
   refine m_ rfl rfl ?_
   iterate 3 refine gn_ 12 rfl rfl rfl rfl ?_
   refine WL.y rfl (Yd.pickT rfl rfl) ?_
   refine m_ rfl rfl ?_
   iterate 3 refine gn_ 17 rfl rfl rfl rfl ?_
   refine WL.y rfl (Yd.pickT rfl rfl) ?_
   refine m_ rfl rfl ?_
   iterate 4 refine gn_ 22 rfl rfl rfl rfl ?_
   refine WL.y rfl (Yd.pickT rfl rfl) ?_
   refine WL.nil ?_
   exact DN.reachK (_) (wk_z (by unfold wkGood; simp only [decide_eq_true_eq, eq_self, true_iff, Bool.false_eq_true, false_iff]; omega)) (Sx.put rfl (sx_)) (Sp.all sp_)
  ·refine gy_ 7 rfl rfl rfl (Yd.fieldAddr (k := 0) kr_ rfl) ?_
   refine WL.gh (dj := 7) rfl rfl rfl (Hd.load1 kr_ rfl mem_ (by rfl) ⟨_, rfl, ?_⟩)
   refine gy_ 7 rfl rfl rfl (Yd.gtr rfl rfl) ?_
   refine WL.y rfl (Yd.pickF rfl rfl) ?_
   refine m_ rfl rfl ?_
   refine WL.partP (t := 12) rfl (fun hg12 => ?_) (fun hg12 => ?_)
   ·iterate 3 refine gn_ 12 rfl rfl rfl rfl ?_
    refine WL.y rfl (Yd.pickT rfl rfl) ?_
    refine m_ rfl rfl ?_
    iterate 3 refine gn_ 17 rfl rfl rfl rfl ?_
    refine WL.y rfl (Yd.pickT rfl rfl) ?_
    refine m_ rfl rfl ?_
    iterate 4 refine gn_ 22 rfl rfl rfl rfl ?_
    refine WL.y rfl (Yd.pickT rfl rfl) ?_
    refine WL.nil ?_
    exact DN.reachK (_) (wk_z (by unfold wkGood; simp only [decide_eq_true_eq, eq_self, true_iff, Bool.false_eq_true, false_iff]; omega)) (Sx.put rfl (sx_)) (Sp.all sp_)
   ·refine gy_ 12 rfl rfl rfl (Yd.fieldAddr (k := 1) kr_ rfl) ?_
    refine WL.gh (dj := 12) rfl rfl rfl (Hd.load1 kr_ rfl mem_ (by rfl) ⟨_, rfl, ?_⟩)
    refine gy_ 12 rfl rfl rfl (Yd.lss rfl rfl) ?_
    refine WL.y rfl (Yd.pickF rfl rfl) ?_
    refine m_ rfl rfl ?_
    refine WL.partP (t := 17) rfl (fun hg17 => ?_) (fun hg17 => ?_)
    ·iterate 3 refine gn_ 17 rfl rfl rfl rfl ?_
     refine WL.y rfl (Yd.pickT rfl rfl) ?_
     refine m_ rfl rfl ?_
     iterate 4 refine gn_ 22 rfl rfl rfl rfl ?_
     refine WL.y rfl (Yd.pickT rfl rfl) ?_
     refine WL.nil ?_
     exact DN.reachK (_) (wk_z (by unfold wkGood; simp only [decide_eq_true_eq, eq_self, true_iff, Bool.false_eq_true, false_iff]; omega)) (Sx.put rfl (sx_)) (Sp.all sp_)
    ·refine gy_ 17 rfl rfl rfl (Yd.fieldAddr (k := 1) kr_ rfl) ?_
     refine WL.gh (dj := 17) rfl rfl rfl (Hd.load1 kr_ rfl mem_ (by rfl) ⟨_, rfl, ?_⟩)
     refine gy_ 17 rfl rfl rfl (Yd.gtr rfl rfl) ?_
     refine WL.y rfl (Yd.pickF rfl rfl) ?_
     refine m_ rfl rfl ?_
     refine WL.partP (t := 22) rfl (fun hg22 => ?_) (fun hg22 => ?_)
     ·iterate 4 refine gn_ 22 rfl rfl rfl rfl ?_
      refine WL.y rfl (Yd.pickT rfl rfl) ?_
      refine WL.nil ?_
      exact DN.reachK (_) (wk_z (by unfold wkGood; simp only [decide_eq_true_eq, eq_self, true_iff, Bool.false_eq_true, false_iff]; omega)) (Sx.put rfl (sx_)) (Sp.all sp_)
     ·refine gy_ 22 rfl rfl rfl (Yd.fieldAddr (k := 2) kr_ rfl) ?_
      refine WL.gh (dj := 22) rfl rfl rfl (Hd.load1 kr_ rfl mem_ (by rfl) ⟨_, rfl, ?_⟩)
      refine gy_ 22 rfl rfl rfl (Yd.len (e := 5) kr_ rfl) ?_
      refine gy_ 22 rfl rfl rfl (Yd.gtr rfl rfl) ?_
      refine WL.y rfl (Yd.pickF rfl rfl) ?_
      refine WL.nil ?_
      exact DN.reachK (_) (wk_z (by unfold wkGood; simp only [decide_eq_true_eq, eq_self, true_iff, Bool.false_eq_true, false_iff]; omega)) (Sx.put rfl (sx_)) (Sp.all sp_)
 ·intro z hz
  refine WC.cond rfl (fun h27 => ?_) (fun h27 => ?_)
  ·have hb : ¬ wkGood w := by rw [hz] at h27; simpa using h27
   refine sr_ ?_
   refine a_ rfl rfl ?_
   refine a_ rfl rfl ?_
   refine nt_ ?_
   refine WC.ret ?_
   refine DN.then_ret ?_
   refine DN.fit (C := H) sp_ ?_
   refine DN.ret2 Tryz.results12 rfl rfl ?_
   rw [(enc_bad hb).1, (enc_bad hb).2]
   exact ⟨_, [], rfl, Ob.nil _, rfl⟩
  ·have hg : wkGood w := by rw [hz] at h27; simpa using h27
   have hF : FVs H ((fdc ⟨1, BitVec.ofInt 64 w.what, []⟩ (.slice none 0 0)) ++ (fdc ⟨4, BitVec.ofInt 64 w.n, []⟩ (.slice none 0 0)) ++ (fdc ⟨0, 0#64, w.name⟩ (.slice no w.name.length nc))) (fsW w) := FVs.cons (f := ⟨1, BitVec.ofInt 64 w.what, []⟩) (.inl ⟨_, _, rfl, rfl, rfl⟩) (FVs.cons (f := ⟨4, BitVec.ofInt 64 w.n, []⟩) (.inl ⟨_, _, rfl, rfl, rfl⟩) (FVs.cons (f := ⟨0, 0#64, w.name⟩) hv .nil))
   refine WC.skip ?_
   refine ts_ ?_
   refine WC.region ?_
   refine f_ 0 kr_ rfl rfl ?_
   refine d_ kr_ rfl mem_ (by rfl) rfl ?_
   refine WL.y rfl (Yd.to64 _ kr_ kr_ rfl rfl) ?_
   refine WL.y rfl (Yd.buildL (pl := [(0, 1), (1, 1), (2, 1)]) (zs := [.int .i64 0, .int .u64 0, .slice none 0 0]) (parts := [(0, .const (.int .i64 1)), (1, .tmp 30)]) (vs := [(0, _), (1, _)]) (cells := [_, _, .slice none 0 0]) kr_ kr_ rfl rfl) ?_
   refine f_ 1 kr_ rfl rfl ?_
   refine d_ kr_ rfl mem_ (by rfl) rfl ?_
   refine WL.y rfl (Yd.to64 _ kr_ kr_ rfl rfl) ?_
   refine WL.y rfl (Yd.buildL (pl := [(0, 1), (1, 1), (2, 1)]) (zs := [.int .i64 0, .int .u64 0, .slice none 0 0]) (parts := [(0, .const (.int .i64 4)), (1, .tmp 34)]) (vs := [(0, _), (1, _)]) (cells := [_, _, .slice none 0 0]) kr_ kr_ rfl rfl) ?_
   refine f_ 2 kr_ rfl rfl ?_
   refine d_ kr_ rfl mem_ (by rfl) rfl ?_
   refine WL.y rfl (Yd.buildL (pl := [(0, 1), (1, 1), (2, 1)]) (zs := [.int .i64 0, .int .u64 0, .slice none 0 0]) (parts := [(2, .tmp 37)]) (vs := [(2, _)]) (cells := [.int .i64 0, .int .u64 0, _]) kr_ kr_ rfl rfl) ?_
   refine WL.h rfl (Hd.buildSlice (e := 98) (sz := 3) (zs := [.int .i64 0, .int .u64 0, .slice none 0 0]) (parts := [(0, .tmp 31), (1, .tmp 35), (2, .tmp 38)]) (vs := [(0, .agg (fdc ⟨1, BitVec.ofInt 64 w.what, []⟩ (.slice none 0 0)).toArray), (1, .agg (fdc ⟨4, BitVec.ofInt 64 w.n, []⟩ (.slice none 0 0)).toArray), (2, .agg (fdc ⟨0, 0#64, w.name⟩ (.slice no w.name.length nc)).toArray)]) (cells := (fdc ⟨1, BitVec.ofInt 64 w.what, []⟩ (.slice none 0 0)) ++ (fdc ⟨4, BitVec.ofInt 64 w.n, []⟩ (.slice none 0 0)) ++ (fdc ⟨0, 0#64, w.name⟩ (.slice no w.name.length nc))) kr_ kr_ kr_ rfl kr_ kr_ fun b39 => ⟨_, rfl, ?_⟩)
   refine WL.c rfl (Ent.func Tryz.call46 rfl) (rput_tells _ ((fdc ⟨1, BitVec.ofInt 64 w.what, []⟩ (.slice none 0 0)) ++ (fdc ⟨4, BitVec.ofInt 64 w.n, []⟩ (.slice none 0 0)) ++ (fdc ⟨0, 0#64, w.name⟩ (.slice no w.name.length nc))) (fsW w) (row b39 ((fdc ⟨1, BitVec.ofInt 64 w.what, []⟩ (.slice none 0 0)) ++ (fdc ⟨4, BitVec.ofInt 64 w.n, []⟩ (.slice none 0 0)) ++ (fdc ⟨0, 0#64, w.name⟩ (.slice no w.name.length nc))) 98 :: H) (.inr ⟨b39, 0, 3, _, 98, (0, 0), true, rfl, Nat.le_refl _, List.mem_cons_self, rfl⟩) (hF.mono gr_) (by show 3 ≤ 3000; omega) (wfs_small w hl)) (Sp.p sp_) ?_
   rintro x1 H1 ⟨x2, A, rfl, hA, rfl⟩
   rw [putL_W hg] at hA ⊢
   refine x_ rfl rfl rfl ?_
   refine x_ rfl rfl rfl ?_
   refine a_ rfl rfl ?_
   refine a_ rfl rfl ?_
   refine nt_ ?_
   refine WC.ret ?_
   refine DN.fit (C := A ++ H) sp_ ?_
   refine DN.ret2 Tryz.results12 rfl rfl ?_
   rw [(enc_good hg).1, (enc_good hg).2]
   exact ⟨_, A, rfl, hA, rfl⟩
theorem rdecode_tells (v : Value) (b : List (BitVec 8)) (H : List Ck) (hv : Bs v b H) (hl : b.length ≤ 900000) : Tells Tryz.prog 14 [v] H fun r H' => ∃ x A, r = .tuple #[.agg (wkc (decW b) x).toArray, .int .i64 (decE b)] ∧ Bs x (decW b).name A ∧ H' = A ++ H := by
 refine Tells.enter Tryz.func14 rfl Tryz.ntmps14 rfl ?_
 intro w0 R
 obtain ⟨bo, bc9, rfl, hbc⟩ := hv.form
 have hq0 : b.drop 0 = (rW b).bs := rfl
 refine sr_ ?_
 refine WL.h rfl (Hd.alloc (zs := [.int .i64 0, .int .i64 0, .slice none 0 0]) kr_ fun b2 => ⟨_, rfl, ?_⟩)
 refine a_ rfl rfl ?_
 refine ntsr_ ?_
 refine m_ rfl rfl ?_
 refine WL.y rfl (Yd.buildL (pl := [(0, 1), (1, 1), (2, 1)]) (zs := [.slice none 0 0, .int .i64 0, .bool false]) (parts := [(0, .tmp 8)]) (vs := [(0, _)]) (cells := [_, .int .i64 0, .bool false]) kr_ kr_ rfl rfl) ?_
 refine WL.h rfl (Hd.boxA rfl fun p => ⟨_, rfl, ?_⟩)
 refine a_ rfl rfl ?_
 refine ntsr_ ?_
 refine m_ rfl rfl ?_
 refine WL.c rfl (Ent.func Tryz.call52 rfl) (rnum2_tells p (.slice bo b.length bc9) b 0 (rW b).sh H hv (by omega) (Nat.zero_le _) 1 (by omega)) (Sp.p sp_) ?_
 rintro x1 H1 ⟨a1, rfl, ha1, hd1, rfl⟩
 rw [hq0] at hd1 ⊢
 change b.drop a1 = ((rW b).on 1).bs at hd1
 refine WL.renamed (t := 12) (v := .int .u64 (((rW b).u8.toNat : Nat) : Int)) rfl (congrArg (fun q : Nat => Value.int .u64 (q : Int)) (Rst.u8_nat2 (rW b))) ?_
 refine WL.y rfl (Yd.toInt kr_ kr_ rfl (by omega) (by omega)) ?_
 refine WL.y rfl (Yd.buildL (pl := [(0, 1), (1, 1), (2, 1)]) (zs := [.int .i64 0, .int .i64 0, .slice none 0 0]) (parts := [(0, .tmp 13)]) (vs := [(0, _)]) (cells := [_, .int .i64 0, .slice none 0 0]) kr_ kr_ rfl rfl) ?_
 refine WL.h rfl (Hd.alloc (zs := [.int .i64 0, .int .i64 0, .slice none 0 0]) kr_ fun b5 => ⟨_, rfl, ?_⟩)
 refine WL.s (Hd.storeAll (n := 3) kr_ rfl rfl (by rfl) one_ fr_ (by rfl) ⟨rfl, ?_⟩)
 refine ntsr_ ?_
 refine m_ rfl rfl ?_
 refine WL.c rfl (Ent.func Tryz.call52 rfl) (rnum2_tells p (.slice bo b.length bc9) b a1 ((rW b).on 1).sh H hv (by omega) ha1 4 (by omega)) (Sp.p sp_) ?_
 rintro x2 H2 ⟨a2, rfl, ha2, hd2, rfl⟩
 rw [hd1] at hd2 ⊢
 change b.drop a2 = (((rW b).on 1).on 4).bs at hd2
 refine WL.renamed (t := 16) (v := .int .u64 ((((rW b).on 1).u32.toNat : Nat) : Int)) rfl (congrArg (fun q : Nat => Value.int .u64 (q : Int)) (Rst.u32_nat ((rW b).on 1))) ?_
 refine WL.y rfl (Yd.toInt kr_ kr_ rfl (by omega) (by omega)) ?_
 refine f_ 1 kr_ rfl rfl ?_
 refine WL.s (Hd.store1s kr_ rfl rfl (by rfl) fr_ (by rfl) (by first | (simp only [List.set_cons_zero, List.set_cons_succ, Nat.zero_add, Nat.add_zero, Nat.reduceAdd]; rfl) | rfl) ⟨rfl, ?_⟩)
 refine ntsr_ ?_
 refine m_ rfl rfl ?_
 refine WL.c rfl (Ent.func Tryz.call53 rfl) (rtext2_tells p (.slice bo b.length bc9) b a2 (((rW b).on 1).on 4).sh H hv (by omega) ha2) (Sp.p sp_) ?_
 rintro x3 H3 ⟨A3, a3, hA3, ha3, hd3, rfl⟩
 rw [hd2] at hA3 hd3 ⊢
 obtain ⟨o3, c3, rfl, _⟩ := hA3.form
 refine f_ 2 kr_ rfl rfl ?_
 refine WL.s (Hd.store1s kr_ rfl rfl (by rfl) fr_ (by rfl) (by first | (simp only [List.set_cons_zero, List.set_cons_succ, Nat.zero_add, Nat.add_zero, Nat.reduceAdd]; rfl) | rfl) ⟨rfl, ?_⟩)
 refine ntsr_ ?_
 refine WL.h rfl (Hd.loadAll (n := 3) kr_ rfl mem_ (by rfl) ⟨_, rfl, ?_⟩)
 refine WL.c rfl (Ent.func Tryz.call12 rfl) (rencode_tells (wkOf b) (.slice o3 (wkOf b).name.length c3) A3 hA3 (Nat.le_trans (txGot_len _ _) (by decide))) (Sp.p sp_) ?_
 rintro x4 H4 ⟨x5, A5, rfl, hA5, rfl⟩
 obtain ⟨o5, c5, rfl, _⟩ := hA5.form
 refine m_ rfl rfl ?_
 refine x_ rfl rfl rfl ?_
 refine x_ rfl rfl rfl ?_
 refine a_ rfl rfl ?_
 refine a_ rfl rfl ?_
 refine nt_ ?_
 refine WC.seq ?_
 refine WC.cutK (fun z : Bool => z = decide (decBad b)) (fun z : Bool => [(35, .bool z)]) (fun z : Bool => row b5 (wkc (wkOf b) (.slice o3 (wkOf b).name.length c3)) 24 :: (A3 ++ (row b2 [.int .i64 0, .int .i64 0, .slice none 0 0] 24 :: H))) ?_ ?_
 ·refine WC.region ?_
  refine m_ rfl rfl ?_
  refine WL.y rfl (Yd.neq rfl rfl) ?_
  refine m_ rfl rfl ?_
  refine WL.partP (t := 29) rfl (fun hg29 => ?_) (fun hg29 => ?_)
  ·iterate 5 refine gn_ 29 rfl rfl rfl rfl ?_
   refine WL.y rfl (Yd.pickT rfl rfl) ?_
   refine WL.nil ?_
   exact DN.reachS (_) (by first | exact wrg_a hg29 | exact wrg_b hg29) (Sx.put rfl (sx_)) sp_
  ·refine gy_ 29 rfl rfl rfl (Yd.move rfl) ?_
   refine WL.gh (dj := 29) rfl rfl rfl (Hd.toStr (e := 5) (bs := encB (wkOf b)) kr_ kr_ Tryz.underlying9 rfl (hA5.bs.mono gr_) ⟨_, rfl, ?_⟩)
   refine gy_ 29 rfl rfl rfl (Yd.move rfl) ?_
   refine WL.gh (dj := 29) rfl rfl rfl (Hd.toStr (e := 5) (bs := b) kr_ kr_ Tryz.underlying9 rfl (hv.mono gr_) ⟨_, rfl, ?_⟩)
   refine gy_ 29 rfl rfl rfl (Yd.neqS rfl rfl) ?_
   refine WL.y rfl (Yd.pickF rfl rfl) ?_
   refine WL.nil ?_
   exact DN.reachS (_) (by first | exact wrg_a hg29 | exact wrg_b hg29) (Sx.put rfl (sx_)) sp_
 ·intro z9 hz9
  refine WC.cond rfl (fun h35 => ?_) (fun h35 => ?_)
  ·have hb : decBad b := of_decide_eq_true (hz9.symm.trans h35)
   refine sr_ ?_
   refine WL.y rfl (Yd.buildL (pl := [(0, 1), (1, 1), (2, 1)]) (zs := [.int .i64 0, .int .i64 0, .slice none 0 0]) (parts := []) (vs := []) (cells := [.int .i64 0, .int .i64 0, .slice none 0 0]) kr_ kr_ rfl rfl) ?_
   refine WL.s (Hd.storeAll (n := 3) kr_ rfl rfl (by rfl) one_ fr_ (by rfl) ⟨rfl, ?_⟩)
   refine a_ rfl rfl ?_
   refine nt_ ?_
   refine WC.ret ?_
   refine DN.then_ret ?_
   refine DN.retCT (s := 3) H Tryz.results14 kr_ rfl rfl mem_ (by rfl) sp_ ?_
   rw [show decW b = Wk.z from if_pos hb, show decE b = 120 from if_pos hb]
   exact ⟨_, [], rfl, .inl ⟨_, _, rfl, rfl, rfl⟩, rfl⟩
  ·have hb : ¬ decBad b := of_decide_eq_false (hz9.symm.trans h35)
   refine WC.skip ?_
   refine ts_ ?_
   refine WC.region ?_
   refine WL.h rfl (Hd.loadAll (n := 3) kr_ rfl mem_ (by rfl) ⟨_, rfl, ?_⟩)
   refine WL.s (Hd.storeAll (n := 3) kr_ rfl rfl (by rfl) one_ fr_ (by rfl) ⟨rfl, ?_⟩)
   refine a_ rfl rfl ?_
   refine nt_ ?_
   refine WC.ret ?_
   refine DN.retCT (s := 3) (A3 ++ H) Tryz.results14 kr_ rfl rfl mem_ (by rfl) sp_ ?_
   rw [show decW b = wkOf b from if_neg hb, show decE b = 0 from if_neg hb]
   exact ⟨_, A3, rfl, hA3, rfl⟩
end Go.Proofs.YtkamlondepceiaaGreat

set_option linter.unusedVariables false
set_option linter.unusedSimpArgs false
set_option maxHeartbeats 4000000
namespace Go.Proofs.YtkamlondepceiaaGreat
open Go.SL
theorem step_tells (ep o : BitVec 32) (st : Int) (u : Bool) (w : Wk) (v : Value) (H : List Ck) (hv : Bs v w.name H) (hl : w.name.length ≤ 1000000) : Tells Tryz.prog 39 [.int .u32 ep.toNat, .int .u32 o.toNat, .int .i64 st, .bool u, .agg (wkc w v).toArray] H fun r H' => ∃ x A, r = .agg (ntc (stepW ep o st u (encB w)) (.slice none 0 0) x).toArray ∧ Ob 5 x (encB w) A ∧ H' = A ++ H := by
 refine Tells.enter Tryz.func39 rfl Tryz.ntmps39 rfl ?_
 intro w0 R
 obtain ⟨no, nc, rfl, hnc⟩ := hv.form
 refine sr_ ?_
 refine WL.h rfl (Hd.boxA rfl fun b9 => ⟨_, rfl, ?_⟩)
 refine WL.h rfl (Hd.alloc (zs := [.int .i64 0, .int .u32 0, .int .u32 0, .int .u64 0, .int .u64 0, .int .u32 0, .int .i64 0, .bool false, .int .i64 0, .slice none 0 0, .slice none 0 0]) kr_ fun b10 => ⟨_, rfl, ?_⟩)
 refine ntsr_ ?_
 refine WL.h rfl (Hd.loadAll (n := 3) kr_ rfl mem_ (by rfl) ⟨_, rfl, ?_⟩)
 refine WL.c rfl (Ent.func Tryz.call12 rfl) (rencode_tells w _ H hv hl) (Sp.p sp_) ?_
 rintro x0 H9 ⟨x, A, rfl, hA, rfl⟩
 obtain ⟨xo, xc, rfl, _⟩ := hA.form
 refine m_ rfl rfl ?_
 refine x_ rfl rfl rfl ?_
 refine x_ rfl rfl rfl ?_
 refine a_ rfl rfl ?_
 refine a_ rfl rfl ?_
 refine ntsr_ ?_
 iterate 5 refine m_ rfl rfl ?_
 refine WL.y rfl (Yd.buildL (pl := [(0, 1), (1, 1), (2, 1), (3, 1), (4, 1), (5, 1), (6, 1), (7, 1), (8, 1), (9, 1), (10, 1)]) (zs := [.int .i64 0, .int .u32 0, .int .u32 0, .int .u64 0, .int .u64 0, .int .u32 0, .int .i64 0, .bool false, .int .i64 0, .slice none 0 0, .slice none 0 0]) (parts := [(0, .const (.int .i64 7)), (1, .tmp 18), (5, .tmp 19), (6, .tmp 20), (7, .tmp 21), (10, .tmp 22)]) (vs := [(0, _), (1, _), (5, _), (6, _), (7, _), (10, _)]) (cells := [_, _, .int .u32 0, .int .u64 0, .int .u64 0, _, _, _, .int .i64 0, .slice none 0 0, _]) kr_ kr_ rfl rfl) ?_
 refine WL.s (Hd.storeAll (n := 11) kr_ rfl rfl (by rfl) one_ fr_ (by rfl) ⟨rfl, ?_⟩)
 refine nt_ ?_
 refine WC.ret ?_
 refine DN.retCS (s := 11) (A ++ H) Tryz.results39 kr_ rfl mem_ (by rfl) sp_ ?_
 exact ⟨_, A, rfl, hA, rfl⟩
end Go.Proofs.YtkamlondepceiaaGreat

set_option linter.unusedVariables false
set_option linter.unusedSimpArgs false
set_option maxHeartbeats 4000000
namespace Go.Proofs.YtkamlondepceiaaGreat
open Go.SL
theorem same05_reads (a b : Nt) (vk vd uk ud : Value) (H : List Ck) (h1 : Bs vk a.key H) (h2 : Bs vd a.data H) (h3 : Bs uk b.key H) (h4 : Bs ud b.data H) : Reads Tryz.prog 34 [.agg (ntc a vk vd).toArray, .agg (ntc b uk ud).toArray] H (.bool (sameNt a b)) := by
 refine Tells.enter Tryz.func34 rfl Tryz.ntmps34 rfl ?_
 intro w0 R
 obtain ⟨o1, c1, rfl, _⟩ := h1.form
 obtain ⟨o2, c2, rfl, _⟩ := h2.form
 obtain ⟨o3, c3, rfl, _⟩ := h3.form
 obtain ⟨o4, c4, rfl, _⟩ := h4.form
 refine sr_ ?_
 refine WL.h rfl (Hd.boxA rfl fun b2 => ⟨_, rfl, ?_⟩)
 refine WL.h rfl (Hd.boxA rfl fun b3 => ⟨_, rfl, ?_⟩)
 refine a_ rfl rfl ?_
 refine ntsr_ ?_
 refine f_ 0 kr_ rfl rfl ?_
 refine d_ kr_ rfl mem_ (by rfl) rfl ?_
 refine f_ 0 kr_ rfl rfl ?_
 refine d_ kr_ rfl mem_ (by rfl) rfl ?_
 refine WL.y rfl (Yd.eql rfl rfl) ?_
 refine m_ rfl rfl ?_
 refine WL.partP (t := 10) rfl (fun hg10 => ?_) (fun hg10 => ?_)
 ·refine gy_ 10 rfl rfl rfl (Yd.fieldAddr (k := 1) kr_ rfl) ?_
  refine WL.gh (dj := 10) rfl rfl rfl (Hd.load1 kr_ rfl mem_ (by rfl) ⟨_, rfl, ?_⟩)
  refine gy_ 10 rfl rfl rfl (Yd.fieldAddr (k := 1) kr_ rfl) ?_
  refine WL.gh (dj := 10) rfl rfl rfl (Hd.load1 kr_ rfl mem_ (by rfl) ⟨_, rfl, ?_⟩)
  refine gy_ 10 rfl rfl rfl (Yd.eql32 _ _ rfl rfl rfl rfl) ?_
  refine WL.y rfl (Yd.pickT rfl rfl) ?_
  refine m_ rfl rfl ?_
  refine WL.partP (t := 17) rfl (fun hg17 => ?_) (fun hg17 => ?_)
  ·refine gy_ 17 rfl rfl rfl (Yd.fieldAddr (k := 2) kr_ rfl) ?_
   refine WL.gh (dj := 17) rfl rfl rfl (Hd.load1 kr_ rfl mem_ (by rfl) ⟨_, rfl, ?_⟩)
   refine gy_ 17 rfl rfl rfl (Yd.fieldAddr (k := 2) kr_ rfl) ?_
   refine WL.gh (dj := 17) rfl rfl rfl (Hd.load1 kr_ rfl mem_ (by rfl) ⟨_, rfl, ?_⟩)
   refine gy_ 17 rfl rfl rfl (Yd.eql32 _ _ rfl rfl rfl rfl) ?_
   refine WL.y rfl (Yd.pickT rfl rfl) ?_
   refine m_ rfl rfl ?_
   refine WL.partP (t := 24) rfl (fun hg24 => ?_) (fun hg24 => ?_)
   ·refine gy_ 24 rfl rfl rfl (Yd.fieldAddr (k := 3) kr_ rfl) ?_
    refine WL.gh (dj := 24) rfl rfl rfl (Hd.load1 kr_ rfl mem_ (by rfl) ⟨_, rfl, ?_⟩)
    refine gy_ 24 rfl rfl rfl (Yd.fieldAddr (k := 3) kr_ rfl) ?_
    refine WL.gh (dj := 24) rfl rfl rfl (Hd.load1 kr_ rfl mem_ (by rfl) ⟨_, rfl, ?_⟩)
    refine gy_ 24 rfl rfl rfl (Yd.eql64 _ _ rfl rfl rfl rfl) ?_
    refine WL.y rfl (Yd.pickT rfl rfl) ?_
    refine m_ rfl rfl ?_
    refine WL.partP (t := 31) rfl (fun hg31 => ?_) (fun hg31 => ?_)
    ·refine gy_ 31 rfl rfl rfl (Yd.fieldAddr (k := 4) kr_ rfl) ?_
     refine WL.gh (dj := 31) rfl rfl rfl (Hd.load1 kr_ rfl mem_ (by rfl) ⟨_, rfl, ?_⟩)
     refine gy_ 31 rfl rfl rfl (Yd.fieldAddr (k := 4) kr_ rfl) ?_
     refine WL.gh (dj := 31) rfl rfl rfl (Hd.load1 kr_ rfl mem_ (by rfl) ⟨_, rfl, ?_⟩)
     refine gy_ 31 rfl rfl rfl (Yd.eql64 _ _ rfl rfl rfl rfl) ?_
     refine WL.y rfl (Yd.pickT rfl rfl) ?_
     refine m_ rfl rfl ?_
     refine WL.partP (t := 38) rfl (fun hg38 => ?_) (fun hg38 => ?_)
     ·refine gy_ 38 rfl rfl rfl (Yd.fieldAddr (k := 5) kr_ rfl) ?_
      refine WL.gh (dj := 38) rfl rfl rfl (Hd.load1 kr_ rfl mem_ (by rfl) ⟨_, rfl, ?_⟩)
      refine gy_ 38 rfl rfl rfl (Yd.fieldAddr (k := 5) kr_ rfl) ?_
      refine WL.gh (dj := 38) rfl rfl rfl (Hd.load1 kr_ rfl mem_ (by rfl) ⟨_, rfl, ?_⟩)
      refine gy_ 38 rfl rfl rfl (Yd.eql32 _ _ rfl rfl rfl rfl) ?_
      refine WL.y rfl (Yd.pickT rfl rfl) ?_
      refine m_ rfl rfl ?_
      refine WL.partP (t := 45) rfl (fun hg45 => ?_) (fun hg45 => ?_)
      ·refine gy_ 45 rfl rfl rfl (Yd.fieldAddr (k := 6) kr_ rfl) ?_
       refine WL.gh (dj := 45) rfl rfl rfl (Hd.load1 kr_ rfl mem_ (by rfl) ⟨_, rfl, ?_⟩)
       refine gy_ 45 rfl rfl rfl (Yd.fieldAddr (k := 6) kr_ rfl) ?_
       refine WL.gh (dj := 45) rfl rfl rfl (Hd.load1 kr_ rfl mem_ (by rfl) ⟨_, rfl, ?_⟩)
       refine gy_ 45 rfl rfl rfl (Yd.eql rfl rfl) ?_
       refine WL.y rfl (Yd.pickT rfl rfl) ?_
       refine m_ rfl rfl ?_
       refine WL.partP (t := 52) rfl (fun hg52 => ?_) (fun hg52 => ?_)
       ·refine gy_ 52 rfl rfl rfl (Yd.fieldAddr (k := 7) kr_ rfl) ?_
        refine WL.gh (dj := 52) rfl rfl rfl (Hd.load1 kr_ rfl mem_ (by rfl) ⟨_, rfl, ?_⟩)
        refine gy_ 52 rfl rfl rfl (Yd.fieldAddr (k := 7) kr_ rfl) ?_
        refine WL.gh (dj := 52) rfl rfl rfl (Hd.load1 kr_ rfl mem_ (by rfl) ⟨_, rfl, ?_⟩)
        refine gy_ 52 rfl rfl rfl (Yd.eqlB Tryz.underlying4 rfl rfl) ?_
        refine WL.y rfl (Yd.pickT rfl rfl) ?_
        refine m_ rfl rfl ?_
        refine WL.part (t := 59) rfl (fun hg59 => ?_) (fun hg59 => ?_)
        ·refine gy_ 59 rfl rfl rfl (Yd.fieldAddr (k := 8) kr_ rfl) ?_
         refine WL.gh (dj := 59) rfl rfl rfl (Hd.load1 kr_ rfl mem_ (by rfl) ⟨_, rfl, ?_⟩)
         refine gy_ 59 rfl rfl rfl (Yd.fieldAddr (k := 8) kr_ rfl) ?_
         refine WL.gh (dj := 59) rfl rfl rfl (Hd.load1 kr_ rfl mem_ (by rfl) ⟨_, rfl, ?_⟩)
         refine gy_ 59 rfl rfl rfl (Yd.eql rfl rfl) ?_
         refine WL.y rfl (Yd.pickT rfl rfl) ?_
         refine m_ rfl rfl ?_
         refine WL.partP (t := 66) rfl (fun hg66 => ?_) (fun hg66 => ?_)
         ·refine gy_ 66 rfl rfl rfl (Yd.fieldAddr (k := 9) kr_ rfl) ?_
          refine WL.gh (dj := 66) rfl rfl rfl (Hd.load1 kr_ rfl mem_ (by rfl) ⟨_, rfl, ?_⟩)
          refine WL.gh (dj := 66) rfl rfl rfl (Hd.toStr (e := 5) (bs := a.key) kr_ kr_ Tryz.underlying9 rfl (h1.mono gr_) ⟨_, rfl, ?_⟩)
          refine gy_ 66 rfl rfl rfl (Yd.fieldAddr (k := 9) kr_ rfl) ?_
          refine WL.gh (dj := 66) rfl rfl rfl (Hd.load1 kr_ rfl mem_ (by rfl) ⟨_, rfl, ?_⟩)
          refine WL.gh (dj := 66) rfl rfl rfl (Hd.toStr (e := 5) (bs := b.key) kr_ kr_ Tryz.underlying9 rfl (h3.mono gr_) ⟨_, rfl, ?_⟩)
          refine gy_ 66 rfl rfl rfl (Yd.eqlS rfl rfl) ?_
          refine WL.y rfl (Yd.pickT rfl rfl) ?_
          refine m_ rfl rfl ?_
          refine WL.partP (t := 75) rfl (fun hg75 => ?_) (fun hg75 => ?_)
          ·refine gy_ 75 rfl rfl rfl (Yd.fieldAddr (k := 10) kr_ rfl) ?_
           refine WL.gh (dj := 75) rfl rfl rfl (Hd.load1 kr_ rfl mem_ (by rfl) ⟨_, rfl, ?_⟩)
           refine WL.gh (dj := 75) rfl rfl rfl (Hd.toStr (e := 5) (bs := a.data) kr_ kr_ Tryz.underlying9 rfl (h2.mono gr_) ⟨_, rfl, ?_⟩)
           refine gy_ 75 rfl rfl rfl (Yd.fieldAddr (k := 10) kr_ rfl) ?_
           refine WL.gh (dj := 75) rfl rfl rfl (Hd.load1 kr_ rfl mem_ (by rfl) ⟨_, rfl, ?_⟩)
           refine WL.gh (dj := 75) rfl rfl rfl (Hd.toStr (e := 5) (bs := b.data) kr_ kr_ Tryz.underlying9 rfl (h4.mono gr_) ⟨_, rfl, ?_⟩)
           refine gy_ 75 rfl rfl rfl (Yd.eqlS rfl rfl) ?_
           refine WL.y rfl (Yd.pickT rfl rfl) ?_
           refine a_ rfl rfl ?_
           refine nt_ ?_
           refine WC.ret ?_
           refine DN.fit (C := H) sp_ ?_
           refine DN.ret1 Tryz.results34 rfl ?_
           exact ⟨by congr 1; symm; simp only [sameNt, *, decide_true, decide_false, Bool.true_and, Bool.false_and], rfl⟩
          ·iterate 7 refine gn_ 75 rfl rfl rfl rfl ?_
           refine WL.y rfl (Yd.pickF rfl rfl) ?_
           refine a_ rfl rfl ?_
           refine nt_ ?_
           refine WC.ret ?_
           refine DN.fit (C := H) sp_ ?_
           refine DN.ret1 Tryz.results34 rfl ?_
           exact ⟨by congr 1; symm; simp only [sameNt, *, decide_true, decide_false, Bool.true_and, Bool.false_and], rfl⟩
         ·iterate 7 refine gn_ 66 rfl rfl rfl rfl ?_
          refine WL.y rfl (Yd.pickF rfl rfl) ?_
          refine m_ rfl rfl ?_
          iterate 7 refine gn_ 75 rfl rfl rfl rfl ?_
          refine WL.y rfl (Yd.pickF rfl rfl) ?_
          refine a_ rfl rfl ?_
          refine nt_ ?_
          refine WC.ret ?_
          refine DN.fit (C := H) sp_ ?_
          refine DN.ret1 Tryz.results34 rfl ?_
          exact ⟨by congr 1; symm; simp only [sameNt, *, decide_true, decide_false, Bool.true_and, Bool.false_and], rfl⟩
        ·iterate 5 refine gn_ 59 rfl rfl rfl rfl ?_
         refine WL.y rfl (Yd.pickF rfl rfl) ?_
         refine m_ rfl rfl ?_
         iterate 7 refine gn_ 66 rfl rfl rfl rfl ?_
         refine WL.y rfl (Yd.pickF rfl rfl) ?_
         refine m_ rfl rfl ?_
         iterate 7 refine gn_ 75 rfl rfl rfl rfl ?_
         refine WL.y rfl (Yd.pickF rfl rfl) ?_
         refine a_ rfl rfl ?_
         refine nt_ ?_
         refine WC.ret ?_
         refine DN.fit (C := H) sp_ ?_
         refine DN.ret1 Tryz.results34 rfl ?_
         exact ⟨by congr 1; symm; simp only [sameNt, *, decide_true, decide_false, Bool.true_and, Bool.false_and], rfl⟩
       ·iterate 5 refine gn_ 52 rfl rfl rfl rfl ?_
        refine WL.y rfl (Yd.pickF rfl rfl) ?_
        refine m_ rfl rfl ?_
        iterate 5 refine gn_ 59 rfl rfl rfl rfl ?_
        refine WL.y rfl (Yd.pickF rfl rfl) ?_
        refine m_ rfl rfl ?_
        iterate 7 refine gn_ 66 rfl rfl rfl rfl ?_
        refine WL.y rfl (Yd.pickF rfl rfl) ?_
        refine m_ rfl rfl ?_
        iterate 7 refine gn_ 75 rfl rfl rfl rfl ?_
        refine WL.y rfl (Yd.pickF rfl rfl) ?_
        refine a_ rfl rfl ?_
        refine nt_ ?_
        refine WC.ret ?_
        refine DN.fit (C := H) sp_ ?_
        refine DN.ret1 Tryz.results34 rfl ?_
        exact ⟨by congr 1; symm; simp only [sameNt, *, decide_true, decide_false, Bool.true_and, Bool.false_and], rfl⟩
      ·iterate 5 refine gn_ 45 rfl rfl rfl rfl ?_
       refine WL.y rfl (Yd.pickF rfl rfl) ?_
       refine m_ rfl rfl ?_
       iterate 5 refine gn_ 52 rfl rfl rfl rfl ?_
       refine WL.y rfl (Yd.pickF rfl rfl) ?_
       refine m_ rfl rfl ?_
       iterate 5 refine gn_ 59 rfl rfl rfl rfl ?_
       refine WL.y rfl (Yd.pickF rfl rfl) ?_
       refine m_ rfl rfl ?_
       iterate 7 refine gn_ 66 rfl rfl rfl rfl ?_
       refine WL.y rfl (Yd.pickF rfl rfl) ?_
       refine m_ rfl rfl ?_
       iterate 7 refine gn_ 75 rfl rfl rfl rfl ?_
       refine WL.y rfl (Yd.pickF rfl rfl) ?_
       refine a_ rfl rfl ?_
       refine nt_ ?_
       refine WC.ret ?_
       refine DN.fit (C := H) sp_ ?_
       refine DN.ret1 Tryz.results34 rfl ?_
       exact ⟨by congr 1; symm; simp only [sameNt, *, decide_true, decide_false, Bool.true_and, Bool.false_and], rfl⟩
     ·iterate 5 refine gn_ 38 rfl rfl rfl rfl ?_
      refine WL.y rfl (Yd.pickF rfl rfl) ?_
      refine m_ rfl rfl ?_
      iterate 5 refine gn_ 45 rfl rfl rfl rfl ?_
      refine WL.y rfl (Yd.pickF rfl rfl) ?_
      refine m_ rfl rfl ?_
      iterate 5 refine gn_ 52 rfl rfl rfl rfl ?_
      refine WL.y rfl (Yd.pickF rfl rfl) ?_
      refine m_ rfl rfl ?_
      iterate 5 refine gn_ 59 rfl rfl rfl rfl ?_
      refine WL.y rfl (Yd.pickF rfl rfl) ?_
      refine m_ rfl rfl ?_
      iterate 7 refine gn_ 66 rfl rfl rfl rfl ?_
      refine WL.y rfl (Yd.pickF rfl rfl) ?_
      refine m_ rfl rfl ?_
      iterate 7 refine gn_ 75 rfl rfl rfl rfl ?_
      refine WL.y rfl (Yd.pickF rfl rfl) ?_
      refine a_ rfl rfl ?_
      refine nt_ ?_
      refine WC.ret ?_
      refine DN.fit (C := H) sp_ ?_
      refine DN.ret1 Tryz.results34 rfl ?_
      exact ⟨by congr 1; symm; simp only [sameNt, *, decide_true, decide_false, Bool.true_and, Bool.false_and], rfl⟩
    ·iterate 5 refine gn_ 31 rfl rfl rfl rfl ?_
     refine WL.y rfl (Yd.pickF rfl rfl) ?_
     refine m_ rfl rfl ?_
     iterate 5 refine gn_ 38 rfl rfl rfl rfl ?_
     refine WL.y rfl (Yd.pickF rfl rfl) ?_
     refine m_ rfl rfl ?_
     iterate 5 refine gn_ 45 rfl rfl rfl rfl ?_
     refine WL.y rfl (Yd.pickF rfl rfl) ?_
     refine m_ rfl rfl ?_
     iterate 5 refine gn_ 52 rfl rfl rfl rfl ?_
     refine WL.y rfl (Yd.pickF rfl rfl) ?_
     refine m_ rfl rfl ?_
     iterate 5 refine gn_ 59 rfl rfl rfl rfl ?_
     refine WL.y rfl (Yd.pickF rfl rfl) ?_
     refine m_ rfl rfl ?_
     iterate 7 refine gn_ 66 rfl rfl rfl rfl ?_
     refine WL.y rfl (Yd.pickF rfl rfl) ?_
     refine m_ rfl rfl ?_
     iterate 7 refine gn_ 75 rfl rfl rfl rfl ?_
     refine WL.y rfl (Yd.pickF rfl rfl) ?_
     refine a_ rfl rfl ?_
     refine nt_ ?_
     refine WC.ret ?_
     refine DN.fit (C := H) sp_ ?_
     refine DN.ret1 Tryz.results34 rfl ?_
     exact ⟨by congr 1; symm; simp only [sameNt, *, decide_true, decide_false, Bool.true_and, Bool.false_and], rfl⟩
   ·iterate 5 refine gn_ 24 rfl rfl rfl rfl ?_
    refine WL.y rfl (Yd.pickF rfl rfl) ?_
    refine m_ rfl rfl ?_
    iterate 5 refine gn_ 31 rfl rfl rfl rfl ?_
    refine WL.y rfl (Yd.pickF rfl rfl) ?_
    refine m_ rfl rfl ?_
    iterate 5 refine gn_ 38 rfl rfl rfl rfl ?_
    refine WL.y rfl (Yd.pickF rfl rfl) ?_
    refine m_ rfl rfl ?_
    iterate 5 refine gn_ 45 rfl rfl rfl rfl ?_
    refine WL.y rfl (Yd.pickF rfl rfl) ?_
    refine m_ rfl rfl ?_
    iterate 5 refine gn_ 52 rfl rfl rfl rfl ?_
    refine WL.y rfl (Yd.pickF rfl rfl) ?_
    refine m_ rfl rfl ?_
    iterate 5 refine gn_ 59 rfl rfl rfl rfl ?_
    refine WL.y rfl (Yd.pickF rfl rfl) ?_
    refine m_ rfl rfl ?_
    iterate 7 refine gn_ 66 rfl rfl rfl rfl ?_
    refine WL.y rfl (Yd.pickF rfl rfl) ?_
    refine m_ rfl rfl ?_
    iterate 7 refine gn_ 75 rfl rfl rfl rfl ?_
    refine WL.y rfl (Yd.pickF rfl rfl) ?_
    refine a_ rfl rfl ?_
    refine nt_ ?_
    refine WC.ret ?_
    refine DN.fit (C := H) sp_ ?_
    refine DN.ret1 Tryz.results34 rfl ?_
    exact ⟨by congr 1; symm; simp only [sameNt, *, decide_true, decide_false, Bool.true_and, Bool.false_and], rfl⟩
  ·iterate 5 refine gn_ 17 rfl rfl rfl rfl ?_
   refine WL.y rfl (Yd.pickF rfl rfl) ?_
   refine m_ rfl rfl ?_
   iterate 5 refine gn_ 24 rfl rfl rfl rfl ?_
   refine WL.y rfl (Yd.pickF rfl rfl) ?_
   refine m_ rfl rfl ?_
   iterate 5 refine gn_ 31 rfl rfl rfl rfl ?_
   refine WL.y rfl (Yd.pickF rfl rfl) ?_
   refine m_ rfl rfl ?_
   iterate 5 refine gn_ 38 rfl rfl rfl rfl ?_
   refine WL.y rfl (Yd.pickF rfl rfl) ?_
   refine m_ rfl rfl ?_
   iterate 5 refine gn_ 45 rfl rfl rfl rfl ?_
   refine WL.y rfl (Yd.pickF rfl rfl) ?_
   refine m_ rfl rfl ?_
   iterate 5 refine gn_ 52 rfl rfl rfl rfl ?_
   refine WL.y rfl (Yd.pickF rfl rfl) ?_
   refine m_ rfl rfl ?_
   iterate 5 refine gn_ 59 rfl rfl rfl rfl ?_
   refine WL.y rfl (Yd.pickF rfl rfl) ?_
   refine m_ rfl rfl ?_
   iterate 7 refine gn_ 66 rfl rfl rfl rfl ?_
   refine WL.y rfl (Yd.pickF rfl rfl) ?_
   refine m_ rfl rfl ?_
   iterate 7 refine gn_ 75 rfl rfl rfl rfl ?_
   refine WL.y rfl (Yd.pickF rfl rfl) ?_
   refine a_ rfl rfl ?_
   refine nt_ ?_
   refine WC.ret ?_
   refine DN.fit (C := H) sp_ ?_
   refine DN.ret1 Tryz.results34 rfl ?_
   exact ⟨by congr 1; symm; simp only [sameNt, *, decide_true, decide_false, Bool.true_and, Bool.false_and], rfl⟩
 ·iterate 5 refine gn_ 10 rfl rfl rfl rfl ?_
  refine WL.y rfl (Yd.pickF rfl rfl) ?_
  refine m_ rfl rfl ?_
  iterate 5 refine gn_ 17 rfl rfl rfl rfl ?_
  refine WL.y rfl (Yd.pickF rfl rfl) ?_
  refine m_ rfl rfl ?_
  iterate 5 refine gn_ 24 rfl rfl rfl rfl ?_
  refine WL.y rfl (Yd.pickF rfl rfl) ?_
  refine m_ rfl rfl ?_
  iterate 5 refine gn_ 31 rfl rfl rfl rfl ?_
  refine WL.y rfl (Yd.pickF rfl rfl) ?_
  refine m_ rfl rfl ?_
  iterate 5 refine gn_ 38 rfl rfl rfl rfl ?_
  refine WL.y rfl (Yd.pickF rfl rfl) ?_
  refine m_ rfl rfl ?_
  iterate 5 refine gn_ 45 rfl rfl rfl rfl ?_
  refine WL.y rfl (Yd.pickF rfl rfl) ?_
  refine m_ rfl rfl ?_
  iterate 5 refine gn_ 52 rfl rfl rfl rfl ?_
  refine WL.y rfl (Yd.pickF rfl rfl) ?_
  refine m_ rfl rfl ?_
  iterate 5 refine gn_ 59 rfl rfl rfl rfl ?_
  refine WL.y rfl (Yd.pickF rfl rfl) ?_
  refine m_ rfl rfl ?_
  iterate 7 refine gn_ 66 rfl rfl rfl rfl ?_
  refine WL.y rfl (Yd.pickF rfl rfl) ?_
  refine m_ rfl rfl ?_
  iterate 7 refine gn_ 75 rfl rfl rfl rfl ?_
  refine WL.y rfl (Yd.pickF rfl rfl) ?_
  refine a_ rfl rfl ?_
  refine nt_ ?_
  refine WC.ret ?_
  refine DN.fit (C := H) sp_ ?_
  refine DN.ret1 Tryz.results34 rfl ?_
  exact ⟨by congr 1; symm; simp only [sameNt, *, decide_true, decide_false, Bool.true_and, Bool.false_and], rfl⟩
end Go.Proofs.YtkamlondepceiaaGreat

set_option linter.unusedVariables false
set_option linter.unusedSimpArgs false
set_option maxHeartbeats 4000000
namespace Go.Proofs.YtkamlondepceiaaGreat
open Go.SL
theorem kn_good : GoodL knG ∧ AccL knU ∧ (([3] : List Int).findIdx? Do.badRoom).isSome = false ∧ ([3] : List Int).length ≤ 60 := by
  refine ⟨⟨by decide, by decide, fun g hg => ?_⟩, ⟨by decide, by decide, fun g hg => ?_⟩, by decide, by decide⟩
  · simp only [knG, List.mem_cons, List.not_mem_nil, or_false] at hg
    subst hg
    unfold goodB; decide
  · simp only [knU, List.mem_cons, List.not_mem_nil, or_false] at hg
    subst hg
    unfold accB; decide
theorem kn_inv : CInv knG knU [3] kn0c :=
  new_inv (SInv.start (by decide) (by decide) fun g hg => ⟨kn_good.1.2.2 g hg, (by decide : ∀ g ∈ knG, g.gone = 0) g hg⟩) (PInv.start kn_good.2.1) (DInv.start (roomsOk_of (by decide)) (by decide))
theorem kn_told {K S : List Gd} {g : Gd} (hK : K = [g]) (h : ToldK Gd.name sLt K S) : S = [g] := by
  subst hK
  exact List.perm_singleton.1 h.perm
theorem kn_step (e : BitVec 32) (u : Bool) : stepW e 7#32 0 u (encB knW) = knN e u := rfl
theorem known12 (H : List Ck) : Reads Tryz.prog 9 [] H (.bool true) := by
 refine Tells.enter Tryz.func9 rfl Tryz.ntmps9 rfl ?_
 intro w0 R
 refine sr_ ?_
 refine a_ rfl rfl ?_
 refine ntsr_ ?_
 refine WL.y rfl (Yd.buildL (pl := [(0, 1), (1, 1)]) (zs := [.string ⟨#[]⟩, .int .i64 0]) (parts := [(0, .const (.string ⟨#[97]⟩)), (1, .const (.int .i64 5))]) (vs := [(0, _), (1, _)]) (cells := [_, _]) kr_ kr_ rfl rfl) ?_
 refine WL.h rfl (Hd.buildSlice (e := 73) (sz := 2) (zs := [.string ⟨#[]⟩, .int .i64 0]) (parts := [(0, .tmp 11)]) (vs := [(0, .agg (cellsG ⟨⟨#[97]⟩, 5, 0⟩).toArray)]) (cells := knG.flatMap cellsG) kr_ kr_ kr_ rfl kr_ kr_ fun b12 => ⟨_, rfl, ?_⟩)
 refine WL.y rfl (Yd.buildL (pl := [(0, 1), (1, 1), (2, 1)]) (zs := [.string ⟨#[]⟩, .int .i64 0, .int .i64 0]) (parts := [(0, .const (.string ⟨#[97, 110, 110]⟩)), (1, .const (.int .i64 9))]) (vs := [(0, _), (1, _)]) (cells := [_, _, .int .i64 0]) kr_ kr_ rfl rfl) ?_
 refine WL.h rfl (Hd.buildSlice (e := 71) (sz := 3) (zs := [.string ⟨#[]⟩, .int .i64 0, .int .i64 0]) (parts := [(0, .tmp 13)]) (vs := [(0, .agg (cellsU ⟨⟨#[97, 110, 110]⟩, 9, 0⟩).toArray)]) (cells := knU.flatMap cellsU) kr_ kr_ kr_ rfl kr_ kr_ fun b14 => ⟨_, rfl, ?_⟩)
 refine WL.h rfl (Hd.build1 (e := 3) (z := .int .i64 0) kr_ kr_ kr_ rfl (by rfl) fun b15 => ⟨_, rfl, ?_⟩)
 refine WL.c rfl (Ent.func Tryz.call31 rfl) (cnew_tells _ _ _ knG knU [3] (by decide) (row b15 (ic [3]) 3 :: (row b14 (knU.flatMap cellsU) 71 :: (row b12 (knG.flatMap cellsG) 73 :: H))) (.inr ⟨b12, 0, 1, knG.flatMap cellsG, 73, (0, 0), true, rfl, Nat.le_refl _, List.mem_cons_of_mem _ (List.mem_cons_of_mem _ List.mem_cons_self), rfl⟩) (.inr ⟨b14, 0, 1, knU.flatMap cellsU, 71, (0, 0), true, rfl, Nat.le_refl _, List.mem_cons_of_mem _ List.mem_cons_self, rfl⟩) (.inr ⟨b15, 0, 1, ic [3], 3, (0, 0), true, rfl, Nat.le_refl _, List.mem_cons_self, rfl⟩) (by decide) (by decide) (by decide)) (Sp.p sp_) ?_
 intro x H9 h9
 obtain ⟨p, C0, rfl, h0, rfl⟩ := (h9.resolve_right fun q => q.1 kn_good).2
 have inv0 := kn_inv
 refine m_ rfl rfl ?_
 refine x_ rfl rfl rfl ?_
 refine x_ rfl rfl rfl ?_
 refine a_ rfl rfl ?_
 refine a_ rfl rfl ?_
 refine nt_ ?_
 refine WC.seq ?_
 refine sr_ ?_
 refine m_ rfl rfl ?_
 refine WL.y rfl (Yd.neq rfl rfl) ?_
 refine WL.renamed (t := 20) (v := .bool false) rfl (congrArg Value.bool (by decide)) ?_
 refine m_ rfl rfl ?_
 refine gy_ 21 rfl rfl rfl (Yd.move rfl) ?_
 refine gy_ 21 rfl rfl rfl (Yd.eqlNil Tryz.underlying40 rfl rfl) ?_
 refine WL.renamed (t := 23) (v := .bool false) rfl (congrArg Value.bool (rfl)) ?_
 refine WL.y rfl (Yd.pickF rfl rfl) ?_
 refine nt_ ?_
 refine WC.no rfl ?_
 refine WC.skip ?_
 refine ts_ ?_
 refine WC.region ?_
 refine WL.h rfl (Hd.buildBytes (e := 5) [97#8] kr_ kr_ kr_ rfl rfl kr_ fun b25 => ⟨_, rfl, ?_⟩)
 refine WL.h rfl (Hd.markB (e := 5) kr_ kr_ rfl fr_ ⟨_, rfl, ?_⟩)
 refine WL.y rfl (Yd.buildL (pl := [(0, 1), (1, 1), (2, 1)]) (zs := [.int .i64 0, .int .i64 0, .slice none 0 0]) (parts := [(0, .const (.int .i64 1)), (1, .const (.int .i64 2)), (2, .tmp 26)]) (vs := [(0, _), (1, _), (2, _)]) (cells := [_, _, _]) kr_ kr_ rfl rfl) ?_
 refine WL.h rfl (Hd.alloc (zs := [.int .i64 0, .int .i64 0, .slice none 0 0]) kr_ fun b3 => ⟨_, rfl, ?_⟩)
 refine WL.s (Hd.storeAll (n := 3) kr_ rfl rfl (by rfl) one_ fr_ (by rfl) ⟨rfl, ?_⟩)
 refine ntsr_ ?_
 refine m_ rfl rfl ?_
 refine WL.h rfl (Hd.loadAll (n := 3) kr_ rfl mem_ (by rfl) ⟨_, rfl, ?_⟩)
 refine WL.c rfl (Ent.func Tryz.call39 rfl) (step_tells 1#32 7#32 0 false knW _ [⟨b25, .cells (bc [97#8]).toArray 5 ((bc [97#8]).length, (bc [97#8]).length + 1), true⟩] (bs_marked rfl List.mem_cons_self) (by decide)) (Sp.p sp_) ?_
 rintro q1 Hq1 ⟨x1, A1, rfl, hA1, rfl⟩
 rw [kn_step]
 obtain ⟨xo1, xc1, rfl, _⟩ := hA1.form
 refine WL.c rfl (Ent.func Tryz.call22 rfl) (serve_tells p kn0c C0 h0 inv0 (knN 1#32 false) (.slice none 0 0) (.slice xo1 (encB knW).length xc1) A1 (.inl ⟨_, _, rfl, rfl, rfl⟩) hA1.bs) (Sp.p sp_) ?_
 rintro r1 Hs1 ⟨C1, w1, D1, rfl, h1, hD1, rfl⟩
 have inv1 := serve_inv inv0 (knN 1#32 false)
 obtain ⟨s1, hs1⟩ : ∃ t, t = serveS kn0c (knN 1#32 false) := ⟨_, rfl⟩
 obtain ⟨n1, hn1⟩ : ∃ t, t = serveN kn0c (knN 1#32 false) := ⟨_, rfl⟩
 rw [← hs1] at h1 inv1
 rw [← hn1] at hD1 ⊢
 obtain ⟨wo1, wc1, rfl, _⟩ := hD1.form
 refine WL.h rfl (Hd.alloc (zs := [.int .i64 0, .int .u32 0, .int .u32 0, .int .u64 0, .int .u64 0, .int .u32 0, .int .i64 0, .bool false, .int .i64 0, .slice none 0 0, .slice none 0 0]) kr_ fun b4 => ⟨_, rfl, ?_⟩)
 refine WL.s (Hd.storeAll (n := 11) kr_ rfl rfl (by rfl) (ntc_one rfl rfl) fr_ (by rfl) ⟨rfl, ?_⟩)
 refine ntsr_ ?_
 refine m_ rfl rfl ?_
 refine WL.c rfl (Ent.func Tryz.call25 rfl) (cgoods_tells p s1 C1 h1 (by rw [hs1, kn_s1]; decide)) (Sp.p sp_) ?_
 rintro g2 Hg2 ⟨S2, G2, hT2, ho2, rfl⟩
 obtain rfl := kn_told (g := ⟨⟨#[97]⟩, 3, 0⟩) (by rw [hs1]; exact kn_s1) hT2
 obtain ⟨go2, gc2, rfl, _⟩ := ho2.form
 obtain ⟨g2b, g2f, g2s, g2T, g2fr, g2ex, rfl, _, hg2m, hg2s⟩ := ho2.rs.lies (by decide)
 refine a_ rfl rfl ?_
 refine ntsr_ ?_
 refine m_ rfl rfl ?_
 refine WL.h rfl (Hd.loadAll (n := 3) kr_ rfl mem_ (by rfl) ⟨_, rfl, ?_⟩)
 refine WL.c rfl (Ent.func Tryz.call39 rfl) (step_tells 1#32 7#32 0 false knW _ [⟨b25, .cells (bc [97#8]).toArray 5 ((bc [97#8]).length, (bc [97#8]).length + 1), true⟩] (bs_marked rfl List.mem_cons_self) (by decide)) (Sp.p sp_) ?_
 rintro q3 Hq3 ⟨x3, A3, rfl, hA3, rfl⟩
 rw [kn_step]
 obtain ⟨xo3, xc3, rfl, _⟩ := hA3.form
 refine WL.c rfl (Ent.func Tryz.call22 rfl) (serve_tells p s1 C1 h1 inv1 (knN 1#32 false) (.slice none 0 0) (.slice xo3 (encB knW).length xc3) A3 (.inl ⟨_, _, rfl, rfl, rfl⟩) hA3.bs) (Sp.p sp_) ?_
 rintro r3 Hs3 ⟨C3, w3, D3, rfl, h3, hD3, rfl⟩
 have inv3 := serve_inv inv1 (knN 1#32 false)
 obtain ⟨s3, hs3⟩ : ∃ t, t = serveS s1 (knN 1#32 false) := ⟨_, rfl⟩
 obtain ⟨n3, hn3⟩ : ∃ t, t = serveN s1 (knN 1#32 false) := ⟨_, rfl⟩
 rw [← hs3] at h3 inv3
 rw [← hn3] at hD3 ⊢
 obtain ⟨wo3, wc3, rfl, _⟩ := hD3.form
 refine WL.h rfl (Hd.alloc (zs := [.int .i64 0, .int .u32 0, .int .u32 0, .int .u64 0, .int .u64 0, .int .u32 0, .int .i64 0, .bool false, .int .i64 0, .slice none 0 0, .slice none 0 0]) kr_ fun b6 => ⟨_, rfl, ?_⟩)
 refine WL.s (Hd.storeAll (n := 11) kr_ rfl rfl (by rfl) one_ fr_ (by rfl) ⟨rfl, ?_⟩)
 refine ntsr_ ?_
 refine m_ rfl rfl ?_
 refine WL.h rfl (Hd.loadAll (n := 3) kr_ rfl mem_ (by rfl) ⟨_, rfl, ?_⟩)
 refine WL.c rfl (Ent.func Tryz.call39 rfl) (step_tells 0#32 7#32 0 false knW _ [⟨b25, .cells (bc [97#8]).toArray 5 ((bc [97#8]).length, (bc [97#8]).length + 1), true⟩] (bs_marked rfl List.mem_cons_self) (by decide)) (Sp.p sp_) ?_
 rintro q4 Hq4 ⟨x4, A4, rfl, hA4, rfl⟩
 rw [kn_step]
 obtain ⟨xo4, xc4, rfl, _⟩ := hA4.form
 refine WL.c rfl (Ent.func Tryz.call22 rfl) (serve_tells p s3 C3 h3 inv3 (knN 0#32 false) (.slice none 0 0) (.slice xo4 (encB knW).length xc4) A4 (.inl ⟨_, _, rfl, rfl, rfl⟩) hA4.bs) (Sp.p sp_) ?_
 rintro r4 Hs4 ⟨C4, w4, D4, rfl, h4, hD4, rfl⟩
 have inv4 := serve_inv inv3 (knN 0#32 false)
 obtain ⟨s4, hs4⟩ : ∃ t, t = serveS s3 (knN 0#32 false) := ⟨_, rfl⟩
 obtain ⟨n4, hn4⟩ : ∃ t, t = serveN s3 (knN 0#32 false) := ⟨_, rfl⟩
 rw [← hs4] at h4 inv4
 rw [← hn4] at hD4 ⊢
 obtain ⟨wo4, wc4, rfl, _⟩ := hD4.form
 refine WL.h rfl (Hd.alloc (zs := [.int .i64 0, .int .u32 0, .int .u32 0, .int .u64 0, .int .u64 0, .int .u32 0, .int .i64 0, .bool false, .int .i64 0, .slice none 0 0, .slice none 0 0]) kr_ fun b7 => ⟨_, rfl, ?_⟩)
 refine WL.s (Hd.storeAll (n := 11) kr_ rfl rfl (by rfl) one_ fr_ (by rfl) ⟨rfl, ?_⟩)
 refine ntsr_ ?_
 refine m_ rfl rfl ?_
 refine WL.h rfl (Hd.loadAll (n := 3) kr_ rfl mem_ (by rfl) ⟨_, rfl, ?_⟩)
 refine WL.c rfl (Ent.func Tryz.call39 rfl) (step_tells 1#32 7#32 0 true knW _ [⟨b25, .cells (bc [97#8]).toArray 5 ((bc [97#8]).length, (bc [97#8]).length + 1), true⟩] (bs_marked rfl List.mem_cons_self) (by decide)) (Sp.p sp_) ?_
 rintro q6 Hq6 ⟨x6, A6, rfl, hA6, rfl⟩
 rw [kn_step]
 obtain ⟨xo6, xc6, rfl, _⟩ := hA6.form
 refine WL.c rfl (Ent.func Tryz.call22 rfl) (serve_tells p s4 C4 h4 inv4 (knN 1#32 true) (.slice none 0 0) (.slice xo6 (encB knW).length xc6) A6 (.inl ⟨_, _, rfl, rfl, rfl⟩) hA6.bs) (Sp.p sp_) ?_
 rintro r6 Hs6 ⟨C6, w6, D6, rfl, h6, hD6, rfl⟩
 have inv6 := serve_inv inv4 (knN 1#32 true)
 obtain ⟨s6, hs6⟩ : ∃ t, t = serveS s4 (knN 1#32 true) := ⟨_, rfl⟩
 obtain ⟨n6, hn6⟩ : ∃ t, t = serveN s4 (knN 1#32 true) := ⟨_, rfl⟩
 rw [← hs6] at h6 inv6
 rw [← hn6] at hD6 ⊢
 obtain ⟨wo6, wc6, rfl, _⟩ := hD6.form
 refine WL.h rfl (Hd.alloc (zs := [.int .i64 0, .int .u32 0, .int .u32 0, .int .u64 0, .int .u64 0, .int .u32 0, .int .i64 0, .bool false, .int .i64 0, .slice none 0 0, .slice none 0 0]) kr_ fun b8 => ⟨_, rfl, ?_⟩)
 refine WL.s (Hd.storeAll (n := 11) kr_ rfl rfl (by rfl) one_ fr_ (by rfl) ⟨rfl, ?_⟩)
 refine ntsr_ ?_
 refine m_ rfl rfl ?_
 have e6 : s6.K = [⟨⟨#[97]⟩, 5, 0⟩] ∧ s6.e = 1#32 ∧ s6.ef.length = 2 := by rw [hs6, hs4, hs3, hs1]; exact kn_K4
 refine WL.c rfl (Ent.func Tryz.call25 rfl) (cgoods_tells p s6 C6 h6 (by rw [e6.1]; decide)) (Sp.p sp_) ?_
 rintro g5 Hg5 ⟨S5, G5, hT5, ho5, rfl⟩
 obtain rfl := kn_told (g := ⟨⟨#[97]⟩, 5, 0⟩) (e6.1) hT5
 obtain ⟨go5, gc5, rfl, _⟩ := ho5.form
 obtain ⟨g5b, g5f, g5s, g5T, g5fr, g5ex, rfl, _, hg5m, hg5s⟩ := ho5.rs.lies (by decide)
 refine a_ rfl rfl ?_
 refine ntsr_ ?_
 refine f_ 0 kr_ rfl rfl ?_
 refine d_ kr_ rfl mem_ (by rfl) rfl ?_
 refine WL.y rfl (Yd.eql rfl rfl) ?_
 refine WL.renamed (t := 50) (v := .bool true) rfl (congrArg Value.bool (decide_eq_true (by rw [hn1]; exact kn_n1.1))) ?_
 refine m_ rfl rfl ?_
 refine gy_ 51 rfl rfl rfl (Yd.fieldAddr (k := 8) kr_ rfl) ?_
 refine WL.gh (dj := 51) rfl rfl rfl (Hd.load1 kr_ rfl mem_ (by rfl) ⟨_, rfl, ?_⟩)
 refine gy_ 51 rfl rfl rfl (Yd.eql rfl rfl) ?_
 refine WL.renamed (t := 54) (v := .bool true) rfl (congrArg Value.bool (decide_eq_true (by rw [hn1]; exact kn_n1.2))) ?_
 refine WL.y rfl (Yd.pickT rfl rfl) ?_
 refine m_ rfl rfl ?_
 refine gy_ 56 rfl rfl rfl (Yd.move rfl) ?_
 refine gy_ 56 rfl rfl rfl (Yd.len (e := 73) kr_ rfl) ?_
 refine gy_ 56 rfl rfl rfl (Yd.eql rfl rfl) ?_
 refine WL.renamed (t := 59) (v := .bool true) rfl (congrArg Value.bool (by decide)) ?_
 refine WL.y rfl (Yd.pickT rfl rfl) ?_
 refine m_ rfl rfl ?_
 refine gy_ 61 rfl rfl rfl (Yd.move rfl) ?_
 refine gy_ 61 rfl rfl rfl (Yd.indexAddr (e := 73) (s := 2) kr_ kr_ rfl rfl (by decide) (by decide)) ?_
 refine gy_ 61 rfl rfl rfl (Yd.fieldAddr (k := 1) kr_ rfl) ?_
 refine WL.gh (dj := 61) rfl rfl rfl (Hd.load1 (v := .int .i64 3) (b := g2b) (o := g2f + ((0 : Nat) : Int).toNat * 2 + 1) (cs := g2s) kr_ rfl (Gr.get gr_ hg2m) (cell_at2 (L := [⟨⟨#[97]⟩, 3, 0⟩]) cellsG_len hg2s (by decide) (by decide)) ⟨_, rfl, ?_⟩)
 refine gy_ 61 rfl rfl rfl (Yd.eql rfl rfl) ?_
 refine WL.renamed (t := 66) (v := .bool true) rfl (congrArg Value.bool (by decide)) ?_
 refine WL.y rfl (Yd.pickT rfl rfl) ?_
 refine m_ rfl rfl ?_
 refine WL.gh (dj := 68) rfl rfl rfl (Hd.loadAll (n := 11) kr_ rfl mem_ (by rfl) ⟨_, rfl, ?_⟩)
 refine WL.gh (dj := 68) rfl rfl rfl (Hd.loadAll (n := 11) kr_ rfl mem_ (by rfl) ⟨_, rfl, ?_⟩)
 refine WL.grf (dj := 68) rfl rfl rfl (Ent.func Tryz.call34 rfl) (same05_reads n1 n3 _ _ _ _ (D1 ++ D3) (by rw [hn1, serve_key]; exact .inl ⟨_, _, rfl, rfl, rfl⟩) (hD1.bs.mono gr_) (by rw [hn3, serve_key]; exact .inl ⟨_, _, rfl, rfl, rfl⟩) (hD3.bs.mono gr_)) sp_ ?_
 refine WL.renamed (t := 71) (v := .bool true) rfl (congrArg Value.bool (by rw [show n3 = n1 by rw [hn3, hs1, hn1]; exact kn_n2]; exact sameNt_refl n1)) ?_
 refine WL.y rfl (Yd.pickT rfl rfl) ?_
 refine m_ rfl rfl ?_
 refine gy_ 73 rfl rfl rfl (Yd.fieldAddr (k := 0) kr_ rfl) ?_
 refine WL.gh (dj := 73) rfl rfl rfl (Hd.load1 kr_ rfl mem_ (by rfl) ⟨_, rfl, ?_⟩)
 refine gy_ 73 rfl rfl rfl (Yd.eql rfl rfl) ?_
 refine WL.renamed (t := 76) (v := .bool true) rfl (congrArg Value.bool (decide_eq_true (by rw [hn4, hs3, hs1]; exact kn_n3.1))) ?_
 refine WL.y rfl (Yd.pickT rfl rfl) ?_
 refine m_ rfl rfl ?_
 refine gy_ 78 rfl rfl rfl (Yd.fieldAddr (k := 8) kr_ rfl) ?_
 refine WL.gh (dj := 78) rfl rfl rfl (Hd.load1 kr_ rfl mem_ (by rfl) ⟨_, rfl, ?_⟩)
 refine gy_ 78 rfl rfl rfl (Yd.eql rfl rfl) ?_
 refine WL.renamed (t := 81) (v := .bool true) rfl (congrArg Value.bool (decide_eq_true (by rw [hn4, hs3, hs1]; exact kn_n3.2))) ?_
 refine WL.y rfl (Yd.pickT rfl rfl) ?_
 refine m_ rfl rfl ?_
 refine gy_ 83 rfl rfl rfl (Yd.fieldAddr (k := 8) kr_ rfl) ?_
 refine WL.gh (dj := 83) rfl rfl rfl (Hd.load1 kr_ rfl mem_ (by rfl) ⟨_, rfl, ?_⟩)
 refine gy_ 83 rfl rfl rfl (Yd.eql rfl rfl) ?_
 refine WL.renamed (t := 86) (v := .bool true) rfl (congrArg Value.bool (decide_eq_true (by rw [hn6, hs4, hs3, hs1]; exact kn_n4))) ?_
 refine WL.y rfl (Yd.pickT rfl rfl) ?_
 refine m_ rfl rfl ?_
 refine gy_ 88 rfl rfl rfl (Yd.move rfl) ?_
 refine gy_ 88 rfl rfl rfl (Yd.indexAddr (e := 73) (s := 2) kr_ kr_ rfl rfl (by decide) (by decide)) ?_
 refine gy_ 88 rfl rfl rfl (Yd.fieldAddr (k := 1) kr_ rfl) ?_
 refine WL.gh (dj := 88) rfl rfl rfl (Hd.load1 (v := .int .i64 5) (b := g5b) (o := g5f + ((0 : Nat) : Int).toNat * 2 + 1) (cs := g5s) kr_ rfl (Gr.get gr_ hg5m) (cell_at2 (L := [⟨⟨#[97]⟩, 5, 0⟩]) cellsG_len hg5s (by decide) (by decide)) ⟨_, rfl, ?_⟩)
 refine gy_ 88 rfl rfl rfl (Yd.eql rfl rfl) ?_
 refine WL.renamed (t := 93) (v := .bool true) rfl (congrArg Value.bool (by decide)) ?_
 refine WL.y rfl (Yd.pickT rfl rfl) ?_
 refine m_ rfl rfl ?_
 refine gy_ 95 rfl rfl rfl (Yd.move rfl) ?_
 refine WL.grf (dj := 95) rfl rfl rfl (Ent.func Tryz.call24 rfl) (cepoch_reads p s6 C6 h6) sp_ ?_
 refine gy_ 95 rfl rfl rfl (Yd.eql32 _ (1#32) rfl rfl rfl rfl) ?_
 refine WL.renamed (t := 98) (v := .bool true) rfl (congrArg Value.bool (decide_eq_true (by rw [e6.2.1]))) ?_
 refine WL.y rfl (Yd.pickT rfl rfl) ?_
 refine m_ rfl rfl ?_
 refine gy_ 100 rfl rfl rfl (Yd.move rfl) ?_
 refine WL.gc (dj := 100) rfl rfl rfl (Ent.func Tryz.call21 rfl) (ceffs_tells p s6 C6 h6 (by rw [e6.2.2]; decide)) (Sp.p sp_) ?_
 rintro f9 Hf9 ⟨E9, hE9, rfl⟩
 obtain ⟨fo, fc, rfl, _⟩ := hE9.form
 rw [e6.2.2]
 refine gy_ 100 rfl rfl rfl (Yd.len (e := 111) kr_ rfl) ?_
 refine gy_ 100 rfl rfl rfl (Yd.eql rfl rfl) ?_
 refine WL.renamed (t := 104) (v := .bool true) rfl (congrArg Value.bool (by decide)) ?_
 refine WL.y rfl (Yd.pickT rfl rfl) ?_
 refine a_ rfl rfl ?_
 refine nt_ ?_
 refine WC.ret ?_
 refine DN.fit (C := H) sp_ ?_
 refine DN.ret1 Tryz.results9 rfl ?_
 exact ⟨rfl, rfl⟩
end Go.Proofs.YtkamlondepceiaaGreat

set_option linter.unusedVariables false
set_option linter.unusedSimpArgs false
set_option maxHeartbeats 4000000
namespace Go.Proofs.YtkamlondepceiaaGreat
open Go.SL
theorem lent_of {T : TypeId} {ao : Option Addr} {cap : Nat} {bs : List (BitVec 8)} {C : List Ck} (h : Ob T (.slice ao (bs.length + 2) cap) (bs ++ [91#8, 92#8]) C) (hl : bs.length ≤ 9223372036854775807) : Bs (.slice ao bs.length cap) bs C := by
  have := Bs.upto (j := bs.length) h.bs (by omega)
  simpa using this
theorem spoil_tells (xo : Option Addr) (xc n k : Nat) (l : List (BitVec 8)) (C : List Ck) (hC : Ob 5 (.slice xo (n + k) xc) l C) (hn : l.length = n + k) (hl : n ≤ 1000000) : Tells Tryz.prog 16 [.slice xo n xc] C fun r H' => H' = [] := by
 refine Tells.enter Tryz.func16 rfl Tryz.ntmps16 rfl ?_
 intro w0 R
 have hex : n = 0 ∨ ∃ b extra, xo = some ⟨b, 0, none⟩ ∧ C = [row b (bc l ++ extra) 5] := by
   rcases hC with ⟨he, h0, _⟩ | ⟨b, cap, extra, he, _, _, _, _, hCC⟩
   · left; omega
   · simp only [Value.slice.injEq] at he
     obtain ⟨rfl, _, _⟩ := he
     exact .inr ⟨b, extra, rfl, hCC⟩
 refine sr_ ?_
 refine a_ rfl rfl ?_
 refine nt_ ?_
 refine WC.block ?_
 refine WC.loop (fun z : Nat × List (BitVec 8) × List Ck => z.1 ≤ n ∧ z.2.1.length = n + k ∧ (n = 0 ∨ ∃ b extra, xo = some ⟨b, 0, none⟩ ∧ z.2.2 = [row b (bc z.2.1 ++ extra) 5])) (fun z => [(0, .slice xo n xc), (2, .int .i64 z.1)]) (fun z => z.2.2) (fun z => n - z.1) (0, l, C) ⟨Nat.zero_le _, hn, hex⟩ ⟨rfl, rfl, trivial⟩ (List.Perm.refl _) ?_
 rintro ⟨i, ys, E⟩ ⟨hi, hys, he⟩
 simp only at hi hys he
 refine WC.seq ?_
 refine sr_ ?_
 refine m_ rfl rfl ?_
 refine m_ rfl rfl ?_
 refine WL.y rfl (Yd.len (e := 5) kr_ rfl) ?_
 refine WL.y rfl (Yd.lss rfl rfl) ?_
 refine nt_ ?_
 refine WC.ite rfl (fun h6 => ?_) (fun h6 => ?_)
 ·have hlt : i < n := by omega
  obtain ⟨b, extra, rfl, rfl⟩ := he.resolve_left (by omega)
  refine WC.skip ?_
  refine ts_ ?_
  refine WC.block ?_
  refine WC.region ?_
  iterate 4 refine m_ rfl rfl ?_
  refine WL.y rfl (Yd.indexAddr (e := 5) (s := 1) kr_ kr_ rfl rfl (by omega) (by omega)) ?_
  refine WL.h rfl (Hd.load1 (v := .int .u8 (ys.getD i 0#8).toNat) (b := b) (cs := bc ys ++ extra) kr_ rfl List.mem_cons_self (by rw [show 0 + (i : Int).toNat * 1 = i by omega, List.getElem?_append_left (by rw [bc_length]; omega)]; exact bc_getD (by omega)) ⟨_, rfl, ?_⟩)
  refine WL.y rfl (Yd.xor8 _ (165#8) rfl rfl rfl rfl) ?_
  refine WL.y rfl (Yd.indexAddr (e := 5) (s := 1) kr_ kr_ rfl rfl (by omega) (by omega)) ?_
  refine WL.s (Hd.store1 (b := b) (cs := bc ys ++ extra) (T' := 5) (D := []) kr_ rfl rfl rfl (List.Perm.refl _) (by simp [bc_length]; omega) ⟨rfl, ?_⟩)
  refine WL.nil ?_
  refine DN.block_normal ?_
  refine DN.then_normal ?_
  refine WC.region ?_
  refine m_ rfl rfl ?_
  refine WL.y rfl (Yd.add rfl rfl (by omega) (by omega)) ?_
  refine a_ rfl rfl ?_
  refine WL.nil ?_
  refine DN.again (i + 1, ys.set i (ys.getD i 0#8 ^^^ 165#8), [row b (bc (ys.set i (ys.getD i 0#8 ^^^ 165#8)) ++ extra) 5]) ⟨by show i + 1 ≤ n; omega, by simp [hys], .inr ⟨b, extra, rfl, rfl⟩⟩ (by show n - (i + 1) < n - i; omega) ⟨rfl, rfl, trivial⟩ ?_
  rw [show 0 + (i : Int).toNat * 1 = i by omega, set_front _ _ _ _ (by rw [bc_length]; omega), bc_set]
  try exact List.Perm.refl _
 ·refine WC.exit ?_
  refine DN.then_exit ?_
  refine DN.then_exit ?_
  refine DN.block_exit ?_
  refine DN.forget [] (List.nil_sublist _) ?_
  refine DN.end0 Tryz.results16 ?_
  exact rfl
end Go.Proofs.YtkamlondepceiaaGreat

set_option linter.unusedVariables false
set_option linter.unusedSimpArgs false
set_option maxHeartbeats 8000000
namespace Go.Proofs.YtkamlondepceiaaGreat
open Go.SL
theorem law_CrewWorks (w : Wk) (vn : Value) (H : List Ck) (hn : Bs vn w.name H) (hnl : w.name.length ≤ maxLen) (vb : Value) (b : List (BitVec 8)) (hb : Bs vb b H) (hbl : b.length ≤ maxLen) : Reads Tryz.prog 3 [.agg (wkc w vn).toArray, vb] H (.bool true) := by
 refine Tells.enter Tryz.func3 rfl Tryz.ntmps3 rfl ?_
 intro w0 R
 simp only [maxLen] at hnl hbl
 obtain ⟨no, nc, rfl, hnc⟩ := hn.form
 obtain ⟨bo, bc9, rfl, hbc⟩ := hb.form
 have hel := encB_len w
 refine sr_ ?_
 refine WL.h rfl (Hd.boxA (vs := wkc w (.slice no w.name.length nc)) rfl fun b2 => ⟨_, rfl, ?_⟩)
 refine a_ rfl rfl ?_
 refine nt_ ?_
 refine WC.seq ?_
 refine sr_ ?_
 refine f_ 2 kr_ rfl rfl ?_
 refine d_ kr_ rfl mem_ (by rfl) rfl ?_
 refine WL.y rfl (Yd.len (e := 5) kr_ rfl) ?_
 refine WL.y rfl (Yd.gtr rfl rfl) ?_
 refine m_ rfl rfl ?_
 refine WL.partP (t := 21) rfl (fun hg21 => ?_) (fun hg21 => ?_)
 ·iterate 3 refine gn_ 21 rfl rfl rfl rfl ?_
  refine WL.y rfl (Yd.pickT rfl rfl) ?_
  refine nt_ ?_
  refine WC.yes rfl ?_
  refine sr_ ?_
  refine WL.r rfl (Ent.func Tryz.call9 rfl) (known12 _) ?_
  refine a_ rfl rfl ?_
  refine nt_ ?_
  refine WC.ret ?_
  refine DN.then_ret ?_
  refine DN.fit (C := H) sp_ ?_
  refine DN.ret1 Tryz.results3 rfl ?_
  exact ⟨rfl, rfl⟩
 ·refine gy_ 21 rfl rfl rfl (Yd.move rfl) ?_
  refine gy_ 21 rfl rfl rfl (Yd.len (e := 5) kr_ rfl) ?_
  refine gy_ 21 rfl rfl rfl (Yd.gtr rfl rfl) ?_
  refine WL.y rfl (Yd.pickF rfl rfl) ?_
  refine nt_ ?_
  refine WC.ite rfl (fun h25 => ?_) (fun h25 => ?_)
  ·refine sr_ ?_
   refine WL.r rfl (Ent.func Tryz.call9 rfl) (known12 _) ?_
   refine a_ rfl rfl ?_
   refine nt_ ?_
   refine WC.ret ?_
   refine DN.then_ret ?_
   refine DN.fit (C := H) sp_ ?_
   refine DN.ret1 Tryz.results3 rfl ?_
   exact ⟨rfl, rfl⟩
  ·have hn1 : w.name.length ≤ 1000 := by omega
   have hb1 : b.length ≤ 1000 := by omega
   refine WC.skip ?_
   refine ts_ ?_
   refine WC.region ?_
   refine m_ rfl rfl ?_
   refine WL.c rfl (Ent.func Tryz.call10 rfl) (lent_spec _ b H hb (by omega)) (Sp.p sp_) ?_
   rintro x H9 ⟨xo, xc, CX, rfl, hCX, rfl⟩
   refine a_ rfl rfl ?_
   refine ntsr_ ?_
   refine WL.h rfl (Hd.loadAll (n := 3) kr_ rfl mem_ (by rfl) ⟨_, rfl, ?_⟩)
   refine WL.c rfl (Ent.func Tryz.call11 rfl) (encode_tells w _ H hn (by omega)) (Sp.p sp_) ?_
   rintro x H9 ⟨x1, A1, rfl, hA1, rfl⟩
   obtain ⟨o1, c1, rfl, _⟩ := hA1.form
   refine m_ rfl rfl ?_
   refine x_ rfl rfl rfl ?_
   refine x_ rfl rfl rfl ?_
   refine a_ rfl rfl ?_
   refine a_ rfl rfl ?_
   refine ntsr_ ?_
   refine WL.h rfl (Hd.loadAll (n := 3) kr_ rfl mem_ (by rfl) ⟨_, rfl, ?_⟩)
   refine WL.c rfl (Ent.func Tryz.call12 rfl) (rencode_tells w _ H hn (by omega)) (Sp.p sp_) ?_
   rintro x H9 ⟨x2, A2, rfl, hA2, rfl⟩
   obtain ⟨o2, c2, rfl, _⟩ := hA2.form
   refine m_ rfl rfl ?_
   refine x_ rfl rfl rfl ?_
   refine x_ rfl rfl rfl ?_
   refine a_ rfl rfl ?_
   refine a_ rfl rfl ?_
   refine ntsr_ ?_
   refine m_ rfl rfl ?_
   refine WL.c rfl (Ent.func Tryz.call13 rfl) (decode_tells _ b CX (lent_of hCX (by omega)) (by omega)) (Sp.p sp_) ?_
   rintro x H9 ⟨x3, A3, rfl, hA3, rfl⟩
   obtain ⟨o3, c3, rfl, _⟩ := hA3.form
   refine m_ rfl rfl ?_
   refine x_ rfl rfl rfl ?_
   refine x_ rfl rfl rfl ?_
   refine WL.h rfl (Hd.alloc (zs := [.int .i64 0, .int .i64 0, .slice none 0 0]) kr_ fun b10 => ⟨_, rfl, ?_⟩)
   refine WL.s (Hd.storeAll (n := 3) kr_ rfl rfl (by rfl) one_ fr_ (by rfl) ⟨rfl, ?_⟩)
   refine a_ rfl rfl ?_
   refine ntsr_ ?_
   refine m_ rfl rfl ?_
   refine WL.c rfl (Ent.func Tryz.call14 rfl) (rdecode_tells _ b H hb (by omega)) (Sp.p sp_) ?_
   rintro x H9 ⟨x4, A4, rfl, hA4, rfl⟩
   obtain ⟨o4, c4, rfl, _⟩ := hA4.form
   refine m_ rfl rfl ?_
   refine x_ rfl rfl rfl ?_
   refine x_ rfl rfl rfl ?_
   refine WL.h rfl (Hd.alloc (zs := [.int .i64 0, .int .i64 0, .slice none 0 0]) kr_ fun b12 => ⟨_, rfl, ?_⟩)
   refine WL.s (Hd.storeAll (n := 3) kr_ rfl rfl (by rfl) one_ fr_ (by rfl) ⟨rfl, ?_⟩)
   refine a_ rfl rfl ?_
   refine ntsr_ ?_
   refine m_ rfl rfl ?_
   refine m_ rfl rfl ?_
   refine WL.r rfl (Ent.func Tryz.call15 rfl) (whole_reads xo xc _ b _ (hCX.bs.mono gr_) (hb.mono gr_) (by omega)) ?_
   refine WL.renamed (t := 51) (v := .bool true) rfl (congrArg Value.bool (rfl)) ?_
   refine a_ rfl rfl ?_
   refine ntsr_ ?_
   refine m_ rfl rfl ?_
   refine WL.c rfl (Ent.func Tryz.call16 rfl) (spoil_tells xo xc b.length 2 _ CX hCX (by simp) (by omega)) (Sp.p sp_) ?_
   intro x H9 hH9
   subst hH9
   rw [List.nil_append]
   refine nt_ ?_
   refine WC.seq ?_
   refine sr_ ?_
   refine m_ rfl rfl ?_
   refine m_ rfl rfl ?_
   refine WL.r rfl (Ent.func Tryz.call17 rfl) (same_reads _ _ (encB w) (encB w) _ (hA1.bs.mono gr_) (hA2.bs.mono gr_)) ?_
   refine WL.renamed (t := 56) (v := .bool true) rfl (congrArg Value.bool (decide_eq_true rfl)) ?_
   refine WL.y rfl (Yd.notB rfl) ?_
   refine m_ rfl rfl ?_
   refine gy_ 58 rfl rfl rfl (Yd.move rfl) ?_
   refine gy_ 58 rfl rfl rfl (Yd.move rfl) ?_
   refine gy_ 58 rfl rfl rfl (Yd.neq rfl rfl) ?_
   refine WL.renamed (t := 61) (v := .bool false) rfl (congrArg Value.bool (decide_eq_false (fun h => h rfl))) ?_
   refine WL.y rfl (Yd.pickF rfl rfl) ?_
   refine m_ rfl rfl ?_
   refine gy_ 63 rfl rfl rfl (Yd.fieldAddr (k := 0) kr_ rfl) ?_
   refine WL.gh (dj := 63) rfl rfl rfl (Hd.load1 kr_ rfl mem_ (by rfl) ⟨_, rfl, ?_⟩)
   refine gy_ 63 rfl rfl rfl (Yd.fieldAddr (k := 0) kr_ rfl) ?_
   refine WL.gh (dj := 63) rfl rfl rfl (Hd.load1 kr_ rfl mem_ (by rfl) ⟨_, rfl, ?_⟩)
   refine gy_ 63 rfl rfl rfl (Yd.neq rfl rfl) ?_
   refine WL.renamed (t := 68) (v := .bool false) rfl (congrArg Value.bool (decide_eq_false (fun h => h rfl))) ?_
   refine WL.y rfl (Yd.pickF rfl rfl) ?_
   refine m_ rfl rfl ?_
   refine gy_ 70 rfl rfl rfl (Yd.fieldAddr (k := 1) kr_ rfl) ?_
   refine WL.gh (dj := 70) rfl rfl rfl (Hd.load1 kr_ rfl mem_ (by rfl) ⟨_, rfl, ?_⟩)
   refine gy_ 70 rfl rfl rfl (Yd.fieldAddr (k := 1) kr_ rfl) ?_
   refine WL.gh (dj := 70) rfl rfl rfl (Hd.load1 kr_ rfl mem_ (by rfl) ⟨_, rfl, ?_⟩)
   refine gy_ 70 rfl rfl rfl (Yd.neq rfl rfl) ?_
   refine WL.renamed (t := 75) (v := .bool false) rfl (congrArg Value.bool (decide_eq_false (fun h => h rfl))) ?_
   refine WL.y rfl (Yd.pickF rfl rfl) ?_
   refine m_ rfl rfl ?_
   refine gy_ 77 rfl rfl rfl (Yd.fieldAddr (k := 2) kr_ rfl) ?_
   refine WL.gh (dj := 77) rfl rfl rfl (Hd.load1 kr_ rfl mem_ (by rfl) ⟨_, rfl, ?_⟩)
   refine gy_ 77 rfl rfl rfl (Yd.fieldAddr (k := 2) kr_ rfl) ?_
   refine WL.gh (dj := 77) rfl rfl rfl (Hd.load1 kr_ rfl mem_ (by rfl) ⟨_, rfl, ?_⟩)
   refine WL.gr (dj := 77) rfl rfl rfl (Ent.func Tryz.call17 rfl) (same_reads _ _ (decW b).name (decW b).name _ (hA3.bs.mono gr_) (hA4.mono gr_)) ?_
   refine WL.renamed (t := 82) (v := .bool true) rfl (congrArg Value.bool (decide_eq_true rfl)) ?_
   refine gy_ 77 rfl rfl rfl (Yd.notB rfl) ?_
   refine WL.y rfl (Yd.pickF rfl rfl) ?_
   refine m_ rfl rfl ?_
   refine gy_ 85 rfl rfl rfl (Yd.move rfl) ?_
   refine gy_ 85 rfl rfl rfl (Yd.move rfl) ?_
   refine gy_ 85 rfl rfl rfl (Yd.neq rfl rfl) ?_
   refine WL.renamed (t := 88) (v := .bool false) rfl (congrArg Value.bool (decide_eq_false (fun h => h rfl))) ?_
   refine WL.y rfl (Yd.pickF rfl rfl) ?_
   refine m_ rfl rfl ?_
   refine gy_ 90 rfl rfl rfl (Yd.move rfl) ?_
   refine gy_ 90 rfl rfl rfl (Yd.notB rfl) ?_
   refine WL.y rfl (Yd.pickF rfl rfl) ?_
   refine nt_ ?_
   refine WC.no rfl ?_
   refine WC.skip ?_
   refine ts_ ?_
   refine sr_ ?_
   refine m_ rfl rfl ?_
   refine WL.y rfl (Yd.eql rfl rfl) ?_
   refine nt_ ?_
   refine WC.ite rfl (fun h95 => ?_) (fun h95 => ?_)
   ·have hg : wkGood w := Classical.byContradiction fun e => by rw [(enc_bad e).2] at h95; exact absurd h95 (by decide)
    have e1 : decW (encB w) = w := by rw [(enc_good hg).1, (dec_enc hg).1]
    have e2 : decE (encB w) = 0 := by rw [(enc_good hg).1, (dec_enc hg).2]
    refine sr_ ?_
    refine m_ rfl rfl ?_
    refine WL.c rfl (Ent.func Tryz.call13 rfl) (decode_tells _ (encB w) A1 hA1.bs (by omega)) (Sp.p sp_) ?_
    rintro x H9 ⟨x5, A5, rfl, hA5, rfl⟩
    rw [e1] at hA5
    rw [e1, e2]
    obtain ⟨o5, c5, rfl, _⟩ := hA5.form
    refine m_ rfl rfl ?_
    refine x_ rfl rfl rfl ?_
    refine x_ rfl rfl rfl ?_
    refine WL.h rfl (Hd.alloc (zs := [.int .i64 0, .int .i64 0, .slice none 0 0]) kr_ fun b15 => ⟨_, rfl, ?_⟩)
    refine WL.s (Hd.storeAll (n := 3) kr_ rfl rfl (by rfl) one_ fr_ (by rfl) ⟨rfl, ?_⟩)
    refine a_ rfl rfl ?_
    refine ntsr_ ?_
    refine m_ rfl rfl ?_
    refine WL.y rfl (Yd.neq rfl rfl) ?_
    refine WL.renamed (t := 102) (v := .bool false) rfl (congrArg Value.bool (by decide)) ?_
    refine m_ rfl rfl ?_
    refine gy_ 103 rfl rfl rfl (Yd.fieldAddr (k := 0) kr_ rfl) ?_
    refine WL.gh (dj := 103) rfl rfl rfl (Hd.load1 kr_ rfl mem_ (by rfl) ⟨_, rfl, ?_⟩)
    refine gy_ 103 rfl rfl rfl (Yd.fieldAddr (k := 0) kr_ rfl) ?_
    refine WL.gh (dj := 103) rfl rfl rfl (Hd.load1 kr_ rfl mem_ (by rfl) ⟨_, rfl, ?_⟩)
    refine gy_ 103 rfl rfl rfl (Yd.neq rfl rfl) ?_
    refine WL.renamed (t := 108) (v := .bool false) rfl (congrArg Value.bool (decide_eq_false (fun h => h rfl))) ?_
    refine WL.y rfl (Yd.pickF rfl rfl) ?_
    refine m_ rfl rfl ?_
    refine gy_ 110 rfl rfl rfl (Yd.fieldAddr (k := 1) kr_ rfl) ?_
    refine WL.gh (dj := 110) rfl rfl rfl (Hd.load1 kr_ rfl mem_ (by rfl) ⟨_, rfl, ?_⟩)
    refine gy_ 110 rfl rfl rfl (Yd.fieldAddr (k := 1) kr_ rfl) ?_
    refine WL.gh (dj := 110) rfl rfl rfl (Hd.load1 kr_ rfl mem_ (by rfl) ⟨_, rfl, ?_⟩)
    refine gy_ 110 rfl rfl rfl (Yd.neq rfl rfl) ?_
    refine WL.renamed (t := 115) (v := .bool false) rfl (congrArg Value.bool (decide_eq_false (fun h => h rfl))) ?_
    refine WL.y rfl (Yd.pickF rfl rfl) ?_
    refine m_ rfl rfl ?_
    refine gy_ 117 rfl rfl rfl (Yd.fieldAddr (k := 2) kr_ rfl) ?_
    refine WL.gh (dj := 117) rfl rfl rfl (Hd.load1 kr_ rfl mem_ (by rfl) ⟨_, rfl, ?_⟩)
    refine gy_ 117 rfl rfl rfl (Yd.fieldAddr (k := 2) kr_ rfl) ?_
    refine WL.gh (dj := 117) rfl rfl rfl (Hd.load1 kr_ rfl mem_ (by rfl) ⟨_, rfl, ?_⟩)
    refine WL.gr (dj := 117) rfl rfl rfl (Ent.func Tryz.call17 rfl) (same_reads _ _ w.name w.name _ (hA5.bs.mono gr_) (hn.mono gr_)) ?_
    refine WL.renamed (t := 122) (v := .bool true) rfl (congrArg Value.bool (decide_eq_true rfl)) ?_
    refine gy_ 117 rfl rfl rfl (Yd.notB rfl) ?_
    refine WL.y rfl (Yd.pickF rfl rfl) ?_
    refine nt_ ?_
    refine WC.no rfl ?_
    refine WC.skip ?_
    refine ts_ ?_
    refine WC.region ?_
    refine WL.r rfl (Ent.func Tryz.call9 rfl) (known12 _) ?_
    refine a_ rfl rfl ?_
    refine nt_ ?_
    refine WC.ret ?_
    refine DN.fit (C := H) sp_ ?_
    refine DN.ret1 Tryz.results3 rfl ?_
    exact ⟨rfl, rfl⟩
   ·refine WC.skip ?_
    refine ts_ ?_
    refine WC.region ?_
    refine WL.r rfl (Ent.func Tryz.call9 rfl) (known12 _) ?_
    refine a_ rfl rfl ?_
    refine nt_ ?_
    refine WC.ret ?_
    refine DN.fit (C := H) sp_ ?_
    refine DN.ret1 Tryz.results3 rfl ?_
    exact ⟨rfl, rfl⟩
end Go.Proofs.YtkamlondepceiaaGreat
