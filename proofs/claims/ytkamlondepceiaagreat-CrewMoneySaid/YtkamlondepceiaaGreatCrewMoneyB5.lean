/-
  Lemmas and walks that CrewMoney stands on (part 5); no condition.
-/
import Derived.Orders
import Derived.Tactics
import Derived.Scope
import Derived.Below
import Derived.WalkKit
import Derived.KernelRfl
import Derived.Laws.RangeString
import Derived.Laws.StructEq
import Derived.Lib.AppendZerosOnto
import Derived.Laws.CopyRow
import Derived.Lib.Overlaps
import Derived.Laws.IdiomStrings
import Derived.Deep.Quiet
import Derived.Lib.Bytealg
import Derived.Shelf.SlSortCmp.NoneTotal
import Derived.ProofKit
import Derived.OpenShut
import Derived.ShutString
import Derived.ChangeOld
import Derived.Test.YtkamlondepceiaaGreatRows
import Derived.Ground.SlsfProg
import Derived.Shelf.Small.Strs
import Derived.Test.YtkamlondepceiaaGreatCrewMoneyB4

set_option linter.unusedVariables false
set_option linter.unusedSimpArgs false
set_option maxHeartbeats 4000000
namespace Go.Proofs.YtkamlondepceiaaGreat.St
open Go.SL
theorem new_tells (v : Value) (gs : List Gd) (hg : ∀ g ∈ gs, g.gone = 0) (H : List Ck) (hv : Rs v gs.length (gs.flatMap cellsG) H) (hl : gs.length ≤ 9223372036854775807) : Tells Tryz.prog 63 [v] H fun r H' => (GoodL gs ∧ ∃ p C, r = .tuple #[.pointer (some ⟨p, 0, none⟩), .int .i64 0] ∧ StAt 189 p gs [] C ∧ H' = C ++ H) ∨ (¬ GoodL gs ∧ r = .tuple #[.pointer none, .int .i64 2] ∧ H' = H) := by
 refine Tells.enter Tryz.func63 rfl Tryz.ntmps63 rfl ?_
 intro w0 R
 obtain ⟨vo, vc, rfl, hvc⟩ := hv.form
 refine sr_ ?_
 refine a_ rfl rfl ?_
 refine a_ rfl rfl ?_
 refine nt_ ?_
 refine WC.seq ?_
 refine sr_ ?_
 refine m_ rfl rfl ?_
 refine WL.y rfl (Yd.len (e := 73) kr_ rfl) ?_
 refine WL.y rfl (Yd.gtr rfl rfl) ?_
 refine nt_ ?_
 refine WC.ite rfl (fun h11 => ?_) (fun h11 => ?_)
 ·refine sr_ ?_
  refine a_ rfl rfl ?_
  refine a_ rfl rfl ?_
  refine nt_ ?_
  refine WC.ret ?_
  refine DN.then_ret ?_
  first | (have hlt2 : i < gs.length := hlt; refine DN.fit (C := H) sp_ ?_) | refine DN.fit (C := row b15 [.map (some b1), .map (some b2)] 189 :: (C1 ++ (C2 ++ H))) sp_ ?_ | skip
  refine DN.ret2 Tryz.results63 rfl rfl ?_
  first
    | exact .inr ⟨fun hG => by have := hG.1; omega, rfl, rfl⟩
    | exact .inr ⟨fun hG => (hG.2.2 gs[i] (List.getElem_mem hlt)).1 hg35, rfl, rfl⟩
    | exact .inr ⟨fun hG => by have := (hG.2.2 gs[i] (List.getElem_mem hlt)).2; omega, rfl, rfl⟩
    | exact .inr ⟨fun hG => (twice_no hlt h53) hG.2.1, rfl, rfl⟩
    | exact .inl ⟨⟨by omega, hnd, fun g hm => by obtain ⟨j, hj, rfl⟩ := List.getElem_of_mem hm; exact hgood j hj hj⟩, b15, row b15 [.map (some b1), .map (some b2)] 189 :: (C1 ++ C2), rfl, ⟨b1, b2, C1, C2, rfl, hK, h2⟩, by simp⟩
 ·refine WC.skip ?_
  refine ts_ ?_
  refine WC.region ?_
  refine WL.h rfl (Hd.makeMapG kStr fun b1 C1 h1 => ⟨_, rfl, ?_⟩)
  refine WL.h rfl (Hd.makeMapG kU32 fun b2 C2 h2 => ⟨_, rfl, ?_⟩)
  refine WL.y rfl (Yd.buildL (pl := [(0, 1), (1, 1)]) (zs := [.map none, .map none]) (parts := [(0, .tmp 12), (1, .tmp 13)]) (vs := [(0, _), (1, _)]) (cells := [_, _]) kr_ kr_ rfl rfl) ?_
  refine WL.h rfl (Hd.boxA rfl fun b15 => ⟨_, rfl, ?_⟩)
  refine a_ rfl rfl ?_
  refine nt_ ?_
  refine WC.seq ?_
  refine sr_ ?_
  refine m_ rfl rfl ?_
  refine WL.y rfl (Yd.len (e := 73) kr_ rfl) ?_
  refine m_ rfl rfl ?_
  refine nt_ ?_
  refine WC.block ?_
  refine WC.loopS (fun z : Nat × List Ck => z.1 ≤ gs.length ∧ (∀ (j : Nat) (h : j < gs.length), j < z.1 → goodB gs[j]) ∧ ((gs.take z.1).map Gd.name).Nodup ∧ MpG kStr b1 (kvs Gd.name encG (gs.take z.1)) z.2) (fun z : Nat × List Ck => [(18, .int .i64 (z.1 : Int))]) (fun z : Nat × List Ck => row b15 [.map (some b1), .map (some b2)] 189 :: (z.2 ++ (C2 ++ H))) (fun z : Nat × List Ck => gs.length - z.1) (⟨0, C1⟩) (show 0 ≤ gs.length ∧ (∀ (j : Nat) (h : j < gs.length), j < 0 → goodB gs[j]) ∧ ((gs.take 0).map Gd.name).Nodup ∧ MpG kStr b1 (kvs Gd.name encG (gs.take 0)) C1 from ⟨Nat.zero_le _, fun j h hj => by omega, by simp, by simpa [kvs] using h1⟩) (Sx.put rfl (sx_)) sp_ ?_
  rintro ⟨i, C1⟩ hI
  replace hI : i ≤ gs.length ∧ (∀ (j : Nat) (h : j < gs.length), j < i → goodB gs[j]) ∧ ((gs.take i).map Gd.name).Nodup ∧ MpG kStr b1 (kvs Gd.name encG (gs.take i)) C1 := hI
  obtain ⟨hi, hgood, hnd, hK⟩ := hI
  change WC _ _ _ _ _ _ ([(18, .int .i64 (i : Int))] ++ _) (row b15 [.map (some b1), .map (some b2)] 189 :: (C1 ++ (C2 ++ H)))
  refine sr_ ?_
  refine WL.y rfl (Yd.lss rfl rfl) ?_
  refine nt_ ?_
  refine WC.seq ?_
  refine WC.ite rfl (fun h19 => ?_) (fun h19 => ?_)
  ·have hlt : i < gs.length := by omega
   have hgn := hg gs[i] (List.getElem_mem hlt)
   have htk : gs.take (i + 1) = gs.take i ++ [gs[i]] := List.take_succ_eq_append_getElem hlt
   refine WC.skip ?_
   refine ts_ ?_
   refine WC.block ?_
   refine sr_ ?_
   refine WL.elemA (e := 73) (s := 2) kr_ kr_ kr_ rfl rfl (rfl) (hv.mono gr_) (flat_row cellsG 2 cellsG_len gs i hlt) (by rfl) (by omega) (hlt) rfl rfl ?_
   intro p20
   refine WL.h rfl (Hd.alloc (zs := [.string ⟨#[]⟩, .int .i64 0]) kr_ fun b6 => ⟨_, rfl, ?_⟩)
   refine WL.s (Hd.storeAll (n := 2) kr_ rfl rfl (by rfl) one_ fr_ (by rfl) ⟨rfl, ?_⟩)
   refine nt_ ?_
   refine WC.cutK (fun z : Nat => True) (fun z : Nat => [(8, .bool (findK Gd.name (gs.take i) gs[i].name).isSome)]) (fun z : Nat => row b6 (cellsG gs[i]) 73 :: (row b15 [.map (some b1), .map (some b2)] 189 :: (C1 ++ (C2 ++ H)))) ?_ ?_
   ·refine WC.draw 13 kr_ rfl ?_
    refine WA.y (i := 0) (NoPanic.then (NoPanic.block (NoPanic.then (NoPanic.then (NoPanic.block (NoPanic.then (NoPanic.body))))))) rfl kr_ kr_ kr_ rfl (Yd.move rfl) ?_
    refine WA.y (i := 1) (NoPanic.then (NoPanic.block (NoPanic.then (NoPanic.then (NoPanic.block (NoPanic.then (NoPanic.body))))))) rfl kr_ kr_ kr_ rfl (Yd.notNil rfl) ?_
    refine WA.y (i := 2) (NoPanic.then (NoPanic.block (NoPanic.then (NoPanic.then (NoPanic.block (NoPanic.then (NoPanic.body))))))) rfl kr_ kr_ kr_ rfl (Yd.fieldAddr (k := 0) kr_ rfl) ?_
    refine WA.y (i := 4) (NoPanic.then (NoPanic.block (NoPanic.then (NoPanic.then (NoPanic.block (NoPanic.then (NoPanic.body))))))) rfl kr_ kr_ kr_ rfl (Yd.fieldAddr (k := 0) kr_ rfl) ?_
    refine WA.three (i := 3) (j := 5) (k := 10) kr_ ?_ ?_ ?_
    ·refine WO.h rfl Wt.none rfl (Hd.load1 kr_ rfl mem_ (by rfl) ⟨_, rfl, ?_⟩)
     refine WA.two (i := 5) (j := 10) kr_ ?_ ?_
     ·refine WO.h rfl Wt.none rfl (Hd.load1 kr_ rfl mem_ (by rfl) ⟨_, rfl, ?_⟩)
      refine WA.two (i := 6) (j := 10) kr_ ?_ ?_
      ·refine WO.h rfl Wt.none rfl (Hd.lookupG (k0 := kStr) (KT := 9) (ET := 191) (TD := .string) (n := gs[i].name) (z := .agg #[.int .i64 0, .int .i64 0]) kr_ Tryz.underlying9 rfl kr_ rfl rfl hK sp_ (lkG2 (gs.take i) gs[i].name) ⟨_, rfl, ?_⟩)
       refine WA.y (i := 7) (NoPanic.then (NoPanic.block (NoPanic.then (NoPanic.then (NoPanic.block (NoPanic.then (NoPanic.body))))))) rfl kr_ kr_ kr_ rfl (Yd.move rfl) ?_
       refine WA.y (i := 8) (NoPanic.then (NoPanic.block (NoPanic.then (NoPanic.then (NoPanic.block (NoPanic.then (NoPanic.body))))))) rfl kr_ kr_ kr_ rfl (Yd.extract rfl rfl) ?_
       refine WA.y (i := 9) (NoPanic.then (NoPanic.block (NoPanic.then (NoPanic.then (NoPanic.block (NoPanic.then (NoPanic.body))))))) rfl kr_ kr_ kr_ rfl (Yd.extract rfl rfl) ?_
       refine WA.one (i := 10) kr_ ?_
       refine WO.h rfl Wt.none rfl (Hd.alloc (zs := [.int .i64 0, .int .i64 0]) kr_ fun b7 => ⟨_, rfl, ?_⟩)
       refine WA.one (i := 11) kr_ ?_
       refine WO.s rfl Wt.none (Hd.storeAll (n := 2) kr_ rfl rfl (by rfl) one_ fr_ (by rfl) ⟨rfl, ?_⟩)
       refine WA.y (i := 12) (NoPanic.then (NoPanic.block (NoPanic.then (NoPanic.then (NoPanic.block (NoPanic.then (NoPanic.body))))))) rfl kr_ kr_ kr_ rfl (Yd.assign rfl) ?_
       refine WA.done kr_ ?_
       refine DN.fit (C := row b6 (cellsG gs[i]) 73 :: (row b15 [.map (some b1), .map (some b2)] 189 :: (C1 ++ (C2 ++ H)))) sp_ ?_
       exact DN.reachK (0) (trivial) (Sx.put rfl (sx_)) (Sp.all sp_)
      ·refine WO.h rfl Wt.none rfl (Hd.alloc (zs := [.int .i64 0, .int .i64 0]) kr_ fun b7 => ⟨_, rfl, ?_⟩)
       refine WA.one (i := 6) kr_ ?_
       refine WO.h rfl Wt.none rfl (Hd.lookupG (k0 := kStr) (KT := 9) (ET := 191) (TD := .string) (n := gs[i].name) (z := .agg #[.int .i64 0, .int .i64 0]) kr_ Tryz.underlying9 rfl kr_ rfl rfl hK sp_ (lkG2 (gs.take i) gs[i].name) ⟨_, rfl, ?_⟩)
       refine WA.y (i := 7) (NoPanic.then (NoPanic.block (NoPanic.then (NoPanic.then (NoPanic.block (NoPanic.then (NoPanic.body))))))) rfl kr_ kr_ kr_ rfl (Yd.move rfl) ?_
       refine WA.y (i := 8) (NoPanic.then (NoPanic.block (NoPanic.then (NoPanic.then (NoPanic.block (NoPanic.then (NoPanic.body))))))) rfl kr_ kr_ kr_ rfl (Yd.extract rfl rfl) ?_
       refine WA.y (i := 9) (NoPanic.then (NoPanic.block (NoPanic.then (NoPanic.then (NoPanic.block (NoPanic.then (NoPanic.body))))))) rfl kr_ kr_ kr_ rfl (Yd.extract rfl rfl) ?_
       refine WA.one (i := 11) kr_ ?_
       refine WO.s rfl Wt.none (Hd.storeAll (n := 2) kr_ rfl rfl (by rfl) one_ fr_ (by rfl) ⟨rfl, ?_⟩)
       refine WA.y (i := 12) (NoPanic.then (NoPanic.block (NoPanic.then (NoPanic.then (NoPanic.block (NoPanic.then (NoPanic.body))))))) rfl kr_ kr_ kr_ rfl (Yd.assign rfl) ?_
       refine WA.done kr_ ?_
       refine DN.fit (C := row b6 (cellsG gs[i]) 73 :: (row b15 [.map (some b1), .map (some b2)] 189 :: (C1 ++ (C2 ++ H)))) sp_ ?_
       exact DN.reachK (0) (trivial) (Sx.put rfl (sx_)) (Sp.all sp_)
     ·refine WO.h rfl Wt.none rfl (Hd.alloc (zs := [.int .i64 0, .int .i64 0]) kr_ fun b7 => ⟨_, rfl, ?_⟩)
      refine WA.one (i := 5) kr_ ?_
      refine WO.h rfl Wt.none rfl (Hd.load1 kr_ rfl mem_ (by rfl) ⟨_, rfl, ?_⟩)
      refine WA.one (i := 6) kr_ ?_
      refine WO.h rfl Wt.none rfl (Hd.lookupG (k0 := kStr) (KT := 9) (ET := 191) (TD := .string) (n := gs[i].name) (z := .agg #[.int .i64 0, .int .i64 0]) kr_ Tryz.underlying9 rfl kr_ rfl rfl hK sp_ (lkG2 (gs.take i) gs[i].name) ⟨_, rfl, ?_⟩)
      refine WA.y (i := 7) (NoPanic.then (NoPanic.block (NoPanic.then (NoPanic.then (NoPanic.block (NoPanic.then (NoPanic.body))))))) rfl kr_ kr_ kr_ rfl (Yd.move rfl) ?_
      refine WA.y (i := 8) (NoPanic.then (NoPanic.block (NoPanic.then (NoPanic.then (NoPanic.block (NoPanic.then (NoPanic.body))))))) rfl kr_ kr_ kr_ rfl (Yd.extract rfl rfl) ?_
      refine WA.y (i := 9) (NoPanic.then (NoPanic.block (NoPanic.then (NoPanic.then (NoPanic.block (NoPanic.then (NoPanic.body))))))) rfl kr_ kr_ kr_ rfl (Yd.extract rfl rfl) ?_
      refine WA.one (i := 11) kr_ ?_
      refine WO.s rfl Wt.none (Hd.storeAll (n := 2) kr_ rfl rfl (by rfl) one_ fr_ (by rfl) ⟨rfl, ?_⟩)
      refine WA.y (i := 12) (NoPanic.then (NoPanic.block (NoPanic.then (NoPanic.then (NoPanic.block (NoPanic.then (NoPanic.body))))))) rfl kr_ kr_ kr_ rfl (Yd.assign rfl) ?_
      refine WA.done kr_ ?_
      refine DN.fit (C := row b6 (cellsG gs[i]) 73 :: (row b15 [.map (some b1), .map (some b2)] 189 :: (C1 ++ (C2 ++ H)))) sp_ ?_
      exact DN.reachK (0) (trivial) (Sx.put rfl (sx_)) (Sp.all sp_)
    ·refine WO.h rfl Wt.none rfl (Hd.load1 kr_ rfl mem_ (by rfl) ⟨_, rfl, ?_⟩)
     refine WA.two (i := 3) (j := 10) kr_ ?_ ?_
     ·refine WO.h rfl Wt.none rfl (Hd.load1 kr_ rfl mem_ (by rfl) ⟨_, rfl, ?_⟩)
      refine WA.two (i := 6) (j := 10) kr_ ?_ ?_
      ·refine WO.h rfl Wt.none rfl (Hd.lookupG (k0 := kStr) (KT := 9) (ET := 191) (TD := .string) (n := gs[i].name) (z := .agg #[.int .i64 0, .int .i64 0]) kr_ Tryz.underlying9 rfl kr_ rfl rfl hK sp_ (lkG2 (gs.take i) gs[i].name) ⟨_, rfl, ?_⟩)
       refine WA.y (i := 7) (NoPanic.then (NoPanic.block (NoPanic.then (NoPanic.then (NoPanic.block (NoPanic.then (NoPanic.body))))))) rfl kr_ kr_ kr_ rfl (Yd.move rfl) ?_
       refine WA.y (i := 8) (NoPanic.then (NoPanic.block (NoPanic.then (NoPanic.then (NoPanic.block (NoPanic.then (NoPanic.body))))))) rfl kr_ kr_ kr_ rfl (Yd.extract rfl rfl) ?_
       refine WA.y (i := 9) (NoPanic.then (NoPanic.block (NoPanic.then (NoPanic.then (NoPanic.block (NoPanic.then (NoPanic.body))))))) rfl kr_ kr_ kr_ rfl (Yd.extract rfl rfl) ?_
       refine WA.one (i := 10) kr_ ?_
       refine WO.h rfl Wt.none rfl (Hd.alloc (zs := [.int .i64 0, .int .i64 0]) kr_ fun b7 => ⟨_, rfl, ?_⟩)
       refine WA.one (i := 11) kr_ ?_
       refine WO.s rfl Wt.none (Hd.storeAll (n := 2) kr_ rfl rfl (by rfl) one_ fr_ (by rfl) ⟨rfl, ?_⟩)
       refine WA.y (i := 12) (NoPanic.then (NoPanic.block (NoPanic.then (NoPanic.then (NoPanic.block (NoPanic.then (NoPanic.body))))))) rfl kr_ kr_ kr_ rfl (Yd.assign rfl) ?_
       refine WA.done kr_ ?_
       refine DN.fit (C := row b6 (cellsG gs[i]) 73 :: (row b15 [.map (some b1), .map (some b2)] 189 :: (C1 ++ (C2 ++ H)))) sp_ ?_
       exact DN.reachK (0) (trivial) (Sx.put rfl (sx_)) (Sp.all sp_)
      ·refine WO.h rfl Wt.none rfl (Hd.alloc (zs := [.int .i64 0, .int .i64 0]) kr_ fun b7 => ⟨_, rfl, ?_⟩)
       refine WA.one (i := 6) kr_ ?_
       refine WO.h rfl Wt.none rfl (Hd.lookupG (k0 := kStr) (KT := 9) (ET := 191) (TD := .string) (n := gs[i].name) (z := .agg #[.int .i64 0, .int .i64 0]) kr_ Tryz.underlying9 rfl kr_ rfl rfl hK sp_ (lkG2 (gs.take i) gs[i].name) ⟨_, rfl, ?_⟩)
       refine WA.y (i := 7) (NoPanic.then (NoPanic.block (NoPanic.then (NoPanic.then (NoPanic.block (NoPanic.then (NoPanic.body))))))) rfl kr_ kr_ kr_ rfl (Yd.move rfl) ?_
       refine WA.y (i := 8) (NoPanic.then (NoPanic.block (NoPanic.then (NoPanic.then (NoPanic.block (NoPanic.then (NoPanic.body))))))) rfl kr_ kr_ kr_ rfl (Yd.extract rfl rfl) ?_
       refine WA.y (i := 9) (NoPanic.then (NoPanic.block (NoPanic.then (NoPanic.then (NoPanic.block (NoPanic.then (NoPanic.body))))))) rfl kr_ kr_ kr_ rfl (Yd.extract rfl rfl) ?_
       refine WA.one (i := 11) kr_ ?_
       refine WO.s rfl Wt.none (Hd.storeAll (n := 2) kr_ rfl rfl (by rfl) one_ fr_ (by rfl) ⟨rfl, ?_⟩)
       refine WA.y (i := 12) (NoPanic.then (NoPanic.block (NoPanic.then (NoPanic.then (NoPanic.block (NoPanic.then (NoPanic.body))))))) rfl kr_ kr_ kr_ rfl (Yd.assign rfl) ?_
       refine WA.done kr_ ?_
       refine DN.fit (C := row b6 (cellsG gs[i]) 73 :: (row b15 [.map (some b1), .map (some b2)] 189 :: (C1 ++ (C2 ++ H)))) sp_ ?_
       exact DN.reachK (0) (trivial) (Sx.put rfl (sx_)) (Sp.all sp_)
     ·refine WO.h rfl Wt.none rfl (Hd.alloc (zs := [.int .i64 0, .int .i64 0]) kr_ fun b7 => ⟨_, rfl, ?_⟩)
      refine WA.one (i := 3) kr_ ?_
      refine WO.h rfl Wt.none rfl (Hd.load1 kr_ rfl mem_ (by rfl) ⟨_, rfl, ?_⟩)
      refine WA.one (i := 6) kr_ ?_
      refine WO.h rfl Wt.none rfl (Hd.lookupG (k0 := kStr) (KT := 9) (ET := 191) (TD := .string) (n := gs[i].name) (z := .agg #[.int .i64 0, .int .i64 0]) kr_ Tryz.underlying9 rfl kr_ rfl rfl hK sp_ (lkG2 (gs.take i) gs[i].name) ⟨_, rfl, ?_⟩)
      refine WA.y (i := 7) (NoPanic.then (NoPanic.block (NoPanic.then (NoPanic.then (NoPanic.block (NoPanic.then (NoPanic.body))))))) rfl kr_ kr_ kr_ rfl (Yd.move rfl) ?_
      refine WA.y (i := 8) (NoPanic.then (NoPanic.block (NoPanic.then (NoPanic.then (NoPanic.block (NoPanic.then (NoPanic.body))))))) rfl kr_ kr_ kr_ rfl (Yd.extract rfl rfl) ?_
      refine WA.y (i := 9) (NoPanic.then (NoPanic.block (NoPanic.then (NoPanic.then (NoPanic.block (NoPanic.then (NoPanic.body))))))) rfl kr_ kr_ kr_ rfl (Yd.extract rfl rfl) ?_
      refine WA.one (i := 11) kr_ ?_
      refine WO.s rfl Wt.none (Hd.storeAll (n := 2) kr_ rfl rfl (by rfl) one_ fr_ (by rfl) ⟨rfl, ?_⟩)
      refine WA.y (i := 12) (NoPanic.then (NoPanic.block (NoPanic.then (NoPanic.then (NoPanic.block (NoPanic.then (NoPanic.body))))))) rfl kr_ kr_ kr_ rfl (Yd.assign rfl) ?_
      refine WA.done kr_ ?_
      refine DN.fit (C := row b6 (cellsG gs[i]) 73 :: (row b15 [.map (some b1), .map (some b2)] 189 :: (C1 ++ (C2 ++ H)))) sp_ ?_
      exact DN.reachK (0) (trivial) (Sx.put rfl (sx_)) (Sp.all sp_)
    ·refine WO.h rfl Wt.none rfl (Hd.alloc (zs := [.int .i64 0, .int .i64 0]) kr_ fun b7 => ⟨_, rfl, ?_⟩)
     refine WA.two (i := 3) (j := 5) kr_ ?_ ?_
     ·refine WO.h rfl Wt.none rfl (Hd.load1 kr_ rfl mem_ (by rfl) ⟨_, rfl, ?_⟩)
      refine WA.one (i := 5) kr_ ?_
      refine WO.h rfl Wt.none rfl (Hd.load1 kr_ rfl mem_ (by rfl) ⟨_, rfl, ?_⟩)
      refine WA.one (i := 6) kr_ ?_
      refine WO.h rfl Wt.none rfl (Hd.lookupG (k0 := kStr) (KT := 9) (ET := 191) (TD := .string) (n := gs[i].name) (z := .agg #[.int .i64 0, .int .i64 0]) kr_ Tryz.underlying9 rfl kr_ rfl rfl hK sp_ (lkG2 (gs.take i) gs[i].name) ⟨_, rfl, ?_⟩)
      refine WA.y (i := 7) (NoPanic.then (NoPanic.block (NoPanic.then (NoPanic.then (NoPanic.block (NoPanic.then (NoPanic.body))))))) rfl kr_ kr_ kr_ rfl (Yd.move rfl) ?_
      refine WA.y (i := 8) (NoPanic.then (NoPanic.block (NoPanic.then (NoPanic.then (NoPanic.block (NoPanic.then (NoPanic.body))))))) rfl kr_ kr_ kr_ rfl (Yd.extract rfl rfl) ?_
      refine WA.y (i := 9) (NoPanic.then (NoPanic.block (NoPanic.then (NoPanic.then (NoPanic.block (NoPanic.then (NoPanic.body))))))) rfl kr_ kr_ kr_ rfl (Yd.extract rfl rfl) ?_
      refine WA.one (i := 11) kr_ ?_
      refine WO.s rfl Wt.none (Hd.storeAll (n := 2) kr_ rfl rfl (by rfl) one_ fr_ (by rfl) ⟨rfl, ?_⟩)
      refine WA.y (i := 12) (NoPanic.then (NoPanic.block (NoPanic.then (NoPanic.then (NoPanic.block (NoPanic.then (NoPanic.body))))))) rfl kr_ kr_ kr_ rfl (Yd.assign rfl) ?_
      refine WA.done kr_ ?_
      refine DN.fit (C := row b6 (cellsG gs[i]) 73 :: (row b15 [.map (some b1), .map (some b2)] 189 :: (C1 ++ (C2 ++ H)))) sp_ ?_
      exact DN.reachK (0) (trivial) (Sx.put rfl (sx_)) (Sp.all sp_)
     ·refine WO.h rfl Wt.none rfl (Hd.load1 kr_ rfl mem_ (by rfl) ⟨_, rfl, ?_⟩)
      refine WA.one (i := 3) kr_ ?_
      refine WO.h rfl Wt.none rfl (Hd.load1 kr_ rfl mem_ (by rfl) ⟨_, rfl, ?_⟩)
      refine WA.one (i := 6) kr_ ?_
      refine WO.h rfl Wt.none rfl (Hd.lookupG (k0 := kStr) (KT := 9) (ET := 191) (TD := .string) (n := gs[i].name) (z := .agg #[.int .i64 0, .int .i64 0]) kr_ Tryz.underlying9 rfl kr_ rfl rfl hK sp_ (lkG2 (gs.take i) gs[i].name) ⟨_, rfl, ?_⟩)
      refine WA.y (i := 7) (NoPanic.then (NoPanic.block (NoPanic.then (NoPanic.then (NoPanic.block (NoPanic.then (NoPanic.body))))))) rfl kr_ kr_ kr_ rfl (Yd.move rfl) ?_
      refine WA.y (i := 8) (NoPanic.then (NoPanic.block (NoPanic.then (NoPanic.then (NoPanic.block (NoPanic.then (NoPanic.body))))))) rfl kr_ kr_ kr_ rfl (Yd.extract rfl rfl) ?_
      refine WA.y (i := 9) (NoPanic.then (NoPanic.block (NoPanic.then (NoPanic.then (NoPanic.block (NoPanic.then (NoPanic.body))))))) rfl kr_ kr_ kr_ rfl (Yd.extract rfl rfl) ?_
      refine WA.one (i := 11) kr_ ?_
      refine WO.s rfl Wt.none (Hd.storeAll (n := 2) kr_ rfl rfl (by rfl) one_ fr_ (by rfl) ⟨rfl, ?_⟩)
      refine WA.y (i := 12) (NoPanic.then (NoPanic.block (NoPanic.then (NoPanic.then (NoPanic.block (NoPanic.then (NoPanic.body))))))) rfl kr_ kr_ kr_ rfl (Yd.assign rfl) ?_
      refine WA.done kr_ ?_
      refine DN.fit (C := row b6 (cellsG gs[i]) 73 :: (row b15 [.map (some b1), .map (some b2)] 189 :: (C1 ++ (C2 ++ H)))) sp_ ?_
      exact DN.reachK (0) (trivial) (Sx.put rfl (sx_)) (Sp.all sp_)
   ·intro _ _
    refine WC.seq ?_
    refine sr_ ?_
    refine f_ 0 kr_ rfl rfl ?_
    refine d_ kr_ rfl mem_ (by rfl) rfl ?_
    refine WL.y rfl (Yd.eqlS rfl rfl) ?_
    refine m_ rfl rfl ?_
    refine WL.partP (t := 35) rfl (fun hg35 => ?_) (fun hg35 => ?_)
    ·iterate 4 refine gn_ 35 rfl rfl rfl rfl ?_
     refine WL.y rfl (Yd.pickT rfl rfl) ?_
     refine m_ rfl rfl ?_
     iterate 3 refine gn_ 41 rfl rfl rfl rfl ?_
     refine WL.y rfl (Yd.pickT rfl rfl) ?_
     refine m_ rfl rfl ?_
     iterate 3 refine gn_ 46 rfl rfl rfl rfl ?_
     refine WL.y rfl (Yd.pickT rfl rfl) ?_
     refine m_ rfl rfl ?_
     refine gn_ 51 rfl rfl rfl rfl ?_
     refine WL.y rfl (Yd.pickT rfl rfl) ?_
     refine nt_ ?_
     refine WC.yes rfl ?_
     refine sr_ ?_
     refine a_ rfl rfl ?_
     refine a_ rfl rfl ?_
     refine nt_ ?_
     refine WC.ret ?_
     refine DN.then_ret ?_
     refine DN.block_ret ?_
     refine DN.then_ret ?_
     refine DN.then_ret ?_
     refine DN.block_ret ?_
     refine DN.then_ret ?_
     first | (have hlt2 : i < gs.length := hlt; refine DN.fit (C := H) sp_ ?_) | refine DN.fit (C := row b15 [.map (some b1), .map (some b2)] 189 :: (C1 ++ (C2 ++ H))) sp_ ?_ | skip
     refine DN.ret2 Tryz.results63 rfl rfl ?_
     first
       | exact .inr ⟨fun hG => by have := hG.1; omega, rfl, rfl⟩
       | exact .inr ⟨fun hG => (hG.2.2 gs[i] (List.getElem_mem hlt)).1 hg35, rfl, rfl⟩
       | exact .inr ⟨fun hG => by have := (hG.2.2 gs[i] (List.getElem_mem hlt)).2; omega, rfl, rfl⟩
       | exact .inr ⟨fun hG => (twice_no hlt h53) hG.2.1, rfl, rfl⟩
       | exact .inl ⟨⟨by omega, hnd, fun g hm => by obtain ⟨j, hj, rfl⟩ := List.getElem_of_mem hm; exact hgood j hj hj⟩, b15, row b15 [.map (some b1), .map (some b2)] 189 :: (C1 ++ C2), rfl, ⟨b1, b2, C1, C2, rfl, hK, h2⟩, by simp⟩
    ·refine gy_ 35 rfl rfl rfl (Yd.fieldAddr (k := 0) kr_ rfl) ?_
     refine WL.gh (dj := 35) rfl rfl rfl (Hd.load1 kr_ rfl mem_ (by rfl) ⟨_, rfl, ?_⟩)
     refine gy_ 35 rfl rfl rfl (Yd.lenS Tryz.underlying9 rfl) ?_
     refine gy_ 35 rfl rfl rfl (Yd.gtr rfl rfl) ?_
     refine WL.y rfl (Yd.pickF rfl rfl) ?_
     refine m_ rfl rfl ?_
     refine WL.partP (t := 41) rfl (fun hg41 => ?_) (fun hg41 => ?_)
     ·iterate 3 refine gn_ 41 rfl rfl rfl rfl ?_
      refine WL.y rfl (Yd.pickT rfl rfl) ?_
      refine m_ rfl rfl ?_
      iterate 3 refine gn_ 46 rfl rfl rfl rfl ?_
      refine WL.y rfl (Yd.pickT rfl rfl) ?_
      refine m_ rfl rfl ?_
      refine gn_ 51 rfl rfl rfl rfl ?_
      refine WL.y rfl (Yd.pickT rfl rfl) ?_
      refine nt_ ?_
      refine WC.yes rfl ?_
      refine sr_ ?_
      refine a_ rfl rfl ?_
      refine a_ rfl rfl ?_
      refine nt_ ?_
      refine WC.ret ?_
      refine DN.then_ret ?_
      refine DN.block_ret ?_
      refine DN.then_ret ?_
      refine DN.then_ret ?_
      refine DN.block_ret ?_
      refine DN.then_ret ?_
      first | (have hlt2 : i < gs.length := hlt; refine DN.fit (C := H) sp_ ?_) | refine DN.fit (C := row b15 [.map (some b1), .map (some b2)] 189 :: (C1 ++ (C2 ++ H))) sp_ ?_ | skip
      refine DN.ret2 Tryz.results63 rfl rfl ?_
      first
        | exact .inr ⟨fun hG => by have := hG.1; omega, rfl, rfl⟩
        | exact .inr ⟨fun hG => (hG.2.2 gs[i] (List.getElem_mem hlt)).1 hg35, rfl, rfl⟩
        | exact .inr ⟨fun hG => by have := (hG.2.2 gs[i] (List.getElem_mem hlt)).2; omega, rfl, rfl⟩
        | exact .inr ⟨fun hG => (twice_no hlt h53) hG.2.1, rfl, rfl⟩
        | exact .inl ⟨⟨by omega, hnd, fun g hm => by obtain ⟨j, hj, rfl⟩ := List.getElem_of_mem hm; exact hgood j hj hj⟩, b15, row b15 [.map (some b1), .map (some b2)] 189 :: (C1 ++ C2), rfl, ⟨b1, b2, C1, C2, rfl, hK, h2⟩, by simp⟩
     ·refine gy_ 41 rfl rfl rfl (Yd.fieldAddr (k := 1) kr_ rfl) ?_
      refine WL.gh (dj := 41) rfl rfl rfl (Hd.load1 kr_ rfl mem_ (by rfl) ⟨_, rfl, ?_⟩)
      refine gy_ 41 rfl rfl rfl (Yd.lss rfl rfl) ?_
      refine WL.y rfl (Yd.pickF rfl rfl) ?_
      refine m_ rfl rfl ?_
      refine WL.partP (t := 46) rfl (fun hg46 => ?_) (fun hg46 => ?_)
      ·iterate 3 refine gn_ 46 rfl rfl rfl rfl ?_
       refine WL.y rfl (Yd.pickT rfl rfl) ?_
       refine m_ rfl rfl ?_
       refine gn_ 51 rfl rfl rfl rfl ?_
       refine WL.y rfl (Yd.pickT rfl rfl) ?_
       refine nt_ ?_
       refine WC.yes rfl ?_
       refine sr_ ?_
       refine a_ rfl rfl ?_
       refine a_ rfl rfl ?_
       refine nt_ ?_
       refine WC.ret ?_
       refine DN.then_ret ?_
       refine DN.block_ret ?_
       refine DN.then_ret ?_
       refine DN.then_ret ?_
       refine DN.block_ret ?_
       refine DN.then_ret ?_
       first | (have hlt2 : i < gs.length := hlt; refine DN.fit (C := H) sp_ ?_) | refine DN.fit (C := row b15 [.map (some b1), .map (some b2)] 189 :: (C1 ++ (C2 ++ H))) sp_ ?_ | skip
       refine DN.ret2 Tryz.results63 rfl rfl ?_
       first
         | exact .inr ⟨fun hG => by have := hG.1; omega, rfl, rfl⟩
         | exact .inr ⟨fun hG => (hG.2.2 gs[i] (List.getElem_mem hlt)).1 hg35, rfl, rfl⟩
         | exact .inr ⟨fun hG => by have := (hG.2.2 gs[i] (List.getElem_mem hlt)).2; omega, rfl, rfl⟩
         | exact .inr ⟨fun hG => (twice_no hlt h53) hG.2.1, rfl, rfl⟩
         | exact .inl ⟨⟨by omega, hnd, fun g hm => by obtain ⟨j, hj, rfl⟩ := List.getElem_of_mem hm; exact hgood j hj hj⟩, b15, row b15 [.map (some b1), .map (some b2)] 189 :: (C1 ++ C2), rfl, ⟨b1, b2, C1, C2, rfl, hK, h2⟩, by simp⟩
      ·refine gy_ 46 rfl rfl rfl (Yd.fieldAddr (k := 1) kr_ rfl) ?_
       refine WL.gh (dj := 46) rfl rfl rfl (Hd.load1 kr_ rfl mem_ (by rfl) ⟨_, rfl, ?_⟩)
       refine gy_ 46 rfl rfl rfl (Yd.gtr rfl rfl) ?_
       refine WL.y rfl (Yd.pickF rfl rfl) ?_
       refine m_ rfl rfl ?_
       refine WL.partP (t := 51) rfl (fun hg51 => ?_) (fun hg51 => ?_)
       ·refine gn_ 51 rfl rfl rfl rfl ?_
        refine WL.y rfl (Yd.pickT rfl rfl) ?_
        refine nt_ ?_
        refine WC.yes rfl ?_
        refine sr_ ?_
        refine a_ rfl rfl ?_
        refine a_ rfl rfl ?_
        refine nt_ ?_
        refine WC.ret ?_
        refine DN.then_ret ?_
        refine DN.block_ret ?_
        refine DN.then_ret ?_
        refine DN.then_ret ?_
        refine DN.block_ret ?_
        refine DN.then_ret ?_
        first | (have hlt2 : i < gs.length := hlt; refine DN.fit (C := H) sp_ ?_) | refine DN.fit (C := row b15 [.map (some b1), .map (some b2)] 189 :: (C1 ++ (C2 ++ H))) sp_ ?_ | skip
        refine DN.ret2 Tryz.results63 rfl rfl ?_
        first
          | exact .inr ⟨fun hG => by have := hG.1; omega, rfl, rfl⟩
          | exact .inr ⟨fun hG => (hG.2.2 gs[i] (List.getElem_mem hlt)).1 hg35, rfl, rfl⟩
          | exact .inr ⟨fun hG => by have := (hG.2.2 gs[i] (List.getElem_mem hlt)).2; omega, rfl, rfl⟩
          | exact .inr ⟨fun hG => (twice_no hlt h53) hG.2.1, rfl, rfl⟩
          | exact .inl ⟨⟨by omega, hnd, fun g hm => by obtain ⟨j, hj, rfl⟩ := List.getElem_of_mem hm; exact hgood j hj hj⟩, b15, row b15 [.map (some b1), .map (some b2)] 189 :: (C1 ++ C2), rfl, ⟨b1, b2, C1, C2, rfl, hK, h2⟩, by simp⟩
       ·refine gy_ 51 rfl rfl rfl (Yd.move rfl) ?_
        refine WL.y rfl (Yd.pickF rfl rfl) ?_
        refine nt_ ?_
        refine WC.cond rfl (fun h53 => ?_) (fun h53 => ?_)
        ·refine sr_ ?_
         refine a_ rfl rfl ?_
         refine a_ rfl rfl ?_
         refine nt_ ?_
         refine WC.ret ?_
         refine DN.then_ret ?_
         refine DN.block_ret ?_
         refine DN.then_ret ?_
         refine DN.then_ret ?_
         refine DN.block_ret ?_
         refine DN.then_ret ?_
         first | (have hlt2 : i < gs.length := hlt; refine DN.fit (C := H) sp_ ?_) | refine DN.fit (C := row b15 [.map (some b1), .map (some b2)] 189 :: (C1 ++ (C2 ++ H))) sp_ ?_ | skip
         refine DN.ret2 Tryz.results63 rfl rfl ?_
         first
           | exact .inr ⟨fun hG => by have := hG.1; omega, rfl, rfl⟩
           | exact .inr ⟨fun hG => (hG.2.2 gs[i] (List.getElem_mem hlt)).1 hg35, rfl, rfl⟩
           | exact .inr ⟨fun hG => by have := (hG.2.2 gs[i] (List.getElem_mem hlt)).2; omega, rfl, rfl⟩
           | exact .inr ⟨fun hG => (twice_no hlt h53) hG.2.1, rfl, rfl⟩
           | exact .inl ⟨⟨by omega, hnd, fun g hm => by obtain ⟨j, hj, rfl⟩ := List.getElem_of_mem hm; exact hgood j hj hj⟩, b15, row b15 [.map (some b1), .map (some b2)] 189 :: (C1 ++ C2), rfl, ⟨b1, b2, C1, C2, rfl, hK, h2⟩, by simp⟩
        ·have hgi : goodB gs[i] := ⟨hg35, by omega, by omega, by omega⟩
         have hnone : findK Gd.name (gs.take i) gs[i].name = none := by simpa using h53
         have hndi := once_more hnd hnone
         refine WC.skip ?_
         refine DN.then_normal ?_
         refine WC.draw 10 kr_ rfl ?_
         refine WA.y (i := 0) (NoPanic.block (NoPanic.then (NoPanic.then (NoPanic.block (NoPanic.then (NoPanic.body)))))) rfl kr_ kr_ kr_ rfl (Yd.move rfl) ?_
         refine WA.y (i := 1) (NoPanic.block (NoPanic.then (NoPanic.then (NoPanic.block (NoPanic.then (NoPanic.body)))))) rfl kr_ kr_ kr_ rfl (Yd.notNil rfl) ?_
         refine WA.y (i := 2) (NoPanic.block (NoPanic.then (NoPanic.then (NoPanic.block (NoPanic.then (NoPanic.body)))))) rfl kr_ kr_ kr_ rfl (Yd.fieldAddr (k := 0) kr_ rfl) ?_
         refine WA.y (i := 4) (NoPanic.block (NoPanic.then (NoPanic.then (NoPanic.block (NoPanic.then (NoPanic.body)))))) rfl kr_ kr_ kr_ rfl (Yd.fieldAddr (k := 0) kr_ rfl) ?_
         refine WA.y (i := 6) (NoPanic.block (NoPanic.then (NoPanic.then (NoPanic.block (NoPanic.then (NoPanic.body)))))) rfl kr_ kr_ kr_ rfl (Yd.fieldAddr (k := 1) kr_ rfl) ?_
         refine WA.three (i := 3) (j := 5) (k := 7) kr_ ?_ ?_ ?_
         ·refine WO.h rfl Wt.none rfl (Hd.load1 kr_ rfl mem_ (by rfl) ⟨_, rfl, ?_⟩)
          refine WA.two (i := 5) (j := 7) kr_ ?_ ?_
          ·refine WO.h rfl Wt.none rfl (Hd.load1 kr_ rfl mem_ (by rfl) ⟨_, rfl, ?_⟩)
           refine WA.one (i := 7) kr_ ?_
           refine WO.h rfl Wt.none rfl (Hd.load1 kr_ rfl mem_ (by rfl) ⟨_, rfl, ?_⟩)
           refine WA.y (i := 8) (NoPanic.block (NoPanic.then (NoPanic.then (NoPanic.block (NoPanic.then (NoPanic.body)))))) rfl kr_ kr_ kr_ rfl (Yd.buildL (pl := [(0, 1), (1, 1)]) (zs := [.int .i64 0, .int .i64 0]) (parts := [(0, .tmp 61)]) (vs := [(0, _)]) (cells := [_, .int .i64 0]) kr_ kr_ rfl rfl) ?_
           refine WA.one (i := 9) kr_ ?_
           refine WO.s rfl Wt.none (Hd.mapSet (k0 := kStr) (KT := 9) (ET := 191) (TD := .string) (n := gs[i].name) kr_ Tryz.underlying9 rfl rfl rfl rfl hK (by rw [kvs_keys]; exact hnd) sp_ fun C3 h3 => ⟨rfl, ?_⟩)
           refine WA.done kr_ ?_
           refine DN.block_normal ?_
           refine DN.then_normal ?_
           refine WC.region ?_
           refine WL.y rfl (Yd.add rfl rfl (by omega) (by omega)) ?_
           refine m_ rfl rfl ?_
           refine WL.nil ?_
           exact DN.againS (⟨i + 1, C3⟩) (show (i + 1) ≤ gs.length ∧ (∀ (j : Nat) (h : j < gs.length), j < (i + 1) → goodB gs[j]) ∧ ((gs.take (i + 1)).map Gd.name).Nodup ∧ MpG kStr b1 (kvs Gd.name encG (gs.take (i + 1))) C3 from ⟨by omega, fun j h hj => by
             rcases Nat.lt_or_ge j i with h5 | h5
             · exact hgood j h h5
             · obtain rfl : j = i := by omega
               exact hgi, by rw [htk]; exact hndi, by rw [htk]; exact put_more hgn hnone h3⟩) (show gs.length - (i + 1) < gs.length - i by omega) (Sx.put rfl (sx_)) sp_
          ·refine WO.h rfl Wt.none rfl (Hd.load1 kr_ rfl mem_ (by rfl) ⟨_, rfl, ?_⟩)
           refine WA.y (i := 8) (NoPanic.block (NoPanic.then (NoPanic.then (NoPanic.block (NoPanic.then (NoPanic.body)))))) rfl kr_ kr_ kr_ rfl (Yd.buildL (pl := [(0, 1), (1, 1)]) (zs := [.int .i64 0, .int .i64 0]) (parts := [(0, .tmp 61)]) (vs := [(0, _)]) (cells := [_, .int .i64 0]) kr_ kr_ rfl rfl) ?_
           refine WA.one (i := 5) kr_ ?_
           refine WO.h rfl Wt.none rfl (Hd.load1 kr_ rfl mem_ (by rfl) ⟨_, rfl, ?_⟩)
           refine WA.one (i := 9) kr_ ?_
           refine WO.s rfl Wt.none (Hd.mapSet (k0 := kStr) (KT := 9) (ET := 191) (TD := .string) (n := gs[i].name) kr_ Tryz.underlying9 rfl rfl rfl rfl hK (by rw [kvs_keys]; exact hnd) sp_ fun C3 h3 => ⟨rfl, ?_⟩)
           refine WA.done kr_ ?_
           refine DN.block_normal ?_
           refine DN.then_normal ?_
           refine WC.region ?_
           refine WL.y rfl (Yd.add rfl rfl (by omega) (by omega)) ?_
           refine m_ rfl rfl ?_
           refine WL.nil ?_
           exact DN.againS (⟨i + 1, C3⟩) (show (i + 1) ≤ gs.length ∧ (∀ (j : Nat) (h : j < gs.length), j < (i + 1) → goodB gs[j]) ∧ ((gs.take (i + 1)).map Gd.name).Nodup ∧ MpG kStr b1 (kvs Gd.name encG (gs.take (i + 1))) C3 from ⟨by omega, fun j h hj => by
             rcases Nat.lt_or_ge j i with h5 | h5
             · exact hgood j h h5
             · obtain rfl : j = i := by omega
               exact hgi, by rw [htk]; exact hndi, by rw [htk]; exact put_more hgn hnone h3⟩) (show gs.length - (i + 1) < gs.length - i by omega) (Sx.put rfl (sx_)) sp_
         ·refine WO.h rfl Wt.none rfl (Hd.load1 kr_ rfl mem_ (by rfl) ⟨_, rfl, ?_⟩)
          refine WA.two (i := 3) (j := 7) kr_ ?_ ?_
          ·refine WO.h rfl Wt.none rfl (Hd.load1 kr_ rfl mem_ (by rfl) ⟨_, rfl, ?_⟩)
           refine WA.one (i := 7) kr_ ?_
           refine WO.h rfl Wt.none rfl (Hd.load1 kr_ rfl mem_ (by rfl) ⟨_, rfl, ?_⟩)
           refine WA.y (i := 8) (NoPanic.block (NoPanic.then (NoPanic.then (NoPanic.block (NoPanic.then (NoPanic.body)))))) rfl kr_ kr_ kr_ rfl (Yd.buildL (pl := [(0, 1), (1, 1)]) (zs := [.int .i64 0, .int .i64 0]) (parts := [(0, .tmp 61)]) (vs := [(0, _)]) (cells := [_, .int .i64 0]) kr_ kr_ rfl rfl) ?_
           refine WA.one (i := 9) kr_ ?_
           refine WO.s rfl Wt.none (Hd.mapSet (k0 := kStr) (KT := 9) (ET := 191) (TD := .string) (n := gs[i].name) kr_ Tryz.underlying9 rfl rfl rfl rfl hK (by rw [kvs_keys]; exact hnd) sp_ fun C3 h3 => ⟨rfl, ?_⟩)
           refine WA.done kr_ ?_
           refine DN.block_normal ?_
           refine DN.then_normal ?_
           refine WC.region ?_
           refine WL.y rfl (Yd.add rfl rfl (by omega) (by omega)) ?_
           refine m_ rfl rfl ?_
           refine WL.nil ?_
           exact DN.againS (⟨i + 1, C3⟩) (show (i + 1) ≤ gs.length ∧ (∀ (j : Nat) (h : j < gs.length), j < (i + 1) → goodB gs[j]) ∧ ((gs.take (i + 1)).map Gd.name).Nodup ∧ MpG kStr b1 (kvs Gd.name encG (gs.take (i + 1))) C3 from ⟨by omega, fun j h hj => by
             rcases Nat.lt_or_ge j i with h5 | h5
             · exact hgood j h h5
             · obtain rfl : j = i := by omega
               exact hgi, by rw [htk]; exact hndi, by rw [htk]; exact put_more hgn hnone h3⟩) (show gs.length - (i + 1) < gs.length - i by omega) (Sx.put rfl (sx_)) sp_
          ·refine WO.h rfl Wt.none rfl (Hd.load1 kr_ rfl mem_ (by rfl) ⟨_, rfl, ?_⟩)
           refine WA.y (i := 8) (NoPanic.block (NoPanic.then (NoPanic.then (NoPanic.block (NoPanic.then (NoPanic.body)))))) rfl kr_ kr_ kr_ rfl (Yd.buildL (pl := [(0, 1), (1, 1)]) (zs := [.int .i64 0, .int .i64 0]) (parts := [(0, .tmp 61)]) (vs := [(0, _)]) (cells := [_, .int .i64 0]) kr_ kr_ rfl rfl) ?_
           refine WA.one (i := 3) kr_ ?_
           refine WO.h rfl Wt.none rfl (Hd.load1 kr_ rfl mem_ (by rfl) ⟨_, rfl, ?_⟩)
           refine WA.one (i := 9) kr_ ?_
           refine WO.s rfl Wt.none (Hd.mapSet (k0 := kStr) (KT := 9) (ET := 191) (TD := .string) (n := gs[i].name) kr_ Tryz.underlying9 rfl rfl rfl rfl hK (by rw [kvs_keys]; exact hnd) sp_ fun C3 h3 => ⟨rfl, ?_⟩)
           refine WA.done kr_ ?_
           refine DN.block_normal ?_
           refine DN.then_normal ?_
           refine WC.region ?_
           refine WL.y rfl (Yd.add rfl rfl (by omega) (by omega)) ?_
           refine m_ rfl rfl ?_
           refine WL.nil ?_
           exact DN.againS (⟨i + 1, C3⟩) (show (i + 1) ≤ gs.length ∧ (∀ (j : Nat) (h : j < gs.length), j < (i + 1) → goodB gs[j]) ∧ ((gs.take (i + 1)).map Gd.name).Nodup ∧ MpG kStr b1 (kvs Gd.name encG (gs.take (i + 1))) C3 from ⟨by omega, fun j h hj => by
             rcases Nat.lt_or_ge j i with h5 | h5
             · exact hgood j h h5
             · obtain rfl : j = i := by omega
               exact hgi, by rw [htk]; exact hndi, by rw [htk]; exact put_more hgn hnone h3⟩) (show gs.length - (i + 1) < gs.length - i by omega) (Sx.put rfl (sx_)) sp_
         ·refine WO.h rfl Wt.none rfl (Hd.load1 kr_ rfl mem_ (by rfl) ⟨_, rfl, ?_⟩)
          refine WA.y (i := 8) (NoPanic.block (NoPanic.then (NoPanic.then (NoPanic.block (NoPanic.then (NoPanic.body)))))) rfl kr_ kr_ kr_ rfl (Yd.buildL (pl := [(0, 1), (1, 1)]) (zs := [.int .i64 0, .int .i64 0]) (parts := [(0, .tmp 61)]) (vs := [(0, _)]) (cells := [_, .int .i64 0]) kr_ kr_ rfl rfl) ?_
          refine WA.two (i := 3) (j := 5) kr_ ?_ ?_
          ·refine WO.h rfl Wt.none rfl (Hd.load1 kr_ rfl mem_ (by rfl) ⟨_, rfl, ?_⟩)
           refine WA.one (i := 5) kr_ ?_
           refine WO.h rfl Wt.none rfl (Hd.load1 kr_ rfl mem_ (by rfl) ⟨_, rfl, ?_⟩)
           refine WA.one (i := 9) kr_ ?_
           refine WO.s rfl Wt.none (Hd.mapSet (k0 := kStr) (KT := 9) (ET := 191) (TD := .string) (n := gs[i].name) kr_ Tryz.underlying9 rfl rfl rfl rfl hK (by rw [kvs_keys]; exact hnd) sp_ fun C3 h3 => ⟨rfl, ?_⟩)
           refine WA.done kr_ ?_
           refine DN.block_normal ?_
           refine DN.then_normal ?_
           refine WC.region ?_
           refine WL.y rfl (Yd.add rfl rfl (by omega) (by omega)) ?_
           refine m_ rfl rfl ?_
           refine WL.nil ?_
           exact DN.againS (⟨i + 1, C3⟩) (show (i + 1) ≤ gs.length ∧ (∀ (j : Nat) (h : j < gs.length), j < (i + 1) → goodB gs[j]) ∧ ((gs.take (i + 1)).map Gd.name).Nodup ∧ MpG kStr b1 (kvs Gd.name encG (gs.take (i + 1))) C3 from ⟨by omega, fun j h hj => by
             rcases Nat.lt_or_ge j i with h5 | h5
             · exact hgood j h h5
             · obtain rfl : j = i := by omega
               exact hgi, by rw [htk]; exact hndi, by rw [htk]; exact put_more hgn hnone h3⟩) (show gs.length - (i + 1) < gs.length - i by omega) (Sx.put rfl (sx_)) sp_
          ·refine WO.h rfl Wt.none rfl (Hd.load1 kr_ rfl mem_ (by rfl) ⟨_, rfl, ?_⟩)
           refine WA.one (i := 3) kr_ ?_
           refine WO.h rfl Wt.none rfl (Hd.load1 kr_ rfl mem_ (by rfl) ⟨_, rfl, ?_⟩)
           refine WA.one (i := 9) kr_ ?_
           refine WO.s rfl Wt.none (Hd.mapSet (k0 := kStr) (KT := 9) (ET := 191) (TD := .string) (n := gs[i].name) kr_ Tryz.underlying9 rfl rfl rfl rfl hK (by rw [kvs_keys]; exact hnd) sp_ fun C3 h3 => ⟨rfl, ?_⟩)
           refine WA.done kr_ ?_
           refine DN.block_normal ?_
           refine DN.then_normal ?_
           refine WC.region ?_
           refine WL.y rfl (Yd.add rfl rfl (by omega) (by omega)) ?_
           refine m_ rfl rfl ?_
           refine WL.nil ?_
           exact DN.againS (⟨i + 1, C3⟩) (show (i + 1) ≤ gs.length ∧ (∀ (j : Nat) (h : j < gs.length), j < (i + 1) → goodB gs[j]) ∧ ((gs.take (i + 1)).map Gd.name).Nodup ∧ MpG kStr b1 (kvs Gd.name encG (gs.take (i + 1))) C3 from ⟨by omega, fun j h hj => by
             rcases Nat.lt_or_ge j i with h5 | h5
             · exact hgood j h h5
             · obtain rfl : j = i := by omega
               exact hgi, by rw [htk]; exact hndi, by rw [htk]; exact put_more hgn hnone h3⟩) (show gs.length - (i + 1) < gs.length - i by omega) (Sx.put rfl (sx_)) sp_
  ·obtain rfl : i = gs.length := by omega
   rw [List.take_length] at hnd hK
   refine WC.exit ?_
   refine DN.then_exit ?_
   refine DN.then_exit ?_
   refine DN.block_exit ?_
   refine ts_ ?_
   refine WC.region ?_
   refine m_ rfl rfl ?_
   refine a_ rfl rfl ?_
   refine a_ rfl rfl ?_
   refine nt_ ?_
   refine WC.ret ?_
   first | (have hlt2 : i < gs.length := hlt; refine DN.fit (C := H) sp_ ?_) | refine DN.fit (C := row b15 [.map (some b1), .map (some b2)] 189 :: (C1 ++ (C2 ++ H))) sp_ ?_ | skip
   refine DN.ret2 Tryz.results63 rfl rfl ?_
   first
     | exact .inr ⟨fun hG => by have := hG.1; omega, rfl, rfl⟩
     | exact .inr ⟨fun hG => (hG.2.2 gs[i] (List.getElem_mem hlt)).1 hg35, rfl, rfl⟩
     | exact .inr ⟨fun hG => by have := (hG.2.2 gs[i] (List.getElem_mem hlt)).2; omega, rfl, rfl⟩
     | exact .inr ⟨fun hG => (twice_no hlt h53) hG.2.1, rfl, rfl⟩
     | exact .inl ⟨⟨by omega, hnd, fun g hm => by obtain ⟨j, hj, rfl⟩ := List.getElem_of_mem hm; exact hgood j hj hj⟩, b15, row b15 [.map (some b1), .map (some b2)] 189 :: (C1 ++ C2), rfl, ⟨b1, b2, C1, C2, rfl, hK, h2⟩, by simp⟩
end Go.Proofs.YtkamlondepceiaaGreat.St

set_option linter.unusedVariables false
set_option linter.unusedSimpArgs false
set_option maxHeartbeats 4000000
namespace Go.Proofs
def Tryz.sortU_ren : Go.Shelf.Ren := ⟨fun | 6 => 100 | 15 => 131 | 14 => 133 | 28 => 150 | 29 => 151 | 20 => 153 | 21 => 154 | 22 => 155 | 23 => 156 | 24 => 157 | 25 => 158 | 26 => 159 | 27 => 160 | 46 => 167 | 47 => 163 | 48 => 164 | 49 => 168 | 50 => 169 | 57 => 171 | n => n, fun | 22 => 44 | 24 => 71 | 25 => 200 | 3 => 3 | 39 => 218 | 0 => 0 | 53 => 49 | 55 => 50 | 4 => 4 | 46 => 240 | 45 => 239 | 50 => 179 | 5 => 5 | 9 => 9 | 66 => 252 | 70 => 255 | 76 => 259 | 77 => 176 | n => n, fun | n => n⟩
theorem Tryz.sortU : SlLaysF0.n6 Tryz.prog Tryz.sortU_ren := {
  mixed := by kernel_rfl,
  f6 := ⟨Tryz.f100.name, by decide, Tryz.func100.trans (congrArg some (by kernel_rfl))⟩,
  f14 := ⟨Tryz.f133.name, by decide, Tryz.func133.trans (congrArg some (by kernel_rfl))⟩,
  f15 := Tryz.func131.trans (congrArg some (by kernel_rfl)),
  f20 := ⟨Tryz.f153.name, by decide, Tryz.func153.trans (congrArg some (by kernel_rfl))⟩,
  f21 := ⟨Tryz.f154.name, by decide, Tryz.func154.trans (congrArg some (by kernel_rfl))⟩,
  f22 := ⟨Tryz.f155.name, by decide, Tryz.func155.trans (congrArg some (by kernel_rfl))⟩,
  f23 := ⟨Tryz.f156.name, by decide, Tryz.func156.trans (congrArg some (by kernel_rfl))⟩,
  f24 := ⟨Tryz.f157.name, by decide, Tryz.func157.trans (congrArg some (by kernel_rfl))⟩,
  f25 := ⟨Tryz.f158.name, by decide, Tryz.func158.trans (congrArg some (by kernel_rfl))⟩,
  f26 := ⟨Tryz.f159.name, by decide, Tryz.func159.trans (congrArg some (by kernel_rfl))⟩,
  f27 := ⟨Tryz.f160.name, by decide, Tryz.func160.trans (congrArg some (by kernel_rfl))⟩,
  f28 := Tryz.func150.trans (congrArg some (by kernel_rfl)),
  f29 := Tryz.func151.trans (congrArg some (by kernel_rfl)),
  f46 := ⟨Tryz.f167.name, by decide, Tryz.func167.trans (congrArg some (by kernel_rfl))⟩,
  f47 := Tryz.func163.trans (congrArg some (by kernel_rfl)),
  f48 := Tryz.func164.trans (congrArg some (by kernel_rfl)),
  f49 := ⟨Tryz.f168.name, by decide, Tryz.func168.trans (congrArg some (by kernel_rfl))⟩,
  f50 := ⟨Tryz.f169.name, by decide, Tryz.func169.trans (congrArg some (by kernel_rfl))⟩,
  f57 := ⟨Tryz.f171.name, by decide, Tryz.func171.trans (congrArg some (by kernel_rfl))⟩,
  t0 := Tryz.underlying0,
  a0 := Tryz.isAgg0,
  z0 := Tryz.sizeOf0,
  v0 := Tryz.zeroValue0,
  t3 := Tryz.underlying3,
  a3 := Tryz.isAgg3,
  z3 := Tryz.sizeOf3,
  v3 := Tryz.zeroValue3,
  t4 := Tryz.underlying4,
  a4 := Tryz.isAgg4,
  z4 := Tryz.sizeOf4,
  v4 := Tryz.zeroValue4,
  t5 := Tryz.underlying5,
  a5 := Tryz.isAgg5,
  z5 := Tryz.sizeOf5,
  v5 := Tryz.zeroValue5,
  t9 := Tryz.underlying9,
  a9 := Tryz.isAgg9,
  z9 := Tryz.sizeOf9,
  v9 := Tryz.zeroValue9,
  t22 := Tryz.underlying44,
  a22 := Tryz.isAgg44,
  z22 := Tryz.sizeOf44,
  v22 := Tryz.zeroValue44,
  t25 := Tryz.underlying200,
  a25 := Tryz.isAgg200,
  z25 := Tryz.sizeOf200,
  v25 := Tryz.zeroValue200,
  t39 := Tryz.underlying218,
  a39 := Tryz.isAgg218,
  z39 := Tryz.sizeOf218,
  v39 := Tryz.zeroValue218,
  t45 := Tryz.underlying239,
  a45 := Tryz.isAgg239,
  z45 := Tryz.sizeOf239,
  v45 := Tryz.zeroValue239,
  t46 := Tryz.underlying240,
  a46 := Tryz.isAgg240,
  z46 := Tryz.sizeOf240,
  v46 := Tryz.zeroValue240,
  t50 := Tryz.underlying179,
  a50 := Tryz.isAgg179,
  z50 := Tryz.sizeOf179,
  v50 := Tryz.zeroValue179,
  t53 := Tryz.underlying49,
  a53 := Tryz.isAgg49,
  z53 := Tryz.sizeOf49,
  v53 := Tryz.zeroValue49,
  t55 := Tryz.underlying50,
  a55 := Tryz.isAgg50,
  z55 := Tryz.sizeOf50,
  v55 := Tryz.zeroValue50,
  t66 := Tryz.underlying252,
  a66 := Tryz.isAgg252,
  z66 := Tryz.sizeOf252,
  v66 := Tryz.zeroValue252,
  t70 := Tryz.underlying255,
  a70 := Tryz.isAgg255,
  z70 := Tryz.sizeOf255,
  v70 := Tryz.zeroValue255,
  t76 := Tryz.underlying259,
  a76 := Tryz.isAgg259,
  z76 := Tryz.sizeOf259,
  v76 := Tryz.zeroValue259,
  t77 := Tryz.underlying176,
  a77 := Tryz.isAgg176,
  z77 := Tryz.sizeOf176,
  v77 := Tryz.zeroValue176
}
def Tryz.cmp_renPu : Go.Shelf.Ren := ⟨fun | 106 => 99 | 213 => 132 | 265 => 152 | n => n, fun | 3 => 3 | 9 => 9 | n => n, fun | n => n⟩
theorem Tryz.cmpStrPu : Lays.n106 Tryz.prog Tryz.cmp_renPu := {
  mixed := by kernel_rfl,
  f106 := Tryz.func99.trans (congrArg some (by kernel_rfl)),
  f213 := Tryz.func132.trans (congrArg some (by kernel_rfl)),
  f265 := Tryz.func152.trans (congrArg some (by kernel_rfl)),
  t3 := Tryz.underlying3, a3 := Tryz.isAgg3, z3 := Tryz.sizeOf3, v3 := Tryz.zeroValue3,
  t9 := Tryz.underlying9, a9 := Tryz.isAgg9, z9 := Tryz.sizeOf9, v9 := Tryz.zeroValue9 }
end Go.Proofs
namespace Go.Proofs.YtkamlondepceiaaGreat.Pu
open Go.SL
theorem compare_reads (a b : ByteArray) (H : List Ck) : Reads Tryz.prog 99 [.string a, .string b] H (.int .i64 (cmpS a b)) := fun w R s =>
  (Any.strings_Compare (ρ := Tryz.cmp_renPu) Tryz.cmpStrPu a b w).mono fun e w' ⟨he, hw⟩ => ⟨_, H, he, ⟨rfl, rfl⟩, by rw [hw]; exact s, by rw [hw]; exact Kept.refl w⟩
theorem cmpU_tells (x y : Au) : Tells Tryz.prog 101 [.agg (cellsU x).toArray, .agg (cellsU y).toArray] [] fun r H' => r = .int .i64 (cfU x y) := by
 refine Tells.enter Tryz.func101 rfl Tryz.ntmps101 rfl ?_
 intro w0 R
 refine sr_ ?_
 refine WL.h rfl (Hd.boxA rfl fun b2 => ⟨_, rfl, ?_⟩)
 refine WL.h rfl (Hd.boxA rfl fun b3 => ⟨_, rfl, ?_⟩)
 refine a_ rfl rfl ?_
 refine ntsr_ ?_
 refine f_ 0 kr_ rfl rfl ?_
 refine d_ kr_ rfl mem_ (by rfl) rfl ?_
 refine f_ 0 kr_ rfl rfl ?_
 refine d_ kr_ rfl mem_ (by rfl) rfl ?_
 refine WL.rf rfl (Ent.func Tryz.call99 rfl) (compare_reads x.name y.name []) sp_ ?_
 refine a_ rfl rfl ?_
 refine nt_ ?_
 refine WC.ret ?_
 refine DN.ret1 Tryz.results101 rfl ?_
 rfl
theorem accs_tells (p : Nat) (K : List Au) (L : List Py) (C : List Ck) (h : PsAt 198 p K L C) (hl : K.length ≤ 100000000) : Tells Tryz.prog 61 [.pointer (some ⟨p, 0, none⟩)] C fun r C' => ∃ S Cs, ToldK Au.name sLt K S ∧ Own r S.length (S.flatMap cellsU) 71 3 Cs ∧ C' = Cs ++ C := by
 refine Tells.enter Tryz.func61 rfl Tryz.ntmps61 rfl ?_
 intro w0 R
 obtain ⟨b1, b2, C1, C2, rfl, hK, hL⟩ := h
 obtain ⟨es, clock, rfl, hes, hborn, hbn⟩ := hK
 have hsz := hes.size
 simp only [kvs, List.length_map] at hsz
 refine sr_ ?_
 refine a_ rfl rfl ?_
 refine nt_ ?_
 refine WC.seq ?_
 refine sr_ ?_
 refine m_ rfl rfl ?_
 refine WL.y rfl (Yd.eqlNil Tryz.underlying114 rfl rfl) ?_
 refine nt_ ?_
 refine WC.no rfl ?_
 refine WC.skip ?_
 refine ts_ ?_
 refine WC.region ?_
 refine a_ rfl rfl ?_
 refine nt_ ?_
 refine WC.seq ?_
 refine sr_ ?_
 refine m_ rfl rfl ?_
 refine n_ rfl rfl ?_
 refine f_ 0 kr_ rfl rfl ?_
 refine d_ kr_ rfl mem_ (by rfl) rfl ?_
 refine WL.h rfl (Hd.rangeM (KT := 9) (ET := 71) kr_ rfl mem_ fun i => ⟨_, rfl, ?_⟩)
 refine nt_ ?_
 refine WC.block ?_
 refine WC.loopS (fun z : List MapEntry × List Au × (Array Nat) × Value × List Ck => Seen es z.1 z.2.2.1 ∧ z.1.map (fun e : MapEntry => (e.key, e.val)) = z.2.1.map (fun r : Au => (kStr.kv (Au.name r), encU r)) ∧ Own z.2.2.2.1 z.2.1.length (z.2.1.flatMap cellsU) 71 3 z.2.2.2.2) (fun z : List MapEntry × List Au × (Array Nat) × Value × List Ck => [(3, z.2.2.2.1)]) (fun z : List MapEntry × List Au × (Array Nat) × Value × List Ck => ⟨i, .mapIter (some b1) clock z.2.2.1 clock, true⟩ :: (z.2.2.2.2 ++ (row p [.map (some b1), .map (some b2)] 198 :: ([⟨b1, .map es clock, true⟩] ++ C2)))) (fun z : List MapEntry × List Au × (Array Nat) × Value × List Ck => es.size - z.1.length) (⟨[], [], #[], .slice none 0 0, []⟩) (show Seen es [] #[] ∧ [].map (fun e : MapEntry => (e.key, e.val)) = [].map (fun r : Au => (kStr.kv (Au.name r), encU r)) ∧ Own (.slice none 0 0) [].length ([].flatMap cellsU) 71 3 [] from ⟨Seen.start es, rfl, Own.nil _ _⟩) (Sx.put rfl (sx_)) sp_ ?_
 rintro ⟨col, B, seen, v, Cs⟩ hI
 replace hI : Seen es col seen ∧ col.map (fun e : MapEntry => (e.key, e.val)) = B.map (fun r : Au => (kStr.kv (Au.name r), encU r)) ∧ Own v B.length (B.flatMap cellsU) 71 3 Cs := hI
 obtain ⟨hs, hB, ho⟩ := hI
 change WC _ _ _ _ _ _ ([(3, v)] ++ _) (⟨i, .mapIter (some b1) clock seen clock, true⟩ :: (Cs ++ (row p [.map (some b1), .map (some b2)] 198 :: ([⟨b1, .map es clock, true⟩] ++ C2))))
 have hcl := hs.len hbn
 obtain ⟨vo, vc, rfl, _⟩ := ho.form
 have hBl : B.length = col.length := by simpa using (congrArg List.length hB).symm
 refine sr_ ?_
 refine WL.h rfl (Hd.nextM rfl fr_ mem_ hborn (fun e he => ⟨_, rfl, ?_⟩) (fun hu => ⟨_, rfl, ?_⟩))
 ·obtain ⟨hs2, hee⟩ := hs.next he
  obtain ⟨b, hbL, hek, hev⟩ := entsK_one hes hee
  refine x_ rfl rfl rfl ?_
  refine nt_ ?_
  refine WC.seq ?_
  refine WC.yes rfl ?_
  refine WC.skip ?_
  refine DN.then_normal ?_
  refine WC.block ?_
  refine sr_ ?_
  refine WL.h rfl (Hd.entryM rfl List.mem_cons_self mem_ hbn hee ⟨_, rfl, ?_⟩)
  refine x_ rfl rfl rfl ?_
  refine WL.renamed (t := 16) (v := .agg (cellsU b).toArray) rfl (by show e.val = _; rw [hev]; rfl) ?_
  refine WL.h rfl (Hd.alloc (zs := [.string ⟨#[]⟩, .int .i64 0, .int .i64 0]) kr_ fun b5 => ⟨_, rfl, ?_⟩)
  refine WL.s (Hd.storeAll (n := 3) kr_ rfl rfl (by rfl) one_ fr_ (by rfl) ⟨rfl, ?_⟩)
  refine ntr_ ?_
  refine m_ rfl rfl ?_
  refine WL.h rfl (Hd.loadAll (n := 3) kr_ rfl mem_ (by rfl) ⟨_, rfl, ?_⟩)
  refine WL.h rfl (Hd.buildA (e := 71) (sz := 3) (zs := [.string ⟨#[]⟩, .int .i64 0, .int .i64 0]) kr_ kr_ kr_ rfl rfl (by rfl) kr_ fun b19 => ⟨_, rfl, ?_⟩)
  refine WL.h rfl (Hd.appendRow (e := 71) (sz := 3) (bytes := 32) (zs := [.string ⟨#[]⟩, .int .i64 0, .int .i64 0]) kr_ kr_ rfl (by omega) rfl rfl (ho) sp_ mem_ (by rfl) one_ (by simp only [maxLen]; omega) (by omega) fun v2 Ca ho2 => ⟨_, rfl, ?_⟩)
  refine a_ rfl rfl ?_
  refine WL.nil ?_
  refine DN.block_normal ?_
  have hcl2 := hs2.len hbn
  have hcl3 : (col ++ [e]).length = col.length + 1 := by simp
  exact DN.againS (⟨col ++ [e], B ++ [b], seen.push e.born, v2, Ca⟩) (show Seen es (col ++ [e]) (seen.push e.born) ∧ (col ++ [e]).map (fun e : MapEntry => (e.key, e.val)) = (B ++ [b]).map (fun r : Au => (kStr.kv (Au.name r), encU r)) ∧ Own v2 (B ++ [b]).length ((B ++ [b]).flatMap cellsU) 71 3 Ca from ⟨hs2, by rw [List.map_append, List.map_append, hB]; simp [hek, hev], by rw [List.flatMap_append, List.length_append]; simpa [cellsU, cellsP] using ho2⟩) (show es.size - (col ++ [e]).length < es.size - col.length by omega) (Sx.put rfl (sx_)) sp_
 ·refine x_ rfl rfl rfl ?_
  refine nt_ ?_
  refine WC.seq ?_
  refine WC.no rfl ?_
  refine WC.exit ?_
  refine DN.then_exit ?_
  refine DN.then_exit ?_
  refine DN.block_exit ?_
  refine ts_ ?_
  refine WC.region ?_
  refine m_ rfl rfl ?_
  refine WL.c rfl (Ent.func Tryz.call100 rfl) (sort_tells Tryz.sortU 3 (by omega) Tryz.isAgg71 Tryz.sizeOf71 cellsU cellsU_len cellsU_one cfU swoU 101 Tryz.call101 cmpU_tells ho (by omega)) (Sp.p sp_) ?_
  rintro q Cz ⟨rfl, S, hS, hpw, ho2⟩
  refine ntsr_ ?_
  refine m_ rfl rfl ?_
  refine a_ rfl rfl ?_
  refine nt_ ?_
  refine WC.ret ?_
  refine DN.fit (C := Cz ++ (row p [.map (some b1), .map (some b2)] 198 :: ([⟨b1, .map es clock, true⟩] ++ C2))) sp_ ?_
  refine DN.ret1 Tryz.results61 rfl ?_
  exact ⟨S, Cz, ⟨hS.trans (entsK_all injU hes (hs.all hbn hu) hB), hpw.imp fun {x y} hxy => by rw [← hxy]; exact (ltU y x).symm⟩, by rw [hS.length_eq]; rwa [hS.length_eq] at ho2, rfl⟩
end Go.Proofs.YtkamlondepceiaaGreat.Pu

set_option linter.unusedVariables false
set_option linter.unusedSimpArgs false
set_option maxHeartbeats 4000000
namespace Go.Proofs.YtkamlondepceiaaGreat.Pu
open Go.SL
theorem new_tells (v : Value) (gs : List Au) (H : List Ck) (hv : Rs v gs.length (gs.flatMap cellsU) H) (hl : gs.length ≤ 9223372036854775807) : Tells Tryz.prog 64 [v] H fun r H' => (AccL gs ∧ ∃ p C, r = .tuple #[.pointer (some ⟨p, 0, none⟩), .int .i64 0] ∧ PsAt 198 p gs [] C ∧ H' = C ++ H) ∨ (¬ AccL gs ∧ r = .tuple #[.pointer none, .int .i64 2] ∧ H' = H) := by
 refine Tells.enter Tryz.func64 rfl Tryz.ntmps64 rfl ?_
 intro w0 R
 obtain ⟨vo, vc, rfl, hvc⟩ := hv.form
 refine sr_ ?_
 refine a_ rfl rfl ?_
 refine a_ rfl rfl ?_
 refine nt_ ?_
 refine WC.seq ?_
 refine sr_ ?_
 refine m_ rfl rfl ?_
 refine WL.y rfl (Yd.len (e := 71) kr_ rfl) ?_
 refine WL.y rfl (Yd.gtr rfl rfl) ?_
 refine nt_ ?_
 refine WC.ite rfl (fun h11 => ?_) (fun h11 => ?_)
 ·refine sr_ ?_
  refine a_ rfl rfl ?_
  refine a_ rfl rfl ?_
  refine nt_ ?_
  refine WC.ret ?_
  refine DN.then_ret ?_
  first | (have hlt2 : i < gs.length := hlt; refine DN.fit (C := H) sp_ ?_) | refine DN.fit (C := row b15 [.map (some b1), .map (some b2)] 198 :: (C1 ++ (C2 ++ H))) sp_ ?_ | skip
  refine DN.ret2 Tryz.results64 rfl rfl ?_
  first
    | exact .inr ⟨fun hG => by have := hG.1; omega, rfl, rfl⟩
    | exact .inr ⟨fun hG => (hG.2.2 gs[i] (List.getElem_mem hlt)).1 hg35, rfl, rfl⟩
    | exact .inr ⟨fun hG => by have := (hG.2.2 gs[i] (List.getElem_mem hlt)).2; omega, rfl, rfl⟩
    | exact .inr ⟨fun hG => (twice_noU hlt h58) hG.2.1, rfl, rfl⟩
    | exact .inl ⟨⟨by omega, hnd, fun g hm => by obtain ⟨j, hj, rfl⟩ := List.getElem_of_mem hm; exact hgood j hj hj⟩, b15, row b15 [.map (some b1), .map (some b2)] 198 :: (C1 ++ C2), rfl, ⟨b1, b2, C1, C2, rfl, hK, h2⟩, by simp⟩
 ·refine WC.skip ?_
  refine ts_ ?_
  refine WC.region ?_
  refine WL.h rfl (Hd.makeMapG kStr fun b1 C1 h1 => ⟨_, rfl, ?_⟩)
  refine WL.h rfl (Hd.makeMapG kU32 fun b2 C2 h2 => ⟨_, rfl, ?_⟩)
  refine WL.y rfl (Yd.buildL (pl := [(0, 1), (1, 1)]) (zs := [.map none, .map none]) (parts := [(0, .tmp 12), (1, .tmp 13)]) (vs := [(0, _), (1, _)]) (cells := [_, _]) kr_ kr_ rfl rfl) ?_
  refine WL.h rfl (Hd.boxA rfl fun b15 => ⟨_, rfl, ?_⟩)
  refine a_ rfl rfl ?_
  refine nt_ ?_
  refine WC.seq ?_
  refine sr_ ?_
  refine m_ rfl rfl ?_
  refine WL.y rfl (Yd.len (e := 71) kr_ rfl) ?_
  refine m_ rfl rfl ?_
  refine nt_ ?_
  refine WC.block ?_
  refine WC.loopS (fun z : Nat × List Ck => z.1 ≤ gs.length ∧ (∀ (j : Nat) (h : j < gs.length), j < z.1 → accB gs[j]) ∧ ((gs.take z.1).map Au.name).Nodup ∧ MpG kStr b1 (kvs Au.name encU (gs.take z.1)) z.2) (fun z : Nat × List Ck => [(18, .int .i64 (z.1 : Int))]) (fun z : Nat × List Ck => row b15 [.map (some b1), .map (some b2)] 198 :: (z.2 ++ (C2 ++ H))) (fun z : Nat × List Ck => gs.length - z.1) (⟨0, C1⟩) (show 0 ≤ gs.length ∧ (∀ (j : Nat) (h : j < gs.length), j < 0 → accB gs[j]) ∧ ((gs.take 0).map Au.name).Nodup ∧ MpG kStr b1 (kvs Au.name encU (gs.take 0)) C1 from ⟨Nat.zero_le _, fun j h hj => by omega, by simp, by simpa [kvs] using h1⟩) (Sx.put rfl (sx_)) sp_ ?_
  rintro ⟨i, C1⟩ hI
  replace hI : i ≤ gs.length ∧ (∀ (j : Nat) (h : j < gs.length), j < i → accB gs[j]) ∧ ((gs.take i).map Au.name).Nodup ∧ MpG kStr b1 (kvs Au.name encU (gs.take i)) C1 := hI
  obtain ⟨hi, hgood, hnd, hK⟩ := hI
  change WC _ _ _ _ _ _ ([(18, .int .i64 (i : Int))] ++ _) (row b15 [.map (some b1), .map (some b2)] 198 :: (C1 ++ (C2 ++ H)))
  refine sr_ ?_
  refine WL.y rfl (Yd.lss rfl rfl) ?_
  refine nt_ ?_
  refine WC.seq ?_
  refine WC.ite rfl (fun h19 => ?_) (fun h19 => ?_)
  ·have hlt : i < gs.length := by omega
   have htk : gs.take (i + 1) = gs.take i ++ [gs[i]] := List.take_succ_eq_append_getElem hlt
   refine WC.skip ?_
   refine ts_ ?_
   refine WC.block ?_
   refine sr_ ?_
   refine WL.elemA (e := 71) (s := 3) kr_ kr_ kr_ rfl rfl (rfl) (hv.mono gr_) (flat_row cellsU 3 cellsU_len gs i hlt) (by rfl) (by omega) (hlt) rfl rfl ?_
   intro p20
   refine WL.h rfl (Hd.alloc (zs := [.string ⟨#[]⟩, .int .i64 0, .int .i64 0]) kr_ fun b6 => ⟨_, rfl, ?_⟩)
   refine WL.s (Hd.storeAll (n := 3) kr_ rfl rfl (by rfl) one_ fr_ (by rfl) ⟨rfl, ?_⟩)
   refine nt_ ?_
   refine WC.cutK (fun z : Nat => True) (fun z : Nat => [(8, .bool (findK Au.name (gs.take i) gs[i].name).isSome)]) (fun z : Nat => row b6 (cellsU gs[i]) 71 :: (row b15 [.map (some b1), .map (some b2)] 198 :: (C1 ++ (C2 ++ H)))) ?_ ?_
   ·refine WC.draw 13 kr_ rfl ?_
    refine WA.y (i := 0) (NoPanic.then (NoPanic.block (NoPanic.then (NoPanic.then (NoPanic.block (NoPanic.then (NoPanic.body))))))) rfl kr_ kr_ kr_ rfl (Yd.move rfl) ?_
    refine WA.y (i := 1) (NoPanic.then (NoPanic.block (NoPanic.then (NoPanic.then (NoPanic.block (NoPanic.then (NoPanic.body))))))) rfl kr_ kr_ kr_ rfl (Yd.notNil rfl) ?_
    refine WA.y (i := 2) (NoPanic.then (NoPanic.block (NoPanic.then (NoPanic.then (NoPanic.block (NoPanic.then (NoPanic.body))))))) rfl kr_ kr_ kr_ rfl (Yd.fieldAddr (k := 0) kr_ rfl) ?_
    refine WA.y (i := 4) (NoPanic.then (NoPanic.block (NoPanic.then (NoPanic.then (NoPanic.block (NoPanic.then (NoPanic.body))))))) rfl kr_ kr_ kr_ rfl (Yd.fieldAddr (k := 0) kr_ rfl) ?_
    refine WA.reads [(3, 26, _), (5, 28, _)] [3, 5] [([], 10), ([3], 10), ([5], 10)] 7 rfl rfl (List.forall_mem_cons.2 ⟨ReadAt.mk rfl Wt.none rfl (Rd.load1 kr_ rfl mem_ (by rfl)), List.forall_mem_cons.2 ⟨ReadAt.mk rfl Wt.none rfl (Rd.load1 kr_ rfl mem_ (by rfl)), fun _ h => absurd h List.not_mem_nil⟩⟩) (by decide) (by simp) (List.forall_mem_cons.2 ⟨rfl, List.forall_mem_cons.2 ⟨rfl, fun _ h => absurd h List.not_mem_nil⟩⟩) kr_ (List.forall_mem_cons.2 ⟨?_, List.forall_mem_cons.2 ⟨?_, List.forall_mem_cons.2 ⟨?_, fun _ h => absurd h List.not_mem_nil⟩⟩⟩) ?_
    ·change WO _ _ _ _ _ _ 8 _ 10 ([] ++ _) _
     refine WO.h rfl Wt.none rfl (Hd.alloc (zs := [.string ⟨#[]⟩, .int .i64 0, .int .i64 0]) kr_ fun b7 => ⟨_, rfl, ?_⟩)
     refine WA.reads [(3, 26, _), (5, 28, _)] [3, 5] [] 6 rfl rfl (List.forall_mem_cons.2 ⟨ReadAt.mk rfl Wt.none rfl (Rd.load1 kr_ rfl mem_ (by rfl)), List.forall_mem_cons.2 ⟨ReadAt.mk rfl Wt.none rfl (Rd.load1 kr_ rfl mem_ (by rfl)), fun _ h => absurd h List.not_mem_nil⟩⟩) (by decide) (by simp) (List.forall_mem_cons.2 ⟨rfl, List.forall_mem_cons.2 ⟨rfl, fun _ h => absurd h List.not_mem_nil⟩⟩) kr_ (fun _ h => absurd h List.not_mem_nil) ?_
     ·change WA _ _ _ _ _ _ 6 _ ([(26, _), (28, _)] ++ _) _
      refine WA.one (i := 6) kr_ ?_
      refine WO.h rfl Wt.none rfl (Hd.lookupG (k0 := kStr) (KT := 9) (ET := 71) (TD := .string) (n := gs[i].name) (z := .agg #[.string ⟨#[]⟩, .int .i64 0, .int .i64 0]) kr_ Tryz.underlying9 rfl kr_ rfl rfl hK sp_ (lkU2 (gs.take i) gs[i].name) ⟨_, rfl, ?_⟩)
      refine WA.y (i := 7) (NoPanic.then (NoPanic.block (NoPanic.then (NoPanic.then (NoPanic.block (NoPanic.then (NoPanic.body))))))) rfl kr_ kr_ kr_ rfl (Yd.move rfl) ?_
      refine WA.y (i := 8) (NoPanic.then (NoPanic.block (NoPanic.then (NoPanic.then (NoPanic.block (NoPanic.then (NoPanic.body))))))) rfl kr_ kr_ kr_ rfl (Yd.extract rfl rfl) ?_
      refine WA.y (i := 9) (NoPanic.then (NoPanic.block (NoPanic.then (NoPanic.then (NoPanic.block (NoPanic.then (NoPanic.body))))))) rfl kr_ kr_ kr_ rfl (Yd.extract rfl rfl) ?_
      refine WA.one (i := 11) kr_ ?_
      refine WO.s rfl Wt.none (Hd.storeAll (n := 3) kr_ rfl rfl (by rfl) one_ fr_ (by rfl) ⟨rfl, ?_⟩)
      refine WA.y (i := 12) (NoPanic.then (NoPanic.block (NoPanic.then (NoPanic.then (NoPanic.block (NoPanic.then (NoPanic.body))))))) rfl kr_ kr_ kr_ rfl (Yd.assign rfl) ?_
      refine WA.done kr_ ?_
      refine DN.fit (C := row b6 (cellsU gs[i]) 71 :: (row b15 [.map (some b1), .map (some b2)] 198 :: (C1 ++ (C2 ++ H)))) sp_ ?_
      exact DN.reachK (0) (trivial) (Sx.put rfl (sx_)) (Sp.all sp_)
    ·change WO _ _ _ _ _ _ 7 _ 10 ([(26, _)] ++ _) _
     refine WO.h rfl Wt.none rfl (Hd.alloc (zs := [.string ⟨#[]⟩, .int .i64 0, .int .i64 0]) kr_ fun b7 => ⟨_, rfl, ?_⟩)
     refine WA.one (i := 5) kr_ ?_
     refine WO.h rfl Wt.none rfl (Hd.load1 kr_ rfl mem_ (by rfl) ⟨_, rfl, ?_⟩)
     refine WA.one (i := 6) kr_ ?_
     refine WO.h rfl Wt.none rfl (Hd.lookupG (k0 := kStr) (KT := 9) (ET := 71) (TD := .string) (n := gs[i].name) (z := .agg #[.string ⟨#[]⟩, .int .i64 0, .int .i64 0]) kr_ Tryz.underlying9 rfl kr_ rfl rfl hK sp_ (lkU2 (gs.take i) gs[i].name) ⟨_, rfl, ?_⟩)
     refine WA.y (i := 7) (NoPanic.then (NoPanic.block (NoPanic.then (NoPanic.then (NoPanic.block (NoPanic.then (NoPanic.body))))))) rfl kr_ kr_ kr_ rfl (Yd.move rfl) ?_
     refine WA.y (i := 8) (NoPanic.then (NoPanic.block (NoPanic.then (NoPanic.then (NoPanic.block (NoPanic.then (NoPanic.body))))))) rfl kr_ kr_ kr_ rfl (Yd.extract rfl rfl) ?_
     refine WA.y (i := 9) (NoPanic.then (NoPanic.block (NoPanic.then (NoPanic.then (NoPanic.block (NoPanic.then (NoPanic.body))))))) rfl kr_ kr_ kr_ rfl (Yd.extract rfl rfl) ?_
     refine WA.one (i := 11) kr_ ?_
     refine WO.s rfl Wt.none (Hd.storeAll (n := 3) kr_ rfl rfl (by rfl) one_ fr_ (by rfl) ⟨rfl, ?_⟩)
     refine WA.y (i := 12) (NoPanic.then (NoPanic.block (NoPanic.then (NoPanic.then (NoPanic.block (NoPanic.then (NoPanic.body))))))) rfl kr_ kr_ kr_ rfl (Yd.assign rfl) ?_
     refine WA.done kr_ ?_
     refine DN.fit (C := row b6 (cellsU gs[i]) 71 :: (row b15 [.map (some b1), .map (some b2)] 198 :: (C1 ++ (C2 ++ H)))) sp_ ?_
     exact DN.reachK (0) (trivial) (Sx.put rfl (sx_)) (Sp.all sp_)
    ·change WO _ _ _ _ _ _ 7 _ 10 ([(28, _)] ++ _) _
     refine WO.h rfl Wt.none rfl (Hd.alloc (zs := [.string ⟨#[]⟩, .int .i64 0, .int .i64 0]) kr_ fun b7 => ⟨_, rfl, ?_⟩)
     refine WA.one (i := 3) kr_ ?_
     refine WO.h rfl Wt.none rfl (Hd.load1 kr_ rfl mem_ (by rfl) ⟨_, rfl, ?_⟩)
     refine WA.one (i := 6) kr_ ?_
     refine WO.h rfl Wt.none rfl (Hd.lookupG (k0 := kStr) (KT := 9) (ET := 71) (TD := .string) (n := gs[i].name) (z := .agg #[.string ⟨#[]⟩, .int .i64 0, .int .i64 0]) kr_ Tryz.underlying9 rfl kr_ rfl rfl hK sp_ (lkU2 (gs.take i) gs[i].name) ⟨_, rfl, ?_⟩)
     refine WA.y (i := 7) (NoPanic.then (NoPanic.block (NoPanic.then (NoPanic.then (NoPanic.block (NoPanic.then (NoPanic.body))))))) rfl kr_ kr_ kr_ rfl (Yd.move rfl) ?_
     refine WA.y (i := 8) (NoPanic.then (NoPanic.block (NoPanic.then (NoPanic.then (NoPanic.block (NoPanic.then (NoPanic.body))))))) rfl kr_ kr_ kr_ rfl (Yd.extract rfl rfl) ?_
     refine WA.y (i := 9) (NoPanic.then (NoPanic.block (NoPanic.then (NoPanic.then (NoPanic.block (NoPanic.then (NoPanic.body))))))) rfl kr_ kr_ kr_ rfl (Yd.extract rfl rfl) ?_
     refine WA.one (i := 11) kr_ ?_
     refine WO.s rfl Wt.none (Hd.storeAll (n := 3) kr_ rfl rfl (by rfl) one_ fr_ (by rfl) ⟨rfl, ?_⟩)
     refine WA.y (i := 12) (NoPanic.then (NoPanic.block (NoPanic.then (NoPanic.then (NoPanic.block (NoPanic.then (NoPanic.body))))))) rfl kr_ kr_ kr_ rfl (Yd.assign rfl) ?_
     refine WA.done kr_ ?_
     refine DN.fit (C := row b6 (cellsU gs[i]) 71 :: (row b15 [.map (some b1), .map (some b2)] 198 :: (C1 ++ (C2 ++ H)))) sp_ ?_
     exact DN.reachK (0) (trivial) (Sx.put rfl (sx_)) (Sp.all sp_)
    ·change WA _ _ _ _ _ _ 7 _ ([(26, _), (28, _)] ++ _) _
     refine WA.two (i := 6) (j := 10) kr_ ?_ ?_
     ·refine WO.h rfl Wt.none rfl (Hd.lookupG (k0 := kStr) (KT := 9) (ET := 71) (TD := .string) (n := gs[i].name) (z := .agg #[.string ⟨#[]⟩, .int .i64 0, .int .i64 0]) kr_ Tryz.underlying9 rfl kr_ rfl rfl hK sp_ (lkU2 (gs.take i) gs[i].name) ⟨_, rfl, ?_⟩)
      refine WA.y (i := 7) (NoPanic.then (NoPanic.block (NoPanic.then (NoPanic.then (NoPanic.block (NoPanic.then (NoPanic.body))))))) rfl kr_ kr_ kr_ rfl (Yd.move rfl) ?_
      refine WA.y (i := 8) (NoPanic.then (NoPanic.block (NoPanic.then (NoPanic.then (NoPanic.block (NoPanic.then (NoPanic.body))))))) rfl kr_ kr_ kr_ rfl (Yd.extract rfl rfl) ?_
      refine WA.y (i := 9) (NoPanic.then (NoPanic.block (NoPanic.then (NoPanic.then (NoPanic.block (NoPanic.then (NoPanic.body))))))) rfl kr_ kr_ kr_ rfl (Yd.extract rfl rfl) ?_
      refine WA.one (i := 10) kr_ ?_
      refine WO.h rfl Wt.none rfl (Hd.alloc (zs := [.string ⟨#[]⟩, .int .i64 0, .int .i64 0]) kr_ fun b7 => ⟨_, rfl, ?_⟩)
      refine WA.one (i := 11) kr_ ?_
      refine WO.s rfl Wt.none (Hd.storeAll (n := 3) kr_ rfl rfl (by rfl) one_ fr_ (by rfl) ⟨rfl, ?_⟩)
      refine WA.y (i := 12) (NoPanic.then (NoPanic.block (NoPanic.then (NoPanic.then (NoPanic.block (NoPanic.then (NoPanic.body))))))) rfl kr_ kr_ kr_ rfl (Yd.assign rfl) ?_
      refine WA.done kr_ ?_
      refine DN.fit (C := row b6 (cellsU gs[i]) 71 :: (row b15 [.map (some b1), .map (some b2)] 198 :: (C1 ++ (C2 ++ H)))) sp_ ?_
      exact DN.reachK (0) (trivial) (Sx.put rfl (sx_)) (Sp.all sp_)
     ·refine WO.h rfl Wt.none rfl (Hd.alloc (zs := [.string ⟨#[]⟩, .int .i64 0, .int .i64 0]) kr_ fun b7 => ⟨_, rfl, ?_⟩)
      refine WA.one (i := 6) kr_ ?_
      refine WO.h rfl Wt.none rfl (Hd.lookupG (k0 := kStr) (KT := 9) (ET := 71) (TD := .string) (n := gs[i].name) (z := .agg #[.string ⟨#[]⟩, .int .i64 0, .int .i64 0]) kr_ Tryz.underlying9 rfl kr_ rfl rfl hK sp_ (lkU2 (gs.take i) gs[i].name) ⟨_, rfl, ?_⟩)
      refine WA.y (i := 7) (NoPanic.then (NoPanic.block (NoPanic.then (NoPanic.then (NoPanic.block (NoPanic.then (NoPanic.body))))))) rfl kr_ kr_ kr_ rfl (Yd.move rfl) ?_
      refine WA.y (i := 8) (NoPanic.then (NoPanic.block (NoPanic.then (NoPanic.then (NoPanic.block (NoPanic.then (NoPanic.body))))))) rfl kr_ kr_ kr_ rfl (Yd.extract rfl rfl) ?_
      refine WA.y (i := 9) (NoPanic.then (NoPanic.block (NoPanic.then (NoPanic.then (NoPanic.block (NoPanic.then (NoPanic.body))))))) rfl kr_ kr_ kr_ rfl (Yd.extract rfl rfl) ?_
      refine WA.one (i := 11) kr_ ?_
      refine WO.s rfl Wt.none (Hd.storeAll (n := 3) kr_ rfl rfl (by rfl) one_ fr_ (by rfl) ⟨rfl, ?_⟩)
      refine WA.y (i := 12) (NoPanic.then (NoPanic.block (NoPanic.then (NoPanic.then (NoPanic.block (NoPanic.then (NoPanic.body))))))) rfl kr_ kr_ kr_ rfl (Yd.assign rfl) ?_
      refine WA.done kr_ ?_
      refine DN.fit (C := row b6 (cellsU gs[i]) 71 :: (row b15 [.map (some b1), .map (some b2)] 198 :: (C1 ++ (C2 ++ H)))) sp_ ?_
      exact DN.reachK (0) (trivial) (Sx.put rfl (sx_)) (Sp.all sp_)
   ·intro _ _
    refine WC.seq ?_
    refine sr_ ?_
    refine f_ 0 kr_ rfl rfl ?_
    refine d_ kr_ rfl mem_ (by rfl) rfl ?_
    refine WL.y rfl (Yd.eqlS rfl rfl) ?_
    refine m_ rfl rfl ?_
    refine WL.partP (t := 35) rfl (fun hg35 => ?_) (fun hg35 => ?_)
    ·iterate 4 refine gn_ 35 rfl rfl rfl rfl ?_
     refine WL.y rfl (Yd.pickT rfl rfl) ?_
     refine m_ rfl rfl ?_
     iterate 3 refine gn_ 41 rfl rfl rfl rfl ?_
     refine WL.y rfl (Yd.pickT rfl rfl) ?_
     refine m_ rfl rfl ?_
     iterate 3 refine gn_ 46 rfl rfl rfl rfl ?_
     refine WL.y rfl (Yd.pickT rfl rfl) ?_
     refine m_ rfl rfl ?_
     iterate 3 refine gn_ 51 rfl rfl rfl rfl ?_
     refine WL.y rfl (Yd.pickT rfl rfl) ?_
     refine m_ rfl rfl ?_
     refine gn_ 56 rfl rfl rfl rfl ?_
     refine WL.y rfl (Yd.pickT rfl rfl) ?_
     refine nt_ ?_
     refine WC.yes rfl ?_
     refine sr_ ?_
     refine a_ rfl rfl ?_
     refine a_ rfl rfl ?_
     refine nt_ ?_
     refine WC.ret ?_
     refine DN.then_ret ?_
     refine DN.block_ret ?_
     refine DN.then_ret ?_
     refine DN.then_ret ?_
     refine DN.block_ret ?_
     refine DN.then_ret ?_
     first | (have hlt2 : i < gs.length := hlt; refine DN.fit (C := H) sp_ ?_) | refine DN.fit (C := row b15 [.map (some b1), .map (some b2)] 198 :: (C1 ++ (C2 ++ H))) sp_ ?_ | skip
     refine DN.ret2 Tryz.results64 rfl rfl ?_
     first
       | exact .inr ⟨fun hG => by have := hG.1; omega, rfl, rfl⟩
       | exact .inr ⟨fun hG => (hG.2.2 gs[i] (List.getElem_mem hlt)).1 hg35, rfl, rfl⟩
       | exact .inr ⟨fun hG => by have := (hG.2.2 gs[i] (List.getElem_mem hlt)).2; omega, rfl, rfl⟩
       | exact .inr ⟨fun hG => (twice_noU hlt h58) hG.2.1, rfl, rfl⟩
       | exact .inl ⟨⟨by omega, hnd, fun g hm => by obtain ⟨j, hj, rfl⟩ := List.getElem_of_mem hm; exact hgood j hj hj⟩, b15, row b15 [.map (some b1), .map (some b2)] 198 :: (C1 ++ C2), rfl, ⟨b1, b2, C1, C2, rfl, hK, h2⟩, by simp⟩
    ·refine gy_ 35 rfl rfl rfl (Yd.fieldAddr (k := 0) kr_ rfl) ?_
     refine WL.gh (dj := 35) rfl rfl rfl (Hd.load1 kr_ rfl mem_ (by rfl) ⟨_, rfl, ?_⟩)
     refine gy_ 35 rfl rfl rfl (Yd.lenS Tryz.underlying9 rfl) ?_
     refine gy_ 35 rfl rfl rfl (Yd.gtr rfl rfl) ?_
     refine WL.y rfl (Yd.pickF rfl rfl) ?_
     refine m_ rfl rfl ?_
     refine WL.partP (t := 41) rfl (fun hg41 => ?_) (fun hg41 => ?_)
     ·iterate 3 refine gn_ 41 rfl rfl rfl rfl ?_
      refine WL.y rfl (Yd.pickT rfl rfl) ?_
      refine m_ rfl rfl ?_
      iterate 3 refine gn_ 46 rfl rfl rfl rfl ?_
      refine WL.y rfl (Yd.pickT rfl rfl) ?_
      refine m_ rfl rfl ?_
      iterate 3 refine gn_ 51 rfl rfl rfl rfl ?_
      refine WL.y rfl (Yd.pickT rfl rfl) ?_
      refine m_ rfl rfl ?_
      refine gn_ 56 rfl rfl rfl rfl ?_
      refine WL.y rfl (Yd.pickT rfl rfl) ?_
      refine nt_ ?_
      refine WC.yes rfl ?_
      refine sr_ ?_
      refine a_ rfl rfl ?_
      refine a_ rfl rfl ?_
      refine nt_ ?_
      refine WC.ret ?_
      refine DN.then_ret ?_
      refine DN.block_ret ?_
      refine DN.then_ret ?_
      refine DN.then_ret ?_
      refine DN.block_ret ?_
      refine DN.then_ret ?_
      first | (have hlt2 : i < gs.length := hlt; refine DN.fit (C := H) sp_ ?_) | refine DN.fit (C := row b15 [.map (some b1), .map (some b2)] 198 :: (C1 ++ (C2 ++ H))) sp_ ?_ | skip
      refine DN.ret2 Tryz.results64 rfl rfl ?_
      first
        | exact .inr ⟨fun hG => by have := hG.1; omega, rfl, rfl⟩
        | exact .inr ⟨fun hG => (hG.2.2 gs[i] (List.getElem_mem hlt)).1 hg35, rfl, rfl⟩
        | exact .inr ⟨fun hG => by have := (hG.2.2 gs[i] (List.getElem_mem hlt)).2; omega, rfl, rfl⟩
        | exact .inr ⟨fun hG => (twice_noU hlt h58) hG.2.1, rfl, rfl⟩
        | exact .inl ⟨⟨by omega, hnd, fun g hm => by obtain ⟨j, hj, rfl⟩ := List.getElem_of_mem hm; exact hgood j hj hj⟩, b15, row b15 [.map (some b1), .map (some b2)] 198 :: (C1 ++ C2), rfl, ⟨b1, b2, C1, C2, rfl, hK, h2⟩, by simp⟩
     ·refine gy_ 41 rfl rfl rfl (Yd.fieldAddr (k := 1) kr_ rfl) ?_
      refine WL.gh (dj := 41) rfl rfl rfl (Hd.load1 kr_ rfl mem_ (by rfl) ⟨_, rfl, ?_⟩)
      refine gy_ 41 rfl rfl rfl (Yd.lss rfl rfl) ?_
      refine WL.y rfl (Yd.pickF rfl rfl) ?_
      refine m_ rfl rfl ?_
      refine WL.partP (t := 46) rfl (fun hg46 => ?_) (fun hg46 => ?_)
      ·iterate 3 refine gn_ 46 rfl rfl rfl rfl ?_
       refine WL.y rfl (Yd.pickT rfl rfl) ?_
       refine m_ rfl rfl ?_
       iterate 3 refine gn_ 51 rfl rfl rfl rfl ?_
       refine WL.y rfl (Yd.pickT rfl rfl) ?_
       refine m_ rfl rfl ?_
       refine gn_ 56 rfl rfl rfl rfl ?_
       refine WL.y rfl (Yd.pickT rfl rfl) ?_
       refine nt_ ?_
       refine WC.yes rfl ?_
       refine sr_ ?_
       refine a_ rfl rfl ?_
       refine a_ rfl rfl ?_
       refine nt_ ?_
       refine WC.ret ?_
       refine DN.then_ret ?_
       refine DN.block_ret ?_
       refine DN.then_ret ?_
       refine DN.then_ret ?_
       refine DN.block_ret ?_
       refine DN.then_ret ?_
       first | (have hlt2 : i < gs.length := hlt; refine DN.fit (C := H) sp_ ?_) | refine DN.fit (C := row b15 [.map (some b1), .map (some b2)] 198 :: (C1 ++ (C2 ++ H))) sp_ ?_ | skip
       refine DN.ret2 Tryz.results64 rfl rfl ?_
       first
         | exact .inr ⟨fun hG => by have := hG.1; omega, rfl, rfl⟩
         | exact .inr ⟨fun hG => (hG.2.2 gs[i] (List.getElem_mem hlt)).1 hg35, rfl, rfl⟩
         | exact .inr ⟨fun hG => by have := (hG.2.2 gs[i] (List.getElem_mem hlt)).2; omega, rfl, rfl⟩
         | exact .inr ⟨fun hG => (twice_noU hlt h58) hG.2.1, rfl, rfl⟩
         | exact .inl ⟨⟨by omega, hnd, fun g hm => by obtain ⟨j, hj, rfl⟩ := List.getElem_of_mem hm; exact hgood j hj hj⟩, b15, row b15 [.map (some b1), .map (some b2)] 198 :: (C1 ++ C2), rfl, ⟨b1, b2, C1, C2, rfl, hK, h2⟩, by simp⟩
      ·refine gy_ 46 rfl rfl rfl (Yd.fieldAddr (k := 1) kr_ rfl) ?_
       refine WL.gh (dj := 46) rfl rfl rfl (Hd.load1 kr_ rfl mem_ (by rfl) ⟨_, rfl, ?_⟩)
       refine gy_ 46 rfl rfl rfl (Yd.gtr rfl rfl) ?_
       refine WL.y rfl (Yd.pickF rfl rfl) ?_
       refine m_ rfl rfl ?_
       refine WL.partP (t := 51) rfl (fun hg51 => ?_) (fun hg51 => ?_)
       ·iterate 3 refine gn_ 51 rfl rfl rfl rfl ?_
        refine WL.y rfl (Yd.pickT rfl rfl) ?_
        refine m_ rfl rfl ?_
        refine gn_ 56 rfl rfl rfl rfl ?_
        refine WL.y rfl (Yd.pickT rfl rfl) ?_
        refine nt_ ?_
        refine WC.yes rfl ?_
        refine sr_ ?_
        refine a_ rfl rfl ?_
        refine a_ rfl rfl ?_
        refine nt_ ?_
        refine WC.ret ?_
        refine DN.then_ret ?_
        refine DN.block_ret ?_
        refine DN.then_ret ?_
        refine DN.then_ret ?_
        refine DN.block_ret ?_
        refine DN.then_ret ?_
        first | (have hlt2 : i < gs.length := hlt; refine DN.fit (C := H) sp_ ?_) | refine DN.fit (C := row b15 [.map (some b1), .map (some b2)] 198 :: (C1 ++ (C2 ++ H))) sp_ ?_ | skip
        refine DN.ret2 Tryz.results64 rfl rfl ?_
        first
          | exact .inr ⟨fun hG => by have := hG.1; omega, rfl, rfl⟩
          | exact .inr ⟨fun hG => (hG.2.2 gs[i] (List.getElem_mem hlt)).1 hg35, rfl, rfl⟩
          | exact .inr ⟨fun hG => by have := (hG.2.2 gs[i] (List.getElem_mem hlt)).2; omega, rfl, rfl⟩
          | exact .inr ⟨fun hG => (twice_noU hlt h58) hG.2.1, rfl, rfl⟩
          | exact .inl ⟨⟨by omega, hnd, fun g hm => by obtain ⟨j, hj, rfl⟩ := List.getElem_of_mem hm; exact hgood j hj hj⟩, b15, row b15 [.map (some b1), .map (some b2)] 198 :: (C1 ++ C2), rfl, ⟨b1, b2, C1, C2, rfl, hK, h2⟩, by simp⟩
       ·refine gy_ 51 rfl rfl rfl (Yd.fieldAddr (k := 2) kr_ rfl) ?_
        refine WL.gh (dj := 51) rfl rfl rfl (Hd.load1 kr_ rfl mem_ (by rfl) ⟨_, rfl, ?_⟩)
        refine gy_ 51 rfl rfl rfl (Yd.neq rfl rfl) ?_
        refine WL.y rfl (Yd.pickF rfl rfl) ?_
        refine m_ rfl rfl ?_
        refine WL.partP (t := 56) rfl (fun hg56 => ?_) (fun hg56 => ?_)
        ·refine gn_ 56 rfl rfl rfl rfl ?_
         refine WL.y rfl (Yd.pickT rfl rfl) ?_
         refine nt_ ?_
         refine WC.yes rfl ?_
         refine sr_ ?_
         refine a_ rfl rfl ?_
         refine a_ rfl rfl ?_
         refine nt_ ?_
         refine WC.ret ?_
         refine DN.then_ret ?_
         refine DN.block_ret ?_
         refine DN.then_ret ?_
         refine DN.then_ret ?_
         refine DN.block_ret ?_
         refine DN.then_ret ?_
         first | (have hlt2 : i < gs.length := hlt; refine DN.fit (C := H) sp_ ?_) | refine DN.fit (C := row b15 [.map (some b1), .map (some b2)] 198 :: (C1 ++ (C2 ++ H))) sp_ ?_ | skip
         refine DN.ret2 Tryz.results64 rfl rfl ?_
         first
           | exact .inr ⟨fun hG => by have := hG.1; omega, rfl, rfl⟩
           | exact .inr ⟨fun hG => (hG.2.2 gs[i] (List.getElem_mem hlt)).1 hg35, rfl, rfl⟩
           | exact .inr ⟨fun hG => by have := (hG.2.2 gs[i] (List.getElem_mem hlt)).2; omega, rfl, rfl⟩
           | exact .inr ⟨fun hG => (twice_noU hlt h58) hG.2.1, rfl, rfl⟩
           | exact .inl ⟨⟨by omega, hnd, fun g hm => by obtain ⟨j, hj, rfl⟩ := List.getElem_of_mem hm; exact hgood j hj hj⟩, b15, row b15 [.map (some b1), .map (some b2)] 198 :: (C1 ++ C2), rfl, ⟨b1, b2, C1, C2, rfl, hK, h2⟩, by simp⟩
        ·refine gy_ 56 rfl rfl rfl (Yd.move rfl) ?_
         refine WL.y rfl (Yd.pickF rfl rfl) ?_
         refine nt_ ?_
         refine WC.cond rfl (fun h58 => ?_) (fun h58 => ?_)
         ·refine sr_ ?_
          refine a_ rfl rfl ?_
          refine a_ rfl rfl ?_
          refine nt_ ?_
          refine WC.ret ?_
          refine DN.then_ret ?_
          refine DN.block_ret ?_
          refine DN.then_ret ?_
          refine DN.then_ret ?_
          refine DN.block_ret ?_
          refine DN.then_ret ?_
          first | (have hlt2 : i < gs.length := hlt; refine DN.fit (C := H) sp_ ?_) | refine DN.fit (C := row b15 [.map (some b1), .map (some b2)] 198 :: (C1 ++ (C2 ++ H))) sp_ ?_ | skip
          refine DN.ret2 Tryz.results64 rfl rfl ?_
          first
            | exact .inr ⟨fun hG => by have := hG.1; omega, rfl, rfl⟩
            | exact .inr ⟨fun hG => (hG.2.2 gs[i] (List.getElem_mem hlt)).1 hg35, rfl, rfl⟩
            | exact .inr ⟨fun hG => by have := (hG.2.2 gs[i] (List.getElem_mem hlt)).2; omega, rfl, rfl⟩
            | exact .inr ⟨fun hG => (twice_noU hlt h58) hG.2.1, rfl, rfl⟩
            | exact .inl ⟨⟨by omega, hnd, fun g hm => by obtain ⟨j, hj, rfl⟩ := List.getElem_of_mem hm; exact hgood j hj hj⟩, b15, row b15 [.map (some b1), .map (some b2)] 198 :: (C1 ++ C2), rfl, ⟨b1, b2, C1, C2, rfl, hK, h2⟩, by simp⟩
         ·have hgi : accB gs[i] := ⟨hg35, by omega, by omega, by omega, by omega⟩
          have hnone : findK Au.name (gs.take i) gs[i].name = none := by simpa using h58
          have hndi := once_moreU hnd hnone
          refine WC.skip ?_
          refine DN.then_normal ?_
          refine WC.draw 8 kr_ rfl ?_
          refine WA.y (i := 0) (NoPanic.block (NoPanic.then (NoPanic.then (NoPanic.block (NoPanic.then (NoPanic.body)))))) rfl kr_ kr_ kr_ rfl (Yd.move rfl) ?_
          refine WA.y (i := 1) (NoPanic.block (NoPanic.then (NoPanic.then (NoPanic.block (NoPanic.then (NoPanic.body)))))) rfl kr_ kr_ kr_ rfl (Yd.notNil rfl) ?_
          refine WA.y (i := 2) (NoPanic.block (NoPanic.then (NoPanic.then (NoPanic.block (NoPanic.then (NoPanic.body)))))) rfl kr_ kr_ kr_ rfl (Yd.fieldAddr (k := 0) kr_ rfl) ?_
          refine WA.y (i := 4) (NoPanic.block (NoPanic.then (NoPanic.then (NoPanic.block (NoPanic.then (NoPanic.body)))))) rfl kr_ kr_ kr_ rfl (Yd.fieldAddr (k := 0) kr_ rfl) ?_
          refine WA.reads [(3, 62, _), (5, 64, _), (6, 65, _)] [3, 5, 6] [] 1 rfl rfl (List.forall_mem_cons.2 ⟨ReadAt.mk rfl Wt.none rfl (Rd.load1 kr_ rfl mem_ (by rfl)), List.forall_mem_cons.2 ⟨ReadAt.mk rfl Wt.none rfl (Rd.load1 kr_ rfl mem_ (by rfl)), List.forall_mem_cons.2 ⟨ReadAt.mk rfl Wt.none rfl (Rd.loadAll (n := 3) kr_ rfl mem_ (by rfl)), fun _ h => absurd h List.not_mem_nil⟩⟩⟩) (by decide) (by simp) (List.forall_mem_cons.2 ⟨rfl, List.forall_mem_cons.2 ⟨rfl, List.forall_mem_cons.2 ⟨rfl, fun _ h => absurd h List.not_mem_nil⟩⟩⟩) kr_ (fun _ h => absurd h List.not_mem_nil) ?_
          ·change WA _ _ _ _ _ _ 1 _ ([(62, _), (64, _), (65, _)] ++ _) _
           refine WA.one (i := 7) kr_ ?_
           refine WO.s rfl Wt.none (Hd.mapSet (k0 := kStr) (KT := 9) (ET := 71) (TD := .string) (n := gs[i].name) kr_ Tryz.underlying9 rfl rfl rfl rfl hK (by rw [kvs_keys]; exact hnd) sp_ fun C3 h3 => ⟨rfl, ?_⟩)
           refine WA.done kr_ ?_
           refine DN.block_normal ?_
           refine DN.then_normal ?_
           refine WC.region ?_
           refine WL.y rfl (Yd.add rfl rfl (by omega) (by omega)) ?_
           refine m_ rfl rfl ?_
           refine WL.nil ?_
           exact DN.againS (⟨i + 1, C3⟩) (show (i + 1) ≤ gs.length ∧ (∀ (j : Nat) (h : j < gs.length), j < (i + 1) → accB gs[j]) ∧ ((gs.take (i + 1)).map Au.name).Nodup ∧ MpG kStr b1 (kvs Au.name encU (gs.take (i + 1))) C3 from ⟨by omega, fun j h hj => by
             rcases Nat.lt_or_ge j i with h5 | h5
             · exact hgood j h h5
             · obtain rfl : j = i := by omega
               exact hgi, by rw [htk]; exact hndi, by rw [htk, ← putU_new hnone, ← putU (gs.take i) gs[i] gs[i].name rfl]; exact h3⟩) (show gs.length - (i + 1) < gs.length - i by omega) (Sx.put rfl (sx_)) sp_
  ·obtain rfl : i = gs.length := by omega
   rw [List.take_length] at hnd hK
   refine WC.exit ?_
   refine DN.then_exit ?_
   refine DN.then_exit ?_
   refine DN.block_exit ?_
   refine ts_ ?_
   refine WC.region ?_
   refine m_ rfl rfl ?_
   refine a_ rfl rfl ?_
   refine a_ rfl rfl ?_
   refine nt_ ?_
   refine WC.ret ?_
   first | (have hlt2 : i < gs.length := hlt; refine DN.fit (C := H) sp_ ?_) | refine DN.fit (C := row b15 [.map (some b1), .map (some b2)] 198 :: (C1 ++ (C2 ++ H))) sp_ ?_ | skip
   refine DN.ret2 Tryz.results64 rfl rfl ?_
   first
     | exact .inr ⟨fun hG => by have := hG.1; omega, rfl, rfl⟩
     | exact .inr ⟨fun hG => (hG.2.2 gs[i] (List.getElem_mem hlt)).1 hg35, rfl, rfl⟩
     | exact .inr ⟨fun hG => by have := (hG.2.2 gs[i] (List.getElem_mem hlt)).2; omega, rfl, rfl⟩
     | exact .inr ⟨fun hG => (twice_noU hlt h58) hG.2.1, rfl, rfl⟩
     | exact .inl ⟨⟨by omega, hnd, fun g hm => by obtain ⟨j, hj, rfl⟩ := List.getElem_of_mem hm; exact hgood j hj hj⟩, b15, row b15 [.map (some b1), .map (some b2)] 198 :: (C1 ++ C2), rfl, ⟨b1, b2, C1, C2, rfl, hK, h2⟩, by simp⟩
end Go.Proofs.YtkamlondepceiaaGreat.Pu

set_option linter.unusedVariables false
set_option linter.unusedSimpArgs false
set_option maxHeartbeats 4000000
namespace Go.Proofs.YtkamlondepceiaaGreat
open Go.SL
theorem cnew_tells (v1 v2 v3 : Value) (gs : List Gd) (us : List Au) (rs : List Int) (hg : ∀ g ∈ gs, g.gone = 0) (H : List Ck) (h1 : Rs v1 gs.length (gs.flatMap cellsG) H) (h2 : Rs v2 us.length (us.flatMap cellsU) H) (h3 : Rs v3 rs.length (ic rs) H) (hl1 : gs.length ≤ 9223372036854775807) (hl2 : us.length ≤ 9223372036854775807) (hl3 : rs.length ≤ 9223372036854775807) : Tells Tryz.prog 31 [v1, v2, v3] H fun r H' => ((GoodL gs ∧ AccL us ∧ ((rs.findIdx? Do.badRoom).isSome = false ∧ rs.length ≤ 60)) ∧ ∃ p C, r = .tuple #[.pointer (some ⟨p, 0, none⟩), .int .i64 0] ∧ CwAt 189 198 203 3 5 118 111 22 116 p (Cw.new gs us rs) C ∧ H' = C ++ H) ∨ (¬ (GoodL gs ∧ AccL us ∧ ((rs.findIdx? Do.badRoom).isSome = false ∧ rs.length ≤ 60)) ∧ r = .tuple #[.pointer none, .int .i64 2] ∧ H' = H) := by
 refine Tells.enter Tryz.func31 rfl Tryz.ntmps31 rfl ?_
 intro w0 R
 obtain ⟨ao1, ac1, rfl, _⟩ := h1.form
 obtain ⟨ao2, ac2, rfl, _⟩ := h2.form
 obtain ⟨ao3, ac3, rfl, _⟩ := h3.form
 refine sr_ ?_
 refine a_ rfl rfl ?_
 refine a_ rfl rfl ?_
 refine ntsr_ ?_
 refine m_ rfl rfl ?_
 refine WL.c rfl (Ent.func Tryz.call63 rfl) (St.new_tells _ gs hg H h1 hl1) (Sp.p sp_) ?_
 intro x H9 h9
 have h91 : ∃ a e C, x = .tuple #[.pointer a, .int .i64 e] ∧ H9 = C ++ H ∧ ((e = 0 ∧ GoodL gs ∧ ∃ p, a = some ⟨p, 0, none⟩ ∧ StAt 189 p gs [] C) ∨ (e = 2 ∧ ¬ GoodL gs)) := by
   rcases h9 with ⟨hg, p, C, rfl, hC, rfl⟩ | ⟨hn, rfl, rfl⟩
   · exact ⟨_, _, C, rfl, rfl, .inl ⟨rfl, hg, p, rfl, hC⟩⟩
   · exact ⟨none, 2, [], rfl, rfl, .inr ⟨rfl, hn⟩⟩
 clear h9
 obtain ⟨a1, e1, C1, rfl, rfl, h91⟩ := h91
 refine m_ rfl rfl ?_
 refine x_ rfl rfl rfl ?_
 refine x_ rfl rfl rfl ?_
 refine a_ rfl rfl ?_
 refine a_ rfl rfl ?_
 refine nt_ ?_
 refine WC.seq ?_
 refine sr_ ?_
 refine m_ rfl rfl ?_
 refine WL.y rfl (Yd.neq rfl rfl) ?_
 refine nt_ ?_
 refine WC.ite rfl (fun h18 => ?_) (fun h18 => ?_)
 ·obtain ⟨rfl, hn1⟩ := h91.resolve_left (fun q => h18 q.1)
  refine sr_ ?_
  refine m_ rfl rfl ?_
  refine a_ rfl rfl ?_
  refine a_ rfl rfl ?_
  refine nt_ ?_
  refine WC.ret ?_
  refine DN.then_ret ?_
  refine DN.fit (C := H) sp_ ?_
  refine DN.ret2 Tryz.results31 rfl rfl ?_
  exact .inr ⟨fun q => hn1 q.1, rfl, rfl⟩
 ·obtain ⟨rfl, hg1, p1, rfl, hC1⟩ := h91.resolve_right (fun q => h18 (by rw [q.1]; decide))
  refine WC.skip ?_
  refine ts_ ?_
  refine WC.region ?_
  refine m_ rfl rfl ?_
  refine WL.c rfl (Ent.func Tryz.call64 rfl) (Pu.new_tells _ us H h2 hl2) (Sp.p sp_) ?_
  intro x H9 h9
  have h92 : ∃ a e C, x = .tuple #[.pointer a, .int .i64 e] ∧ H9 = C ++ H ∧ ((e = 0 ∧ AccL us ∧ ∃ p, a = some ⟨p, 0, none⟩ ∧ PsAt 198 p us [] C) ∨ (e = 2 ∧ ¬ AccL us)) := by
    rcases h9 with ⟨hg, p, C, rfl, hC, rfl⟩ | ⟨hn, rfl, rfl⟩
    · exact ⟨_, _, C, rfl, rfl, .inl ⟨rfl, hg, p, rfl, hC⟩⟩
    · exact ⟨none, 2, [], rfl, rfl, .inr ⟨rfl, hn⟩⟩
  clear h9
  obtain ⟨a2, e2, C2, rfl, rfl, h92⟩ := h92
  refine m_ rfl rfl ?_
  refine x_ rfl rfl rfl ?_
  refine x_ rfl rfl rfl ?_
  refine a_ rfl rfl ?_
  refine a_ rfl rfl ?_
  refine nt_ ?_
  refine WC.seq ?_
  refine sr_ ?_
  refine m_ rfl rfl ?_
  refine WL.y rfl (Yd.neq rfl rfl) ?_
  refine nt_ ?_
  refine WC.ite rfl (fun h26 => ?_) (fun h26 => ?_)
  ·obtain ⟨rfl, hn2⟩ := h92.resolve_left (fun q => h26 q.1)
   refine sr_ ?_
   refine m_ rfl rfl ?_
   refine a_ rfl rfl ?_
   refine a_ rfl rfl ?_
   refine nt_ ?_
   refine WC.ret ?_
   refine DN.then_ret ?_
   refine DN.fit (C := H) sp_ ?_
   refine DN.ret2 Tryz.results31 rfl rfl ?_
   exact .inr ⟨fun q => hn2 q.2.1, rfl, rfl⟩
  ·obtain ⟨rfl, hg2, p2, rfl, hC2⟩ := h92.resolve_right (fun q => h26 (by rw [q.1]; decide))
   refine WC.skip ?_
   refine ts_ ?_
   refine WC.region ?_
   refine m_ rfl rfl ?_
   refine WL.c rfl (Ent.func Tryz.call65 rfl) (Do.new_tells _ rs H h3 hl3) (Sp.p sp_) ?_
   intro x H9 h9
   obtain ⟨a3, e3, C3, rfl, rfl, h93⟩ : ∃ a e C, x = .tuple #[.pointer a, .int .i64 e] ∧ H9 = C ++ H ∧ ((e = 0 ∧ ((rs.findIdx? Do.badRoom).isSome = false ∧ rs.length ≤ 60) ∧ ∃ p, a = some ⟨p, 0, none⟩ ∧ DockAt 203 3 p rs [] C) ∨ (e = 2 ∧ ¬ ((rs.findIdx? Do.badRoom).isSome = false ∧ rs.length ≤ 60))) := by
     by_cases hg3 : ((rs.findIdx? Do.badRoom).isSome = false ∧ rs.length ≤ 60)
     · rw [if_pos hg3] at h9
       obtain ⟨p, C, rfl, hC, rfl⟩ := h9
       exact ⟨_, _, C, rfl, rfl, .inl ⟨rfl, hg3, p, rfl, hC⟩⟩
     · rw [if_neg hg3] at h9
       obtain ⟨rfl, rfl⟩ := h9
       exact ⟨none, 2, [], rfl, rfl, .inr ⟨rfl, hg3⟩⟩
   clear h9
   refine m_ rfl rfl ?_
   refine x_ rfl rfl rfl ?_
   refine x_ rfl rfl rfl ?_
   refine a_ rfl rfl ?_
   refine a_ rfl rfl ?_
   refine nt_ ?_
   refine WC.seq ?_
   refine sr_ ?_
   refine m_ rfl rfl ?_
   refine WL.y rfl (Yd.neq rfl rfl) ?_
   refine nt_ ?_
   refine WC.ite rfl (fun h34 => ?_) (fun h34 => ?_)
   ·obtain ⟨rfl, hn3⟩ := h93.resolve_left (fun q => h34 q.1)
    refine sr_ ?_
    refine m_ rfl rfl ?_
    refine a_ rfl rfl ?_
    refine a_ rfl rfl ?_
    refine nt_ ?_
    refine WC.ret ?_
    refine DN.then_ret ?_
    refine DN.fit (C := H) sp_ ?_
    refine DN.ret2 Tryz.results31 rfl rfl ?_
    exact .inr ⟨fun q => hn3 q.2.2, rfl, rfl⟩
   ·obtain ⟨rfl, hg3, p3, rfl, hC3⟩ := h93.resolve_right (fun q => h34 (by rw [q.1]; decide))
    refine WC.skip ?_
    refine ts_ ?_
    refine WC.region ?_
    iterate 3 refine m_ rfl rfl ?_
    refine WL.y rfl (Yd.build (pl := [(0, 1), (1, 1), (2, 1), (3, 2), (5, 1), (6, 1)]) (zs := [.pointer none, .pointer none, .pointer none, .int .u32 0, .slice none 0 0, .slice none 0 0, .slice none 0 0]) (parts := [(0, .tmp 36), (1, .tmp 37), (2, .tmp 38)]) (vs := [(0, .pointer (some ⟨p3, 0, none⟩)), (1, .pointer (some ⟨p1, 0, none⟩)), (2, .pointer (some ⟨p2, 0, none⟩))]) (cells := [.pointer (some ⟨p3, 0, none⟩), .pointer (some ⟨p1, 0, none⟩), .pointer (some ⟨p2, 0, none⟩), .int .u32 0, .slice none 0 0, .slice none 0 0, .slice none 0 0]) kr_ kr_ rfl rfl) ?_
    refine WL.h rfl (Hd.box rfl fun p => ⟨_, rfl, ?_⟩)
    refine a_ rfl rfl ?_
    refine a_ rfl rfl ?_
    refine nt_ ?_
    refine WC.ret ?_
    refine DN.fit (C := (row p [.pointer (some ⟨p3, 0, none⟩), .pointer (some ⟨p1, 0, none⟩), .pointer (some ⟨p2, 0, none⟩), .int .u32 0, .slice none 0 0, .slice none 0 0, .slice none 0 0] 116 :: (C1 ++ (C2 ++ (C3 ++ ([] ++ ([] ++ ([] ++ []))))))) ++ H) sp_ ?_
    refine DN.ret2 Tryz.results31 rfl rfl ?_
    exact .inl ⟨⟨hg1, hg2, hg3⟩, p, _, rfl, ⟨p3, p1, p2, _, _, _, C1, C2, C3, [], [], [], [], [], rfl, hC1, hC2, hC3, FAt.nil _ _, Own.nil _ _, Own.nil _ _, .nil⟩, rfl⟩
theorem cepoch_reads (p : Nat) (s : Cw) (C : List Ck) (h : CwAt 189 198 203 3 5 118 111 22 116 p s C) : Reads Tryz.prog 24 [.pointer (some ⟨p, 0, none⟩)] C (.int .u32 s.e.toNat) := by
 refine Tells.enter Tryz.func24 rfl Tryz.ntmps24 rfl ?_
 intro w0 R
 obtain ⟨pd, ps, pp, vL, vE, vN, CS, CP, CD, CF, CE, cn, CN, DO, rfl, hS, hP, hD, hF, hE, hN, hO⟩ := h
 obtain ⟨lo, lc, rfl⟩ := hF.form
 obtain ⟨eo, ec, rfl, hec⟩ := hE.form
 obtain ⟨no, nc, rfl, hnc⟩ := hN.form
 refine sr_ ?_
 refine WL.y rfl (Yd.assign (v := .int .u32 ((0#32).toNat : Int)) rfl) ?_
 refine nt_ ?_
 refine WC.seq ?_
 refine sr_ ?_
 refine m_ rfl rfl ?_
 refine WL.y rfl (Yd.eqlNil Tryz.underlying40 rfl rfl) ?_
 refine WL.renamed (t := 4) (v := .bool false) rfl (congrArg Value.bool (rfl)) ?_
 refine nt_ ?_
 refine WC.no rfl ?_
 refine WC.skip ?_
 refine ts_ ?_
 refine WC.region ?_
 refine m_ rfl rfl ?_
 refine n_ rfl rfl ?_
 refine f_ 3 kr_ rfl rfl ?_
 refine f_ 0 kr_ rfl rfl ?_
 refine d_ kr_ rfl mem_ (by rfl) rfl ?_
 refine a_ rfl rfl ?_
 refine nt_ ?_
 refine WC.ret ?_
 refine DN.ret1 Tryz.results24 rfl ?_
 exact ⟨rfl, rfl⟩
theorem croom_reads (p : Nat) (s : Cw) (C : List Ck) (h : CwAt 189 198 203 3 5 118 111 22 116 p s C) (day : Int) : Reads Tryz.prog 30 [.pointer (some ⟨p, 0, none⟩), .int .i64 day] C (.int .i64 (roomOf s.rs day)) := by
 refine Tells.enter Tryz.func30 rfl Tryz.ntmps30 rfl ?_
 intro w0 R
 obtain ⟨pd, ps, pp, vL, vE, vN, CS, CP, CD, CF, CE, cn, CN, DO, rfl, hS, hP, hD, hF, hE, hN, hO⟩ := h
 obtain ⟨lo, lc, rfl⟩ := hF.form
 obtain ⟨eo, ec, rfl, hec⟩ := hE.form
 obtain ⟨no, nc, rfl, hnc⟩ := hN.form
 refine sr_ ?_
 refine a_ rfl rfl ?_
 refine nt_ ?_
 refine WC.seq ?_
 refine sr_ ?_
 refine m_ rfl rfl ?_
 refine WL.y rfl (Yd.eqlNil Tryz.underlying40 rfl rfl) ?_
 refine WL.renamed (t := 6) (v := .bool false) rfl (congrArg Value.bool (rfl)) ?_
 refine nt_ ?_
 refine WC.no rfl ?_
 refine WC.skip ?_
 refine ts_ ?_
 refine WC.region ?_
 refine m_ rfl rfl ?_
 refine n_ rfl rfl ?_
 refine f_ 0 kr_ rfl rfl ?_
 refine d_ kr_ rfl mem_ (by rfl) rfl ?_
 refine m_ rfl rfl ?_
 refine WL.rf rfl (Ent.func Tryz.call62 rfl) (Do.room_reads pd s.rs s.B CD hD day) sp_ ?_
 refine a_ rfl rfl ?_
 refine nt_ ?_
 refine WC.ret ?_
 refine DN.ret1 Tryz.results30 rfl ?_
 exact ⟨rfl, rfl⟩
theorem cgoods_tells (p : Nat) (s : Cw) (C : List Ck) (h : CwAt 189 198 203 3 5 118 111 22 116 p s C) (hl : s.K.length ≤ 100000000) : Tells Tryz.prog 25 [.pointer (some ⟨p, 0, none⟩)] C fun r C' => ∃ S Cs, ToldK Gd.name sLt s.K S ∧ Own r S.length (S.flatMap cellsG) 73 2 Cs ∧ C' = Cs ++ C := by
 refine Tells.enter Tryz.func25 rfl Tryz.ntmps25 rfl ?_
 intro w0 R
 obtain ⟨pd, ps, pp, vL, vE, vN, CS, CP, CD, CF, CE, cn, CN, DO, rfl, hS, hP, hD, hF, hE, hN, hO⟩ := h
 obtain ⟨lo, lc, rfl⟩ := hF.form
 obtain ⟨eo, ec, rfl, hec⟩ := hE.form
 obtain ⟨no, nc, rfl, hnc⟩ := hN.form
 refine sr_ ?_
 refine a_ rfl rfl ?_
 refine nt_ ?_
 refine WC.seq ?_
 refine sr_ ?_
 refine m_ rfl rfl ?_
 refine WL.y rfl (Yd.eqlNil Tryz.underlying40 rfl rfl) ?_
 refine WL.renamed (t := 4) (v := .bool false) rfl (congrArg Value.bool (rfl)) ?_
 refine nt_ ?_
 refine WC.no rfl ?_
 refine WC.skip ?_
 refine ts_ ?_
 refine WC.region ?_
 refine m_ rfl rfl ?_
 refine n_ rfl rfl ?_
 refine f_ 1 kr_ rfl rfl ?_
 refine d_ kr_ rfl mem_ (by rfl) rfl ?_
 refine WL.c rfl (Ent.func Tryz.call60 rfl) (St.goods_tells ps s.K s.L CS hS hl) (Sp.p sp_) ?_
 rintro x H9 ⟨S, Cs, hT, ho, rfl⟩
 refine a_ rfl rfl ?_
 refine nt_ ?_
 refine WC.ret ?_
 refine DN.fit (C := Cs ++ (row p [.pointer (some ⟨pd, 0, none⟩), .pointer (some ⟨ps, 0, none⟩), .pointer (some ⟨pp, 0, none⟩), .int .u32 s.e.toNat, .slice lo s.ks.length lc, .slice eo s.ef.length ec, .slice no s.no.length nc] 116 :: (CS ++ (CP ++ (CD ++ (CF ++ (CE ++ (CN ++ DO)))))))) sp_ ?_
 refine DN.ret1 Tryz.results25 rfl ?_
 exact ⟨S, Cs, hT, ho, rfl⟩
theorem caccs_tells (p : Nat) (s : Cw) (C : List Ck) (h : CwAt 189 198 203 3 5 118 111 22 116 p s C) (hl : s.U.length ≤ 100000000) : Tells Tryz.prog 26 [.pointer (some ⟨p, 0, none⟩)] C fun r C' => ∃ S Cs, ToldK Au.name sLt s.U S ∧ Own r S.length (S.flatMap cellsU) 71 3 Cs ∧ C' = Cs ++ C := by
 refine Tells.enter Tryz.func26 rfl Tryz.ntmps26 rfl ?_
 intro w0 R
 obtain ⟨pd, ps, pp, vL, vE, vN, CS, CP, CD, CF, CE, cn, CN, DO, rfl, hS, hP, hD, hF, hE, hN, hO⟩ := h
 obtain ⟨lo, lc, rfl⟩ := hF.form
 obtain ⟨eo, ec, rfl, hec⟩ := hE.form
 obtain ⟨no, nc, rfl, hnc⟩ := hN.form
 refine sr_ ?_
 refine a_ rfl rfl ?_
 refine nt_ ?_
 refine WC.seq ?_
 refine sr_ ?_
 refine m_ rfl rfl ?_
 refine WL.y rfl (Yd.eqlNil Tryz.underlying40 rfl rfl) ?_
 refine WL.renamed (t := 4) (v := .bool false) rfl (congrArg Value.bool (rfl)) ?_
 refine nt_ ?_
 refine WC.no rfl ?_
 refine WC.skip ?_
 refine ts_ ?_
 refine WC.region ?_
 refine m_ rfl rfl ?_
 refine n_ rfl rfl ?_
 refine f_ 2 kr_ rfl rfl ?_
 refine d_ kr_ rfl mem_ (by rfl) rfl ?_
 refine WL.c rfl (Ent.func Tryz.call61 rfl) (Pu.accs_tells pp s.U s.Y CP hP hl) (Sp.p sp_) ?_
 rintro x H9 ⟨S, Cs, hT, ho, rfl⟩
 refine a_ rfl rfl ?_
 refine nt_ ?_
 refine WC.ret ?_
 refine DN.fit (C := Cs ++ (row p [.pointer (some ⟨pd, 0, none⟩), .pointer (some ⟨ps, 0, none⟩), .pointer (some ⟨pp, 0, none⟩), .int .u32 s.e.toNat, .slice lo s.ks.length lc, .slice eo s.ef.length ec, .slice no s.no.length nc] 116 :: (CS ++ (CP ++ (CD ++ (CF ++ (CE ++ (CN ++ DO)))))))) sp_ ?_
 refine DN.ret1 Tryz.results26 rfl ?_
 exact ⟨S, Cs, hT, ho, rfl⟩
end Go.Proofs.YtkamlondepceiaaGreat

set_option linter.unusedVariables false
set_option linter.unusedSimpArgs false
set_option maxHeartbeats 4000000
namespace Go.Proofs.YtkamlondepceiaaGreat
open Go.SL
theorem efs_len (l : List Ef) : (l.flatMap efc).length = 3 * l.length := by
  induction l with
  | nil => rfl
  | cons x l ih => rw [List.flatMap_cons, List.length_append, ih, efc_len, List.length_cons]; omega
theorem efs_one (l : List Ef) : ∀ v ∈ l.flatMap efc, v.oneCell' = true := by
  intro v hv
  obtain ⟨x, _, h⟩ := List.mem_flatMap.1 hv
  exact efc_one x v h
theorem clonee_tells (v : Value) (rs : List Ef) (H : List Ck) (hv : Rs v rs.length (rs.flatMap efc) H) (hl : rs.length ≤ 1000000) : Tells Tryz.prog 54 [v] H fun r H' => ∃ C, Own r rs.length (rs.flatMap efc) 111 3 C ∧ H' = C ++ H := by
 refine Tells.enter Tryz.func54 rfl Tryz.ntmps54 rfl ?_
 intro w0 R
 obtain ⟨vo, vc, rfl, hvc⟩ := hv.form
 have hnil : vo = none → rs = [] := by
   rintro rfl
   rcases hv with ⟨_, _, e, h0, _⟩ | ⟨b, o, cap, cs, T, fr, ex, e, _⟩
   · exact List.eq_nil_of_length_eq_zero h0
   · cases e
 refine sr_ ?_
 refine a_ rfl rfl ?_
 refine nt_ ?_
 refine WC.seq ?_
 refine sr_ ?_
 refine m_ rfl rfl ?_
 refine WL.y rfl (Yd.eqlNilS Tryz.underlying56 rfl rfl) ?_
 refine nt_ ?_
 refine WC.cond rfl (fun h4 => ?_) (fun h4 => ?_)
 ·refine sr_ ?_
  refine a_ rfl rfl ?_
  refine nt_ ?_
  refine WC.ret ?_
  refine DN.then_ret ?_
  refine DN.ret1 Tryz.results54 rfl ?_
  have e0 : rs = [] := hnil (by simpa using h4)
  subst e0
  exact ⟨[], Own.nil _ _, rfl⟩
 ·refine WC.skip ?_
  refine ts_ ?_
  refine WC.region ?_
  refine WL.h rfl (Hd.buildSlice (e := 111) (sz := 3) (zs := [.int .u32 0, .int .i64 0, .bool false]) (parts := []) (vs := []) (cells := []) kr_ kr_ kr_ rfl kr_ kr_ fun rb => ⟨_, rfl, ?_⟩)
  refine m_ rfl rfl ?_
  refine WL.h rfl (Hd.append (e := 111) (sz := 3) (bytes := 24) (zs := [.int .u32 0, .int .i64 0, .bool false]) (n := 0) (xs := []) (C := [row rb [] 111]) (D := H) (m := rs.length) (news := rs.flatMap efc) kr_ kr_ rfl (by omega) rfl rfl (.inr ⟨rb, 0, [], rfl, Nat.le_refl _, by simp only [maxLen]; omega, rfl, rfl, rfl⟩) (hv.mono fun y hy => by simp [hy]) (by rw [efs_len]; omega) (efs_one _) (by simp only [maxLen]; omega) (by omega) (List.Perm.refl _) fun v2 C2 h2 _ => ⟨_, rfl, ?_⟩)
  refine a_ rfl rfl ?_
  refine nt_ ?_
  refine WC.ret ?_
  refine DN.ret1 Tryz.results54 rfl ?_
  exact ⟨C2, by simpa using h2, rfl⟩
theorem ceffs_tells (p : Nat) (s : Cw) (C : List Ck) (h : CwAt 189 198 203 3 5 118 111 22 116 p s C) (hl : s.ef.length ≤ 1000000) : Tells Tryz.prog 21 [.pointer (some ⟨p, 0, none⟩)] C fun r C' => ∃ D, Own r s.ef.length (s.ef.flatMap efc) 111 3 D ∧ C' = D ++ C := by
 refine Tells.enter Tryz.func21 rfl Tryz.ntmps21 rfl ?_
 intro w0 R
 obtain ⟨pd, ps, pp, vL, vE, vN, CS, CP, CD, CF, CE, cn, CN, DO, rfl, hS, hP, hD, hF, hE, hN, hO⟩ := h
 obtain ⟨lo, lc, rfl⟩ := hF.form
 obtain ⟨eo, ec, rfl, hec⟩ := hE.form
 obtain ⟨no, nc, rfl, hnc⟩ := hN.form
 refine sr_ ?_
 refine a_ rfl rfl ?_
 refine nt_ ?_
 refine WC.seq ?_
 refine sr_ ?_
 refine m_ rfl rfl ?_
 refine WL.y rfl (Yd.eqlNil Tryz.underlying40 rfl rfl) ?_
 refine WL.renamed (t := 4) (v := .bool false) rfl (congrArg Value.bool (rfl)) ?_
 refine nt_ ?_
 refine WC.no rfl ?_
 refine WC.skip ?_
 refine ts_ ?_
 refine WC.region ?_
 refine m_ rfl rfl ?_
 refine n_ rfl rfl ?_
 refine f_ 5 kr_ rfl rfl ?_
 refine d_ kr_ rfl mem_ (by rfl) rfl ?_
 refine WL.c rfl (Ent.func Tryz.call54 rfl) (clonee_tells _ s.ef CE hE.rs hl) (Sp.p sp_) ?_
 rintro x H9 ⟨D, ho, rfl⟩
 refine a_ rfl rfl ?_
 refine nt_ ?_
 refine WC.ret ?_
 refine DN.fit (C := D ++ (row p [.pointer (some ⟨pd, 0, none⟩), .pointer (some ⟨ps, 0, none⟩), .pointer (some ⟨pp, 0, none⟩), .int .u32 s.e.toNat, .slice lo s.ks.length lc, .slice eo s.ef.length ec, .slice no s.no.length nc] 116 :: (CS ++ (CP ++ (CD ++ (CF ++ (CE ++ (CN ++ DO)))))))) sp_ ?_
 refine DN.ret1 Tryz.results21 rfl ?_
 exact ⟨D, ho, rfl⟩
end Go.Proofs.YtkamlondepceiaaGreat

set_option linter.unusedVariables false
set_option linter.unusedSimpArgs false
set_option maxHeartbeats 4000000
namespace Go.Proofs.YtkamlondepceiaaGreat
open Go.SL
def smG : List Gd := [⟨⟨#[97]⟩, 9, 0⟩, ⟨⟨#[98]⟩, 4, 0⟩]
def smU : List Au := [⟨⟨#[97, 110, 110]⟩, 20, 0⟩, ⟨⟨#[98, 111, 98]⟩, 6, 0⟩]
theorem sm_good : GoodL smG := ⟨by decide, by decide, fun g hg => by
  simp only [smG, List.mem_cons, List.not_mem_nil, or_false] at hg
  rcases hg with rfl | rfl <;> (unfold goodB; decide)⟩
theorem sm_acc : AccL smU := ⟨by decide, by decide, fun g hg => by
  simp only [smU, List.mem_cons, List.not_mem_nil, or_false] at hg
  rcases hg with rfl | rfl <;> (unfold accB; decide)⟩
theorem sm_room : ([3, 5] : List Int).findIdx? Do.badRoom = none := by decide
theorem sm_inv : CInv smG smU [3, 5] (Cw.new smG smU [3, 5]) :=
  new_inv (SInv.start (by decide) (by decide) fun g hg => ⟨sm_good.2.2 g hg, (by decide : ∀ g ∈ smG, g.gone = 0) g hg⟩) (PInv.start sm_acc) (DInv.start (roomsOk_of (by decide)) (by decide))
theorem small_tells (H : List Ck) : Tells Tryz.prog 18 [] H fun r H' => ∃ p C, r = .pointer (some ⟨p, 0, none⟩) ∧ CwAt 189 198 203 3 5 118 111 22 116 p (Cw.new smG smU [3, 5]) C ∧ H' = C ++ H := by
 refine Tells.enter Tryz.func18 rfl Tryz.ntmps18 rfl ?_
 intro w0 R
 refine sr_ ?_
 refine a_ rfl rfl ?_
 refine ntsr_ ?_
 refine WL.y rfl (Yd.buildL (pl := [(0, 1), (1, 1)]) (zs := [.string ⟨#[]⟩, .int .i64 0]) (parts := [(0, .const (.string ⟨#[97]⟩)), (1, .const (.int .i64 9))]) (vs := [(0, _), (1, _)]) (cells := [_, _]) kr_ kr_ rfl rfl) ?_
 refine WL.y rfl (Yd.buildL (pl := [(0, 1), (1, 1)]) (zs := [.string ⟨#[]⟩, .int .i64 0]) (parts := [(0, .const (.string ⟨#[98]⟩)), (1, .const (.int .i64 4))]) (vs := [(0, _), (1, _)]) (cells := [_, _]) kr_ kr_ rfl rfl) ?_
 refine WL.h rfl (Hd.buildSlice (e := 73) (sz := 2) (zs := [.string ⟨#[]⟩, .int .i64 0]) (parts := [(0, .tmp 4), (1, .tmp 5)]) (vs := [(0, .agg (cellsG ⟨⟨#[97]⟩, 9, 0⟩).toArray), (1, .agg (cellsG ⟨⟨#[98]⟩, 4, 0⟩).toArray)]) (cells := smG.flatMap cellsG) kr_ kr_ kr_ rfl kr_ kr_ fun b6 => ⟨_, rfl, ?_⟩)
 refine WL.y rfl (Yd.buildL (pl := [(0, 1), (1, 1), (2, 1)]) (zs := [.string ⟨#[]⟩, .int .i64 0, .int .i64 0]) (parts := [(0, .const (.string ⟨#[97, 110, 110]⟩)), (1, .const (.int .i64 20))]) (vs := [(0, _), (1, _)]) (cells := [_, _, .int .i64 0]) kr_ kr_ rfl rfl) ?_
 refine WL.y rfl (Yd.buildL (pl := [(0, 1), (1, 1), (2, 1)]) (zs := [.string ⟨#[]⟩, .int .i64 0, .int .i64 0]) (parts := [(0, .const (.string ⟨#[98, 111, 98]⟩)), (1, .const (.int .i64 6))]) (vs := [(0, _), (1, _)]) (cells := [_, _, .int .i64 0]) kr_ kr_ rfl rfl) ?_
 refine WL.h rfl (Hd.buildSlice (e := 71) (sz := 3) (zs := [.string ⟨#[]⟩, .int .i64 0, .int .i64 0]) (parts := [(0, .tmp 7), (1, .tmp 8)]) (vs := [(0, .agg (cellsU ⟨⟨#[97, 110, 110]⟩, 20, 0⟩).toArray), (1, .agg (cellsU ⟨⟨#[98, 111, 98]⟩, 6, 0⟩).toArray)]) (cells := smU.flatMap cellsU) kr_ kr_ kr_ rfl kr_ kr_ fun b9 => ⟨_, rfl, ?_⟩)
 refine WL.h rfl (Hd.buildSlice (e := 3) (sz := 1) (zs := [.int .i64 0]) (parts := [(0, .const (.int .i64 3)), (1, .const (.int .i64 5))]) (vs := [(0, .int .i64 3), (1, .int .i64 5)]) (cells := ic [3, 5]) kr_ kr_ kr_ rfl kr_ kr_ fun b10 => ⟨_, rfl, ?_⟩)
 refine WL.c rfl (Ent.func Tryz.call31 rfl) (cnew_tells _ _ _ smG smU [3, 5] (by decide) (row b10 (ic [3, 5]) 3 :: (row b9 (smU.flatMap cellsU) 71 :: (row b6 (smG.flatMap cellsG) 73 :: H))) (.inr ⟨b6, 0, 2, smG.flatMap cellsG, 73, (0, 0), true, rfl, Nat.le_refl _, List.mem_cons_of_mem _ (List.mem_cons_of_mem _ List.mem_cons_self), rfl⟩) (.inr ⟨b9, 0, 2, smU.flatMap cellsU, 71, (0, 0), true, rfl, Nat.le_refl _, List.mem_cons_of_mem _ List.mem_cons_self, rfl⟩) (.inr ⟨b10, 0, 2, ic [3, 5], 3, (0, 0), true, rfl, Nat.le_refl _, List.mem_cons_self, rfl⟩) (by decide) (by decide) (by decide)) (Sp.p sp_) ?_
 intro x H9 h9
 obtain ⟨p, C, rfl, hAt, rfl⟩ := (h9.resolve_right fun q => q.1 ⟨sm_good, sm_acc, by rw [sm_room]; rfl, by decide⟩).2
 refine m_ rfl rfl ?_
 refine x_ rfl rfl rfl ?_
 refine x_ rfl rfl rfl ?_
 refine a_ rfl rfl ?_
 refine a_ rfl rfl ?_
 refine nt_ ?_
 refine WC.seq ?_
 refine sr_ ?_
 refine m_ rfl rfl ?_
 refine WL.y rfl (Yd.neq rfl rfl) ?_
 refine WL.renamed (t := 15) (v := .bool false) rfl (congrArg Value.bool (by decide)) ?_
 refine nt_ ?_
 refine WC.no rfl ?_
 refine WC.skip ?_
 refine ts_ ?_
 refine WC.region ?_
 refine m_ rfl rfl ?_
 refine a_ rfl rfl ?_
 refine nt_ ?_
 refine WC.ret ?_
 refine DN.fit (C := C ++ H) sp_ ?_
 refine DN.ret1 Tryz.results18 rfl ?_
 exact ⟨p, C, rfl, hAt, rfl⟩
end Go.Proofs.YtkamlondepceiaaGreat

set_option linter.unusedVariables false
set_option linter.unusedSimpArgs false
set_option maxHeartbeats 4000000
namespace Go.Proofs.YtkamlondepceiaaGreat
open Go.SL
theorem rnum_tells (n : BitVec 64) (size : Nat) (hs : size ≤ 8) (H : List Ck) : Tells Tryz.prog 116 [.int .u64 n.toNat, .int .i64 size] H fun r H' => ∃ C, Ob 5 r (beW n size) C ∧ H' = C ++ H := by
 refine Tells.enter Tryz.func116 rfl Tryz.ntmps116 rfl ?_
 intro w0 R
 refine sr_ ?_
 refine a_ rfl rfl ?_
 refine ntsr_ ?_
 refine a_ rfl rfl ?_
 refine nt_ ?_
 refine WC.seq ?_
 refine sr_ ?_
 refine a_ rfl rfl ?_
 refine nt_ ?_
 refine WC.block ?_
 refine WC.loopS (fun z : Nat × Value × List Ck => z.1 ≤ size ∧ Ob 5 z.2.1 (loW n z.1) z.2.2) (fun z : Nat × Value × List Ck => [(0, .int .u64 (n >>> (8 * z.1)).toNat), (5, z.2.1), (6, .int .i64 (z.1 : Int))]) (fun z : Nat × Value × List Ck => z.2.2 ++ H) (fun z : Nat × Value × List Ck => size - z.1) (⟨0, .slice none 0 0, []⟩) (show 0 ≤ size ∧ Ob 5 (.slice none 0 0) (loW n 0) [] from ⟨Nat.zero_le _, Ob.nil _⟩) (Sx.put rfl (Sx.put rfl (Sx.put rfl (sx_)))) sp_ ?_
 rintro ⟨i, u, C⟩ hI
 replace hI : i ≤ size ∧ Ob 5 u (loW n i) C := hI
 obtain ⟨hi, hu⟩ := hI
 change WC _ _ _ _ _ _ ([(0, .int .u64 (n >>> (8 * i)).toNat), (5, u), (6, .int .i64 (i : Int))] ++ _) (C ++ H)
 obtain ⟨uo, uc, rfl, huc⟩ := hu.form
 rw [loW_len] at huc
 refine WC.seq ?_
 refine sr_ ?_
 refine m_ rfl rfl ?_
 refine m_ rfl rfl ?_
 refine WL.y rfl (Yd.lss rfl rfl) ?_
 refine nt_ ?_
 refine WC.ite rfl (fun h11 => ?_) (fun h11 => ?_)
 ·have hlt : i < size := by omega
  refine WC.skip ?_
  refine ts_ ?_
  refine WC.block ?_
  refine sr_ ?_
  refine m_ rfl rfl ?_
  refine m_ rfl rfl ?_
  refine WL.y rfl (Yd.rem64 _ (256#64) rfl rfl rfl rfl (by decide)) ?_
  refine WL.y rfl (Yd.conv64_8 _ kr_ kr_ rfl rfl) ?_
  refine WL.renamed (t := 17) (v := .int .u8 ((n >>> (8 * i)).setWidth 8).toNat) rfl (congrArg (fun q : BitVec 8 => Value.int .u8 q.toNat) (low_rem _)) ?_
  refine WL.h rfl (Hd.build1 (e := 5) (z := .int .u8 0) kr_ kr_ kr_ rfl rfl fun b18 => ⟨_, rfl, ?_⟩)
  refine WL.h rfl (Hd.appendBs (e := 5) (zs := [.int .u8 0]) kr_ kr_ rfl rfl rfl hu sp_ (Bs.block (bs := [(n >>> (8 * i)).setWidth 8]) rfl (by simp) mem_) (by rw [loW_len]; simp only [List.length_cons, List.length_nil]; omega) fun v1 C1 ho1 => ⟨_, rfl, ?_⟩)
  refine a_ rfl rfl ?_
  refine ntr_ ?_
  refine m_ rfl rfl ?_
  refine WL.y rfl (Yd.quo64 _ (256#64) rfl rfl rfl rfl (by decide)) ?_
  refine WL.renamed (t := 21) (v := .int .u64 (n >>> (8 * (i + 1))).toNat) rfl (congrArg (fun q : BitVec 64 => Value.int .u64 q.toNat) (low_quo n i)) ?_
  refine a_ rfl rfl ?_
  refine WL.nil ?_
  refine DN.block_normal ?_
  refine DN.then_normal ?_
  refine WC.region ?_
  refine m_ rfl rfl ?_
  refine WL.y rfl (Yd.add rfl rfl (by omega) (by omega)) ?_
  refine a_ rfl rfl ?_
  refine WL.nil ?_
  exact DN.againS (⟨i + 1, v1, C1⟩) (show (i + 1) ≤ size ∧ Ob 5 v1 (loW n (i + 1)) C1 from ⟨by omega, by rw [loW_next]; exact ho1⟩) (show size - (i + 1) < size - i by omega) (Sx.put rfl (Sx.put rfl (Sx.put rfl (sx_)))) sp_
 ·obtain rfl : size = i := by omega
  refine WC.exit ?_
  refine DN.then_exit ?_
  refine DN.then_exit ?_
  refine DN.block_exit ?_
  refine ts_ ?_
  refine WC.region ?_
  refine a_ rfl rfl ?_
  refine nt_ ?_
  refine WC.seq ?_
  refine sr_ ?_
  refine m_ rfl rfl ?_
  refine WL.y rfl (Yd.sub rfl rfl (by omega) (by omega)) ?_
  refine WL.renamed (t := 23) (v := .int .i64 ((size : Int) - 1 - ((0 : Nat) : Int))) rfl (congrArg (Value.int .i64) (by omega)) ?_
  refine a_ rfl rfl ?_
  refine nt_ ?_
  refine WC.block ?_
  refine WC.loopS (fun z : Nat × Value × List Ck => z.1 ≤ size ∧ Ob 5 z.2.1 ((beW n size).take z.1) z.2.2) (fun z : Nat × Value × List Ck => [(7, z.2.1), (8, .int .i64 ((size : Int) - 1 - z.1))]) (fun z : Nat × Value × List Ck => z.2.2 ++ (C ++ H)) (fun z : Nat × Value × List Ck => size - z.1) (⟨0, .slice none 0 0, []⟩) (show 0 ≤ size ∧ Ob 5 (.slice none 0 0) ((beW n size).take 0) [] from ⟨Nat.zero_le _, Ob.nil _⟩) (Sx.put rfl (Sx.put rfl (sx_))) sp_ ?_
  rintro ⟨j, w, D⟩ hI
  replace hI : j ≤ size ∧ Ob 5 w ((beW n size).take j) D := hI
  obtain ⟨hj, hw⟩ := hI
  change WC _ _ _ _ _ _ ([(7, w), (8, .int .i64 ((size : Int) - 1 - j))] ++ _) (D ++ (C ++ H))
  refine WC.seq ?_
  refine sr_ ?_
  refine m_ rfl rfl ?_
  refine WL.y rfl (Yd.geq rfl rfl) ?_
  refine nt_ ?_
  refine WC.ite rfl (fun h25 => ?_) (fun h25 => ?_)
  ·have hlt2 : j < size := by omega
   have hll : ((beW n size).take j).length ≤ 8 := by rw [List.length_take]; omega
   refine WC.skip ?_
   refine ts_ ?_
   refine WC.block ?_
   refine WC.region ?_
   iterate 3 refine m_ rfl rfl ?_
   refine WL.elem (e := 5) kr_ kr_ kr_ rfl rfl (by omega) (hu.bs.mono gr_) (bc_at (loW_get (n := n) (show size - 1 - j < size by omega))) (by rw [loW_len]; omega) rfl rfl ?_
   intro _
   refine WL.h rfl (Hd.build1 (e := 5) (z := .int .u8 0) kr_ kr_ kr_ rfl rfl fun b33 => ⟨_, rfl, ?_⟩)
   refine WL.h rfl (Hd.appendBs (e := 5) (zs := [.int .u8 0]) kr_ kr_ rfl rfl rfl hw sp_ (Bs.block (bs := [(n >>> (8 * (size - 1 - j))).setWidth 8]) rfl (by simp) mem_) (by simp only [List.length_cons, List.length_nil]; omega) fun v2 C2 ho2 => ⟨_, rfl, ?_⟩)
   refine a_ rfl rfl ?_
   refine WL.nil ?_
   refine DN.block_normal ?_
   refine DN.then_normal ?_
   refine WC.region ?_
   refine m_ rfl rfl ?_
   refine WL.y rfl (Yd.sub rfl rfl (by omega) (by omega)) ?_
   refine a_ rfl rfl ?_
   refine WL.nil ?_
   rw [show (size : Int) - 1 - (j : Int) - 1 = (size : Int) - 1 - ((j + 1 : Nat) : Int) by omega]
   exact DN.againS (j + 1, v2, C2) ⟨by show j + 1 ≤ size; omega, by rw [beW_next n size j hlt2]; exact ho2⟩ (by show size - (j + 1) < size - j; omega) ((Sx.put rfl (Sx.put rfl (sx_)))) sp_
  ·obtain rfl : size = j := by omega
   rw [List.take_of_length_le (by rw [beW_length]; omega)] at hw
   refine WC.exit ?_
   refine DN.then_exit ?_
   refine DN.then_exit ?_
   refine DN.block_exit ?_
   refine ts_ ?_
   refine WC.region ?_
   refine m_ rfl rfl ?_
   refine a_ rfl rfl ?_
   refine nt_ ?_
   refine WC.ret ?_
   refine DN.fit (C := D ++ H) sp_ ?_
   refine DN.ret1 Tryz.results116 rfl ?_
   exact ⟨D, hw, rfl⟩
theorem rone_tells (f : Fld) (vt : Value) (H : List Ck) (hvt : Bs vt f.text H) (hl : f.text.length ≤ 1000000) (hs : f.size ≤ 8) : Tells Tryz.prog 77 [.agg (fdc f vt).toArray] H fun r H' => ∃ w A, r = .tuple #[w, .int .i64 (oneF f).2] ∧ Ob 5 w (oneF f).1 A ∧ H' = A ++ H := by
 refine Tells.enter Tryz.func77 rfl Tryz.ntmps77 rfl ?_
 intro w0 R
 obtain ⟨to_, tc, rfl, htc⟩ := hvt.form
 refine sr_ ?_
 refine WL.h rfl (Hd.boxA rfl fun b1 => ⟨_, rfl, ?_⟩)
 refine a_ rfl rfl ?_
 refine a_ rfl rfl ?_
 refine nt_ ?_
 refine WC.seq ?_
 refine sr_ ?_
 refine f_ 0 kr_ rfl rfl ?_
 refine d_ kr_ rfl mem_ (by rfl) rfl ?_
 refine nt_ ?_
 refine WC.block ?_
 refine sr_ ?_
 refine WL.y rfl (Yd.eql rfl rfl) ?_
 refine a_ rfl rfl ?_
 refine nt_ ?_
 refine WC.ite rfl (fun h7 => ?_) (fun h7 => ?_)
 ·have hs0 : f.size = 0 := by omega
  refine WC.seq ?_
  refine sr_ ?_
  refine f_ 1 kr_ rfl rfl ?_
  refine d_ kr_ rfl mem_ (by rfl) rfl ?_
  refine WL.y rfl (Yd.neq64 _ (0#64) rfl rfl rfl rfl) ?_
  refine nt_ ?_
  refine WC.ite rfl (fun h11 => ?_) (fun h11 => ?_)
  ·refine sr_ ?_
   refine a_ rfl rfl ?_
   refine a_ rfl rfl ?_
   refine nt_ ?_
   refine WC.ret ?_
   refine DN.then_ret ?_
   refine DN.block_ret ?_
   refine DN.then_ret ?_
   first | refine DN.fit (C := C1 ++ H) sp_ ?_ | refine DN.fit (C := H) sp_ ?_
   refine DN.ret2 Tryz.results77 rfl rfl ?_
   first
   | (rw [oneF_0a hs0 h11]; exact ⟨_, [], rfl, Ob.nil _, rfl⟩)
   | (rw [oneF_0b hs0 h11 (by omega)]; exact ⟨_, [], rfl, Ob.nil _, rfl⟩)
   | (rw [oneF_0c hs0 h11 (by omega)]; exact ⟨_, C1, rfl, ho1, rfl⟩)
   | (rw [oneF_1b hs0 (of_decide_eq_true (hz25.symm.trans h25)) (one_ok hg33 h42)]; exact ⟨_, C1, rfl, hC1, rfl⟩)
   | (rw [oneF_1a hs0 (of_decide_eq_true (hz25.symm.trans h25)) (.inl (by omega))]; exact ⟨_, [], rfl, Ob.nil _, rfl⟩)
   | (rw [oneF_1a hs0 (of_decide_eq_true (hz25.symm.trans h25)) (.inr (Int.ofNat_le.1 h42))]; exact ⟨_, [], rfl, Ob.nil _, rfl⟩)
   | (rw [oneF_8a hs0 (of_decide_eq_false (hz25.symm.trans h25)) hs8 (by omega)]; exact ⟨_, [], rfl, Ob.nil _, rfl⟩)
   | (rw [oneF_8b hs0 (of_decide_eq_false (hz25.symm.trans h25)) hs8 (by omega)]; exact ⟨_, C1, rfl, hC1, rfl⟩)
   | (rw [oneF_no hs0 (of_decide_eq_false (hz25.symm.trans h25)) hs8]; exact ⟨_, [], rfl, Ob.nil _, rfl⟩)
  ·refine WC.skip ?_
   refine ts_ ?_
   refine sr_ ?_
   refine f_ 2 kr_ rfl rfl ?_
   refine d_ kr_ rfl mem_ (by rfl) rfl ?_
   refine WL.y rfl (Yd.len (e := 5) kr_ rfl) ?_
   refine WL.y rfl (Yd.gtr rfl rfl) ?_
   refine nt_ ?_
   refine WC.ite rfl (fun h15 => ?_) (fun h15 => ?_)
   ·refine sr_ ?_
    refine a_ rfl rfl ?_
    refine a_ rfl rfl ?_
    refine nt_ ?_
    refine WC.ret ?_
    refine DN.then_ret ?_
    refine DN.block_ret ?_
    refine DN.then_ret ?_
    first | refine DN.fit (C := C1 ++ H) sp_ ?_ | refine DN.fit (C := H) sp_ ?_
    refine DN.ret2 Tryz.results77 rfl rfl ?_
    first
    | (rw [oneF_0a hs0 h11]; exact ⟨_, [], rfl, Ob.nil _, rfl⟩)
    | (rw [oneF_0b hs0 h11 (by omega)]; exact ⟨_, [], rfl, Ob.nil _, rfl⟩)
    | (rw [oneF_0c hs0 h11 (by omega)]; exact ⟨_, C1, rfl, ho1, rfl⟩)
    | (rw [oneF_1b hs0 (of_decide_eq_true (hz25.symm.trans h25)) (one_ok hg33 h42)]; exact ⟨_, C1, rfl, hC1, rfl⟩)
    | (rw [oneF_1a hs0 (of_decide_eq_true (hz25.symm.trans h25)) (.inl (by omega))]; exact ⟨_, [], rfl, Ob.nil _, rfl⟩)
    | (rw [oneF_1a hs0 (of_decide_eq_true (hz25.symm.trans h25)) (.inr (Int.ofNat_le.1 h42))]; exact ⟨_, [], rfl, Ob.nil _, rfl⟩)
    | (rw [oneF_8a hs0 (of_decide_eq_false (hz25.symm.trans h25)) hs8 (by omega)]; exact ⟨_, [], rfl, Ob.nil _, rfl⟩)
    | (rw [oneF_8b hs0 (of_decide_eq_false (hz25.symm.trans h25)) hs8 (by omega)]; exact ⟨_, C1, rfl, hC1, rfl⟩)
    | (rw [oneF_no hs0 (of_decide_eq_false (hz25.symm.trans h25)) hs8]; exact ⟨_, [], rfl, Ob.nil _, rfl⟩)
   ·refine WC.skip ?_
    refine ts_ ?_
    refine WC.region ?_
    refine f_ 2 kr_ rfl rfl ?_
    refine d_ kr_ rfl mem_ (by rfl) rfl ?_
    refine WL.y rfl (Yd.len (e := 5) kr_ rfl) ?_
    refine WL.y rfl (Yd.to8 _ kr_ kr_ rfl rfl) ?_
    refine WL.h rfl (Hd.build1 (e := 5) (z := .int .u8 0) kr_ kr_ kr_ rfl rfl fun b20 => ⟨_, rfl, ?_⟩)
    refine a_ rfl rfl ?_
    refine ntsr_ ?_
    refine m_ rfl rfl ?_
    refine f_ 2 kr_ rfl rfl ?_
    refine d_ kr_ rfl mem_ (by rfl) rfl ?_
    refine WL.h rfl (Hd.appendBs (e := 5) (zs := [.int .u8 0]) kr_ kr_ rfl rfl rfl (Ob.block (T := 5) b20 [BitVec.ofInt 8 (f.text.length : Int)] (by simp only [maxLen, List.length_cons, List.length_nil]; omega)) sp_ (hvt.mono gr_) (by simp only [List.length_cons, List.length_nil]; omega) fun v1 C1 ho1 => ⟨_, rfl, ?_⟩)
    refine a_ rfl rfl ?_
    refine a_ rfl rfl ?_
    refine nt_ ?_
    refine WC.ret ?_
    refine DN.block_ret ?_
    refine DN.then_ret ?_
    first | refine DN.fit (C := C1 ++ H) sp_ ?_ | refine DN.fit (C := H) sp_ ?_
    refine DN.ret2 Tryz.results77 rfl rfl ?_
    first
    | (rw [oneF_0a hs0 h11]; exact ⟨_, [], rfl, Ob.nil _, rfl⟩)
    | (rw [oneF_0b hs0 h11 (by omega)]; exact ⟨_, [], rfl, Ob.nil _, rfl⟩)
    | (rw [oneF_0c hs0 h11 (by omega)]; exact ⟨_, C1, rfl, ho1, rfl⟩)
    | (rw [oneF_1b hs0 (of_decide_eq_true (hz25.symm.trans h25)) (one_ok hg33 h42)]; exact ⟨_, C1, rfl, hC1, rfl⟩)
    | (rw [oneF_1a hs0 (of_decide_eq_true (hz25.symm.trans h25)) (.inl (by omega))]; exact ⟨_, [], rfl, Ob.nil _, rfl⟩)
    | (rw [oneF_1a hs0 (of_decide_eq_true (hz25.symm.trans h25)) (.inr (Int.ofNat_le.1 h42))]; exact ⟨_, [], rfl, Ob.nil _, rfl⟩)
    | (rw [oneF_8a hs0 (of_decide_eq_false (hz25.symm.trans h25)) hs8 (by omega)]; exact ⟨_, [], rfl, Ob.nil _, rfl⟩)
    | (rw [oneF_8b hs0 (of_decide_eq_false (hz25.symm.trans h25)) hs8 (by omega)]; exact ⟨_, C1, rfl, hC1, rfl⟩)
    | (rw [oneF_no hs0 (of_decide_eq_false (hz25.symm.trans h25)) hs8]; exact ⟨_, [], rfl, Ob.nil _, rfl⟩)
 ·have hs0 : ¬ f.size = 0 := by omega
  refine WC.cutK (fun z : Bool => z = decide (f.size = 1 ∨ f.size = 2 ∨ f.size = 4)) (fun z : Bool => [(25, .bool z)]) (fun z : Bool => row b1 (fdc f (.slice to_ f.text.length tc)) 98 :: H) ?_ ?_
  ·refine sr_ ?_
   refine WL.y rfl (Yd.eql rfl rfl) ?_
   refine a_ rfl rfl ?_
   refine nt_ ?_
   first | refine WC.ite rfl (fun h25 => ?_) (fun h25 => ?_) | refine WC.cond rfl (fun h25 => ?_) (fun h25 => ?_)
   ·refine WC.skip ?_
    exact DN.reachK (_) (by rw [Bool.eq_iff_iff]; simp only [decide_eq_true_eq, eq_self, true_iff, Bool.false_eq_true, false_iff]; omega) (Sx.put rfl (sx_)) (Sp.all sp_)
   ·refine sr_ ?_
    skip
    refine WL.y rfl (Yd.eql rfl rfl) ?_
    refine a_ rfl rfl ?_
    refine nt_ ?_
    first | refine WC.ite rfl (fun h25 => ?_) (fun h25 => ?_) | refine WC.cond rfl (fun h25 => ?_) (fun h25 => ?_)
    ·refine WC.skip ?_
     exact DN.reachK (_) (by rw [Bool.eq_iff_iff]; simp only [decide_eq_true_eq, eq_self, true_iff, Bool.false_eq_true, false_iff]; omega) (Sx.put rfl (sx_)) (Sp.all sp_)
    ·refine WC.region ?_
     refine WL.y rfl (Yd.eql rfl rfl) ?_
     refine a_ rfl rfl ?_
     refine WL.nil ?_
     exact DN.reachK (_) (by rw [Bool.eq_iff_iff]; simp only [decide_eq_true_eq, eq_self, true_iff, Bool.false_eq_true, false_iff]; omega) (Sx.put rfl (sx_)) (Sp.all sp_)
  ·intro z25 hz25
   first | refine WC.ite rfl (fun h25 => ?_) (fun h25 => ?_) | refine WC.cond rfl (fun h25 => ?_) (fun h25 => ?_)
   ·refine WC.seq ?_
    refine sr_ ?_
    refine f_ 2 kr_ rfl rfl ?_
    refine d_ kr_ rfl mem_ (by rfl) rfl ?_
    refine WL.y rfl (Yd.len (e := 5) kr_ rfl) ?_
    refine WL.y rfl (Yd.neq rfl rfl) ?_
    refine m_ rfl rfl ?_
    refine WL.partP (t := 33) rfl (fun hg33 => ?_) (fun hg33 => ?_)
    ·iterate 8 refine gn_ 33 rfl rfl rfl rfl ?_
     refine WL.y rfl (Yd.pickT rfl rfl) ?_
     refine nt_ ?_
     refine WC.yes rfl ?_
     refine sr_ ?_
     refine a_ rfl rfl ?_
     refine a_ rfl rfl ?_
     refine nt_ ?_
     refine WC.ret ?_
     refine DN.then_ret ?_
     refine DN.block_ret ?_
     refine DN.then_ret ?_
     first | refine DN.fit (C := C1 ++ H) sp_ ?_ | refine DN.fit (C := H) sp_ ?_
     refine DN.ret2 Tryz.results77 rfl rfl ?_
     first
     | (rw [oneF_0a hs0 h11]; exact ⟨_, [], rfl, Ob.nil _, rfl⟩)
     | (rw [oneF_0b hs0 h11 (by omega)]; exact ⟨_, [], rfl, Ob.nil _, rfl⟩)
     | (rw [oneF_0c hs0 h11 (by omega)]; exact ⟨_, C1, rfl, ho1, rfl⟩)
     | (rw [oneF_1b hs0 (of_decide_eq_true (hz25.symm.trans h25)) (one_ok hg33 h42)]; exact ⟨_, C1, rfl, hC1, rfl⟩)
     | (rw [oneF_1a hs0 (of_decide_eq_true (hz25.symm.trans h25)) (.inl (by omega))]; exact ⟨_, [], rfl, Ob.nil _, rfl⟩)
     | (rw [oneF_1a hs0 (of_decide_eq_true (hz25.symm.trans h25)) (.inr (Int.ofNat_le.1 h42))]; exact ⟨_, [], rfl, Ob.nil _, rfl⟩)
     | (rw [oneF_8a hs0 (of_decide_eq_false (hz25.symm.trans h25)) hs8 (by omega)]; exact ⟨_, [], rfl, Ob.nil _, rfl⟩)
     | (rw [oneF_8b hs0 (of_decide_eq_false (hz25.symm.trans h25)) hs8 (by omega)]; exact ⟨_, C1, rfl, hC1, rfl⟩)
     | (rw [oneF_no hs0 (of_decide_eq_false (hz25.symm.trans h25)) hs8]; exact ⟨_, [], rfl, Ob.nil _, rfl⟩)
    ·refine gy_ 33 rfl rfl rfl (Yd.fieldAddr (k := 1) kr_ rfl) ?_
     refine WL.gh (dj := 33) rfl rfl rfl (Hd.load1 kr_ rfl mem_ (by rfl) ⟨_, rfl, ?_⟩)
     refine gy_ 33 rfl rfl rfl (Yd.fieldAddr (k := 0) kr_ rfl) ?_
     refine WL.gh (dj := 33) rfl rfl rfl (Hd.load1 kr_ rfl mem_ (by rfl) ⟨_, rfl, ?_⟩)
     refine gy_ 33 rfl rfl rfl (Yd.mul rfl rfl (by omega) (by omega)) ?_
     refine gy_ 33 rfl rfl rfl (Yd.to64 _ kr_ kr_ rfl rfl) ?_
     refine gy_ 33 rfl rfl rfl (Yd.shl64 (1#64) _ rfl rfl rfl rfl) ?_
     refine gy_ 33 rfl rfl rfl (Yd.geq rfl rfl) ?_
     refine WL.y rfl (Yd.pickF rfl rfl) ?_
     refine nt_ ?_
     refine WC.ite rfl (fun h42 => ?_) (fun h42 => ?_)
     ·refine sr_ ?_
      refine a_ rfl rfl ?_
      refine a_ rfl rfl ?_
      refine nt_ ?_
      refine WC.ret ?_
      refine DN.then_ret ?_
      refine DN.block_ret ?_
      refine DN.then_ret ?_
      first | refine DN.fit (C := C1 ++ H) sp_ ?_ | refine DN.fit (C := H) sp_ ?_
      refine DN.ret2 Tryz.results77 rfl rfl ?_
      first
      | (rw [oneF_0a hs0 h11]; exact ⟨_, [], rfl, Ob.nil _, rfl⟩)
      | (rw [oneF_0b hs0 h11 (by omega)]; exact ⟨_, [], rfl, Ob.nil _, rfl⟩)
      | (rw [oneF_0c hs0 h11 (by omega)]; exact ⟨_, C1, rfl, ho1, rfl⟩)
      | (rw [oneF_1b hs0 (of_decide_eq_true (hz25.symm.trans h25)) (one_ok hg33 h42)]; exact ⟨_, C1, rfl, hC1, rfl⟩)
      | (rw [oneF_1a hs0 (of_decide_eq_true (hz25.symm.trans h25)) (.inl (by omega))]; exact ⟨_, [], rfl, Ob.nil _, rfl⟩)
      | (rw [oneF_1a hs0 (of_decide_eq_true (hz25.symm.trans h25)) (.inr (Int.ofNat_le.1 h42))]; exact ⟨_, [], rfl, Ob.nil _, rfl⟩)
      | (rw [oneF_8a hs0 (of_decide_eq_false (hz25.symm.trans h25)) hs8 (by omega)]; exact ⟨_, [], rfl, Ob.nil _, rfl⟩)
      | (rw [oneF_8b hs0 (of_decide_eq_false (hz25.symm.trans h25)) hs8 (by omega)]; exact ⟨_, C1, rfl, hC1, rfl⟩)
      | (rw [oneF_no hs0 (of_decide_eq_false (hz25.symm.trans h25)) hs8]; exact ⟨_, [], rfl, Ob.nil _, rfl⟩)
     ·refine WC.skip ?_
      refine ts_ ?_
      refine WC.region ?_
      refine f_ 1 kr_ rfl rfl ?_
      refine d_ kr_ rfl mem_ (by rfl) rfl ?_
      refine f_ 0 kr_ rfl rfl ?_
      refine d_ kr_ rfl mem_ (by rfl) rfl ?_
      refine WL.c rfl (Ent.func Tryz.call116 rfl) (rnum_tells f.n f.size hs H) (Sp.p sp_) ?_
      rintro x1 H1 ⟨C1, hC1, rfl⟩
      refine a_ rfl rfl ?_
      refine a_ rfl rfl ?_
      refine nt_ ?_
      refine WC.ret ?_
      refine DN.block_ret ?_
      refine DN.then_ret ?_
      first | refine DN.fit (C := C1 ++ H) sp_ ?_ | refine DN.fit (C := H) sp_ ?_
      refine DN.ret2 Tryz.results77 rfl rfl ?_
      first
      | (rw [oneF_0a hs0 h11]; exact ⟨_, [], rfl, Ob.nil _, rfl⟩)
      | (rw [oneF_0b hs0 h11 (by omega)]; exact ⟨_, [], rfl, Ob.nil _, rfl⟩)
      | (rw [oneF_0c hs0 h11 (by omega)]; exact ⟨_, C1, rfl, ho1, rfl⟩)
      | (rw [oneF_1b hs0 (of_decide_eq_true (hz25.symm.trans h25)) (one_ok hg33 h42)]; exact ⟨_, C1, rfl, hC1, rfl⟩)
      | (rw [oneF_1a hs0 (of_decide_eq_true (hz25.symm.trans h25)) (.inl (by omega))]; exact ⟨_, [], rfl, Ob.nil _, rfl⟩)
      | (rw [oneF_1a hs0 (of_decide_eq_true (hz25.symm.trans h25)) (.inr (Int.ofNat_le.1 h42))]; exact ⟨_, [], rfl, Ob.nil _, rfl⟩)
      | (rw [oneF_8a hs0 (of_decide_eq_false (hz25.symm.trans h25)) hs8 (by omega)]; exact ⟨_, [], rfl, Ob.nil _, rfl⟩)
      | (rw [oneF_8b hs0 (of_decide_eq_false (hz25.symm.trans h25)) hs8 (by omega)]; exact ⟨_, C1, rfl, hC1, rfl⟩)
      | (rw [oneF_no hs0 (of_decide_eq_false (hz25.symm.trans h25)) hs8]; exact ⟨_, [], rfl, Ob.nil _, rfl⟩)
   ·refine sr_ ?_
    refine WL.y rfl (Yd.eql rfl rfl) ?_
    refine a_ rfl rfl ?_
    refine nt_ ?_
    refine WC.ite rfl (fun h48 => ?_) (fun h48 => ?_)
    ·have hs8 : f.size = 8 := by omega
     refine WC.seq ?_
     refine sr_ ?_
     refine f_ 2 kr_ rfl rfl ?_
     refine d_ kr_ rfl mem_ (by rfl) rfl ?_
     refine WL.y rfl (Yd.len (e := 5) kr_ rfl) ?_
     refine WL.y rfl (Yd.neq rfl rfl) ?_
     refine nt_ ?_
     refine WC.ite rfl (fun h53 => ?_) (fun h53 => ?_)
     ·refine sr_ ?_
      refine a_ rfl rfl ?_
      refine a_ rfl rfl ?_
      refine nt_ ?_
      refine WC.ret ?_
      refine DN.then_ret ?_
      refine DN.block_ret ?_
      refine DN.then_ret ?_
      first | refine DN.fit (C := C1 ++ H) sp_ ?_ | refine DN.fit (C := H) sp_ ?_
      refine DN.ret2 Tryz.results77 rfl rfl ?_
      first
      | (rw [oneF_0a hs0 h11]; exact ⟨_, [], rfl, Ob.nil _, rfl⟩)
      | (rw [oneF_0b hs0 h11 (by omega)]; exact ⟨_, [], rfl, Ob.nil _, rfl⟩)
      | (rw [oneF_0c hs0 h11 (by omega)]; exact ⟨_, C1, rfl, ho1, rfl⟩)
      | (rw [oneF_1b hs0 (of_decide_eq_true (hz25.symm.trans h25)) (one_ok hg33 h42)]; exact ⟨_, C1, rfl, hC1, rfl⟩)
      | (rw [oneF_1a hs0 (of_decide_eq_true (hz25.symm.trans h25)) (.inl (by omega))]; exact ⟨_, [], rfl, Ob.nil _, rfl⟩)
      | (rw [oneF_1a hs0 (of_decide_eq_true (hz25.symm.trans h25)) (.inr (Int.ofNat_le.1 h42))]; exact ⟨_, [], rfl, Ob.nil _, rfl⟩)
      | (rw [oneF_8a hs0 (of_decide_eq_false (hz25.symm.trans h25)) hs8 (by omega)]; exact ⟨_, [], rfl, Ob.nil _, rfl⟩)
      | (rw [oneF_8b hs0 (of_decide_eq_false (hz25.symm.trans h25)) hs8 (by omega)]; exact ⟨_, C1, rfl, hC1, rfl⟩)
      | (rw [oneF_no hs0 (of_decide_eq_false (hz25.symm.trans h25)) hs8]; exact ⟨_, [], rfl, Ob.nil _, rfl⟩)
     ·refine WC.skip ?_
      refine ts_ ?_
      refine WC.region ?_
      refine f_ 1 kr_ rfl rfl ?_
      refine d_ kr_ rfl mem_ (by rfl) rfl ?_
      refine WL.c rfl (Ent.func Tryz.call116 rfl) (rnum_tells f.n 8 (by omega) H) (Sp.p sp_) ?_
      rintro x1 H1 ⟨C1, hC1, rfl⟩
      refine a_ rfl rfl ?_
      refine a_ rfl rfl ?_
      refine nt_ ?_
      refine WC.ret ?_
      refine DN.block_ret ?_
      refine DN.then_ret ?_
      first | refine DN.fit (C := C1 ++ H) sp_ ?_ | refine DN.fit (C := H) sp_ ?_
      refine DN.ret2 Tryz.results77 rfl rfl ?_
      first
      | (rw [oneF_0a hs0 h11]; exact ⟨_, [], rfl, Ob.nil _, rfl⟩)
      | (rw [oneF_0b hs0 h11 (by omega)]; exact ⟨_, [], rfl, Ob.nil _, rfl⟩)
      | (rw [oneF_0c hs0 h11 (by omega)]; exact ⟨_, C1, rfl, ho1, rfl⟩)
      | (rw [oneF_1b hs0 (of_decide_eq_true (hz25.symm.trans h25)) (one_ok hg33 h42)]; exact ⟨_, C1, rfl, hC1, rfl⟩)
      | (rw [oneF_1a hs0 (of_decide_eq_true (hz25.symm.trans h25)) (.inl (by omega))]; exact ⟨_, [], rfl, Ob.nil _, rfl⟩)
      | (rw [oneF_1a hs0 (of_decide_eq_true (hz25.symm.trans h25)) (.inr (Int.ofNat_le.1 h42))]; exact ⟨_, [], rfl, Ob.nil _, rfl⟩)
      | (rw [oneF_8a hs0 (of_decide_eq_false (hz25.symm.trans h25)) hs8 (by omega)]; exact ⟨_, [], rfl, Ob.nil _, rfl⟩)
      | (rw [oneF_8b hs0 (of_decide_eq_false (hz25.symm.trans h25)) hs8 (by omega)]; exact ⟨_, C1, rfl, hC1, rfl⟩)
      | (rw [oneF_no hs0 (of_decide_eq_false (hz25.symm.trans h25)) hs8]; exact ⟨_, [], rfl, Ob.nil _, rfl⟩)
    ·have hs8 : ¬ f.size = 8 := by omega
     refine WC.skip ?_
     refine DN.block_normal ?_
     refine ts_ ?_
     refine WC.region ?_
     refine a_ rfl rfl ?_
     refine a_ rfl rfl ?_
     refine nt_ ?_
     refine WC.ret ?_
     first | refine DN.fit (C := C1 ++ H) sp_ ?_ | refine DN.fit (C := H) sp_ ?_
     refine DN.ret2 Tryz.results77 rfl rfl ?_
     first
     | (rw [oneF_0a hs0 h11]; exact ⟨_, [], rfl, Ob.nil _, rfl⟩)
     | (rw [oneF_0b hs0 h11 (by omega)]; exact ⟨_, [], rfl, Ob.nil _, rfl⟩)
     | (rw [oneF_0c hs0 h11 (by omega)]; exact ⟨_, C1, rfl, ho1, rfl⟩)
     | (rw [oneF_1b hs0 (of_decide_eq_true (hz25.symm.trans h25)) (one_ok hg33 h42)]; exact ⟨_, C1, rfl, hC1, rfl⟩)
     | (rw [oneF_1a hs0 (of_decide_eq_true (hz25.symm.trans h25)) (.inl (by omega))]; exact ⟨_, [], rfl, Ob.nil _, rfl⟩)
     | (rw [oneF_1a hs0 (of_decide_eq_true (hz25.symm.trans h25)) (.inr (Int.ofNat_le.1 h42))]; exact ⟨_, [], rfl, Ob.nil _, rfl⟩)
     | (rw [oneF_8a hs0 (of_decide_eq_false (hz25.symm.trans h25)) hs8 (by omega)]; exact ⟨_, [], rfl, Ob.nil _, rfl⟩)
     | (rw [oneF_8b hs0 (of_decide_eq_false (hz25.symm.trans h25)) hs8 (by omega)]; exact ⟨_, C1, rfl, hC1, rfl⟩)
     | (rw [oneF_no hs0 (of_decide_eq_false (hz25.symm.trans h25)) hs8]; exact ⟨_, [], rfl, Ob.nil _, rfl⟩)
theorem rput_tells (v : Value) (cs : List Value) (fs : List Fld) (H : List Ck) (hr : Rs v fs.length cs H) (hk : FVs H cs fs) (hl : fs.length ≤ 3000) (hb : ∀ f ∈ fs, f.text.length ≤ 1000000 ∧ f.size ≤ 8) : Tells Tryz.prog 46 [v] H fun r H' => ∃ w A, r = .tuple #[w, .int .i64 (putL fs []).2] ∧ Ob 5 w (putL fs []).1 A ∧ H' = A ++ H := by
 refine Tells.enter Tryz.func46 rfl Tryz.ntmps46 rfl ?_
 intro w0 R
 obtain ⟨ao, c, rfl, hc⟩ := hr.form
 have hcl := hk.len
 refine sr_ ?_
 refine a_ rfl rfl ?_
 refine a_ rfl rfl ?_
 refine ntsr_ ?_
 refine a_ rfl rfl ?_
 refine nt_ ?_
 refine WC.seq ?_
 refine sr_ ?_
 refine a_ rfl rfl ?_
 refine nt_ ?_
 refine WC.block ?_
 refine WC.loopS (fun z : Nat × List (BitVec 8) × Value × List Ck => z.1 ≤ fs.length ∧ z.2.1.length ≤ z.1 * 256 ∧ putL fs [] = putL (fs.drop z.1) z.2.1 ∧ Ob 5 z.2.2.1 z.2.1 z.2.2.2) (fun z : Nat × List (BitVec 8) × Value × List Ck => [(4, z.2.2.1), (5, .int .i64 (z.1 : Int))]) (fun z : Nat × List (BitVec 8) × Value × List Ck => z.2.2.2 ++ H) (fun z : Nat × List (BitVec 8) × Value × List Ck => fs.length - z.1) (⟨0, [], .slice none 0 0, []⟩) (show 0 ≤ fs.length ∧ [].length ≤ 0 * 256 ∧ putL fs [] = putL (fs.drop 0) [] ∧ Ob 5 (.slice none 0 0) [] [] from ⟨Nat.zero_le _, Nat.le_refl _, rfl, Ob.nil _⟩) (Sx.put rfl (Sx.put rfl (sx_))) sp_ ?_
 rintro ⟨i, o, w, A⟩ hI
 replace hI : i ≤ fs.length ∧ o.length ≤ i * 256 ∧ putL fs [] = putL (fs.drop i) o ∧ Ob 5 w o A := hI
 obtain ⟨hi, hol, hput, hA⟩ := hI
 change WC _ _ _ _ _ _ ([(4, w), (5, .int .i64 (i : Int))] ++ _) (A ++ H)
 refine WC.seq ?_
 refine sr_ ?_
 refine m_ rfl rfl ?_
 refine m_ rfl rfl ?_
 refine WL.y rfl (Yd.len (e := 98) kr_ rfl) ?_
 refine WL.y rfl (Yd.lss rfl rfl) ?_
 refine nt_ ?_
 refine WC.ite rfl (fun h11 => ?_) (fun h11 => ?_)
 ·have hlt : i < fs.length := by omega
  obtain ⟨vt, hg, hvt⟩ := hk.at i hlt
  have hcons := List.drop_eq_getElem_cons hlt
  have hbi := hb _ (List.getElem_mem hlt)
  have hol1 := oneF_len fs[i]
  refine WC.skip ?_
  refine ts_ ?_
  refine WC.block ?_
  refine sr_ ?_
  refine m_ rfl rfl ?_
  refine m_ rfl rfl ?_
  refine WL.elemA (e := 98) (s := 3) kr_ kr_ kr_ rfl rfl (rfl) (hr.mono gr_) (hg) (by rfl) (by omega) (hlt) rfl rfl ?_
  intro p17
  refine WL.c rfl (Ent.func Tryz.call77 rfl) (rone_tells fs[i] vt H hvt hbi.1 hbi.2) (Sp.p sp_) ?_
  rintro x1 H1 ⟨w1, A1, rfl, hA1, rfl⟩
  refine m_ rfl rfl ?_
  refine x_ rfl rfl rfl ?_
  refine x_ rfl rfl rfl ?_
  refine a_ rfl rfl ?_
  refine a_ rfl rfl ?_
  refine nt_ ?_
  refine WC.seq ?_
  refine sr_ ?_
  refine m_ rfl rfl ?_
  refine WL.y rfl (Yd.neq rfl rfl) ?_
  refine nt_ ?_
  refine WC.ite rfl (fun h23 => ?_) (fun h23 => ?_)
  ·refine sr_ ?_
   refine m_ rfl rfl ?_
   refine a_ rfl rfl ?_
   refine a_ rfl rfl ?_
   refine nt_ ?_
   refine WC.ret ?_
   refine DN.then_ret ?_
   refine DN.block_ret ?_
   refine DN.then_ret ?_
   refine DN.then_ret ?_
   refine DN.block_ret ?_
   refine DN.then_ret ?_
   refine DN.fit (C := H) sp_ ?_
   refine DN.ret2 Tryz.results46 rfl rfl ?_
   rw [hput, hcons, putL_err h23]
   exact ⟨_, [], rfl, Ob.nil _, rfl⟩
  ·refine WC.skip ?_
   refine DN.then_normal ?_
   refine WC.region ?_
   refine m_ rfl rfl ?_
   refine m_ rfl rfl ?_
   refine WL.h rfl (Hd.appendBs (e := 5) (zs := [.int .u8 0]) kr_ kr_ rfl rfl rfl hA sp_ (hA1.bs.mono gr_) (by omega) fun v2 C2 ho2 => ⟨_, rfl, ?_⟩)
   refine a_ rfl rfl ?_
   refine WL.nil ?_
   refine DN.block_normal ?_
   refine DN.then_normal ?_
   refine WC.region ?_
   refine m_ rfl rfl ?_
   refine WL.y rfl (Yd.add rfl rfl (by omega) (by omega)) ?_
   refine a_ rfl rfl ?_
   refine WL.nil ?_
   exact DN.againS (⟨i + 1, o ++ (oneF fs[i]).1, v2, C2⟩) (show (i + 1) ≤ fs.length ∧ (o ++ (oneF fs[i]).1).length ≤ (i + 1) * 256 ∧ putL fs [] = putL (fs.drop (i + 1)) (o ++ (oneF fs[i]).1) ∧ Ob 5 v2 (o ++ (oneF fs[i]).1) C2 from ⟨by omega, by rw [List.length_append]; omega, by rw [hput, hcons, putL_ok h23], ho2⟩) (show fs.length - (i + 1) < fs.length - i by omega) (Sx.put rfl (Sx.put rfl (sx_))) sp_
 ·obtain rfl : fs.length = i := by omega
  rw [List.drop_length] at hput
  refine WC.exit ?_
  refine DN.then_exit ?_
  refine DN.then_exit ?_
  refine DN.block_exit ?_
  refine ts_ ?_
  refine WC.region ?_
  refine m_ rfl rfl ?_
  refine a_ rfl rfl ?_
  refine a_ rfl rfl ?_
  refine nt_ ?_
  refine WC.ret ?_
  refine DN.fit (C := A ++ H) sp_ ?_
  refine DN.ret2 Tryz.results46 rfl rfl ?_
  rw [hput]
  exact ⟨_, A, rfl, hA, rfl⟩
end Go.Proofs.YtkamlondepceiaaGreat

set_option linter.unusedVariables false
set_option linter.unusedSimpArgs false
set_option maxHeartbeats 4000000
namespace Go.Proofs.YtkamlondepceiaaGreat
open Go.SL
theorem rencode_tells (w : Wk) (v : Value) (H : List Ck) (hv : Bs v w.name H) (hl : w.name.length ≤ 1000000) : Tells Tryz.prog 12 [.agg (wkc w v).toArray] H fun r H' => ∃ x A, r = .tuple #[x, .int .i64 (encE w)] ∧ Ob 5 x (encB w) A ∧ H' = A ++ H := by
 refine Tells.enter Tryz.func12 rfl Tryz.ntmps12 rfl ?_
 intro w0 R
 obtain ⟨no, nc, rfl, hnc⟩ := hv.form
 refine sr_ ?_
 refine WL.h rfl (Hd.boxA rfl fun b1 => ⟨_, rfl, ?_⟩)
 refine a_ rfl rfl ?_
 refine a_ rfl rfl ?_
 refine nt_ ?_
 refine WC.seq ?_
 refine WC.cutK (fun z : Bool => z = !decide (wkGood w)) (fun z : Bool => [(27, .bool z)]) (fun z : Bool => row b1 (wkc w (.slice no w.name.length nc)) 24 :: H) ?_ ?_
 ·refine WC.region ?_
  refine f_ 0 kr_ rfl rfl ?_
  refine d_ kr_ rfl mem_ (by rfl) rfl ?_
  refine WL.y rfl (Yd.lss rfl rfl) ?_
  refine m_ rfl rfl ?_
  refine WL.partP (t := 7) rfl (fun hg7 => ?_) (fun hg7 => ?_)
  ·iterate 3 refine gn_ 7 rfl rfl rfl rfl ?_
   refine WL.y rfl (Yd.pickT rfl rfl) ?_
   refine m_ rfl rfl ?_
   iterate 3 refine gn_ 12 rfl rfl rfl rfl ?_
   refine WL.y rfl (Yd.pickT rfl rfl) ?_
   refine m_ rfl rfl ?_
   iterate 3 refine gn_ 17 rfl rfl rfl rfl ?_
   refine WL.y rfl (Yd.pickT rfl rfl) ?_
   refine m_ rfl rfl ?_
   iterate 4 refine gn_ 22 rfl rfl rfl rfl ?_
   refine WL.y rfl (Yd.pickT rfl rfl) ?_
   refine WL.nil ?_
   exact DN.reachK (_) (wk_z (by unfold wkGood; simp only [decide_eq_true_eq, eq_self, true_iff, Bool.false_eq_true, false_iff]; omega)) (Sx.put rfl (sx_)) (Sp.all sp_)
  ·refine gy_ 7 rfl rfl rfl (Yd.fieldAddr (k := 0) kr_ rfl) ?_
   refine WL.gh (dj := 7) rfl rfl rfl (Hd.load1 kr_ rfl mem_ (by rfl) ⟨_, rfl, ?_⟩)
   refine gy_ 7 rfl rfl rfl (Yd.gtr rfl rfl) ?_
   refine WL.y rfl (Yd.pickF rfl rfl) ?_
   refine m_ rfl rfl ?_
   refine WL.partP (t := 12) rfl (fun hg12 => ?_) (fun hg12 => ?_)
   ·iterate 3 refine gn_ 12 rfl rfl rfl rfl ?_
    refine WL.y rfl (Yd.pickT rfl rfl) ?_
    refine m_ rfl rfl ?_
    iterate 3 refine gn_ 17 rfl rfl rfl rfl ?_
    refine WL.y rfl (Yd.pickT rfl rfl) ?_
    refine m_ rfl rfl ?_
    iterate 4 refine gn_ 22 rfl rfl rfl rfl ?_
    refine WL.y rfl (Yd.pickT rfl rfl) ?_
    refine WL.nil ?_
    exact DN.reachK (_) (wk_z (by unfold wkGood; simp only [decide_eq_true_eq, eq_self, true_iff, Bool.false_eq_true, false_iff]; omega)) (Sx.put rfl (sx_)) (Sp.all sp_)
   ·refine gy_ 12 rfl rfl rfl (Yd.fieldAddr (k := 1) kr_ rfl) ?_
    refine WL.gh (dj := 12) rfl rfl rfl (Hd.load1 kr_ rfl mem_ (by rfl) ⟨_, rfl, ?_⟩)
    refine gy_ 12 rfl rfl rfl (Yd.lss rfl rfl) ?_
    refine WL.y rfl (Yd.pickF rfl rfl) ?_
    refine m_ rfl rfl ?_
    refine WL.partP (t := 17) rfl (fun hg17 => ?_) (fun hg17 => ?_)
    ·iterate 3 refine gn_ 17 rfl rfl rfl rfl ?_
     refine WL.y rfl (Yd.pickT rfl rfl) ?_
     refine m_ rfl rfl ?_
     iterate 4 refine gn_ 22 rfl rfl rfl rfl ?_
     refine WL.y rfl (Yd.pickT rfl rfl) ?_
     refine WL.nil ?_
     exact DN.reachK (_) (wk_z (by unfold wkGood; simp only [decide_eq_true_eq, eq_self, true_iff, Bool.false_eq_true, false_iff]; omega)) (Sx.put rfl (sx_)) (Sp.all sp_)
    ·refine gy_ 17 rfl rfl rfl (Yd.fieldAddr (k := 1) kr_ rfl) ?_
     refine WL.gh (dj := 17) rfl rfl rfl (Hd.load1 kr_ rfl mem_ (by rfl) ⟨_, rfl, ?_⟩)
     refine gy_ 17 rfl rfl rfl (Yd.gtr rfl rfl) ?_
     refine WL.y rfl (Yd.pickF rfl rfl) ?_
     refine m_ rfl rfl ?_
     refine WL.partP (t := 22) rfl (fun hg22 => ?_) (fun hg22 => ?_)
     ·iterate 4 refine gn_ 22 rfl rfl rfl rfl ?_
      refine WL.y rfl (Yd.pickT rfl rfl) ?_
      refine WL.nil ?_
      exact DN.reachK (_) (wk_z (by unfold wkGood; simp only [decide_eq_true_eq, eq_self, true_iff, Bool.false_eq_true, false_iff]; omega)) (Sx.put rfl (sx_)) (Sp.all sp_)
     ·refine gy_ 22 rfl rfl rfl (Yd.fieldAddr (k := 2) kr_ rfl) ?_
      refine WL.gh (dj := 22) rfl rfl rfl (Hd.load1 kr_ rfl mem_ (by rfl) ⟨_, rfl, ?_⟩)
      refine gy_ 22 rfl rfl rfl (Yd.len (e := 5) kr_ rfl) ?_
      refine gy_ 22 rfl rfl rfl (Yd.gtr rfl rfl) ?_
      refine WL.y rfl (Yd.pickF rfl rfl) ?_
      refine WL.nil ?_
      exact DN.reachK (_) (wk_z (by unfold wkGood; simp only [decide_eq_true_eq, eq_self, true_iff, Bool.false_eq_true, false_iff]; omega)) (Sx.put rfl (sx_)) (Sp.all sp_)
 ·intro z hz
  refine WC.cond rfl (fun h27 => ?_) (fun h27 => ?_)
  ·have hb : ¬ wkGood w := by rw [hz] at h27; simpa using h27
   refine sr_ ?_
   refine a_ rfl rfl ?_
   refine a_ rfl rfl ?_
   refine nt_ ?_
   refine WC.ret ?_
   refine DN.then_ret ?_
   refine DN.fit (C := H) sp_ ?_
   refine DN.ret2 Tryz.results12 rfl rfl ?_
   rw [(enc_bad hb).1, (enc_bad hb).2]
   exact ⟨_, [], rfl, Ob.nil _, rfl⟩
  ·have hg : wkGood w := by rw [hz] at h27; simpa using h27
   have hF : FVs H ((fdc ⟨1, BitVec.ofInt 64 w.what, []⟩ (.slice none 0 0)) ++ (fdc ⟨4, BitVec.ofInt 64 w.n, []⟩ (.slice none 0 0)) ++ (fdc ⟨0, 0#64, w.name⟩ (.slice no w.name.length nc))) (fsW w) := FVs.cons (f := ⟨1, BitVec.ofInt 64 w.what, []⟩) (.inl ⟨_, _, rfl, rfl, rfl⟩) (FVs.cons (f := ⟨4, BitVec.ofInt 64 w.n, []⟩) (.inl ⟨_, _, rfl, rfl, rfl⟩) (FVs.cons (f := ⟨0, 0#64, w.name⟩) hv .nil))
   refine WC.skip ?_
   refine ts_ ?_
   refine WC.region ?_
   refine f_ 0 kr_ rfl rfl ?_
   refine d_ kr_ rfl mem_ (by rfl) rfl ?_
   refine WL.y rfl (Yd.to64 _ kr_ kr_ rfl rfl) ?_
   refine WL.y rfl (Yd.buildL (pl := [(0, 1), (1, 1), (2, 1)]) (zs := [.int .i64 0, .int .u64 0, .slice none 0 0]) (parts := [(0, .const (.int .i64 1)), (1, .tmp 30)]) (vs := [(0, _), (1, _)]) (cells := [_, _, .slice none 0 0]) kr_ kr_ rfl rfl) ?_
   refine f_ 1 kr_ rfl rfl ?_
   refine d_ kr_ rfl mem_ (by rfl) rfl ?_
   refine WL.y rfl (Yd.to64 _ kr_ kr_ rfl rfl) ?_
   refine WL.y rfl (Yd.buildL (pl := [(0, 1), (1, 1), (2, 1)]) (zs := [.int .i64 0, .int .u64 0, .slice none 0 0]) (parts := [(0, .const (.int .i64 4)), (1, .tmp 34)]) (vs := [(0, _), (1, _)]) (cells := [_, _, .slice none 0 0]) kr_ kr_ rfl rfl) ?_
   refine f_ 2 kr_ rfl rfl ?_
   refine d_ kr_ rfl mem_ (by rfl) rfl ?_
   refine WL.y rfl (Yd.buildL (pl := [(0, 1), (1, 1), (2, 1)]) (zs := [.int .i64 0, .int .u64 0, .slice none 0 0]) (parts := [(2, .tmp 37)]) (vs := [(2, _)]) (cells := [.int .i64 0, .int .u64 0, _]) kr_ kr_ rfl rfl) ?_
   refine WL.h rfl (Hd.buildSlice (e := 98) (sz := 3) (zs := [.int .i64 0, .int .u64 0, .slice none 0 0]) (parts := [(0, .tmp 31), (1, .tmp 35), (2, .tmp 38)]) (vs := [(0, .agg (fdc ⟨1, BitVec.ofInt 64 w.what, []⟩ (.slice none 0 0)).toArray), (1, .agg (fdc ⟨4, BitVec.ofInt 64 w.n, []⟩ (.slice none 0 0)).toArray), (2, .agg (fdc ⟨0, 0#64, w.name⟩ (.slice no w.name.length nc)).toArray)]) (cells := (fdc ⟨1, BitVec.ofInt 64 w.what, []⟩ (.slice none 0 0)) ++ (fdc ⟨4, BitVec.ofInt 64 w.n, []⟩ (.slice none 0 0)) ++ (fdc ⟨0, 0#64, w.name⟩ (.slice no w.name.length nc))) kr_ kr_ kr_ rfl kr_ kr_ fun b39 => ⟨_, rfl, ?_⟩)
   refine WL.c rfl (Ent.func Tryz.call46 rfl) (rput_tells _ ((fdc ⟨1, BitVec.ofInt 64 w.what, []⟩ (.slice none 0 0)) ++ (fdc ⟨4, BitVec.ofInt 64 w.n, []⟩ (.slice none 0 0)) ++ (fdc ⟨0, 0#64, w.name⟩ (.slice no w.name.length nc))) (fsW w) (row b39 ((fdc ⟨1, BitVec.ofInt 64 w.what, []⟩ (.slice none 0 0)) ++ (fdc ⟨4, BitVec.ofInt 64 w.n, []⟩ (.slice none 0 0)) ++ (fdc ⟨0, 0#64, w.name⟩ (.slice no w.name.length nc))) 98 :: H) (.inr ⟨b39, 0, 3, _, 98, (0, 0), true, rfl, Nat.le_refl _, List.mem_cons_self, rfl⟩) (hF.mono gr_) (by show 3 ≤ 3000; omega) (wfs_small w hl)) (Sp.p sp_) ?_
   rintro x1 H1 ⟨x2, A, rfl, hA, rfl⟩
   rw [putL_W hg] at hA ⊢
   refine x_ rfl rfl rfl ?_
   refine x_ rfl rfl rfl ?_
   refine a_ rfl rfl ?_
   refine a_ rfl rfl ?_
   refine nt_ ?_
   refine WC.ret ?_
   refine DN.fit (C := A ++ H) sp_ ?_
   refine DN.ret2 Tryz.results12 rfl rfl ?_
   rw [(enc_good hg).1, (enc_good hg).2]
   exact ⟨_, A, rfl, hA, rfl⟩
end Go.Proofs.YtkamlondepceiaaGreat

set_option linter.unusedVariables false
set_option linter.unusedSimpArgs false
set_option maxHeartbeats 4000000
namespace Go.Proofs.YtkamlondepceiaaGreat
open Go.SL
theorem step_tells (ep o : BitVec 32) (st : Int) (u : Bool) (w : Wk) (v : Value) (H : List Ck) (hv : Bs v w.name H) (hl : w.name.length ≤ 1000000) : Tells Tryz.prog 39 [.int .u32 ep.toNat, .int .u32 o.toNat, .int .i64 st, .bool u, .agg (wkc w v).toArray] H fun r H' => ∃ x A, r = .agg (ntc (stepW ep o st u (encB w)) (.slice none 0 0) x).toArray ∧ Ob 5 x (encB w) A ∧ H' = A ++ H := by
 refine Tells.enter Tryz.func39 rfl Tryz.ntmps39 rfl ?_
 intro w0 R
 obtain ⟨no, nc, rfl, hnc⟩ := hv.form
 refine sr_ ?_
 refine WL.h rfl (Hd.boxA rfl fun b9 => ⟨_, rfl, ?_⟩)
 refine WL.h rfl (Hd.alloc (zs := [.int .i64 0, .int .u32 0, .int .u32 0, .int .u64 0, .int .u64 0, .int .u32 0, .int .i64 0, .bool false, .int .i64 0, .slice none 0 0, .slice none 0 0]) kr_ fun b10 => ⟨_, rfl, ?_⟩)
 refine ntsr_ ?_
 refine WL.h rfl (Hd.loadAll (n := 3) kr_ rfl mem_ (by rfl) ⟨_, rfl, ?_⟩)
 refine WL.c rfl (Ent.func Tryz.call12 rfl) (rencode_tells w _ H hv hl) (Sp.p sp_) ?_
 rintro x0 H9 ⟨x, A, rfl, hA, rfl⟩
 obtain ⟨xo, xc, rfl, _⟩ := hA.form
 refine m_ rfl rfl ?_
 refine x_ rfl rfl rfl ?_
 refine x_ rfl rfl rfl ?_
 refine a_ rfl rfl ?_
 refine a_ rfl rfl ?_
 refine ntsr_ ?_
 iterate 5 refine m_ rfl rfl ?_
 refine WL.y rfl (Yd.buildL (pl := [(0, 1), (1, 1), (2, 1), (3, 1), (4, 1), (5, 1), (6, 1), (7, 1), (8, 1), (9, 1), (10, 1)]) (zs := [.int .i64 0, .int .u32 0, .int .u32 0, .int .u64 0, .int .u64 0, .int .u32 0, .int .i64 0, .bool false, .int .i64 0, .slice none 0 0, .slice none 0 0]) (parts := [(0, .const (.int .i64 7)), (1, .tmp 18), (5, .tmp 19), (6, .tmp 20), (7, .tmp 21), (10, .tmp 22)]) (vs := [(0, _), (1, _), (5, _), (6, _), (7, _), (10, _)]) (cells := [_, _, .int .u32 0, .int .u64 0, .int .u64 0, _, _, _, .int .i64 0, .slice none 0 0, _]) kr_ kr_ rfl rfl) ?_
 refine WL.s (Hd.storeAll (n := 11) kr_ rfl rfl (by rfl) one_ fr_ (by rfl) ⟨rfl, ?_⟩)
 refine nt_ ?_
 refine WC.ret ?_
 refine DN.retCS (s := 11) (A ++ H) Tryz.results39 kr_ rfl mem_ (by rfl) sp_ ?_
 exact ⟨_, A, rfl, hA, rfl⟩
end Go.Proofs.YtkamlondepceiaaGreat

set_option linter.unusedVariables false
set_option linter.unusedSimpArgs false
set_option maxHeartbeats 4000000
namespace Go.Proofs.YtkamlondepceiaaGreat
open Go.SL
theorem note_tells (a : As) (vn vd : Value) (H : List Ck) (hn : Bs vn a.w.name H) (hd : Bs vd a.data H) (hl : a.w.name.length ≤ 1000000) : Tells Tryz.prog 20 [.agg (asc a vn vd).toArray] H fun r H' => ∃ x A, r = .agg (ntc (noteA a) (.slice none 0 0) x).toArray ∧ Bs x (noteA a).data (A ++ H) ∧ H' = A ++ H := by
 refine Tells.enter Tryz.func20 rfl Tryz.ntmps20 rfl ?_
 intro w0 R
 obtain ⟨no, nc, rfl, hnc⟩ := hn.form
 obtain ⟨do_, dc, rfl, hdc⟩ := hd.form
 refine sr_ ?_
 refine WL.h rfl (Hd.boxA rfl fun b1 => ⟨_, rfl, ?_⟩)
 refine WL.h rfl (Hd.alloc (zs := [.int .i64 0, .int .u32 0, .int .u32 0, .int .u64 0, .int .u64 0, .int .u32 0, .int .i64 0, .bool false, .int .i64 0, .slice none 0 0, .slice none 0 0]) kr_ fun b2 => ⟨_, rfl, ?_⟩)
 refine ntsr_ ?_
 refine f_ 0 kr_ rfl rfl ?_
 refine d_ kr_ rfl mem_ (by rfl) rfl ?_
 refine f_ 1 kr_ rfl rfl ?_
 refine d_ kr_ rfl mem_ (by rfl) rfl ?_
 refine f_ 2 kr_ rfl rfl ?_
 refine d_ kr_ rfl mem_ (by rfl) rfl ?_
 refine f_ 3 kr_ rfl rfl ?_
 refine d_ kr_ rfl mem_ (by rfl) rfl ?_
 refine f_ 4 kr_ rfl rfl ?_
 refine WL.h rfl (Hd.loadA (n := 3) (vs := [_, _, _]) kr_ rfl mem_ (by rfl) (by rfl) ⟨_, rfl, ?_⟩)
 refine WL.c rfl (Ent.func Tryz.call39 rfl) (step_tells a.ep a.o a.st a.u a.w _ H hn hl) (Sp.p sp_) ?_
 rintro x0 H9 ⟨x, A, rfl, hA, rfl⟩
 obtain ⟨xo, xc, rfl, _⟩ := hA.form
 refine WL.h rfl (Hd.alloc (zs := [.int .i64 0, .int .u32 0, .int .u32 0, .int .u64 0, .int .u64 0, .int .u32 0, .int .i64 0, .bool false, .int .i64 0, .slice none 0 0, .slice none 0 0]) kr_ fun b3 => ⟨_, rfl, ?_⟩)
 refine WL.s (Hd.storeAll (n := 11) kr_ rfl rfl (by rfl) one_ fr_ (by rfl) ⟨rfl, ?_⟩)
 refine nt_ ?_
 refine WC.seq ?_
 refine sr_ ?_
 refine f_ 7 kr_ rfl rfl ?_
 refine d_ kr_ rfl mem_ (by rfl) rfl ?_
 refine WL.y rfl (Yd.len (e := 5) kr_ rfl) ?_
 refine WL.y rfl (Yd.gtr rfl rfl) ?_
 refine nt_ ?_
 refine WC.ite rfl (fun h18 => ?_) (fun h18 => ?_)
 ·have hp : 0 < a.data.length := by omega
  refine WC.region ?_
  refine f_ 7 kr_ rfl rfl ?_
  refine d_ kr_ rfl mem_ (by rfl) rfl ?_
  refine f_ 10 kr_ rfl rfl ?_
  refine WL.s (Hd.store1s kr_ rfl rfl (by rfl) fr_ (by rfl) (by first | (simp only [List.set_cons_zero, List.set_cons_succ, Nat.zero_add, Nat.add_zero, Nat.reduceAdd]; rfl) | rfl) ⟨rfl, ?_⟩)
  refine ntsr_ ?_
  refine WL.h rfl (Hd.loadAll (n := 11) kr_ rfl mem_ (by rfl) ⟨_, rfl, ?_⟩)
  refine WL.s (Hd.storeAll (n := 11) kr_ rfl rfl (by rfl) one_ fr_ (by rfl) ⟨rfl, ?_⟩)
  refine nt_ ?_
  refine WC.ret ?_
  refine DN.retCS (s := 11) H Tryz.results20 kr_ rfl mem_ (by rfl) sp_ ?_
  refine ⟨.slice do_ a.data.length dc, [], ?_, ?_, rfl⟩
  · unfold noteA; rw [if_pos hp]; try rfl
  · unfold noteA; rw [if_pos hp]; exact hd
 ·have hp : ¬ 0 < a.data.length := by omega
  refine WC.skip ?_
  refine ts_ ?_
  refine WC.region ?_
  refine WL.h rfl (Hd.loadAll (n := 11) kr_ rfl mem_ (by rfl) ⟨_, rfl, ?_⟩)
  refine WL.s (Hd.storeAll (n := 11) kr_ rfl rfl (by rfl) one_ fr_ (by rfl) ⟨rfl, ?_⟩)
  refine nt_ ?_
  refine WC.ret ?_
  refine DN.retCS (s := 11) (A ++ H) Tryz.results20 kr_ rfl mem_ (by rfl) sp_ ?_
  refine ⟨.slice xo (encB a.w).length xc, A, ?_, ?_, rfl⟩
  · unfold noteA; rw [if_neg hp]; try rfl
  · unfold noteA; rw [if_neg hp]; exact hA.bs.mono gr_
end Go.Proofs.YtkamlondepceiaaGreat

set_option linter.unusedVariables false
set_option linter.unusedSimpArgs false
set_option maxHeartbeats 4000000
namespace Go.Proofs.YtkamlondepceiaaGreat
open Go.SL
theorem same05_reads (a b : Nt) (vk vd uk ud : Value) (H : List Ck) (h1 : Bs vk a.key H) (h2 : Bs vd a.data H) (h3 : Bs uk b.key H) (h4 : Bs ud b.data H) : Reads Tryz.prog 34 [.agg (ntc a vk vd).toArray, .agg (ntc b uk ud).toArray] H (.bool (sameNt a b)) := by
 refine Tells.enter Tryz.func34 rfl Tryz.ntmps34 rfl ?_
 intro w0 R
 obtain ⟨o1, c1, rfl, _⟩ := h1.form
 obtain ⟨o2, c2, rfl, _⟩ := h2.form
 obtain ⟨o3, c3, rfl, _⟩ := h3.form
 obtain ⟨o4, c4, rfl, _⟩ := h4.form
 refine sr_ ?_
 refine WL.h rfl (Hd.boxA rfl fun b2 => ⟨_, rfl, ?_⟩)
 refine WL.h rfl (Hd.boxA rfl fun b3 => ⟨_, rfl, ?_⟩)
 refine a_ rfl rfl ?_
 refine ntsr_ ?_
 refine f_ 0 kr_ rfl rfl ?_
 refine d_ kr_ rfl mem_ (by rfl) rfl ?_
 refine f_ 0 kr_ rfl rfl ?_
 refine d_ kr_ rfl mem_ (by rfl) rfl ?_
 refine WL.y rfl (Yd.eql rfl rfl) ?_
 refine m_ rfl rfl ?_
 refine WL.partP (t := 10) rfl (fun hg10 => ?_) (fun hg10 => ?_)
 ·refine gy_ 10 rfl rfl rfl (Yd.fieldAddr (k := 1) kr_ rfl) ?_
  refine WL.gh (dj := 10) rfl rfl rfl (Hd.load1 kr_ rfl mem_ (by rfl) ⟨_, rfl, ?_⟩)
  refine gy_ 10 rfl rfl rfl (Yd.fieldAddr (k := 1) kr_ rfl) ?_
  refine WL.gh (dj := 10) rfl rfl rfl (Hd.load1 kr_ rfl mem_ (by rfl) ⟨_, rfl, ?_⟩)
  refine gy_ 10 rfl rfl rfl (Yd.eql32 _ _ rfl rfl rfl rfl) ?_
  refine WL.y rfl (Yd.pickT rfl rfl) ?_
  refine m_ rfl rfl ?_
  refine WL.partP (t := 17) rfl (fun hg17 => ?_) (fun hg17 => ?_)
  ·refine gy_ 17 rfl rfl rfl (Yd.fieldAddr (k := 2) kr_ rfl) ?_
   refine WL.gh (dj := 17) rfl rfl rfl (Hd.load1 kr_ rfl mem_ (by rfl) ⟨_, rfl, ?_⟩)
   refine gy_ 17 rfl rfl rfl (Yd.fieldAddr (k := 2) kr_ rfl) ?_
   refine WL.gh (dj := 17) rfl rfl rfl (Hd.load1 kr_ rfl mem_ (by rfl) ⟨_, rfl, ?_⟩)
   refine gy_ 17 rfl rfl rfl (Yd.eql32 _ _ rfl rfl rfl rfl) ?_
   refine WL.y rfl (Yd.pickT rfl rfl) ?_
   refine m_ rfl rfl ?_
   refine WL.partP (t := 24) rfl (fun hg24 => ?_) (fun hg24 => ?_)
   ·refine gy_ 24 rfl rfl rfl (Yd.fieldAddr (k := 3) kr_ rfl) ?_
    refine WL.gh (dj := 24) rfl rfl rfl (Hd.load1 kr_ rfl mem_ (by rfl) ⟨_, rfl, ?_⟩)
    refine gy_ 24 rfl rfl rfl (Yd.fieldAddr (k := 3) kr_ rfl) ?_
    refine WL.gh (dj := 24) rfl rfl rfl (Hd.load1 kr_ rfl mem_ (by rfl) ⟨_, rfl, ?_⟩)
    refine gy_ 24 rfl rfl rfl (Yd.eql64 _ _ rfl rfl rfl rfl) ?_
    refine WL.y rfl (Yd.pickT rfl rfl) ?_
    refine m_ rfl rfl ?_
    refine WL.partP (t := 31) rfl (fun hg31 => ?_) (fun hg31 => ?_)
    ·refine gy_ 31 rfl rfl rfl (Yd.fieldAddr (k := 4) kr_ rfl) ?_
     refine WL.gh (dj := 31) rfl rfl rfl (Hd.load1 kr_ rfl mem_ (by rfl) ⟨_, rfl, ?_⟩)
     refine gy_ 31 rfl rfl rfl (Yd.fieldAddr (k := 4) kr_ rfl) ?_
     refine WL.gh (dj := 31) rfl rfl rfl (Hd.load1 kr_ rfl mem_ (by rfl) ⟨_, rfl, ?_⟩)
     refine gy_ 31 rfl rfl rfl (Yd.eql64 _ _ rfl rfl rfl rfl) ?_
     refine WL.y rfl (Yd.pickT rfl rfl) ?_
     refine m_ rfl rfl ?_
     refine WL.partP (t := 38) rfl (fun hg38 => ?_) (fun hg38 => ?_)
     ·refine gy_ 38 rfl rfl rfl (Yd.fieldAddr (k := 5) kr_ rfl) ?_
      refine WL.gh (dj := 38) rfl rfl rfl (Hd.load1 kr_ rfl mem_ (by rfl) ⟨_, rfl, ?_⟩)
      refine gy_ 38 rfl rfl rfl (Yd.fieldAddr (k := 5) kr_ rfl) ?_
      refine WL.gh (dj := 38) rfl rfl rfl (Hd.load1 kr_ rfl mem_ (by rfl) ⟨_, rfl, ?_⟩)
      refine gy_ 38 rfl rfl rfl (Yd.eql32 _ _ rfl rfl rfl rfl) ?_
      refine WL.y rfl (Yd.pickT rfl rfl) ?_
      refine m_ rfl rfl ?_
      refine WL.partP (t := 45) rfl (fun hg45 => ?_) (fun hg45 => ?_)
      ·refine gy_ 45 rfl rfl rfl (Yd.fieldAddr (k := 6) kr_ rfl) ?_
       refine WL.gh (dj := 45) rfl rfl rfl (Hd.load1 kr_ rfl mem_ (by rfl) ⟨_, rfl, ?_⟩)
       refine gy_ 45 rfl rfl rfl (Yd.fieldAddr (k := 6) kr_ rfl) ?_
       refine WL.gh (dj := 45) rfl rfl rfl (Hd.load1 kr_ rfl mem_ (by rfl) ⟨_, rfl, ?_⟩)
       refine gy_ 45 rfl rfl rfl (Yd.eql rfl rfl) ?_
       refine WL.y rfl (Yd.pickT rfl rfl) ?_
       refine m_ rfl rfl ?_
       refine WL.partP (t := 52) rfl (fun hg52 => ?_) (fun hg52 => ?_)
       ·refine gy_ 52 rfl rfl rfl (Yd.fieldAddr (k := 7) kr_ rfl) ?_
        refine WL.gh (dj := 52) rfl rfl rfl (Hd.load1 kr_ rfl mem_ (by rfl) ⟨_, rfl, ?_⟩)
        refine gy_ 52 rfl rfl rfl (Yd.fieldAddr (k := 7) kr_ rfl) ?_
        refine WL.gh (dj := 52) rfl rfl rfl (Hd.load1 kr_ rfl mem_ (by rfl) ⟨_, rfl, ?_⟩)
        refine gy_ 52 rfl rfl rfl (Yd.eqlB Tryz.underlying4 rfl rfl) ?_
        refine WL.y rfl (Yd.pickT rfl rfl) ?_
        refine m_ rfl rfl ?_
        refine WL.part (t := 59) rfl (fun hg59 => ?_) (fun hg59 => ?_)
        ·refine gy_ 59 rfl rfl rfl (Yd.fieldAddr (k := 8) kr_ rfl) ?_
         refine WL.gh (dj := 59) rfl rfl rfl (Hd.load1 kr_ rfl mem_ (by rfl) ⟨_, rfl, ?_⟩)
         refine gy_ 59 rfl rfl rfl (Yd.fieldAddr (k := 8) kr_ rfl) ?_
         refine WL.gh (dj := 59) rfl rfl rfl (Hd.load1 kr_ rfl mem_ (by rfl) ⟨_, rfl, ?_⟩)
         refine gy_ 59 rfl rfl rfl (Yd.eql rfl rfl) ?_
         refine WL.y rfl (Yd.pickT rfl rfl) ?_
         refine m_ rfl rfl ?_
         refine WL.partP (t := 66) rfl (fun hg66 => ?_) (fun hg66 => ?_)
         ·refine gy_ 66 rfl rfl rfl (Yd.fieldAddr (k := 9) kr_ rfl) ?_
          refine WL.gh (dj := 66) rfl rfl rfl (Hd.load1 kr_ rfl mem_ (by rfl) ⟨_, rfl, ?_⟩)
          refine WL.gh (dj := 66) rfl rfl rfl (Hd.toStr (e := 5) (bs := a.key) kr_ kr_ Tryz.underlying9 rfl (h1.mono gr_) ⟨_, rfl, ?_⟩)
          refine gy_ 66 rfl rfl rfl (Yd.fieldAddr (k := 9) kr_ rfl) ?_
          refine WL.gh (dj := 66) rfl rfl rfl (Hd.load1 kr_ rfl mem_ (by rfl) ⟨_, rfl, ?_⟩)
          refine WL.gh (dj := 66) rfl rfl rfl (Hd.toStr (e := 5) (bs := b.key) kr_ kr_ Tryz.underlying9 rfl (h3.mono gr_) ⟨_, rfl, ?_⟩)
          refine gy_ 66 rfl rfl rfl (Yd.eqlS rfl rfl) ?_
          refine WL.y rfl (Yd.pickT rfl rfl) ?_
          refine m_ rfl rfl ?_
          refine WL.partP (t := 75) rfl (fun hg75 => ?_) (fun hg75 => ?_)
          ·refine gy_ 75 rfl rfl rfl (Yd.fieldAddr (k := 10) kr_ rfl) ?_
           refine WL.gh (dj := 75) rfl rfl rfl (Hd.load1 kr_ rfl mem_ (by rfl) ⟨_, rfl, ?_⟩)
           refine WL.gh (dj := 75) rfl rfl rfl (Hd.toStr (e := 5) (bs := a.data) kr_ kr_ Tryz.underlying9 rfl (h2.mono gr_) ⟨_, rfl, ?_⟩)
           refine gy_ 75 rfl rfl rfl (Yd.fieldAddr (k := 10) kr_ rfl) ?_
           refine WL.gh (dj := 75) rfl rfl rfl (Hd.load1 kr_ rfl mem_ (by rfl) ⟨_, rfl, ?_⟩)
           refine WL.gh (dj := 75) rfl rfl rfl (Hd.toStr (e := 5) (bs := b.data) kr_ kr_ Tryz.underlying9 rfl (h4.mono gr_) ⟨_, rfl, ?_⟩)
           refine gy_ 75 rfl rfl rfl (Yd.eqlS rfl rfl) ?_
           refine WL.y rfl (Yd.pickT rfl rfl) ?_
           refine a_ rfl rfl ?_
           refine nt_ ?_
           refine WC.ret ?_
           refine DN.fit (C := H) sp_ ?_
           refine DN.ret1 Tryz.results34 rfl ?_
           exact ⟨by congr 1; symm; simp only [sameNt, *, decide_true, decide_false, Bool.true_and, Bool.false_and], rfl⟩
          ·iterate 7 refine gn_ 75 rfl rfl rfl rfl ?_
           refine WL.y rfl (Yd.pickF rfl rfl) ?_
           refine a_ rfl rfl ?_
           refine nt_ ?_
           refine WC.ret ?_
           refine DN.fit (C := H) sp_ ?_
           refine DN.ret1 Tryz.results34 rfl ?_
           exact ⟨by congr 1; symm; simp only [sameNt, *, decide_true, decide_false, Bool.true_and, Bool.false_and], rfl⟩
         ·iterate 7 refine gn_ 66 rfl rfl rfl rfl ?_
          refine WL.y rfl (Yd.pickF rfl rfl) ?_
          refine m_ rfl rfl ?_
          iterate 7 refine gn_ 75 rfl rfl rfl rfl ?_
          refine WL.y rfl (Yd.pickF rfl rfl) ?_
          refine a_ rfl rfl ?_
          refine nt_ ?_
          refine WC.ret ?_
          refine DN.fit (C := H) sp_ ?_
          refine DN.ret1 Tryz.results34 rfl ?_
          exact ⟨by congr 1; symm; simp only [sameNt, *, decide_true, decide_false, Bool.true_and, Bool.false_and], rfl⟩
        ·iterate 5 refine gn_ 59 rfl rfl rfl rfl ?_
         refine WL.y rfl (Yd.pickF rfl rfl) ?_
         refine m_ rfl rfl ?_
         iterate 7 refine gn_ 66 rfl rfl rfl rfl ?_
         refine WL.y rfl (Yd.pickF rfl rfl) ?_
         refine m_ rfl rfl ?_
         iterate 7 refine gn_ 75 rfl rfl rfl rfl ?_
         refine WL.y rfl (Yd.pickF rfl rfl) ?_
         refine a_ rfl rfl ?_
         refine nt_ ?_
         refine WC.ret ?_
         refine DN.fit (C := H) sp_ ?_
         refine DN.ret1 Tryz.results34 rfl ?_
         exact ⟨by congr 1; symm; simp only [sameNt, *, decide_true, decide_false, Bool.true_and, Bool.false_and], rfl⟩
       ·iterate 5 refine gn_ 52 rfl rfl rfl rfl ?_
        refine WL.y rfl (Yd.pickF rfl rfl) ?_
        refine m_ rfl rfl ?_
        iterate 5 refine gn_ 59 rfl rfl rfl rfl ?_
        refine WL.y rfl (Yd.pickF rfl rfl) ?_
        refine m_ rfl rfl ?_
        iterate 7 refine gn_ 66 rfl rfl rfl rfl ?_
        refine WL.y rfl (Yd.pickF rfl rfl) ?_
        refine m_ rfl rfl ?_
        iterate 7 refine gn_ 75 rfl rfl rfl rfl ?_
        refine WL.y rfl (Yd.pickF rfl rfl) ?_
        refine a_ rfl rfl ?_
        refine nt_ ?_
        refine WC.ret ?_
        refine DN.fit (C := H) sp_ ?_
        refine DN.ret1 Tryz.results34 rfl ?_
        exact ⟨by congr 1; symm; simp only [sameNt, *, decide_true, decide_false, Bool.true_and, Bool.false_and], rfl⟩
      ·iterate 5 refine gn_ 45 rfl rfl rfl rfl ?_
       refine WL.y rfl (Yd.pickF rfl rfl) ?_
       refine m_ rfl rfl ?_
       iterate 5 refine gn_ 52 rfl rfl rfl rfl ?_
       refine WL.y rfl (Yd.pickF rfl rfl) ?_
       refine m_ rfl rfl ?_
       iterate 5 refine gn_ 59 rfl rfl rfl rfl ?_
       refine WL.y rfl (Yd.pickF rfl rfl) ?_
       refine m_ rfl rfl ?_
       iterate 7 refine gn_ 66 rfl rfl rfl rfl ?_
       refine WL.y rfl (Yd.pickF rfl rfl) ?_
       refine m_ rfl rfl ?_
       iterate 7 refine gn_ 75 rfl rfl rfl rfl ?_
       refine WL.y rfl (Yd.pickF rfl rfl) ?_
       refine a_ rfl rfl ?_
       refine nt_ ?_
       refine WC.ret ?_
       refine DN.fit (C := H) sp_ ?_
       refine DN.ret1 Tryz.results34 rfl ?_
       exact ⟨by congr 1; symm; simp only [sameNt, *, decide_true, decide_false, Bool.true_and, Bool.false_and], rfl⟩
     ·iterate 5 refine gn_ 38 rfl rfl rfl rfl ?_
      refine WL.y rfl (Yd.pickF rfl rfl) ?_
      refine m_ rfl rfl ?_
      iterate 5 refine gn_ 45 rfl rfl rfl rfl ?_
      refine WL.y rfl (Yd.pickF rfl rfl) ?_
      refine m_ rfl rfl ?_
      iterate 5 refine gn_ 52 rfl rfl rfl rfl ?_
      refine WL.y rfl (Yd.pickF rfl rfl) ?_
      refine m_ rfl rfl ?_
      iterate 5 refine gn_ 59 rfl rfl rfl rfl ?_
      refine WL.y rfl (Yd.pickF rfl rfl) ?_
      refine m_ rfl rfl ?_
      iterate 7 refine gn_ 66 rfl rfl rfl rfl ?_
      refine WL.y rfl (Yd.pickF rfl rfl) ?_
      refine m_ rfl rfl ?_
      iterate 7 refine gn_ 75 rfl rfl rfl rfl ?_
      refine WL.y rfl (Yd.pickF rfl rfl) ?_
      refine a_ rfl rfl ?_
      refine nt_ ?_
      refine WC.ret ?_
      refine DN.fit (C := H) sp_ ?_
      refine DN.ret1 Tryz.results34 rfl ?_
      exact ⟨by congr 1; symm; simp only [sameNt, *, decide_true, decide_false, Bool.true_and, Bool.false_and], rfl⟩
    ·iterate 5 refine gn_ 31 rfl rfl rfl rfl ?_
     refine WL.y rfl (Yd.pickF rfl rfl) ?_
     refine m_ rfl rfl ?_
     iterate 5 refine gn_ 38 rfl rfl rfl rfl ?_
     refine WL.y rfl (Yd.pickF rfl rfl) ?_
     refine m_ rfl rfl ?_
     iterate 5 refine gn_ 45 rfl rfl rfl rfl ?_
     refine WL.y rfl (Yd.pickF rfl rfl) ?_
     refine m_ rfl rfl ?_
     iterate 5 refine gn_ 52 rfl rfl rfl rfl ?_
     refine WL.y rfl (Yd.pickF rfl rfl) ?_
     refine m_ rfl rfl ?_
     iterate 5 refine gn_ 59 rfl rfl rfl rfl ?_
     refine WL.y rfl (Yd.pickF rfl rfl) ?_
     refine m_ rfl rfl ?_
     iterate 7 refine gn_ 66 rfl rfl rfl rfl ?_
     refine WL.y rfl (Yd.pickF rfl rfl) ?_
     refine m_ rfl rfl ?_
     iterate 7 refine gn_ 75 rfl rfl rfl rfl ?_
     refine WL.y rfl (Yd.pickF rfl rfl) ?_
     refine a_ rfl rfl ?_
     refine nt_ ?_
     refine WC.ret ?_
     refine DN.fit (C := H) sp_ ?_
     refine DN.ret1 Tryz.results34 rfl ?_
     exact ⟨by congr 1; symm; simp only [sameNt, *, decide_true, decide_false, Bool.true_and, Bool.false_and], rfl⟩
   ·iterate 5 refine gn_ 24 rfl rfl rfl rfl ?_
    refine WL.y rfl (Yd.pickF rfl rfl) ?_
    refine m_ rfl rfl ?_
    iterate 5 refine gn_ 31 rfl rfl rfl rfl ?_
    refine WL.y rfl (Yd.pickF rfl rfl) ?_
    refine m_ rfl rfl ?_
    iterate 5 refine gn_ 38 rfl rfl rfl rfl ?_
    refine WL.y rfl (Yd.pickF rfl rfl) ?_
    refine m_ rfl rfl ?_
    iterate 5 refine gn_ 45 rfl rfl rfl rfl ?_
    refine WL.y rfl (Yd.pickF rfl rfl) ?_
    refine m_ rfl rfl ?_
    iterate 5 refine gn_ 52 rfl rfl rfl rfl ?_
    refine WL.y rfl (Yd.pickF rfl rfl) ?_
    refine m_ rfl rfl ?_
    iterate 5 refine gn_ 59 rfl rfl rfl rfl ?_
    refine WL.y rfl (Yd.pickF rfl rfl) ?_
    refine m_ rfl rfl ?_
    iterate 7 refine gn_ 66 rfl rfl rfl rfl ?_
    refine WL.y rfl (Yd.pickF rfl rfl) ?_
    refine m_ rfl rfl ?_
    iterate 7 refine gn_ 75 rfl rfl rfl rfl ?_
    refine WL.y rfl (Yd.pickF rfl rfl) ?_
    refine a_ rfl rfl ?_
    refine nt_ ?_
    refine WC.ret ?_
    refine DN.fit (C := H) sp_ ?_
    refine DN.ret1 Tryz.results34 rfl ?_
    exact ⟨by congr 1; symm; simp only [sameNt, *, decide_true, decide_false, Bool.true_and, Bool.false_and], rfl⟩
  ·iterate 5 refine gn_ 17 rfl rfl rfl rfl ?_
   refine WL.y rfl (Yd.pickF rfl rfl) ?_
   refine m_ rfl rfl ?_
   iterate 5 refine gn_ 24 rfl rfl rfl rfl ?_
   refine WL.y rfl (Yd.pickF rfl rfl) ?_
   refine m_ rfl rfl ?_
   iterate 5 refine gn_ 31 rfl rfl rfl rfl ?_
   refine WL.y rfl (Yd.pickF rfl rfl) ?_
   refine m_ rfl rfl ?_
   iterate 5 refine gn_ 38 rfl rfl rfl rfl ?_
   refine WL.y rfl (Yd.pickF rfl rfl) ?_
   refine m_ rfl rfl ?_
   iterate 5 refine gn_ 45 rfl rfl rfl rfl ?_
   refine WL.y rfl (Yd.pickF rfl rfl) ?_
   refine m_ rfl rfl ?_
   iterate 5 refine gn_ 52 rfl rfl rfl rfl ?_
   refine WL.y rfl (Yd.pickF rfl rfl) ?_
   refine m_ rfl rfl ?_
   iterate 5 refine gn_ 59 rfl rfl rfl rfl ?_
   refine WL.y rfl (Yd.pickF rfl rfl) ?_
   refine m_ rfl rfl ?_
   iterate 7 refine gn_ 66 rfl rfl rfl rfl ?_
   refine WL.y rfl (Yd.pickF rfl rfl) ?_
   refine m_ rfl rfl ?_
   iterate 7 refine gn_ 75 rfl rfl rfl rfl ?_
   refine WL.y rfl (Yd.pickF rfl rfl) ?_
   refine a_ rfl rfl ?_
   refine nt_ ?_
   refine WC.ret ?_
   refine DN.fit (C := H) sp_ ?_
   refine DN.ret1 Tryz.results34 rfl ?_
   exact ⟨by congr 1; symm; simp only [sameNt, *, decide_true, decide_false, Bool.true_and, Bool.false_and], rfl⟩
 ·iterate 5 refine gn_ 10 rfl rfl rfl rfl ?_
  refine WL.y rfl (Yd.pickF rfl rfl) ?_
  refine m_ rfl rfl ?_
  iterate 5 refine gn_ 17 rfl rfl rfl rfl ?_
  refine WL.y rfl (Yd.pickF rfl rfl) ?_
  refine m_ rfl rfl ?_
  iterate 5 refine gn_ 24 rfl rfl rfl rfl ?_
  refine WL.y rfl (Yd.pickF rfl rfl) ?_
  refine m_ rfl rfl ?_
  iterate 5 refine gn_ 31 rfl rfl rfl rfl ?_
  refine WL.y rfl (Yd.pickF rfl rfl) ?_
  refine m_ rfl rfl ?_
  iterate 5 refine gn_ 38 rfl rfl rfl rfl ?_
  refine WL.y rfl (Yd.pickF rfl rfl) ?_
  refine m_ rfl rfl ?_
  iterate 5 refine gn_ 45 rfl rfl rfl rfl ?_
  refine WL.y rfl (Yd.pickF rfl rfl) ?_
  refine m_ rfl rfl ?_
  iterate 5 refine gn_ 52 rfl rfl rfl rfl ?_
  refine WL.y rfl (Yd.pickF rfl rfl) ?_
  refine m_ rfl rfl ?_
  iterate 5 refine gn_ 59 rfl rfl rfl rfl ?_
  refine WL.y rfl (Yd.pickF rfl rfl) ?_
  refine m_ rfl rfl ?_
  iterate 7 refine gn_ 66 rfl rfl rfl rfl ?_
  refine WL.y rfl (Yd.pickF rfl rfl) ?_
  refine m_ rfl rfl ?_
  iterate 7 refine gn_ 75 rfl rfl rfl rfl ?_
  refine WL.y rfl (Yd.pickF rfl rfl) ?_
  refine a_ rfl rfl ?_
  refine nt_ ?_
  refine WC.ret ?_
  refine DN.fit (C := H) sp_ ?_
  refine DN.ret1 Tryz.results34 rfl ?_
  exact ⟨by congr 1; symm; simp only [sameNt, *, decide_true, decide_false, Bool.true_and, Bool.false_and], rfl⟩
end Go.Proofs.YtkamlondepceiaaGreat

set_option linter.unusedVariables false
set_option linter.unusedSimpArgs false
set_option maxHeartbeats 4000000
namespace Go.Proofs.YtkamlondepceiaaGreat
open Go.SL
theorem kn_good : GoodL knG ∧ AccL knU ∧ (([3] : List Int).findIdx? Do.badRoom).isSome = false ∧ ([3] : List Int).length ≤ 60 := by
  refine ⟨⟨by decide, by decide, fun g hg => ?_⟩, ⟨by decide, by decide, fun g hg => ?_⟩, by decide, by decide⟩
  · simp only [knG, List.mem_cons, List.not_mem_nil, or_false] at hg
    subst hg
    unfold goodB; decide
  · simp only [knU, List.mem_cons, List.not_mem_nil, or_false] at hg
    subst hg
    unfold accB; decide
theorem kn_inv : CInv knG knU [3] kn0c :=
  new_inv (SInv.start (by decide) (by decide) fun g hg => ⟨kn_good.1.2.2 g hg, (by decide : ∀ g ∈ knG, g.gone = 0) g hg⟩) (PInv.start kn_good.2.1) (DInv.start (roomsOk_of (by decide)) (by decide))
theorem kn_told {K S : List Gd} {g : Gd} (hK : K = [g]) (h : ToldK Gd.name sLt K S) : S = [g] := by
  subst hK
  exact List.perm_singleton.1 h.perm
theorem kn_step (e : BitVec 32) (u : Bool) : stepW e 7#32 0 u (encB knW) = knN e u := rfl
theorem known12 (H : List Ck) : Reads Tryz.prog 9 [] H (.bool true) := by
 refine Tells.enter Tryz.func9 rfl Tryz.ntmps9 rfl ?_
 intro w0 R
 refine sr_ ?_
 refine a_ rfl rfl ?_
 refine ntsr_ ?_
 refine WL.y rfl (Yd.buildL (pl := [(0, 1), (1, 1)]) (zs := [.string ⟨#[]⟩, .int .i64 0]) (parts := [(0, .const (.string ⟨#[97]⟩)), (1, .const (.int .i64 5))]) (vs := [(0, _), (1, _)]) (cells := [_, _]) kr_ kr_ rfl rfl) ?_
 refine WL.h rfl (Hd.buildSlice (e := 73) (sz := 2) (zs := [.string ⟨#[]⟩, .int .i64 0]) (parts := [(0, .tmp 11)]) (vs := [(0, .agg (cellsG ⟨⟨#[97]⟩, 5, 0⟩).toArray)]) (cells := knG.flatMap cellsG) kr_ kr_ kr_ rfl kr_ kr_ fun b12 => ⟨_, rfl, ?_⟩)
 refine WL.y rfl (Yd.buildL (pl := [(0, 1), (1, 1), (2, 1)]) (zs := [.string ⟨#[]⟩, .int .i64 0, .int .i64 0]) (parts := [(0, .const (.string ⟨#[97, 110, 110]⟩)), (1, .const (.int .i64 9))]) (vs := [(0, _), (1, _)]) (cells := [_, _, .int .i64 0]) kr_ kr_ rfl rfl) ?_
 refine WL.h rfl (Hd.buildSlice (e := 71) (sz := 3) (zs := [.string ⟨#[]⟩, .int .i64 0, .int .i64 0]) (parts := [(0, .tmp 13)]) (vs := [(0, .agg (cellsU ⟨⟨#[97, 110, 110]⟩, 9, 0⟩).toArray)]) (cells := knU.flatMap cellsU) kr_ kr_ kr_ rfl kr_ kr_ fun b14 => ⟨_, rfl, ?_⟩)
 refine WL.h rfl (Hd.build1 (e := 3) (z := .int .i64 0) kr_ kr_ kr_ rfl (by rfl) fun b15 => ⟨_, rfl, ?_⟩)
 refine WL.c rfl (Ent.func Tryz.call31 rfl) (cnew_tells _ _ _ knG knU [3] (by decide) (row b15 (ic [3]) 3 :: (row b14 (knU.flatMap cellsU) 71 :: (row b12 (knG.flatMap cellsG) 73 :: H))) (.inr ⟨b12, 0, 1, knG.flatMap cellsG, 73, (0, 0), true, rfl, Nat.le_refl _, List.mem_cons_of_mem _ (List.mem_cons_of_mem _ List.mem_cons_self), rfl⟩) (.inr ⟨b14, 0, 1, knU.flatMap cellsU, 71, (0, 0), true, rfl, Nat.le_refl _, List.mem_cons_of_mem _ List.mem_cons_self, rfl⟩) (.inr ⟨b15, 0, 1, ic [3], 3, (0, 0), true, rfl, Nat.le_refl _, List.mem_cons_self, rfl⟩) (by decide) (by decide) (by decide)) (Sp.p sp_) ?_
 intro x H9 h9
 obtain ⟨p, C0, rfl, h0, rfl⟩ := (h9.resolve_right fun q => q.1 kn_good).2
 have inv0 := kn_inv
 refine m_ rfl rfl ?_
 refine x_ rfl rfl rfl ?_
 refine x_ rfl rfl rfl ?_
 refine a_ rfl rfl ?_
 refine a_ rfl rfl ?_
 refine nt_ ?_
 refine WC.seq ?_
 refine sr_ ?_
 refine m_ rfl rfl ?_
 refine WL.y rfl (Yd.neq rfl rfl) ?_
 refine WL.renamed (t := 20) (v := .bool false) rfl (congrArg Value.bool (by decide)) ?_
 refine m_ rfl rfl ?_
 refine gy_ 21 rfl rfl rfl (Yd.move rfl) ?_
 refine gy_ 21 rfl rfl rfl (Yd.eqlNil Tryz.underlying40 rfl rfl) ?_
 refine WL.renamed (t := 23) (v := .bool false) rfl (congrArg Value.bool (rfl)) ?_
 refine WL.y rfl (Yd.pickF rfl rfl) ?_
 refine nt_ ?_
 refine WC.no rfl ?_
 refine WC.skip ?_
 refine ts_ ?_
 refine WC.region ?_
 refine WL.h rfl (Hd.buildBytes (e := 5) [97#8] kr_ kr_ kr_ rfl rfl kr_ fun b25 => ⟨_, rfl, ?_⟩)
 refine WL.h rfl (Hd.markB (e := 5) kr_ kr_ rfl fr_ ⟨_, rfl, ?_⟩)
 refine WL.y rfl (Yd.buildL (pl := [(0, 1), (1, 1), (2, 1)]) (zs := [.int .i64 0, .int .i64 0, .slice none 0 0]) (parts := [(0, .const (.int .i64 1)), (1, .const (.int .i64 2)), (2, .tmp 26)]) (vs := [(0, _), (1, _), (2, _)]) (cells := [_, _, _]) kr_ kr_ rfl rfl) ?_
 refine WL.h rfl (Hd.alloc (zs := [.int .i64 0, .int .i64 0, .slice none 0 0]) kr_ fun b3 => ⟨_, rfl, ?_⟩)
 refine WL.s (Hd.storeAll (n := 3) kr_ rfl rfl (by rfl) one_ fr_ (by rfl) ⟨rfl, ?_⟩)
 refine ntsr_ ?_
 refine m_ rfl rfl ?_
 refine WL.h rfl (Hd.loadAll (n := 3) kr_ rfl mem_ (by rfl) ⟨_, rfl, ?_⟩)
 refine WL.c rfl (Ent.func Tryz.call39 rfl) (step_tells 1#32 7#32 0 false knW _ [⟨b25, .cells (bc [97#8]).toArray 5 ((bc [97#8]).length, (bc [97#8]).length + 1), true⟩] (bs_marked rfl List.mem_cons_self) (by decide)) (Sp.p sp_) ?_
 rintro q1 Hq1 ⟨x1, A1, rfl, hA1, rfl⟩
 rw [kn_step]
 obtain ⟨xo1, xc1, rfl, _⟩ := hA1.form
 refine WL.c rfl (Ent.func Tryz.call22 rfl) (serve_tells p kn0c C0 h0 inv0 (knN 1#32 false) (.slice none 0 0) (.slice xo1 (encB knW).length xc1) A1 (.inl ⟨_, _, rfl, rfl, rfl⟩) hA1.bs) (Sp.p sp_) ?_
 rintro r1 Hs1 ⟨C1, w1, D1, rfl, h1, hD1, rfl⟩
 have inv1 := serve_inv inv0 (knN 1#32 false)
 obtain ⟨s1, hs1⟩ : ∃ t, t = serveS kn0c (knN 1#32 false) := ⟨_, rfl⟩
 obtain ⟨n1, hn1⟩ : ∃ t, t = serveN kn0c (knN 1#32 false) := ⟨_, rfl⟩
 rw [← hs1] at h1 inv1
 rw [← hn1] at hD1 ⊢
 obtain ⟨wo1, wc1, rfl, _⟩ := hD1.form
 refine WL.h rfl (Hd.alloc (zs := [.int .i64 0, .int .u32 0, .int .u32 0, .int .u64 0, .int .u64 0, .int .u32 0, .int .i64 0, .bool false, .int .i64 0, .slice none 0 0, .slice none 0 0]) kr_ fun b4 => ⟨_, rfl, ?_⟩)
 refine WL.s (Hd.storeAll (n := 11) kr_ rfl rfl (by rfl) (ntc_one rfl rfl) fr_ (by rfl) ⟨rfl, ?_⟩)
 refine ntsr_ ?_
 refine m_ rfl rfl ?_
 refine WL.c rfl (Ent.func Tryz.call25 rfl) (cgoods_tells p s1 C1 h1 (by rw [hs1, kn_s1]; decide)) (Sp.p sp_) ?_
 rintro g2 Hg2 ⟨S2, G2, hT2, ho2, rfl⟩
 obtain rfl := kn_told (g := ⟨⟨#[97]⟩, 3, 0⟩) (by rw [hs1]; exact kn_s1) hT2
 obtain ⟨go2, gc2, rfl, _⟩ := ho2.form
 obtain ⟨g2b, g2f, g2s, g2T, g2fr, g2ex, rfl, _, hg2m, hg2s⟩ := ho2.rs.lies (by decide)
 refine a_ rfl rfl ?_
 refine ntsr_ ?_
 refine m_ rfl rfl ?_
 refine WL.h rfl (Hd.loadAll (n := 3) kr_ rfl mem_ (by rfl) ⟨_, rfl, ?_⟩)
 refine WL.c rfl (Ent.func Tryz.call39 rfl) (step_tells 1#32 7#32 0 false knW _ [⟨b25, .cells (bc [97#8]).toArray 5 ((bc [97#8]).length, (bc [97#8]).length + 1), true⟩] (bs_marked rfl List.mem_cons_self) (by decide)) (Sp.p sp_) ?_
 rintro q3 Hq3 ⟨x3, A3, rfl, hA3, rfl⟩
 rw [kn_step]
 obtain ⟨xo3, xc3, rfl, _⟩ := hA3.form
 refine WL.c rfl (Ent.func Tryz.call22 rfl) (serve_tells p s1 C1 h1 inv1 (knN 1#32 false) (.slice none 0 0) (.slice xo3 (encB knW).length xc3) A3 (.inl ⟨_, _, rfl, rfl, rfl⟩) hA3.bs) (Sp.p sp_) ?_
 rintro r3 Hs3 ⟨C3, w3, D3, rfl, h3, hD3, rfl⟩
 have inv3 := serve_inv inv1 (knN 1#32 false)
 obtain ⟨s3, hs3⟩ : ∃ t, t = serveS s1 (knN 1#32 false) := ⟨_, rfl⟩
 obtain ⟨n3, hn3⟩ : ∃ t, t = serveN s1 (knN 1#32 false) := ⟨_, rfl⟩
 rw [← hs3] at h3 inv3
 rw [← hn3] at hD3 ⊢
 obtain ⟨wo3, wc3, rfl, _⟩ := hD3.form
 refine WL.h rfl (Hd.alloc (zs := [.int .i64 0, .int .u32 0, .int .u32 0, .int .u64 0, .int .u64 0, .int .u32 0, .int .i64 0, .bool false, .int .i64 0, .slice none 0 0, .slice none 0 0]) kr_ fun b6 => ⟨_, rfl, ?_⟩)
 refine WL.s (Hd.storeAll (n := 11) kr_ rfl rfl (by rfl) one_ fr_ (by rfl) ⟨rfl, ?_⟩)
 refine ntsr_ ?_
 refine m_ rfl rfl ?_
 refine WL.h rfl (Hd.loadAll (n := 3) kr_ rfl mem_ (by rfl) ⟨_, rfl, ?_⟩)
 refine WL.c rfl (Ent.func Tryz.call39 rfl) (step_tells 0#32 7#32 0 false knW _ [⟨b25, .cells (bc [97#8]).toArray 5 ((bc [97#8]).length, (bc [97#8]).length + 1), true⟩] (bs_marked rfl List.mem_cons_self) (by decide)) (Sp.p sp_) ?_
 rintro q4 Hq4 ⟨x4, A4, rfl, hA4, rfl⟩
 rw [kn_step]
 obtain ⟨xo4, xc4, rfl, _⟩ := hA4.form
 refine WL.c rfl (Ent.func Tryz.call22 rfl) (serve_tells p s3 C3 h3 inv3 (knN 0#32 false) (.slice none 0 0) (.slice xo4 (encB knW).length xc4) A4 (.inl ⟨_, _, rfl, rfl, rfl⟩) hA4.bs) (Sp.p sp_) ?_
 rintro r4 Hs4 ⟨C4, w4, D4, rfl, h4, hD4, rfl⟩
 have inv4 := serve_inv inv3 (knN 0#32 false)
 obtain ⟨s4, hs4⟩ : ∃ t, t = serveS s3 (knN 0#32 false) := ⟨_, rfl⟩
 obtain ⟨n4, hn4⟩ : ∃ t, t = serveN s3 (knN 0#32 false) := ⟨_, rfl⟩
 rw [← hs4] at h4 inv4
 rw [← hn4] at hD4 ⊢
 obtain ⟨wo4, wc4, rfl, _⟩ := hD4.form
 refine WL.h rfl (Hd.alloc (zs := [.int .i64 0, .int .u32 0, .int .u32 0, .int .u64 0, .int .u64 0, .int .u32 0, .int .i64 0, .bool false, .int .i64 0, .slice none 0 0, .slice none 0 0]) kr_ fun b7 => ⟨_, rfl, ?_⟩)
 refine WL.s (Hd.storeAll (n := 11) kr_ rfl rfl (by rfl) one_ fr_ (by rfl) ⟨rfl, ?_⟩)
 refine ntsr_ ?_
 refine m_ rfl rfl ?_
 refine WL.h rfl (Hd.loadAll (n := 3) kr_ rfl mem_ (by rfl) ⟨_, rfl, ?_⟩)
 refine WL.c rfl (Ent.func Tryz.call39 rfl) (step_tells 1#32 7#32 0 true knW _ [⟨b25, .cells (bc [97#8]).toArray 5 ((bc [97#8]).length, (bc [97#8]).length + 1), true⟩] (bs_marked rfl List.mem_cons_self) (by decide)) (Sp.p sp_) ?_
 rintro q6 Hq6 ⟨x6, A6, rfl, hA6, rfl⟩
 rw [kn_step]
 obtain ⟨xo6, xc6, rfl, _⟩ := hA6.form
 refine WL.c rfl (Ent.func Tryz.call22 rfl) (serve_tells p s4 C4 h4 inv4 (knN 1#32 true) (.slice none 0 0) (.slice xo6 (encB knW).length xc6) A6 (.inl ⟨_, _, rfl, rfl, rfl⟩) hA6.bs) (Sp.p sp_) ?_
 rintro r6 Hs6 ⟨C6, w6, D6, rfl, h6, hD6, rfl⟩
 have inv6 := serve_inv inv4 (knN 1#32 true)
 obtain ⟨s6, hs6⟩ : ∃ t, t = serveS s4 (knN 1#32 true) := ⟨_, rfl⟩
 obtain ⟨n6, hn6⟩ : ∃ t, t = serveN s4 (knN 1#32 true) := ⟨_, rfl⟩
 rw [← hs6] at h6 inv6
 rw [← hn6] at hD6 ⊢
 obtain ⟨wo6, wc6, rfl, _⟩ := hD6.form
 refine WL.h rfl (Hd.alloc (zs := [.int .i64 0, .int .u32 0, .int .u32 0, .int .u64 0, .int .u64 0, .int .u32 0, .int .i64 0, .bool false, .int .i64 0, .slice none 0 0, .slice none 0 0]) kr_ fun b8 => ⟨_, rfl, ?_⟩)
 refine WL.s (Hd.storeAll (n := 11) kr_ rfl rfl (by rfl) one_ fr_ (by rfl) ⟨rfl, ?_⟩)
 refine ntsr_ ?_
 refine m_ rfl rfl ?_
 have e6 : s6.K = [⟨⟨#[97]⟩, 5, 0⟩] ∧ s6.e = 1#32 ∧ s6.ef.length = 2 := by rw [hs6, hs4, hs3, hs1]; exact kn_K4
 refine WL.c rfl (Ent.func Tryz.call25 rfl) (cgoods_tells p s6 C6 h6 (by rw [e6.1]; decide)) (Sp.p sp_) ?_
 rintro g5 Hg5 ⟨S5, G5, hT5, ho5, rfl⟩
 obtain rfl := kn_told (g := ⟨⟨#[97]⟩, 5, 0⟩) (e6.1) hT5
 obtain ⟨go5, gc5, rfl, _⟩ := ho5.form
 obtain ⟨g5b, g5f, g5s, g5T, g5fr, g5ex, rfl, _, hg5m, hg5s⟩ := ho5.rs.lies (by decide)
 refine a_ rfl rfl ?_
 refine ntsr_ ?_
 refine f_ 0 kr_ rfl rfl ?_
 refine d_ kr_ rfl mem_ (by rfl) rfl ?_
 refine WL.y rfl (Yd.eql rfl rfl) ?_
 refine WL.renamed (t := 50) (v := .bool true) rfl (congrArg Value.bool (decide_eq_true (by rw [hn1]; exact kn_n1.1))) ?_
 refine m_ rfl rfl ?_
 refine gy_ 51 rfl rfl rfl (Yd.fieldAddr (k := 8) kr_ rfl) ?_
 refine WL.gh (dj := 51) rfl rfl rfl (Hd.load1 kr_ rfl mem_ (by rfl) ⟨_, rfl, ?_⟩)
 refine gy_ 51 rfl rfl rfl (Yd.eql rfl rfl) ?_
 refine WL.renamed (t := 54) (v := .bool true) rfl (congrArg Value.bool (decide_eq_true (by rw [hn1]; exact kn_n1.2))) ?_
 refine WL.y rfl (Yd.pickT rfl rfl) ?_
 refine m_ rfl rfl ?_
 refine gy_ 56 rfl rfl rfl (Yd.move rfl) ?_
 refine gy_ 56 rfl rfl rfl (Yd.len (e := 73) kr_ rfl) ?_
 refine gy_ 56 rfl rfl rfl (Yd.eql rfl rfl) ?_
 refine WL.renamed (t := 59) (v := .bool true) rfl (congrArg Value.bool (by decide)) ?_
 refine WL.y rfl (Yd.pickT rfl rfl) ?_
 refine m_ rfl rfl ?_
 refine gy_ 61 rfl rfl rfl (Yd.move rfl) ?_
 refine gy_ 61 rfl rfl rfl (Yd.indexAddr (e := 73) (s := 2) kr_ kr_ rfl rfl (by decide) (by decide)) ?_
 refine gy_ 61 rfl rfl rfl (Yd.fieldAddr (k := 1) kr_ rfl) ?_
 refine WL.gh (dj := 61) rfl rfl rfl (Hd.load1 (v := .int .i64 3) (b := g2b) (o := g2f + ((0 : Nat) : Int).toNat * 2 + 1) (cs := g2s) kr_ rfl (Gr.get gr_ hg2m) (cell_at2 (L := [⟨⟨#[97]⟩, 3, 0⟩]) cellsG_len hg2s (by decide) (by decide)) ⟨_, rfl, ?_⟩)
 refine gy_ 61 rfl rfl rfl (Yd.eql rfl rfl) ?_
 refine WL.renamed (t := 66) (v := .bool true) rfl (congrArg Value.bool (by decide)) ?_
 refine WL.y rfl (Yd.pickT rfl rfl) ?_
 refine m_ rfl rfl ?_
 refine WL.gh (dj := 68) rfl rfl rfl (Hd.loadAll (n := 11) kr_ rfl mem_ (by rfl) ⟨_, rfl, ?_⟩)
 refine WL.gh (dj := 68) rfl rfl rfl (Hd.loadAll (n := 11) kr_ rfl mem_ (by rfl) ⟨_, rfl, ?_⟩)
 refine WL.grf (dj := 68) rfl rfl rfl (Ent.func Tryz.call34 rfl) (same05_reads n1 n3 _ _ _ _ (D1 ++ D3) (by rw [hn1, serve_key]; exact .inl ⟨_, _, rfl, rfl, rfl⟩) (hD1.bs.mono gr_) (by rw [hn3, serve_key]; exact .inl ⟨_, _, rfl, rfl, rfl⟩) (hD3.bs.mono gr_)) sp_ ?_
 refine WL.renamed (t := 71) (v := .bool true) rfl (congrArg Value.bool (by rw [show n3 = n1 by rw [hn3, hs1, hn1]; exact kn_n2]; exact sameNt_refl n1)) ?_
 refine WL.y rfl (Yd.pickT rfl rfl) ?_
 refine m_ rfl rfl ?_
 refine gy_ 73 rfl rfl rfl (Yd.fieldAddr (k := 0) kr_ rfl) ?_
 refine WL.gh (dj := 73) rfl rfl rfl (Hd.load1 kr_ rfl mem_ (by rfl) ⟨_, rfl, ?_⟩)
 refine gy_ 73 rfl rfl rfl (Yd.eql rfl rfl) ?_
 refine WL.renamed (t := 76) (v := .bool true) rfl (congrArg Value.bool (decide_eq_true (by rw [hn4, hs3, hs1]; exact kn_n3.1))) ?_
 refine WL.y rfl (Yd.pickT rfl rfl) ?_
 refine m_ rfl rfl ?_
 refine gy_ 78 rfl rfl rfl (Yd.fieldAddr (k := 8) kr_ rfl) ?_
 refine WL.gh (dj := 78) rfl rfl rfl (Hd.load1 kr_ rfl mem_ (by rfl) ⟨_, rfl, ?_⟩)
 refine gy_ 78 rfl rfl rfl (Yd.eql rfl rfl) ?_
 refine WL.renamed (t := 81) (v := .bool true) rfl (congrArg Value.bool (decide_eq_true (by rw [hn4, hs3, hs1]; exact kn_n3.2))) ?_
 refine WL.y rfl (Yd.pickT rfl rfl) ?_
 refine m_ rfl rfl ?_
 refine gy_ 83 rfl rfl rfl (Yd.fieldAddr (k := 8) kr_ rfl) ?_
 refine WL.gh (dj := 83) rfl rfl rfl (Hd.load1 kr_ rfl mem_ (by rfl) ⟨_, rfl, ?_⟩)
 refine gy_ 83 rfl rfl rfl (Yd.eql rfl rfl) ?_
 refine WL.renamed (t := 86) (v := .bool true) rfl (congrArg Value.bool (decide_eq_true (by rw [hn6, hs4, hs3, hs1]; exact kn_n4))) ?_
 refine WL.y rfl (Yd.pickT rfl rfl) ?_
 refine m_ rfl rfl ?_
 refine gy_ 88 rfl rfl rfl (Yd.move rfl) ?_
 refine gy_ 88 rfl rfl rfl (Yd.indexAddr (e := 73) (s := 2) kr_ kr_ rfl rfl (by decide) (by decide)) ?_
 refine gy_ 88 rfl rfl rfl (Yd.fieldAddr (k := 1) kr_ rfl) ?_
 refine WL.gh (dj := 88) rfl rfl rfl (Hd.load1 (v := .int .i64 5) (b := g5b) (o := g5f + ((0 : Nat) : Int).toNat * 2 + 1) (cs := g5s) kr_ rfl (Gr.get gr_ hg5m) (cell_at2 (L := [⟨⟨#[97]⟩, 5, 0⟩]) cellsG_len hg5s (by decide) (by decide)) ⟨_, rfl, ?_⟩)
 refine gy_ 88 rfl rfl rfl (Yd.eql rfl rfl) ?_
 refine WL.renamed (t := 93) (v := .bool true) rfl (congrArg Value.bool (by decide)) ?_
 refine WL.y rfl (Yd.pickT rfl rfl) ?_
 refine m_ rfl rfl ?_
 refine gy_ 95 rfl rfl rfl (Yd.move rfl) ?_
 refine WL.grf (dj := 95) rfl rfl rfl (Ent.func Tryz.call24 rfl) (cepoch_reads p s6 C6 h6) sp_ ?_
 refine gy_ 95 rfl rfl rfl (Yd.eql32 _ (1#32) rfl rfl rfl rfl) ?_
 refine WL.renamed (t := 98) (v := .bool true) rfl (congrArg Value.bool (decide_eq_true (by rw [e6.2.1]))) ?_
 refine WL.y rfl (Yd.pickT rfl rfl) ?_
 refine m_ rfl rfl ?_
 refine gy_ 100 rfl rfl rfl (Yd.move rfl) ?_
 refine WL.gc (dj := 100) rfl rfl rfl (Ent.func Tryz.call21 rfl) (ceffs_tells p s6 C6 h6 (by rw [e6.2.2]; decide)) (Sp.p sp_) ?_
 rintro f9 Hf9 ⟨E9, hE9, rfl⟩
 obtain ⟨fo, fc, rfl, _⟩ := hE9.form
 rw [e6.2.2]
 refine gy_ 100 rfl rfl rfl (Yd.len (e := 111) kr_ rfl) ?_
 refine gy_ 100 rfl rfl rfl (Yd.eql rfl rfl) ?_
 refine WL.renamed (t := 104) (v := .bool true) rfl (congrArg Value.bool (by decide)) ?_
 refine WL.y rfl (Yd.pickT rfl rfl) ?_
 refine a_ rfl rfl ?_
 refine nt_ ?_
 refine WC.ret ?_
 refine DN.fit (C := H) sp_ ?_
 refine DN.ret1 Tryz.results9 rfl ?_
 exact ⟨rfl, rfl⟩
end Go.Proofs.YtkamlondepceiaaGreat

set_option linter.unusedVariables false
set_option linter.unusedSimpArgs false
set_option maxHeartbeats 4000000
namespace Go.Proofs.YtkamlondepceiaaGreat
open Go.SL
def AskL (v : Value) (l : List As) (xs : List Value) (H : List Ck) : Prop := Rs v l.length xs H ∧ xs.length = l.length * 8 ∧ ∀ i (h : i < l.length), AsE ((xs.drop (i * 8)).take 8) l[i] H
def NotLong (gs : List Gd) (us : List Au) (rs : List Int) (l : List As) : Prop := gs.length ≤ 100 ∧ us.length ≤ 100 ∧ rs.length ≤ 100 ∧ ∀ (j : Nat) (h : j < l.length), j < 200 → l[j].w.name.length ≤ 500 ∧ l[j].data.length ≤ 500
theorem ask_at {ao : Option Addr} {n c i : Nat} {xs : List Value} {H : List Ck} {vs : List Value} (hv : Rs (.slice ao n c) n xs H) (hx : (xs.drop (i * 8)).take 8 = vs) (hvs : vs.length = 8) : ∃ b o, ao = some ⟨b, o, none⟩ ∧ ∃ (c0 : List Value) (T0 : TypeId) (fr0 : Nat × Nat) (ex0 : Bool), (⟨b, .cells c0.toArray T0 fr0, ex0⟩ : Ck) ∈ H ∧ (∀ (k : Nat) u, vs[k]? = some u → c0[o + (i : Int).toNat * 8 + k]? = some u) ∧ (c0.drop (o + (i : Int).toNat * 8)).take 8 = vs := by
  have hne : xs ≠ [] := by intro e; rw [e] at hx; simp at hx; rw [hx] at hvs; simp at hvs
  obtain ⟨b, o, cs, T, fr, ex, h1, h2, h3⟩ := hv.at hne
  have key : ∀ (k : Nat) u, vs[k]? = some u → cs.toList[o + (i : Int).toNat * 8 + k]? = some u := fun k u hu => by
    rw [← hx, List.getElem?_take] at hu
    split at hu
    · rw [List.getElem?_drop] at hu
      have := h3 _ _ hu
      rw [Int.toNat_natCast]
      simpa [Nat.add_assoc] using this
    · cases hu
  refine ⟨b, o, h1, cs.toList, T, fr, ex, by simpa using h2, key, ?_⟩
  apply List.ext_getElem?
  intro k
  by_cases hk : k < 8
  · rw [List.getElem?_take, if_pos hk, List.getElem?_drop]
    have h9 : vs[k]? = some vs[k] := List.getElem?_eq_getElem (by omega)
    rw [h9]
    exact key k _ h9
  · rw [List.getElem?_eq_none (by rw [List.length_take]; omega), List.getElem?_eq_none (by omega)]
theorem long_reads (v1 v2 v3 v : Value) (gs : List Gd) (us : List Au) (rs : List Int) (l : List As) (xs : List Value) (H : List Ck) (h1 : Rs v1 gs.length (gs.flatMap cellsG) H) (h2 : Rs v2 us.length (us.flatMap cellsU) H) (h3 : Rs v3 rs.length (ic rs) H) (ha : AskL v l xs H) (hl1 : gs.length ≤ 9223372036854775807) (hl2 : us.length ≤ 9223372036854775807) (hl3 : rs.length ≤ 9223372036854775807) (hl : l.length ≤ 9223372036854775807) : Tells Tryz.prog 19 [.agg #[v1, v2, v3], v] H fun r H' => H' = H ∧ ∃ z, r = .bool z ∧ (z = false → NotLong gs us rs l) := by
 refine Tells.enter Tryz.func19 rfl Tryz.ntmps19 rfl ?_
 intro w0 R
 obtain ⟨hv, hx, hA⟩ := ha
 obtain ⟨go, gc, rfl, _⟩ := h1.form
 obtain ⟨uo, uc, rfl, _⟩ := h2.form
 obtain ⟨ro, rc, rfl, _⟩ := h3.form
 obtain ⟨vo, vc, rfl, _⟩ := hv.form
 refine sr_ ?_
 refine WL.h rfl (Hd.boxA (vs := [.slice go gs.length gc, .slice uo us.length uc, .slice ro rs.length rc]) rfl fun b2 => ⟨_, rfl, ?_⟩)
 refine a_ rfl rfl ?_
 refine nt_ ?_
 refine WC.seq ?_
 refine sr_ ?_
 refine f_ 0 kr_ rfl rfl ?_
 refine d_ kr_ rfl mem_ (by rfl) rfl ?_
 refine WL.y rfl (Yd.len (e := 73) kr_ rfl) ?_
 refine WL.y rfl (Yd.gtr rfl rfl) ?_
 refine m_ rfl rfl ?_
 refine WL.partP (t := 12) rfl (fun hg12 => ?_) (fun hg12 => ?_)
 ·iterate 4 refine gn_ 12 rfl rfl rfl rfl ?_
  refine WL.y rfl (Yd.pickT rfl rfl) ?_
  refine m_ rfl rfl ?_
  iterate 4 refine gn_ 18 rfl rfl rfl rfl ?_
  refine WL.y rfl (Yd.pickT rfl rfl) ?_
  refine nt_ ?_
  refine WC.yes rfl ?_
  refine sr_ ?_
  refine a_ rfl rfl ?_
  refine nt_ ?_
  refine WC.ret ?_
  refine DN.then_ret ?_
  refine DN.fit (C := H) sp_ ?_
  refine DN.ret1 Tryz.results19 rfl ?_
  first | exact ⟨rfl, true, rfl, fun e => by cases e⟩ | exact ⟨rfl, false, rfl, fun _ => ⟨by omega, by omega, by omega, fun j h hj => hno j h (by omega)⟩⟩
 ·refine gy_ 12 rfl rfl rfl (Yd.fieldAddr (k := 1) kr_ rfl) ?_
  refine WL.gh (dj := 12) rfl rfl rfl (Hd.load1 kr_ rfl mem_ (by rfl) ⟨_, rfl, ?_⟩)
  refine gy_ 12 rfl rfl rfl (Yd.len (e := 71) kr_ rfl) ?_
  refine gy_ 12 rfl rfl rfl (Yd.gtr rfl rfl) ?_
  refine WL.y rfl (Yd.pickF rfl rfl) ?_
  refine m_ rfl rfl ?_
  refine WL.partP (t := 18) rfl (fun hg18 => ?_) (fun hg18 => ?_)
  ·iterate 4 refine gn_ 18 rfl rfl rfl rfl ?_
   refine WL.y rfl (Yd.pickT rfl rfl) ?_
   refine nt_ ?_
   refine WC.yes rfl ?_
   refine sr_ ?_
   refine a_ rfl rfl ?_
   refine nt_ ?_
   refine WC.ret ?_
   refine DN.then_ret ?_
   refine DN.fit (C := H) sp_ ?_
   refine DN.ret1 Tryz.results19 rfl ?_
   first | exact ⟨rfl, true, rfl, fun e => by cases e⟩ | exact ⟨rfl, false, rfl, fun _ => ⟨by omega, by omega, by omega, fun j h hj => hno j h (by omega)⟩⟩
  ·refine gy_ 18 rfl rfl rfl (Yd.fieldAddr (k := 2) kr_ rfl) ?_
   refine WL.gh (dj := 18) rfl rfl rfl (Hd.load1 kr_ rfl mem_ (by rfl) ⟨_, rfl, ?_⟩)
   refine gy_ 18 rfl rfl rfl (Yd.len (e := 3) kr_ rfl) ?_
   refine gy_ 18 rfl rfl rfl (Yd.gtr rfl rfl) ?_
   refine WL.y rfl (Yd.pickF rfl rfl) ?_
   refine nt_ ?_
   refine WC.ite rfl (fun h23 => ?_) (fun h23 => ?_)
   ·refine sr_ ?_
    refine a_ rfl rfl ?_
    refine nt_ ?_
    refine WC.ret ?_
    refine DN.then_ret ?_
    refine DN.fit (C := H) sp_ ?_
    refine DN.ret1 Tryz.results19 rfl ?_
    first | exact ⟨rfl, true, rfl, fun e => by cases e⟩ | exact ⟨rfl, false, rfl, fun _ => ⟨by omega, by omega, by omega, fun j h hj => hno j h (by omega)⟩⟩
   ·refine WC.skip ?_
    refine ts_ ?_
    refine sr_ ?_
    refine a_ rfl rfl ?_
    refine nt_ ?_
    refine WC.block ?_
    refine WC.loopS (fun z : Nat => z ≤ gs.length) (fun z : Nat => [(5, .int .i64 (z : Int))]) (fun z : Nat => row b2 [.slice go gs.length gc, .slice uo us.length uc, .slice ro rs.length rc] 47 :: H) (fun z : Nat => gs.length - z) (0) (show 0 ≤ gs.length from Nat.zero_le _) (Sx.put rfl (sx_)) sp_ ?_
    rintro i hI
    replace hI : i ≤ gs.length := hI
    obtain hi := hI
    change WC _ _ _ _ _ _ ([(5, .int .i64 (i : Int))] ++ _) (row b2 [.slice go gs.length gc, .slice uo us.length uc, .slice ro rs.length rc] 47 :: H)
    refine WC.seq ?_
    refine sr_ ?_
    refine m_ rfl rfl ?_
    refine f_ 0 kr_ rfl rfl ?_
    refine d_ kr_ rfl mem_ (by rfl) rfl ?_
    refine WL.y rfl (Yd.len (e := 73) kr_ rfl) ?_
    refine WL.y rfl (Yd.lss rfl rfl) ?_
    refine nt_ ?_
    refine WC.ite rfl (fun h28 => ?_) (fun h28 => ?_)
    ·have hlt : i < gs.length := by omega
     obtain ⟨pb, pf, ps, pT, pfr, pex, rfl, _, hpm, hps⟩ := h1.lies (by omega)
     refine WC.skip ?_
     refine ts_ ?_
     refine WC.block ?_
     refine sr_ ?_
     refine f_ 0 kr_ rfl rfl ?_
     refine d_ kr_ rfl mem_ (by rfl) rfl ?_
     refine m_ rfl rfl ?_
     refine WL.y rfl (Yd.indexAddr (e := 73) (s := 2) kr_ kr_ rfl rfl (by omega) (by omega)) ?_
     refine f_ 0 kr_ rfl rfl ?_
     refine WL.h rfl (Hd.load1 (v := .string gs[i].name) (b := pb) (o := pf + (i : Int).toNat * 2 + 0) (cs := ps) kr_ rfl (Gr.get gr_ hpm) (cell_at2 (L := gs) cellsG_len hps (by omega) (by omega)) ⟨_, rfl, ?_⟩)
     refine WL.y rfl (Yd.lenS Tryz.underlying9 rfl) ?_
     refine WL.y rfl (Yd.gtr rfl rfl) ?_
     refine nt_ ?_
     refine WC.ite rfl (fun h38 => ?_) (fun h38 => ?_)
     ·refine sr_ ?_
      refine a_ rfl rfl ?_
      refine nt_ ?_
      refine WC.ret ?_
      refine DN.block_ret ?_
      refine DN.then_ret ?_
      refine DN.then_ret ?_
      refine DN.block_ret ?_
      refine DN.then_ret ?_
      refine DN.fit (C := H) sp_ ?_
      refine DN.ret1 Tryz.results19 rfl ?_
      first | exact ⟨rfl, true, rfl, fun e => by cases e⟩ | exact ⟨rfl, false, rfl, fun _ => ⟨by omega, by omega, by omega, fun j h hj => hno j h (by omega)⟩⟩
     ·refine WC.skip ?_
      refine DN.block_normal ?_
      refine DN.then_normal ?_
      refine WC.region ?_
      refine m_ rfl rfl ?_
      refine WL.y rfl (Yd.add rfl rfl (by omega) (by omega)) ?_
      refine a_ rfl rfl ?_
      refine WL.nil ?_
      exact DN.againS (i + 1) (show (i + 1) ≤ gs.length from by omega) (show gs.length - (i + 1) < gs.length - i by omega) (Sx.put rfl (sx_)) sp_
    ·refine WC.exit ?_
     refine DN.then_exit ?_
     refine DN.then_exit ?_
     refine DN.block_exit ?_
     refine ts_ ?_
     refine sr_ ?_
     refine a_ rfl rfl ?_
     refine nt_ ?_
     refine WC.block ?_
     refine WC.loopS (fun z : Nat => z ≤ us.length) (fun z : Nat => [(6, .int .i64 (z : Int))]) (fun z : Nat => row b2 [.slice go gs.length gc, .slice uo us.length uc, .slice ro rs.length rc] 47 :: H) (fun z : Nat => us.length - z) (0) (show 0 ≤ us.length from Nat.zero_le _) (Sx.put rfl (sx_)) sp_ ?_
     rintro i hI
     replace hI : i ≤ us.length := hI
     obtain hi := hI
     change WC _ _ _ _ _ _ ([(6, .int .i64 (i : Int))] ++ _) (row b2 [.slice go gs.length gc, .slice uo us.length uc, .slice ro rs.length rc] 47 :: H)
     refine WC.seq ?_
     refine sr_ ?_
     refine m_ rfl rfl ?_
     refine f_ 1 kr_ rfl rfl ?_
     refine d_ kr_ rfl mem_ (by rfl) rfl ?_
     refine WL.y rfl (Yd.len (e := 71) kr_ rfl) ?_
     refine WL.y rfl (Yd.lss rfl rfl) ?_
     refine nt_ ?_
     refine WC.ite rfl (fun h43 => ?_) (fun h43 => ?_)
     ·have hlt : i < us.length := by omega
      obtain ⟨qb, qf, qs, qT, qfr, qex, rfl, _, hqm, hqs⟩ := h2.lies (by omega)
      refine WC.skip ?_
      refine ts_ ?_
      refine WC.block ?_
      refine sr_ ?_
      refine f_ 1 kr_ rfl rfl ?_
      refine d_ kr_ rfl mem_ (by rfl) rfl ?_
      refine m_ rfl rfl ?_
      refine WL.y rfl (Yd.indexAddr (e := 71) (s := 3) kr_ kr_ rfl rfl (by omega) (by omega)) ?_
      refine f_ 0 kr_ rfl rfl ?_
      refine WL.h rfl (Hd.load1 (v := .string us[i].name) (b := qb) (o := qf + (i : Int).toNat * 3 + 0) (cs := qs) kr_ rfl (Gr.get gr_ hqm) (cell_at2 (L := us) cellsU_len hqs (by omega) (by omega)) ⟨_, rfl, ?_⟩)
      refine WL.y rfl (Yd.lenS Tryz.underlying9 rfl) ?_
      refine WL.y rfl (Yd.gtr rfl rfl) ?_
      refine nt_ ?_
      refine WC.ite rfl (fun h53 => ?_) (fun h53 => ?_)
      ·refine sr_ ?_
       refine a_ rfl rfl ?_
       refine nt_ ?_
       refine WC.ret ?_
       refine DN.block_ret ?_
       refine DN.then_ret ?_
       refine DN.then_ret ?_
       refine DN.block_ret ?_
       refine DN.then_ret ?_
       refine DN.fit (C := H) sp_ ?_
       refine DN.ret1 Tryz.results19 rfl ?_
       first | exact ⟨rfl, true, rfl, fun e => by cases e⟩ | exact ⟨rfl, false, rfl, fun _ => ⟨by omega, by omega, by omega, fun j h hj => hno j h (by omega)⟩⟩
      ·refine WC.skip ?_
       refine DN.block_normal ?_
       refine DN.then_normal ?_
       refine WC.region ?_
       refine m_ rfl rfl ?_
       refine WL.y rfl (Yd.add rfl rfl (by omega) (by omega)) ?_
       refine a_ rfl rfl ?_
       refine WL.nil ?_
       exact DN.againS (i + 1) (show (i + 1) ≤ us.length from by omega) (show us.length - (i + 1) < us.length - i by omega) (Sx.put rfl (sx_)) sp_
     ·refine WC.exit ?_
      refine DN.then_exit ?_
      refine DN.then_exit ?_
      refine DN.block_exit ?_
      refine ts_ ?_
      refine sr_ ?_
      refine a_ rfl rfl ?_
      refine nt_ ?_
      refine WC.block ?_
      refine WC.loopS (fun z : Nat => z ≤ l.length ∧ ∀ j (h : j < l.length), j < z → l[j].w.name.length ≤ 500 ∧ l[j].data.length ≤ 500) (fun z : Nat => [(7, .int .i64 (z : Int))]) (fun z : Nat => row b2 [.slice go gs.length gc, .slice uo us.length uc, .slice ro rs.length rc] 47 :: H) (fun z : Nat => l.length - z) (0) (show 0 ≤ l.length ∧ ∀ j (h : j < l.length), j < 0 → l[j].w.name.length ≤ 500 ∧ l[j].data.length ≤ 500 from ⟨Nat.zero_le _, fun j h hj => by omega⟩) (Sx.put rfl (sx_)) sp_ ?_
      rintro i hI
      replace hI : i ≤ l.length ∧ ∀ j (h : j < l.length), j < i → l[j].w.name.length ≤ 500 ∧ l[j].data.length ≤ 500 := hI
      obtain ⟨hi, hno⟩ := hI
      change WC _ _ _ _ _ _ ([(7, .int .i64 (i : Int))] ++ _) (row b2 [.slice go gs.length gc, .slice uo us.length uc, .slice ro rs.length rc] 47 :: H)
      refine WC.seq ?_
      refine sr_ ?_
      refine m_ rfl rfl ?_
      refine m_ rfl rfl ?_
      refine WL.y rfl (Yd.len (e := 54) kr_ rfl) ?_
      refine WL.y rfl (Yd.lss rfl rfl) ?_
      refine m_ rfl rfl ?_
      refine WL.partP (t := 58) rfl (fun hg58 => ?_) (fun hg58 => ?_)
      ·refine gy_ 58 rfl rfl rfl (Yd.move rfl) ?_
       refine gy_ 58 rfl rfl rfl (Yd.lss rfl rfl) ?_
       refine WL.y rfl (Yd.pickT rfl rfl) ?_
       refine nt_ ?_
       refine WC.ite rfl (fun h61 => ?_) (fun h61 => ?_)
       ·have hlt : i < l.length := by omega
        obtain ⟨vn, vd, hcell, hk, hd, _⟩ := hA i hlt
        obtain ⟨ko, kc, rfl, _⟩ := hk.form
        obtain ⟨eo, ec, rfl, _⟩ := hd.form
        obtain ⟨b0, o0, rfl, c0, T0, fr0, ex0, hm0, hc0, _⟩ := ask_at hv hcell rfl
        refine WC.skip ?_
        refine ts_ ?_
        refine WC.block ?_
        refine sr_ ?_
        refine m_ rfl rfl ?_
        refine m_ rfl rfl ?_
        refine WL.y rfl (Yd.indexAddr (e := 54) (s := 8) kr_ kr_ rfl rfl (by omega) (by omega)) ?_
        refine f_ 4 kr_ rfl rfl ?_
        refine f_ 2 kr_ rfl rfl ?_
        refine WL.h rfl (Hd.load1 (v := .slice ko l[i].w.name.length kc) kr_ rfl (Gr.get gr_ hm0) (hc0 6 _ rfl) ⟨_, rfl, ?_⟩)
        refine WL.y rfl (Yd.len (e := 5) kr_ rfl) ?_
        refine WL.y rfl (Yd.gtr rfl rfl) ?_
        refine m_ rfl rfl ?_
        refine WL.partP (t := 72) rfl (fun hg72 => ?_) (fun hg72 => ?_)
        ·iterate 7 refine gn_ 72 rfl rfl rfl rfl ?_
         refine WL.y rfl (Yd.pickT rfl rfl) ?_
         refine nt_ ?_
         refine WC.yes rfl ?_
         refine sr_ ?_
         refine a_ rfl rfl ?_
         refine nt_ ?_
         refine WC.ret ?_
         refine DN.block_ret ?_
         refine DN.then_ret ?_
         refine DN.then_ret ?_
         refine DN.block_ret ?_
         refine DN.then_ret ?_
         refine DN.fit (C := H) sp_ ?_
         refine DN.ret1 Tryz.results19 rfl ?_
         first | exact ⟨rfl, true, rfl, fun e => by cases e⟩ | exact ⟨rfl, false, rfl, fun _ => ⟨by omega, by omega, by omega, fun j h hj => hno j h (by omega)⟩⟩
        ·refine gy_ 72 rfl rfl rfl (Yd.move rfl) ?_
         refine gy_ 72 rfl rfl rfl (Yd.move rfl) ?_
         refine gy_ 72 rfl rfl rfl (Yd.indexAddr (e := 54) (s := 8) kr_ kr_ rfl rfl (by omega) (by omega)) ?_
         refine gy_ 72 rfl rfl rfl (Yd.fieldAddr (k := 7) kr_ rfl) ?_
         refine WL.gh (dj := 72) rfl rfl rfl (Hd.load1 (v := .slice eo l[i].data.length ec) kr_ rfl (Gr.get gr_ hm0) (hc0 7 _ rfl) ⟨_, rfl, ?_⟩)
         refine gy_ 72 rfl rfl rfl (Yd.len (e := 5) kr_ rfl) ?_
         refine gy_ 72 rfl rfl rfl (Yd.gtr rfl rfl) ?_
         refine WL.y rfl (Yd.pickF rfl rfl) ?_
         refine nt_ ?_
         refine WC.ite rfl (fun h80 => ?_) (fun h80 => ?_)
         ·refine sr_ ?_
          refine a_ rfl rfl ?_
          refine nt_ ?_
          refine WC.ret ?_
          refine DN.block_ret ?_
          refine DN.then_ret ?_
          refine DN.then_ret ?_
          refine DN.block_ret ?_
          refine DN.then_ret ?_
          refine DN.fit (C := H) sp_ ?_
          refine DN.ret1 Tryz.results19 rfl ?_
          first | exact ⟨rfl, true, rfl, fun e => by cases e⟩ | exact ⟨rfl, false, rfl, fun _ => ⟨by omega, by omega, by omega, fun j h hj => hno j h (by omega)⟩⟩
         ·refine WC.skip ?_
          refine DN.block_normal ?_
          refine DN.then_normal ?_
          refine WC.region ?_
          refine m_ rfl rfl ?_
          refine WL.y rfl (Yd.add rfl rfl (by omega) (by omega)) ?_
          refine a_ rfl rfl ?_
          refine WL.nil ?_
          exact DN.againS (i + 1) (show (i + 1) ≤ l.length ∧ ∀ j (h : j < l.length), j < (i + 1) → l[j].w.name.length ≤ 500 ∧ l[j].data.length ≤ 500 from ⟨by omega, fun j h hj => by by_cases e : j = i; (subst e; exact ⟨by omega, by omega⟩); exact hno j h (by omega)⟩) (show l.length - (i + 1) < l.length - i by omega) (Sx.put rfl (sx_)) sp_
       ·refine WC.exit ?_
        refine DN.then_exit ?_
        refine DN.then_exit ?_
        refine DN.block_exit ?_
        refine ts_ ?_
        refine WC.region ?_
        refine a_ rfl rfl ?_
        refine nt_ ?_
        refine WC.ret ?_
        refine DN.fit (C := H) sp_ ?_
        refine DN.ret1 Tryz.results19 rfl ?_
        first | exact ⟨rfl, true, rfl, fun e => by cases e⟩ | exact ⟨rfl, false, rfl, fun _ => ⟨by omega, by omega, by omega, fun j h hj => hno j h (by omega)⟩⟩
      ·refine gn_ 58 rfl rfl rfl rfl ?_
       refine gn_ 58 rfl rfl rfl rfl ?_
       refine WL.y rfl (Yd.pickF rfl rfl) ?_
       refine nt_ ?_
       refine WC.no rfl ?_
       refine WC.exit ?_
       refine DN.then_exit ?_
       refine DN.then_exit ?_
       refine DN.block_exit ?_
       refine ts_ ?_
       refine WC.region ?_
       refine a_ rfl rfl ?_
       refine nt_ ?_
       refine WC.ret ?_
       refine DN.fit (C := H) sp_ ?_
       refine DN.ret1 Tryz.results19 rfl ?_
       first | exact ⟨rfl, true, rfl, fun e => by cases e⟩ | exact ⟨rfl, false, rfl, fun _ => ⟨by omega, by omega, by omega, fun j h hj => hno j h (by omega)⟩⟩
end Go.Proofs.YtkamlondepceiaaGreat

set_option linter.unusedVariables false
set_option linter.unusedSimpArgs false
set_option maxHeartbeats 8000000
namespace Go.Proofs.YtkamlondepceiaaGreat
open Go.SL
theorem law_CrewMoney (v : Value) (l : List As) (xs : List Value) (H : List Ck) (ha : AskL v l xs H) (hm : l.length ≤ 9223372036854775807) : Reads Tryz.prog 7 [v] H (.bool true) := by
 refine Tells.enter Tryz.func7 rfl Tryz.ntmps7 rfl ?_
 intro w0 R
 have ha9 := ha
 obtain ⟨hv, hx, hA⟩ := ha
 obtain ⟨vo, vc, rfl, hvc⟩ := hv.form
 refine sr_ ?_
 refine a_ rfl rfl ?_
 refine ntsr_ ?_
 refine WL.ca rfl (Ent.func Tryz.call18 rfl) (small_tells H) ?_
 rintro q0 H0 ⟨p, C0, rfl, h0, rfl⟩
 have inv0 := sm_inv
 refine a_ rfl rfl ?_
 refine nt_ ?_
 refine WC.seq ?_
 refine sr_ ?_
 refine m_ rfl rfl ?_
 refine WL.y rfl (Yd.eqlNil Tryz.underlying40 rfl rfl) ?_
 refine WL.renamed (t := 14) (v := .bool false) rfl (congrArg Value.bool (rfl)) ?_
 refine m_ rfl rfl ?_
 refine gy_ 15 rfl rfl rfl (Yd.buildL (pl := [(0, 1), (1, 1), (2, 1)]) (zs := [.slice none 0 0, .slice none 0 0, .slice none 0 0]) (parts := []) (vs := []) (cells := [.slice none 0 0, .slice none 0 0, .slice none 0 0]) kr_ kr_ rfl rfl) ?_
 refine gy_ 15 rfl rfl rfl (Yd.move rfl) ?_
 refine WL.gc (dj := 15) rfl rfl rfl (Ent.func Tryz.call19 rfl) (long_reads _ _ _ _ [] [] [] l xs H (.inl ⟨none, 0, rfl, rfl, rfl⟩) (.inl ⟨none, 0, rfl, rfl, rfl⟩) (.inl ⟨none, 0, rfl, rfl, rfl⟩) ha9 (by decide) (by decide) (by decide) hm) (Sp.p sp_) ?_
 rintro q Hq ⟨hHq, z, rfl, hz⟩
 have hHq := hHq.symm
 subst hHq
 refine WL.y rfl (Yd.pickF rfl rfl) ?_
 refine nt_ ?_
 refine WC.cond rfl (fun h19 => ?_) (fun h19 => ?_)
 ·refine sr_ ?_
  refine m_ rfl rfl ?_
  refine WL.y rfl (Yd.neqNil Tryz.underlying40 rfl rfl) ?_
  refine WL.renamed (t := 21) (v := .bool true) rfl (congrArg Value.bool (rfl)) ?_
  refine m_ rfl rfl ?_
  refine WL.gr (dj := 22) rfl rfl rfl (Ent.func Tryz.call9 rfl) (known12 _) ?_
  refine WL.y rfl (Yd.pickT rfl rfl) ?_
  refine a_ rfl rfl ?_
  refine nt_ ?_
  refine WC.ret ?_
  refine DN.then_ret ?_
  refine DN.fit (C := H) sp_ ?_
  refine DN.ret1 Tryz.results7 rfl ?_
  exact ⟨rfl, rfl⟩
 ·have hnl := hz h19
  refine WC.skip ?_
  refine ts_ ?_
  refine WC.region ?_
  refine m_ rfl rfl ?_
  obtain ⟨hmK0, hmU0⟩ := inv_many inv0
  refine WL.c rfl (Ent.func Tryz.call25 rfl) (cgoods_tells p (Cw.new smG smU [3, 5]) C0 h0 (by omega)) (Sp.p sp_) ?_
  rintro q Hq ⟨S1, Cs1, hT1, ho1, rfl⟩
  have hl1 := hT1.perm.length_eq
  obtain ⟨so1, sc1, rfl, _⟩ := ho1.form
  refine a_ rfl rfl ?_
  refine ntsr_ ?_
  refine m_ rfl rfl ?_
  refine WL.c rfl (Ent.func Tryz.call26 rfl) (caccs_tells p (Cw.new smG smU [3, 5]) C0 h0 (by omega)) (Sp.p sp_) ?_
  rintro q Hq ⟨T1, Ct1, hU1, hq1, rfl⟩
  have hlU1 := hU1.perm.length_eq
  obtain ⟨to1, tc1, rfl, _⟩ := hq1.form
  refine a_ rfl rfl ?_
  refine nt_ ?_
  refine WC.seq ?_
  refine sr_ ?_
  refine a_ rfl rfl ?_
  refine nt_ ?_
  refine WC.block ?_
  refine WC.loopS (fun z : Nat × Cw × List Ck => z.1 ≤ l.length ∧ CwAt 189 198 203 3 5 118 111 22 116 p z.2.1 z.2.2 ∧ CInv smG smU [3, 5] z.2.1) (fun z : Nat × Cw × List Ck => [(6, .int .i64 (z.1 : Int))]) (fun z : Nat × Cw × List Ck => z.2.2 ++ (Cs1 ++ (Ct1 ++ H))) (fun z : Nat × Cw × List Ck => l.length - z.1) (⟨0, (Cw.new smG smU [3, 5]), C0⟩) (show 0 ≤ l.length ∧ CwAt 189 198 203 3 5 118 111 22 116 p ((Cw.new smG smU [3, 5])) C0 ∧ CInv smG smU [3, 5] ((Cw.new smG smU [3, 5])) from ⟨Nat.zero_le _, h0, inv0⟩) (Sx.put rfl (sx_)) sp_ ?_
  rintro ⟨i, s, C⟩ hI
  replace hI : i ≤ l.length ∧ CwAt 189 198 203 3 5 118 111 22 116 p s C ∧ CInv smG smU [3, 5] s := hI
  obtain ⟨hi, h, inv⟩ := hI
  change WC _ _ _ _ _ _ ([(6, .int .i64 (i : Int))] ++ _) (C ++ (Cs1 ++ (Ct1 ++ H)))
  refine WC.seq ?_
  refine sr_ ?_
  refine m_ rfl rfl ?_
  refine m_ rfl rfl ?_
  refine WL.y rfl (Yd.len (e := 54) kr_ rfl) ?_
  refine WL.y rfl (Yd.lss rfl rfl) ?_
  refine m_ rfl rfl ?_
  refine WL.partP (t := 33) rfl (fun hg33 => ?_) (fun hg33 => ?_)
  ·refine gy_ 33 rfl rfl rfl (Yd.move rfl) ?_
   refine gy_ 33 rfl rfl rfl (Yd.lss rfl rfl) ?_
   refine WL.y rfl (Yd.pickT rfl rfl) ?_
   refine nt_ ?_
   refine WC.ite rfl (fun h36 => ?_) (fun h36 => ?_)
   ·have hlt : i < l.length := by omega
    obtain ⟨hw1, hw2⟩ := hnl.2.2.2 i hlt (by omega)
    obtain ⟨vn, vd, hcell, hkn, hkd, _⟩ := hA i hlt
    obtain ⟨ko, kc, rfl, _⟩ := hkn.form
    obtain ⟨eo, ec, rfl, _⟩ := hkd.form
    obtain ⟨hmK, hmU⟩ := inv_many inv
    have hme := inv.ef
    have hmk := inv.ck.1
    refine WC.skip ?_
    refine ts_ ?_
    refine WC.block ?_
    refine sr_ ?_
    refine m_ rfl rfl ?_
    refine m_ rfl rfl ?_
    refine WL.elemA (e := 54) (s := 8) kr_ kr_ kr_ rfl rfl (rfl) (hv.mono gr_) (hcell) (by rfl) (by omega) (hlt) rfl rfl ?_
    intro p41
    refine WL.c rfl (Ent.func Tryz.call20 rfl) (note_tells l[i] _ _ H hkn hkd (by omega)) (Sp.p sp_) ?_
    rintro q1 Hq1 ⟨x, A, rfl, hbx, rfl⟩
    have hnl9 := note_len l[i]
    obtain ⟨n0, hn0⟩ : ∃ m, m = noteA l[i] := ⟨_, rfl⟩
    rw [← hn0] at hbx hnl9 ⊢
    obtain ⟨xo, xc, rfl, _⟩ := hbx.form
    refine WL.h rfl (Hd.alloc (zs := [.int .i64 0, .int .u32 0, .int .u32 0, .int .u64 0, .int .u64 0, .int .u32 0, .int .i64 0, .bool false, .int .i64 0, .slice none 0 0, .slice none 0 0]) kr_ fun b7 => ⟨_, rfl, ?_⟩)
    refine WL.s (Hd.storeAll (n := 11) kr_ rfl rfl (by rfl) one_ fr_ (by rfl) ⟨rfl, ?_⟩)
    refine ntsr_ ?_
    refine f_ 1 kr_ rfl rfl ?_
    refine d_ kr_ rfl mem_ (by rfl) rfl ?_
    refine WL.y rfl (Yd.rem32 _ (3#32) rfl rfl rfl rfl (by decide)) ?_
    refine WL.y rfl (Yd.add32 (1#32) _ rfl rfl rfl rfl) ?_
    refine f_ 1 kr_ rfl rfl ?_
    obtain ⟨n, hn⟩ : ∃ m, m = ({ n0 with epoch := 1#32 + n0.epoch % 3#32 } : Nt) := ⟨_, rfl⟩
    have hbn : Bs (.slice xo n.data.length xc) n.data (A ++ H) := by rw [hn]; exact hbx
    refine WL.s (Hd.store1s (cs' := (ntc n (.slice none 0 0) (.slice xo n.data.length xc))) kr_ rfl rfl (by rfl) fr_ (by rfl) (by subst hn; rfl) ⟨rfl, ?_⟩)
    refine ntsr_ ?_
    refine m_ rfl rfl ?_
    refine WL.h rfl (Hd.loadAll (n := 11) kr_ rfl mem_ (by rfl) ⟨_, rfl, ?_⟩)
    refine WL.c rfl (Ent.func Tryz.call22 rfl) (serve_tells p s C h inv n _ _ (A ++ H) (by rw [hn, hn0]; exact .inl ⟨_, _, rfl, rfl, rfl⟩) hbn) (Sp.p sp_) ?_
    rintro q2 Hq2 ⟨C2, w2, D2, rfl, h2, hD2, rfl⟩
    have inv2 := serve_inv inv n
    have hk2 := serve_key s n
    have hr00 := room_at inv2.dk 0 (by decide)
    have hr11 := room_at inv2.dk 1 (by decide)
    obtain ⟨s2, hs2⟩ : ∃ t, t = serveS s n := ⟨_, rfl⟩
    obtain ⟨a2, ha2⟩ : ∃ t, t = serveN s n := ⟨_, rfl⟩
    rw [← hs2] at h2 inv2 hr00 hr11
    rw [← ha2] at hD2 hk2  ⊢
    obtain ⟨wo2, wc2, rfl, _⟩ := hD2.form
    obtain ⟨hmK2, hmU2⟩ := inv_many inv2
    have hme2 := inv2.ef
    have hmk2 := inv2.ck.1
    refine ntsr_ ?_
    refine m_ rfl rfl ?_
    refine WL.c rfl (Ent.func Tryz.call25 rfl) (cgoods_tells p s2 C2 h2 (by omega)) (Sp.p sp_) ?_
    rintro q Hq ⟨S2, Cs2, hT2, ho2, rfl⟩
    have hl2 := hT2.perm.length_eq
    obtain ⟨so2, sc2, rfl, _⟩ := ho2.form
    obtain ⟨hgl, hgat⟩ := goods_at inv2.st hT1 hT2
    refine a_ rfl rfl ?_
    refine ntsr_ ?_
    refine m_ rfl rfl ?_
    refine WL.c rfl (Ent.func Tryz.call26 rfl) (caccs_tells p s2 C2 h2 (by omega)) (Sp.p sp_) ?_
    rintro q Hq ⟨T2, Ct2, hU2, hq2, rfl⟩
    have hlU2 := hU2.perm.length_eq
    obtain ⟨to2, tc2, rfl, _⟩ := hq2.form
    obtain ⟨hul, huat⟩ := accs_at inv2.pu hU1 hU2
    refine a_ rfl rfl ?_
    refine nt_ ?_
    refine WC.seq ?_
    refine sr_ ?_
    refine m_ rfl rfl ?_
    refine WL.y rfl (Yd.len (e := 73) kr_ rfl) ?_
    refine m_ rfl rfl ?_
    refine WL.y rfl (Yd.len (e := 73) kr_ rfl) ?_
    refine WL.y rfl (Yd.neq rfl rfl) ?_
    refine WL.renamed (t := 60) (v := .bool false) rfl (congrArg Value.bool (decide_eq_false (by omega))) ?_
    refine m_ rfl rfl ?_
    refine gy_ 61 rfl rfl rfl (Yd.move rfl) ?_
    refine gy_ 61 rfl rfl rfl (Yd.len (e := 71) kr_ rfl) ?_
    refine gy_ 61 rfl rfl rfl (Yd.move rfl) ?_
    refine gy_ 61 rfl rfl rfl (Yd.len (e := 71) kr_ rfl) ?_
    refine gy_ 61 rfl rfl rfl (Yd.neq rfl rfl) ?_
    refine WL.renamed (t := 66) (v := .bool false) rfl (congrArg Value.bool (decide_eq_false (by omega))) ?_
    refine WL.y rfl (Yd.pickF rfl rfl) ?_
    refine nt_ ?_
    refine WC.no rfl ?_
    refine WC.skip ?_
    refine ts_ ?_
    refine sr_ ?_
    refine a_ rfl rfl ?_
    refine nt_ ?_
    refine WC.block ?_
    refine WC.loopS (fun z : Nat => z ≤ S2.length) (fun z : Nat => [(10, .int .i64 (z : Int))]) (fun z : Nat => Cs2 ++ (Ct2 ++ (C2 ++ (Cs1 ++ (Ct1 ++ H))))) (fun z : Nat => S2.length - z) (0) (show 0 ≤ S2.length from Nat.zero_le _) (Sx.put rfl (sx_)) sp_ ?_
    rintro k hI
    replace hI : k ≤ S2.length := hI
    obtain hk := hI
    change WC _ _ _ _ _ _ ([(10, .int .i64 (k : Int))] ++ _) (Cs2 ++ (Ct2 ++ (C2 ++ (Cs1 ++ (Ct1 ++ H)))))
    refine WC.seq ?_
    refine sr_ ?_
    refine m_ rfl rfl ?_
    refine m_ rfl rfl ?_
    refine WL.y rfl (Yd.len (e := 73) kr_ rfl) ?_
    refine WL.y rfl (Yd.lss rfl rfl) ?_
    refine nt_ ?_
    refine WC.ite rfl (fun h71 => ?_) (fun h71 => ?_)
    ·have hk2 : k < S2.length := by omega
     have hk1 : k < S1.length := by omega
     obtain ⟨ub, uf, us, uT, ufr, uex, rfl, _, hum, hus⟩ := ho2.rs.lies (by omega)
     obtain ⟨fb, ff, fs, fT, ffr, fex, rfl, _, hfm, hfs⟩ := ho1.rs.lies (by omega)
     obtain ⟨e1, e2, e3, e4, e5⟩ := hgat k hk2 hk1
     refine WC.skip ?_
     refine ts_ ?_
     refine WC.block ?_
     refine WC.seq ?_
     refine WC.draw 32 kr_ rfl ?_
     refine WA.float (N := 32) rfl ?_
     refine WAF.add (i := 0) (d := 74) rfl (QF.mk [] [] rfl rfl kr_ rfl (QAt.y Wt.none (Yd.move rfl))) ?_
     refine WAF.add (i := 1) (d := 75) rfl (QF.mk [] [] rfl rfl kr_ rfl (QAt.y Wt.none (Yd.move rfl))) ?_
     refine WAF.add (i := 2) (d := 76) rfl (QF.mk [1, 0] [(75, _), (74, _)] rfl rfl kr_ rfl (QAt.y Wt.none (Yd.indexAddr (e := 73) (s := 2) kr_ kr_ rfl rfl (by omega) (by omega)))) ?_
     refine WAF.add (i := 3) (d := 77) rfl (QF.mk [2] [(76, _)] rfl rfl kr_ rfl (QAt.y Wt.none (Yd.fieldAddr (k := 0) kr_ rfl))) ?_
     refine WAF.add (i := 4) (d := 78) rfl (QF.mk [3] [(77, _)] rfl rfl kr_ rfl (QAt.rd Wt.none (Rd.load1 (v := .string S2[k].name) (b := ub) (o := uf + (k : Int).toNat * 2 + 0) (cs := us) kr_ rfl (Gr.get gr_ hum) (cell_at2 (L := S2) cellsG_len hus (by omega) (by omega))))) ?_
     refine WAF.add (i := 5) (d := 79) rfl (QF.mk [] [] rfl rfl kr_ rfl (QAt.y Wt.none (Yd.move rfl))) ?_
     refine WAF.add (i := 6) (d := 80) rfl (QF.mk [] [] rfl rfl kr_ rfl (QAt.y Wt.none (Yd.move rfl))) ?_
     refine WAF.add (i := 7) (d := 81) rfl (QF.mk [6, 5] [(80, _), (79, _)] rfl rfl kr_ rfl (QAt.y Wt.none (Yd.indexAddr (e := 73) (s := 2) kr_ kr_ rfl rfl (by omega) (by omega)))) ?_
     refine WAF.add (i := 8) (d := 82) rfl (QF.mk [7] [(81, _)] rfl rfl kr_ rfl (QAt.y Wt.none (Yd.fieldAddr (k := 0) kr_ rfl))) ?_
     refine WAF.add (i := 9) (d := 83) rfl (QF.mk [8] [(82, _)] rfl rfl kr_ rfl (QAt.rd Wt.none (Rd.load1 (v := .string S1[k].name) (b := fb) (o := ff + (k : Int).toNat * 2 + 0) (cs := fs) kr_ rfl (Gr.get gr_ hfm) (cell_at2 (L := S1) cellsG_len hfs (by omega) (by omega))))) ?_
     refine WAF.add (i := 10) (d := 84) rfl (QF.mk [9, 4] [(83, _), (78, _)] rfl rfl kr_ rfl (QAt.y Wt.none (Yd.neqS rfl rfl))) ?_
     refine WAF.ren (v := .bool false) (congrArg Value.bool (decide_eq_false (not_not_intro e1))) ?_
     refine WAF.add (i := 11) (d := 85) rfl (QF.mk [10] [(84, _)] rfl rfl kr_ rfl (QAt.y Wt.none (Yd.move rfl))) ?_
     refine WAF.add (i := 12) (d := 86) rfl (QF.mk [11] [(85, _)] rfl rfl kr_ rfl (QAt.y (Wt.yes (dj := 85) rfl rfl) (Yd.move rfl))) ?_
     refine WAF.add (i := 13) (d := 87) rfl (QF.mk [11] [(85, _)] rfl rfl kr_ rfl (QAt.y (Wt.yes (dj := 85) rfl rfl) (Yd.move rfl))) ?_
     refine WAF.add (i := 14) (d := 88) rfl (QF.mk [13, 12, 11] [(87, _), (86, _), (85, _)] rfl rfl kr_ rfl (QAt.y (Wt.yes (dj := 85) rfl rfl) (Yd.indexAddr (e := 73) (s := 2) kr_ kr_ rfl rfl (by omega) (by omega)))) ?_
     refine WAF.add (i := 15) (d := 89) rfl (QF.mk [14, 11] [(88, _), (85, _)] rfl rfl kr_ rfl (QAt.y (Wt.yes (dj := 85) rfl rfl) (Yd.fieldAddr (k := 1) kr_ rfl))) ?_
     refine WAF.add (i := 16) (d := 90) rfl (QF.mk [15, 11] [(89, _), (85, _)] rfl rfl kr_ rfl (QAt.rd (Wt.yes (dj := 85) rfl rfl) (Rd.load1 (v := .int .i64 S2[k].free) (b := ub) (o := uf + (k : Int).toNat * 2 + 1) (cs := us) kr_ rfl (Gr.get gr_ hum) (cell_at2 (L := S2) cellsG_len hus (by omega) (by omega))))) ?_
     refine WAF.add (i := 17) (d := 91) rfl (QF.mk [16, 11] [(90, _), (85, _)] rfl rfl kr_ rfl (QAt.y (Wt.yes (dj := 85) rfl rfl) (Yd.lss rfl rfl))) ?_
     refine WAF.ren (v := .bool false) (congrArg Value.bool (decide_eq_false (by omega))) ?_
     refine WAF.add (i := 18) (d := 92) rfl (QF.mk [17, 11] [(91, _), (85, _)] rfl rfl kr_ rfl (QAt.y Wt.none (Yd.pickF rfl rfl))) ?_
     refine WAF.add (i := 19) (d := 93) rfl (QF.mk [18, 11] [(92, _), (85, _)] rfl rfl kr_ rfl (QAt.y Wt.none (Yd.move rfl))) ?_
     refine WAF.add (i := 20) (d := 94) rfl (QF.mk [19] [(93, _)] rfl rfl kr_ rfl (QAt.y (Wt.yes (dj := 93) rfl rfl) (Yd.move rfl))) ?_
     refine WAF.add (i := 21) (d := 95) rfl (QF.mk [19] [(93, _)] rfl rfl kr_ rfl (QAt.y (Wt.yes (dj := 93) rfl rfl) (Yd.move rfl))) ?_
     refine WAF.add (i := 22) (d := 96) rfl (QF.mk [21, 20, 19] [(95, _), (94, _), (93, _)] rfl rfl kr_ rfl (QAt.y (Wt.yes (dj := 93) rfl rfl) (Yd.indexAddr (e := 73) (s := 2) kr_ kr_ rfl rfl (by omega) (by omega)))) ?_
     refine WAF.add (i := 23) (d := 97) rfl (QF.mk [22, 19] [(96, _), (93, _)] rfl rfl kr_ rfl (QAt.y (Wt.yes (dj := 93) rfl rfl) (Yd.fieldAddr (k := 1) kr_ rfl))) ?_
     refine WAF.add (i := 24) (d := 98) rfl (QF.mk [23, 19] [(97, _), (93, _)] rfl rfl kr_ rfl (QAt.rd (Wt.yes (dj := 93) rfl rfl) (Rd.load1 (v := .int .i64 S2[k].free) (b := ub) (o := uf + (k : Int).toNat * 2 + 1) (cs := us) kr_ rfl (Gr.get gr_ hum) (cell_at2 (L := S2) cellsG_len hus (by omega) (by omega))))) ?_
     refine WAF.add (i := 25) (d := 99) rfl (QF.mk [19] [(93, _)] rfl rfl kr_ rfl (QAt.y (Wt.yes (dj := 93) rfl rfl) (Yd.move rfl))) ?_
     refine WAF.add (i := 26) (d := 100) rfl (QF.mk [19] [(93, _)] rfl rfl kr_ rfl (QAt.y (Wt.yes (dj := 93) rfl rfl) (Yd.move rfl))) ?_
     refine WAF.add (i := 27) (d := 101) rfl (QF.mk [26, 25, 19] [(100, _), (99, _), (93, _)] rfl rfl kr_ rfl (QAt.y (Wt.yes (dj := 93) rfl rfl) (Yd.indexAddr (e := 73) (s := 2) kr_ kr_ rfl rfl (by omega) (by omega)))) ?_
     refine WAF.add (i := 28) (d := 102) rfl (QF.mk [27, 19] [(101, _), (93, _)] rfl rfl kr_ rfl (QAt.y (Wt.yes (dj := 93) rfl rfl) (Yd.fieldAddr (k := 1) kr_ rfl))) ?_
     refine WAF.add (i := 29) (d := 103) rfl (QF.mk [28, 19] [(102, _), (93, _)] rfl rfl kr_ rfl (QAt.rd (Wt.yes (dj := 93) rfl rfl) (Rd.load1 (v := .int .i64 S1[k].free) (b := fb) (o := ff + (k : Int).toNat * 2 + 1) (cs := fs) kr_ rfl (Gr.get gr_ hfm) (cell_at2 (L := S1) cellsG_len hfs (by omega) (by omega))))) ?_
     refine WAF.add (i := 30) (d := 104) rfl (QF.mk [29, 24, 19] [(103, _), (98, _), (93, _)] rfl rfl kr_ rfl (QAt.y (Wt.yes (dj := 93) rfl rfl) (Yd.gtr rfl rfl))) ?_
     refine WAF.ren (v := .bool false) (congrArg Value.bool (decide_eq_false (by omega))) ?_
     refine WAF.add (i := 31) (d := 105) rfl (QF.mk [30, 19] [(104, _), (93, _)] rfl rfl kr_ rfl (QAt.y Wt.none (Yd.pickF rfl rfl))) ?_
     refine WAF.done (pd := [(31, 105), (30, 104), (29, 103), (28, 102), (27, 101), (26, 100), (25, 99), (24, 98), (23, 97), (22, 96), (21, 95), (20, 94), (19, 93), (18, 92), (17, 91), (16, 90), (15, 89), (14, 88), (13, 87), (12, 86), (11, 85), (10, 84), (9, 83), (8, 82), (7, 81), (6, 80), (5, 79), (4, 78), (3, 77), (2, 76), (1, 75), (0, 74)]) rfl kr_ kr_ (all_c rfl (all_c rfl (all_c rfl (all_c rfl (all_c rfl (all_c rfl (all_c rfl (all_c rfl (all_c rfl (all_c rfl (all_c rfl (all_c rfl (all_c rfl (all_c rfl (all_c rfl (all_c rfl (all_c rfl (all_c rfl (all_c rfl (all_c rfl (all_c rfl (all_c rfl (all_c rfl (all_c rfl (all_c rfl (all_c rfl (all_c rfl (all_c rfl (all_c rfl (all_c rfl (all_c rfl (all_c rfl (all_n))))))))))))))))))))))))))))))))) (all_c (QF.mk [30, 19] [(104, _), (93, _)] rfl rfl kr_ rfl (QAt.y Wt.none (Yd.pickF rfl rfl))) (all_c (QF.ren (congrArg Value.bool (decide_eq_false (by omega))) (QF.mk [29, 24, 19] [(103, _), (98, _), (93, _)] rfl rfl kr_ rfl (QAt.y (Wt.yes (dj := 93) rfl rfl) (Yd.gtr rfl rfl)))) (all_c (QF.mk [28, 19] [(102, _), (93, _)] rfl rfl kr_ rfl (QAt.rd (Wt.yes (dj := 93) rfl rfl) (Rd.load1 (v := .int .i64 S1[k].free) (b := fb) (o := ff + (k : Int).toNat * 2 + 1) (cs := fs) kr_ rfl (Gr.get gr_ hfm) (cell_at2 (L := S1) cellsG_len hfs (by omega) (by omega))))) (all_c (QF.mk [27, 19] [(101, _), (93, _)] rfl rfl kr_ rfl (QAt.y (Wt.yes (dj := 93) rfl rfl) (Yd.fieldAddr (k := 1) kr_ rfl))) (all_c (QF.mk [26, 25, 19] [(100, _), (99, _), (93, _)] rfl rfl kr_ rfl (QAt.y (Wt.yes (dj := 93) rfl rfl) (Yd.indexAddr (e := 73) (s := 2) kr_ kr_ rfl rfl (by omega) (by omega)))) (all_c (QF.mk [19] [(93, _)] rfl rfl kr_ rfl (QAt.y (Wt.yes (dj := 93) rfl rfl) (Yd.move rfl))) (all_c (QF.mk [19] [(93, _)] rfl rfl kr_ rfl (QAt.y (Wt.yes (dj := 93) rfl rfl) (Yd.move rfl))) (all_c (QF.mk [23, 19] [(97, _), (93, _)] rfl rfl kr_ rfl (QAt.rd (Wt.yes (dj := 93) rfl rfl) (Rd.load1 (v := .int .i64 S2[k].free) (b := ub) (o := uf + (k : Int).toNat * 2 + 1) (cs := us) kr_ rfl (Gr.get gr_ hum) (cell_at2 (L := S2) cellsG_len hus (by omega) (by omega))))) (all_c (QF.mk [22, 19] [(96, _), (93, _)] rfl rfl kr_ rfl (QAt.y (Wt.yes (dj := 93) rfl rfl) (Yd.fieldAddr (k := 1) kr_ rfl))) (all_c (QF.mk [21, 20, 19] [(95, _), (94, _), (93, _)] rfl rfl kr_ rfl (QAt.y (Wt.yes (dj := 93) rfl rfl) (Yd.indexAddr (e := 73) (s := 2) kr_ kr_ rfl rfl (by omega) (by omega)))) (all_c (QF.mk [19] [(93, _)] rfl rfl kr_ rfl (QAt.y (Wt.yes (dj := 93) rfl rfl) (Yd.move rfl))) (all_c (QF.mk [19] [(93, _)] rfl rfl kr_ rfl (QAt.y (Wt.yes (dj := 93) rfl rfl) (Yd.move rfl))) (all_c (QF.mk [18, 11] [(92, _), (85, _)] rfl rfl kr_ rfl (QAt.y Wt.none (Yd.move rfl))) (all_c (QF.mk [17, 11] [(91, _), (85, _)] rfl rfl kr_ rfl (QAt.y Wt.none (Yd.pickF rfl rfl))) (all_c (QF.ren (congrArg Value.bool (decide_eq_false (by omega))) (QF.mk [16, 11] [(90, _), (85, _)] rfl rfl kr_ rfl (QAt.y (Wt.yes (dj := 85) rfl rfl) (Yd.lss rfl rfl)))) (all_c (QF.mk [15, 11] [(89, _), (85, _)] rfl rfl kr_ rfl (QAt.rd (Wt.yes (dj := 85) rfl rfl) (Rd.load1 (v := .int .i64 S2[k].free) (b := ub) (o := uf + (k : Int).toNat * 2 + 1) (cs := us) kr_ rfl (Gr.get gr_ hum) (cell_at2 (L := S2) cellsG_len hus (by omega) (by omega))))) (all_c (QF.mk [14, 11] [(88, _), (85, _)] rfl rfl kr_ rfl (QAt.y (Wt.yes (dj := 85) rfl rfl) (Yd.fieldAddr (k := 1) kr_ rfl))) (all_c (QF.mk [13, 12, 11] [(87, _), (86, _), (85, _)] rfl rfl kr_ rfl (QAt.y (Wt.yes (dj := 85) rfl rfl) (Yd.indexAddr (e := 73) (s := 2) kr_ kr_ rfl rfl (by omega) (by omega)))) (all_c (QF.mk [11] [(85, _)] rfl rfl kr_ rfl (QAt.y (Wt.yes (dj := 85) rfl rfl) (Yd.move rfl))) (all_c (QF.mk [11] [(85, _)] rfl rfl kr_ rfl (QAt.y (Wt.yes (dj := 85) rfl rfl) (Yd.move rfl))) (all_c (QF.mk [10] [(84, _)] rfl rfl kr_ rfl (QAt.y Wt.none (Yd.move rfl))) (all_c (QF.ren (congrArg Value.bool (decide_eq_false (not_not_intro e1))) (QF.mk [9, 4] [(83, _), (78, _)] rfl rfl kr_ rfl (QAt.y Wt.none (Yd.neqS rfl rfl)))) (all_c (QF.mk [8] [(82, _)] rfl rfl kr_ rfl (QAt.rd Wt.none (Rd.load1 (v := .string S1[k].name) (b := fb) (o := ff + (k : Int).toNat * 2 + 0) (cs := fs) kr_ rfl (Gr.get gr_ hfm) (cell_at2 (L := S1) cellsG_len hfs (by omega) (by omega))))) (all_c (QF.mk [7] [(81, _)] rfl rfl kr_ rfl (QAt.y Wt.none (Yd.fieldAddr (k := 0) kr_ rfl))) (all_c (QF.mk [6, 5] [(80, _), (79, _)] rfl rfl kr_ rfl (QAt.y Wt.none (Yd.indexAddr (e := 73) (s := 2) kr_ kr_ rfl rfl (by omega) (by omega)))) (all_c (QF.mk [] [] rfl rfl kr_ rfl (QAt.y Wt.none (Yd.move rfl))) (all_c (QF.mk [] [] rfl rfl kr_ rfl (QAt.y Wt.none (Yd.move rfl))) (all_c (QF.mk [3] [(77, _)] rfl rfl kr_ rfl (QAt.rd Wt.none (Rd.load1 (v := .string S2[k].name) (b := ub) (o := uf + (k : Int).toNat * 2 + 0) (cs := us) kr_ rfl (Gr.get gr_ hum) (cell_at2 (L := S2) cellsG_len hus (by omega) (by omega))))) (all_c (QF.mk [2] [(76, _)] rfl rfl kr_ rfl (QAt.y Wt.none (Yd.fieldAddr (k := 0) kr_ rfl))) (all_c (QF.mk [1, 0] [(75, _), (74, _)] rfl rfl kr_ rfl (QAt.y Wt.none (Yd.indexAddr (e := 73) (s := 2) kr_ kr_ rfl rfl (by omega) (by omega)))) (all_c (QF.mk [] [] rfl rfl kr_ rfl (QAt.y Wt.none (Yd.move rfl))) (all_c (QF.mk [] [] rfl rfl kr_ rfl (QAt.y Wt.none (Yd.move rfl))) (all_n))))))))))))))))))))))))))))))))) ?_
     change DN _ _ _ _ _ _ ([(105, _), (104, _), (103, _), (102, _), (101, _), (100, _), (99, _), (98, _), (97, _), (96, _), (95, _), (94, _), (93, _), (92, _), (91, _), (90, _), (89, _), (88, _), (87, _), (86, _), (85, _), (84, _), (83, _), (82, _), (81, _), (80, _), (79, _), (78, _), (77, _), (76, _), (75, _), (74, _)] ++ _) _
     refine DN.then_normal ?_
     refine WC.no rfl ?_
     refine WC.skip ?_
     refine DN.block_normal ?_
     refine DN.then_normal ?_
     refine WC.region ?_
     refine m_ rfl rfl ?_
     refine WL.y rfl (Yd.add rfl rfl (by omega) (by omega)) ?_
     refine a_ rfl rfl ?_
     refine WL.nil ?_
     exact DN.againS (k + 1) (show (k + 1) ≤ S2.length from by omega) (show S2.length - (k + 1) < S2.length - k by omega) (Sx.put rfl (sx_)) sp_
    ·refine WC.exit ?_
     refine DN.then_exit ?_
     refine DN.then_exit ?_
     refine DN.block_exit ?_
     refine ts_ ?_
     refine sr_ ?_
     refine a_ rfl rfl ?_
     refine nt_ ?_
     refine WC.block ?_
     refine WC.loopS (fun z : Nat => z ≤ T2.length) (fun z : Nat => [(11, .int .i64 (z : Int))]) (fun z : Nat => Cs2 ++ (Ct2 ++ (C2 ++ (Cs1 ++ (Ct1 ++ H))))) (fun z : Nat => T2.length - z) (0) (show 0 ≤ T2.length from Nat.zero_le _) (Sx.put rfl (sx_)) sp_ ?_
     rintro k hI
     replace hI : k ≤ T2.length := hI
     obtain hk := hI
     change WC _ _ _ _ _ _ ([(11, .int .i64 (k : Int))] ++ _) (Cs2 ++ (Ct2 ++ (C2 ++ (Cs1 ++ (Ct1 ++ H)))))
     refine WC.seq ?_
     refine sr_ ?_
     refine m_ rfl rfl ?_
     refine m_ rfl rfl ?_
     refine WL.y rfl (Yd.len (e := 71) kr_ rfl) ?_
     refine WL.y rfl (Yd.lss rfl rfl) ?_
     refine nt_ ?_
     refine WC.ite rfl (fun h109 => ?_) (fun h109 => ?_)
     ·have hk2 : k < T2.length := by omega
      have hk1 : k < T1.length := by omega
      obtain ⟨ub, uf, us, uT, ufr, uex, rfl, _, hum, hus⟩ := hq2.rs.lies (by omega)
      obtain ⟨fb, ff, fs, fT, ffr, fex, rfl, _, hfm, hfs⟩ := hq1.rs.lies (by omega)
      obtain ⟨e1, e2, e3, e4, e5, e6⟩ := huat k hk2 hk1
      refine WC.skip ?_
      refine ts_ ?_
      refine WC.block ?_
      refine WC.seq ?_
      refine WC.draw 45 kr_ rfl ?_
      refine WA.float (N := 45) rfl ?_
      refine WAF.add (i := 0) (d := 112) rfl (QF.mk [] [] rfl rfl kr_ rfl (QAt.y Wt.none (Yd.move rfl))) ?_
      refine WAF.add (i := 1) (d := 113) rfl (QF.mk [] [] rfl rfl kr_ rfl (QAt.y Wt.none (Yd.move rfl))) ?_
      refine WAF.add (i := 2) (d := 114) rfl (QF.mk [1, 0] [(113, _), (112, _)] rfl rfl kr_ rfl (QAt.y Wt.none (Yd.indexAddr (e := 71) (s := 3) kr_ kr_ rfl rfl (by omega) (by omega)))) ?_
      refine WAF.add (i := 3) (d := 115) rfl (QF.mk [2] [(114, _)] rfl rfl kr_ rfl (QAt.y Wt.none (Yd.fieldAddr (k := 0) kr_ rfl))) ?_
      refine WAF.add (i := 4) (d := 116) rfl (QF.mk [3] [(115, _)] rfl rfl kr_ rfl (QAt.rd Wt.none (Rd.load1 (v := .string T2[k].name) (b := ub) (o := uf + (k : Int).toNat * 3 + 0) (cs := us) kr_ rfl (Gr.get gr_ hum) (cell_at2 (L := T2) cellsU_len hus (by omega) (by omega))))) ?_
      refine WAF.add (i := 5) (d := 117) rfl (QF.mk [] [] rfl rfl kr_ rfl (QAt.y Wt.none (Yd.move rfl))) ?_
      refine WAF.add (i := 6) (d := 118) rfl (QF.mk [] [] rfl rfl kr_ rfl (QAt.y Wt.none (Yd.move rfl))) ?_
      refine WAF.add (i := 7) (d := 119) rfl (QF.mk [6, 5] [(118, _), (117, _)] rfl rfl kr_ rfl (QAt.y Wt.none (Yd.indexAddr (e := 71) (s := 3) kr_ kr_ rfl rfl (by omega) (by omega)))) ?_
      refine WAF.add (i := 8) (d := 120) rfl (QF.mk [7] [(119, _)] rfl rfl kr_ rfl (QAt.y Wt.none (Yd.fieldAddr (k := 0) kr_ rfl))) ?_
      refine WAF.add (i := 9) (d := 121) rfl (QF.mk [8] [(120, _)] rfl rfl kr_ rfl (QAt.rd Wt.none (Rd.load1 (v := .string T1[k].name) (b := fb) (o := ff + (k : Int).toNat * 3 + 0) (cs := fs) kr_ rfl (Gr.get gr_ hfm) (cell_at2 (L := T1) cellsU_len hfs (by omega) (by omega))))) ?_
      refine WAF.add (i := 10) (d := 122) rfl (QF.mk [9, 4] [(121, _), (116, _)] rfl rfl kr_ rfl (QAt.y Wt.none (Yd.neqS rfl rfl))) ?_
      refine WAF.ren (v := .bool false) (congrArg Value.bool (decide_eq_false (not_not_intro e1))) ?_
      refine WAF.add (i := 11) (d := 123) rfl (QF.mk [10] [(122, _)] rfl rfl kr_ rfl (QAt.y Wt.none (Yd.move rfl))) ?_
      refine WAF.add (i := 12) (d := 124) rfl (QF.mk [11] [(123, _)] rfl rfl kr_ rfl (QAt.y (Wt.yes (dj := 123) rfl rfl) (Yd.move rfl))) ?_
      refine WAF.add (i := 13) (d := 125) rfl (QF.mk [11] [(123, _)] rfl rfl kr_ rfl (QAt.y (Wt.yes (dj := 123) rfl rfl) (Yd.move rfl))) ?_
      refine WAF.add (i := 14) (d := 126) rfl (QF.mk [13, 12, 11] [(125, _), (124, _), (123, _)] rfl rfl kr_ rfl (QAt.y (Wt.yes (dj := 123) rfl rfl) (Yd.indexAddr (e := 71) (s := 3) kr_ kr_ rfl rfl (by omega) (by omega)))) ?_
      refine WAF.add (i := 15) (d := 127) rfl (QF.mk [14, 11] [(126, _), (123, _)] rfl rfl kr_ rfl (QAt.y (Wt.yes (dj := 123) rfl rfl) (Yd.fieldAddr (k := 2) kr_ rfl))) ?_
      refine WAF.add (i := 16) (d := 128) rfl (QF.mk [15, 11] [(127, _), (123, _)] rfl rfl kr_ rfl (QAt.rd (Wt.yes (dj := 123) rfl rfl) (Rd.load1 (v := .int .i64 T2[k].held) (b := ub) (o := uf + (k : Int).toNat * 3 + 2) (cs := us) kr_ rfl (Gr.get gr_ hum) (cell_at2 (L := T2) cellsU_len hus (by omega) (by omega))))) ?_
      refine WAF.add (i := 17) (d := 129) rfl (QF.mk [16, 11] [(128, _), (123, _)] rfl rfl kr_ rfl (QAt.y (Wt.yes (dj := 123) rfl rfl) (Yd.lss rfl rfl))) ?_
      refine WAF.ren (v := .bool false) (congrArg Value.bool (decide_eq_false (by omega))) ?_
      refine WAF.add (i := 18) (d := 130) rfl (QF.mk [17, 11] [(129, _), (123, _)] rfl rfl kr_ rfl (QAt.y Wt.none (Yd.pickF rfl rfl))) ?_
      refine WAF.add (i := 19) (d := 131) rfl (QF.mk [18, 11] [(130, _), (123, _)] rfl rfl kr_ rfl (QAt.y Wt.none (Yd.move rfl))) ?_
      refine WAF.add (i := 20) (d := 132) rfl (QF.mk [19] [(131, _)] rfl rfl kr_ rfl (QAt.y (Wt.yes (dj := 131) rfl rfl) (Yd.move rfl))) ?_
      refine WAF.add (i := 21) (d := 133) rfl (QF.mk [19] [(131, _)] rfl rfl kr_ rfl (QAt.y (Wt.yes (dj := 131) rfl rfl) (Yd.move rfl))) ?_
      refine WAF.add (i := 22) (d := 134) rfl (QF.mk [21, 20, 19] [(133, _), (132, _), (131, _)] rfl rfl kr_ rfl (QAt.y (Wt.yes (dj := 131) rfl rfl) (Yd.indexAddr (e := 71) (s := 3) kr_ kr_ rfl rfl (by omega) (by omega)))) ?_
      refine WAF.add (i := 23) (d := 135) rfl (QF.mk [22, 19] [(134, _), (131, _)] rfl rfl kr_ rfl (QAt.y (Wt.yes (dj := 131) rfl rfl) (Yd.fieldAddr (k := 1) kr_ rfl))) ?_
      refine WAF.add (i := 24) (d := 136) rfl (QF.mk [23, 19] [(135, _), (131, _)] rfl rfl kr_ rfl (QAt.rd (Wt.yes (dj := 131) rfl rfl) (Rd.load1 (v := .int .i64 T2[k].money) (b := ub) (o := uf + (k : Int).toNat * 3 + 1) (cs := us) kr_ rfl (Gr.get gr_ hum) (cell_at2 (L := T2) cellsU_len hus (by omega) (by omega))))) ?_
      refine WAF.add (i := 25) (d := 137) rfl (QF.mk [19] [(131, _)] rfl rfl kr_ rfl (QAt.y (Wt.yes (dj := 131) rfl rfl) (Yd.move rfl))) ?_
      refine WAF.add (i := 26) (d := 138) rfl (QF.mk [19] [(131, _)] rfl rfl kr_ rfl (QAt.y (Wt.yes (dj := 131) rfl rfl) (Yd.move rfl))) ?_
      refine WAF.add (i := 27) (d := 139) rfl (QF.mk [26, 25, 19] [(138, _), (137, _), (131, _)] rfl rfl kr_ rfl (QAt.y (Wt.yes (dj := 131) rfl rfl) (Yd.indexAddr (e := 71) (s := 3) kr_ kr_ rfl rfl (by omega) (by omega)))) ?_
      refine WAF.add (i := 28) (d := 140) rfl (QF.mk [27, 19] [(139, _), (131, _)] rfl rfl kr_ rfl (QAt.y (Wt.yes (dj := 131) rfl rfl) (Yd.fieldAddr (k := 2) kr_ rfl))) ?_
      refine WAF.add (i := 29) (d := 141) rfl (QF.mk [28, 19] [(140, _), (131, _)] rfl rfl kr_ rfl (QAt.rd (Wt.yes (dj := 131) rfl rfl) (Rd.load1 (v := .int .i64 T2[k].held) (b := ub) (o := uf + (k : Int).toNat * 3 + 2) (cs := us) kr_ rfl (Gr.get gr_ hum) (cell_at2 (L := T2) cellsU_len hus (by omega) (by omega))))) ?_
      refine WAF.add (i := 30) (d := 142) rfl (QF.mk [29, 24, 19] [(141, _), (136, _), (131, _)] rfl rfl kr_ rfl (QAt.y (Wt.yes (dj := 131) rfl rfl) (Yd.lss rfl rfl))) ?_
      refine WAF.ren (v := .bool false) (congrArg Value.bool (decide_eq_false (by omega))) ?_
      refine WAF.add (i := 31) (d := 143) rfl (QF.mk [30, 19] [(142, _), (131, _)] rfl rfl kr_ rfl (QAt.y Wt.none (Yd.pickF rfl rfl))) ?_
      refine WAF.add (i := 32) (d := 144) rfl (QF.mk [31, 19] [(143, _), (131, _)] rfl rfl kr_ rfl (QAt.y Wt.none (Yd.move rfl))) ?_
      refine WAF.add (i := 33) (d := 145) rfl (QF.mk [32] [(144, _)] rfl rfl kr_ rfl (QAt.y (Wt.yes (dj := 144) rfl rfl) (Yd.move rfl))) ?_
      refine WAF.add (i := 34) (d := 146) rfl (QF.mk [32] [(144, _)] rfl rfl kr_ rfl (QAt.y (Wt.yes (dj := 144) rfl rfl) (Yd.move rfl))) ?_
      refine WAF.add (i := 35) (d := 147) rfl (QF.mk [34, 33, 32] [(146, _), (145, _), (144, _)] rfl rfl kr_ rfl (QAt.y (Wt.yes (dj := 144) rfl rfl) (Yd.indexAddr (e := 71) (s := 3) kr_ kr_ rfl rfl (by omega) (by omega)))) ?_
      refine WAF.add (i := 36) (d := 148) rfl (QF.mk [35, 32] [(147, _), (144, _)] rfl rfl kr_ rfl (QAt.y (Wt.yes (dj := 144) rfl rfl) (Yd.fieldAddr (k := 1) kr_ rfl))) ?_
      refine WAF.add (i := 37) (d := 149) rfl (QF.mk [36, 32] [(148, _), (144, _)] rfl rfl kr_ rfl (QAt.rd (Wt.yes (dj := 144) rfl rfl) (Rd.load1 (v := .int .i64 T2[k].money) (b := ub) (o := uf + (k : Int).toNat * 3 + 1) (cs := us) kr_ rfl (Gr.get gr_ hum) (cell_at2 (L := T2) cellsU_len hus (by omega) (by omega))))) ?_
      refine WAF.add (i := 38) (d := 150) rfl (QF.mk [32] [(144, _)] rfl rfl kr_ rfl (QAt.y (Wt.yes (dj := 144) rfl rfl) (Yd.move rfl))) ?_
      refine WAF.add (i := 39) (d := 151) rfl (QF.mk [32] [(144, _)] rfl rfl kr_ rfl (QAt.y (Wt.yes (dj := 144) rfl rfl) (Yd.move rfl))) ?_
      refine WAF.add (i := 40) (d := 152) rfl (QF.mk [39, 38, 32] [(151, _), (150, _), (144, _)] rfl rfl kr_ rfl (QAt.y (Wt.yes (dj := 144) rfl rfl) (Yd.indexAddr (e := 71) (s := 3) kr_ kr_ rfl rfl (by omega) (by omega)))) ?_
      refine WAF.add (i := 41) (d := 153) rfl (QF.mk [40, 32] [(152, _), (144, _)] rfl rfl kr_ rfl (QAt.y (Wt.yes (dj := 144) rfl rfl) (Yd.fieldAddr (k := 1) kr_ rfl))) ?_
      refine WAF.add (i := 42) (d := 154) rfl (QF.mk [41, 32] [(153, _), (144, _)] rfl rfl kr_ rfl (QAt.rd (Wt.yes (dj := 144) rfl rfl) (Rd.load1 (v := .int .i64 T1[k].money) (b := fb) (o := ff + (k : Int).toNat * 3 + 1) (cs := fs) kr_ rfl (Gr.get gr_ hfm) (cell_at2 (L := T1) cellsU_len hfs (by omega) (by omega))))) ?_
      refine WAF.add (i := 43) (d := 155) rfl (QF.mk [42, 37, 32] [(154, _), (149, _), (144, _)] rfl rfl kr_ rfl (QAt.y (Wt.yes (dj := 144) rfl rfl) (Yd.gtr rfl rfl))) ?_
      refine WAF.ren (v := .bool false) (congrArg Value.bool (decide_eq_false (by omega))) ?_
      refine WAF.add (i := 44) (d := 156) rfl (QF.mk [43, 32] [(155, _), (144, _)] rfl rfl kr_ rfl (QAt.y Wt.none (Yd.pickF rfl rfl))) ?_
      refine WAF.done (pd := [(44, 156), (43, 155), (42, 154), (41, 153), (40, 152), (39, 151), (38, 150), (37, 149), (36, 148), (35, 147), (34, 146), (33, 145), (32, 144), (31, 143), (30, 142), (29, 141), (28, 140), (27, 139), (26, 138), (25, 137), (24, 136), (23, 135), (22, 134), (21, 133), (20, 132), (19, 131), (18, 130), (17, 129), (16, 128), (15, 127), (14, 126), (13, 125), (12, 124), (11, 123), (10, 122), (9, 121), (8, 120), (7, 119), (6, 118), (5, 117), (4, 116), (3, 115), (2, 114), (1, 113), (0, 112)]) rfl kr_ kr_ (all_c rfl (all_c rfl (all_c rfl (all_c rfl (all_c rfl (all_c rfl (all_c rfl (all_c rfl (all_c rfl (all_c rfl (all_c rfl (all_c rfl (all_c rfl (all_c rfl (all_c rfl (all_c rfl (all_c rfl (all_c rfl (all_c rfl (all_c rfl (all_c rfl (all_c rfl (all_c rfl (all_c rfl (all_c rfl (all_c rfl (all_c rfl (all_c rfl (all_c rfl (all_c rfl (all_c rfl (all_c rfl (all_c rfl (all_c rfl (all_c rfl (all_c rfl (all_c rfl (all_c rfl (all_c rfl (all_c rfl (all_c rfl (all_c rfl (all_c rfl (all_c rfl (all_c rfl (all_n)))))))))))))))))))))))))))))))))))))))))))))) (all_c (QF.mk [43, 32] [(155, _), (144, _)] rfl rfl kr_ rfl (QAt.y Wt.none (Yd.pickF rfl rfl))) (all_c (QF.ren (congrArg Value.bool (decide_eq_false (by omega))) (QF.mk [42, 37, 32] [(154, _), (149, _), (144, _)] rfl rfl kr_ rfl (QAt.y (Wt.yes (dj := 144) rfl rfl) (Yd.gtr rfl rfl)))) (all_c (QF.mk [41, 32] [(153, _), (144, _)] rfl rfl kr_ rfl (QAt.rd (Wt.yes (dj := 144) rfl rfl) (Rd.load1 (v := .int .i64 T1[k].money) (b := fb) (o := ff + (k : Int).toNat * 3 + 1) (cs := fs) kr_ rfl (Gr.get gr_ hfm) (cell_at2 (L := T1) cellsU_len hfs (by omega) (by omega))))) (all_c (QF.mk [40, 32] [(152, _), (144, _)] rfl rfl kr_ rfl (QAt.y (Wt.yes (dj := 144) rfl rfl) (Yd.fieldAddr (k := 1) kr_ rfl))) (all_c (QF.mk [39, 38, 32] [(151, _), (150, _), (144, _)] rfl rfl kr_ rfl (QAt.y (Wt.yes (dj := 144) rfl rfl) (Yd.indexAddr (e := 71) (s := 3) kr_ kr_ rfl rfl (by omega) (by omega)))) (all_c (QF.mk [32] [(144, _)] rfl rfl kr_ rfl (QAt.y (Wt.yes (dj := 144) rfl rfl) (Yd.move rfl))) (all_c (QF.mk [32] [(144, _)] rfl rfl kr_ rfl (QAt.y (Wt.yes (dj := 144) rfl rfl) (Yd.move rfl))) (all_c (QF.mk [36, 32] [(148, _), (144, _)] rfl rfl kr_ rfl (QAt.rd (Wt.yes (dj := 144) rfl rfl) (Rd.load1 (v := .int .i64 T2[k].money) (b := ub) (o := uf + (k : Int).toNat * 3 + 1) (cs := us) kr_ rfl (Gr.get gr_ hum) (cell_at2 (L := T2) cellsU_len hus (by omega) (by omega))))) (all_c (QF.mk [35, 32] [(147, _), (144, _)] rfl rfl kr_ rfl (QAt.y (Wt.yes (dj := 144) rfl rfl) (Yd.fieldAddr (k := 1) kr_ rfl))) (all_c (QF.mk [34, 33, 32] [(146, _), (145, _), (144, _)] rfl rfl kr_ rfl (QAt.y (Wt.yes (dj := 144) rfl rfl) (Yd.indexAddr (e := 71) (s := 3) kr_ kr_ rfl rfl (by omega) (by omega)))) (all_c (QF.mk [32] [(144, _)] rfl rfl kr_ rfl (QAt.y (Wt.yes (dj := 144) rfl rfl) (Yd.move rfl))) (all_c (QF.mk [32] [(144, _)] rfl rfl kr_ rfl (QAt.y (Wt.yes (dj := 144) rfl rfl) (Yd.move rfl))) (all_c (QF.mk [31, 19] [(143, _), (131, _)] rfl rfl kr_ rfl (QAt.y Wt.none (Yd.move rfl))) (all_c (QF.mk [30, 19] [(142, _), (131, _)] rfl rfl kr_ rfl (QAt.y Wt.none (Yd.pickF rfl rfl))) (all_c (QF.ren (congrArg Value.bool (decide_eq_false (by omega))) (QF.mk [29, 24, 19] [(141, _), (136, _), (131, _)] rfl rfl kr_ rfl (QAt.y (Wt.yes (dj := 131) rfl rfl) (Yd.lss rfl rfl)))) (all_c (QF.mk [28, 19] [(140, _), (131, _)] rfl rfl kr_ rfl (QAt.rd (Wt.yes (dj := 131) rfl rfl) (Rd.load1 (v := .int .i64 T2[k].held) (b := ub) (o := uf + (k : Int).toNat * 3 + 2) (cs := us) kr_ rfl (Gr.get gr_ hum) (cell_at2 (L := T2) cellsU_len hus (by omega) (by omega))))) (all_c (QF.mk [27, 19] [(139, _), (131, _)] rfl rfl kr_ rfl (QAt.y (Wt.yes (dj := 131) rfl rfl) (Yd.fieldAddr (k := 2) kr_ rfl))) (all_c (QF.mk [26, 25, 19] [(138, _), (137, _), (131, _)] rfl rfl kr_ rfl (QAt.y (Wt.yes (dj := 131) rfl rfl) (Yd.indexAddr (e := 71) (s := 3) kr_ kr_ rfl rfl (by omega) (by omega)))) (all_c (QF.mk [19] [(131, _)] rfl rfl kr_ rfl (QAt.y (Wt.yes (dj := 131) rfl rfl) (Yd.move rfl))) (all_c (QF.mk [19] [(131, _)] rfl rfl kr_ rfl (QAt.y (Wt.yes (dj := 131) rfl rfl) (Yd.move rfl))) (all_c (QF.mk [23, 19] [(135, _), (131, _)] rfl rfl kr_ rfl (QAt.rd (Wt.yes (dj := 131) rfl rfl) (Rd.load1 (v := .int .i64 T2[k].money) (b := ub) (o := uf + (k : Int).toNat * 3 + 1) (cs := us) kr_ rfl (Gr.get gr_ hum) (cell_at2 (L := T2) cellsU_len hus (by omega) (by omega))))) (all_c (QF.mk [22, 19] [(134, _), (131, _)] rfl rfl kr_ rfl (QAt.y (Wt.yes (dj := 131) rfl rfl) (Yd.fieldAddr (k := 1) kr_ rfl))) (all_c (QF.mk [21, 20, 19] [(133, _), (132, _), (131, _)] rfl rfl kr_ rfl (QAt.y (Wt.yes (dj := 131) rfl rfl) (Yd.indexAddr (e := 71) (s := 3) kr_ kr_ rfl rfl (by omega) (by omega)))) (all_c (QF.mk [19] [(131, _)] rfl rfl kr_ rfl (QAt.y (Wt.yes (dj := 131) rfl rfl) (Yd.move rfl))) (all_c (QF.mk [19] [(131, _)] rfl rfl kr_ rfl (QAt.y (Wt.yes (dj := 131) rfl rfl) (Yd.move rfl))) (all_c (QF.mk [18, 11] [(130, _), (123, _)] rfl rfl kr_ rfl (QAt.y Wt.none (Yd.move rfl))) (all_c (QF.mk [17, 11] [(129, _), (123, _)] rfl rfl kr_ rfl (QAt.y Wt.none (Yd.pickF rfl rfl))) (all_c (QF.ren (congrArg Value.bool (decide_eq_false (by omega))) (QF.mk [16, 11] [(128, _), (123, _)] rfl rfl kr_ rfl (QAt.y (Wt.yes (dj := 123) rfl rfl) (Yd.lss rfl rfl)))) (all_c (QF.mk [15, 11] [(127, _), (123, _)] rfl rfl kr_ rfl (QAt.rd (Wt.yes (dj := 123) rfl rfl) (Rd.load1 (v := .int .i64 T2[k].held) (b := ub) (o := uf + (k : Int).toNat * 3 + 2) (cs := us) kr_ rfl (Gr.get gr_ hum) (cell_at2 (L := T2) cellsU_len hus (by omega) (by omega))))) (all_c (QF.mk [14, 11] [(126, _), (123, _)] rfl rfl kr_ rfl (QAt.y (Wt.yes (dj := 123) rfl rfl) (Yd.fieldAddr (k := 2) kr_ rfl))) (all_c (QF.mk [13, 12, 11] [(125, _), (124, _), (123, _)] rfl rfl kr_ rfl (QAt.y (Wt.yes (dj := 123) rfl rfl) (Yd.indexAddr (e := 71) (s := 3) kr_ kr_ rfl rfl (by omega) (by omega)))) (all_c (QF.mk [11] [(123, _)] rfl rfl kr_ rfl (QAt.y (Wt.yes (dj := 123) rfl rfl) (Yd.move rfl))) (all_c (QF.mk [11] [(123, _)] rfl rfl kr_ rfl (QAt.y (Wt.yes (dj := 123) rfl rfl) (Yd.move rfl))) (all_c (QF.mk [10] [(122, _)] rfl rfl kr_ rfl (QAt.y Wt.none (Yd.move rfl))) (all_c (QF.ren (congrArg Value.bool (decide_eq_false (not_not_intro e1))) (QF.mk [9, 4] [(121, _), (116, _)] rfl rfl kr_ rfl (QAt.y Wt.none (Yd.neqS rfl rfl)))) (all_c (QF.mk [8] [(120, _)] rfl rfl kr_ rfl (QAt.rd Wt.none (Rd.load1 (v := .string T1[k].name) (b := fb) (o := ff + (k : Int).toNat * 3 + 0) (cs := fs) kr_ rfl (Gr.get gr_ hfm) (cell_at2 (L := T1) cellsU_len hfs (by omega) (by omega))))) (all_c (QF.mk [7] [(119, _)] rfl rfl kr_ rfl (QAt.y Wt.none (Yd.fieldAddr (k := 0) kr_ rfl))) (all_c (QF.mk [6, 5] [(118, _), (117, _)] rfl rfl kr_ rfl (QAt.y Wt.none (Yd.indexAddr (e := 71) (s := 3) kr_ kr_ rfl rfl (by omega) (by omega)))) (all_c (QF.mk [] [] rfl rfl kr_ rfl (QAt.y Wt.none (Yd.move rfl))) (all_c (QF.mk [] [] rfl rfl kr_ rfl (QAt.y Wt.none (Yd.move rfl))) (all_c (QF.mk [3] [(115, _)] rfl rfl kr_ rfl (QAt.rd Wt.none (Rd.load1 (v := .string T2[k].name) (b := ub) (o := uf + (k : Int).toNat * 3 + 0) (cs := us) kr_ rfl (Gr.get gr_ hum) (cell_at2 (L := T2) cellsU_len hus (by omega) (by omega))))) (all_c (QF.mk [2] [(114, _)] rfl rfl kr_ rfl (QAt.y Wt.none (Yd.fieldAddr (k := 0) kr_ rfl))) (all_c (QF.mk [1, 0] [(113, _), (112, _)] rfl rfl kr_ rfl (QAt.y Wt.none (Yd.indexAddr (e := 71) (s := 3) kr_ kr_ rfl rfl (by omega) (by omega)))) (all_c (QF.mk [] [] rfl rfl kr_ rfl (QAt.y Wt.none (Yd.move rfl))) (all_c (QF.mk [] [] rfl rfl kr_ rfl (QAt.y Wt.none (Yd.move rfl))) (all_n)))))))))))))))))))))))))))))))))))))))))))))) ?_
      change DN _ _ _ _ _ _ ([(156, _), (155, _), (154, _), (153, _), (152, _), (151, _), (150, _), (149, _), (148, _), (147, _), (146, _), (145, _), (144, _), (143, _), (142, _), (141, _), (140, _), (139, _), (138, _), (137, _), (136, _), (135, _), (134, _), (133, _), (132, _), (131, _), (130, _), (129, _), (128, _), (127, _), (126, _), (125, _), (124, _), (123, _), (122, _), (121, _), (120, _), (119, _), (118, _), (117, _), (116, _), (115, _), (114, _), (113, _), (112, _)] ++ _) _
      refine DN.then_normal ?_
      refine WC.no rfl ?_
      refine WC.skip ?_
      refine DN.block_normal ?_
      refine DN.then_normal ?_
      refine WC.region ?_
      refine m_ rfl rfl ?_
      refine WL.y rfl (Yd.add rfl rfl (by omega) (by omega)) ?_
      refine a_ rfl rfl ?_
      refine WL.nil ?_
      exact DN.againS (k + 1) (show (k + 1) ≤ T2.length from by omega) (show T2.length - (k + 1) < T2.length - k by omega) (Sx.put rfl (sx_)) sp_
     ·refine WC.exit ?_
      refine DN.then_exit ?_
      refine DN.then_exit ?_
      refine DN.block_exit ?_
      refine ts_ ?_
      refine WC.region ?_
      refine m_ rfl rfl ?_
      have hr0 : 0 ≤ roomOf s2.rs 0 ∧ roomOf s2.rs 0 ≤ 3 := ⟨hr00.1, hr00.2.1⟩
      have hr1 : 0 ≤ roomOf s2.rs 1 ∧ roomOf s2.rs 1 ≤ 5 := ⟨hr11.1, hr11.2.1⟩
      refine WL.rf rfl (Ent.func Tryz.call30 rfl) (croom_reads p s2 C2 h2 0) sp_ ?_
      refine WL.y rfl (Yd.lss rfl rfl) ?_
      refine WL.renamed (t := 159) (v := .bool false) rfl (congrArg Value.bool (decide_eq_false (by omega))) ?_
      refine m_ rfl rfl ?_
      refine gy_ 160 rfl rfl rfl (Yd.move rfl) ?_
      refine WL.grf (dj := 160) rfl rfl rfl (Ent.func Tryz.call30 rfl) (croom_reads p s2 C2 h2 0) sp_ ?_
      refine gy_ 160 rfl rfl rfl (Yd.gtr rfl rfl) ?_
      refine WL.renamed (t := 163) (v := .bool false) rfl (congrArg Value.bool (decide_eq_false (by omega))) ?_
      refine WL.y rfl (Yd.pickF rfl rfl) ?_
      refine m_ rfl rfl ?_
      refine gy_ 165 rfl rfl rfl (Yd.move rfl) ?_
      refine WL.grf (dj := 165) rfl rfl rfl (Ent.func Tryz.call30 rfl) (croom_reads p s2 C2 h2 1) sp_ ?_
      refine gy_ 165 rfl rfl rfl (Yd.lss rfl rfl) ?_
      refine WL.renamed (t := 168) (v := .bool false) rfl (congrArg Value.bool (decide_eq_false (by omega))) ?_
      refine WL.y rfl (Yd.pickF rfl rfl) ?_
      refine m_ rfl rfl ?_
      refine gy_ 170 rfl rfl rfl (Yd.move rfl) ?_
      refine WL.grf (dj := 170) rfl rfl rfl (Ent.func Tryz.call30 rfl) (croom_reads p s2 C2 h2 1) sp_ ?_
      refine gy_ 170 rfl rfl rfl (Yd.gtr rfl rfl) ?_
      refine WL.renamed (t := 173) (v := .bool false) rfl (congrArg Value.bool (decide_eq_false (by omega))) ?_
      refine WL.y rfl (Yd.pickF rfl rfl) ?_
      refine nt_ ?_
      refine WC.no rfl ?_
      refine WC.skip ?_
      refine DN.block_normal ?_
      refine DN.then_normal ?_
      refine WC.region ?_
      refine m_ rfl rfl ?_
      refine WL.y rfl (Yd.add rfl rfl (by omega) (by omega)) ?_
      refine a_ rfl rfl ?_
      refine WL.nil ?_
      exact DN.againS (⟨i + 1, s2, C2⟩) (show (i + 1) ≤ l.length ∧ CwAt 189 198 203 3 5 118 111 22 116 p s2 C2 ∧ CInv smG smU [3, 5] s2 from ⟨by omega, h2, inv2⟩) (show l.length - (i + 1) < l.length - i by omega) (Sx.put rfl (sx_)) sp_
   ·refine WC.exit ?_
    refine DN.then_exit ?_
    refine DN.then_exit ?_
    refine DN.block_exit ?_
    refine ts_ ?_
    refine WC.region ?_
    refine WL.r rfl (Ent.func Tryz.call9 rfl) (known12 _) ?_
    refine a_ rfl rfl ?_
    refine nt_ ?_
    refine WC.ret ?_
    refine DN.fit (C := H) sp_ ?_
    refine DN.ret1 Tryz.results7 rfl ?_
    exact ⟨rfl, rfl⟩
  ·refine gn_ 33 rfl rfl rfl rfl ?_
   refine gn_ 33 rfl rfl rfl rfl ?_
   refine WL.y rfl (Yd.pickF rfl rfl) ?_
   refine nt_ ?_
   refine WC.no rfl ?_
   refine WC.exit ?_
   refine DN.then_exit ?_
   refine DN.then_exit ?_
   refine DN.block_exit ?_
   refine ts_ ?_
   refine WC.region ?_
   refine WL.r rfl (Ent.func Tryz.call9 rfl) (known12 _) ?_
   refine a_ rfl rfl ?_
   refine nt_ ?_
   refine WC.ret ?_
   refine DN.fit (C := H) sp_ ?_
   refine DN.ret1 Tryz.results7 rfl ?_
   exact ⟨rfl, rfl⟩
end Go.Proofs.YtkamlondepceiaaGreat
