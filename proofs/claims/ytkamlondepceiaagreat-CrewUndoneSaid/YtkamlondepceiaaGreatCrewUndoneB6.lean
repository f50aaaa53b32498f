/-
  Lemmas and walks that CrewUndone stands on (part 6); no condition.
-/
import Derived.Orders
import Derived.Tactics
import Derived.Scope
import Derived.Below
import Derived.WalkKit
import Derived.KernelRfl
import Derived.Laws.RangeString
import Derived.Laws.StructEq
import Derived.Lib.AppendZerosOnto
import Derived.Laws.CopyRow
import Derived.Lib.Overlaps
import Derived.Laws.IdiomStrings
import Derived.Deep.Quiet
import Derived.Lib.Bytealg
import Derived.Shelf.SlSortCmp.NoneTotal
import Derived.ProofKit
import Derived.OpenShut
import Derived.ShutString
import Derived.ChangeOld
import Derived.Test.YtkamlondepceiaaGreatRows
import Derived.Ground.SlsfProg
import Derived.Shelf.Small.Strs
import Derived.Test.YtkamlondepceiaaGreatCrewUndoneB5

set_option linter.unusedVariables false
set_option linter.unusedSimpArgs false
set_option maxHeartbeats 4000000
namespace Go.Proofs.YtkamlondepceiaaGreat
open Go.SL
def AskL (v : Value) (l : List As) (xs : List Value) (H : List Ck) : Prop := Rs v l.length xs H ∧ xs.length = l.length * 8 ∧ ∀ i (h : i < l.length), AsE ((xs.drop (i * 8)).take 8) l[i] H
def NotLong (gs : List Gd) (us : List Au) (rs : List Int) (l : List As) : Prop := gs.length ≤ 100 ∧ us.length ≤ 100 ∧ rs.length ≤ 100 ∧ ∀ (j : Nat) (h : j < l.length), j < 200 → l[j].w.name.length ≤ 500 ∧ l[j].data.length ≤ 500
theorem ask_at {ao : Option Addr} {n c i : Nat} {xs : List Value} {H : List Ck} {vs : List Value} (hv : Rs (.slice ao n c) n xs H) (hx : (xs.drop (i * 8)).take 8 = vs) (hvs : vs.length = 8) : ∃ b o, ao = some ⟨b, o, none⟩ ∧ ∃ (c0 : List Value) (T0 : TypeId) (fr0 : Nat × Nat) (ex0 : Bool), (⟨b, .cells c0.toArray T0 fr0, ex0⟩ : Ck) ∈ H ∧ (∀ (k : Nat) u, vs[k]? = some u → c0[o + (i : Int).toNat * 8 + k]? = some u) ∧ (c0.drop (o + (i : Int).toNat * 8)).take 8 = vs := by
  have hne : xs ≠ [] := by intro e; rw [e] at hx; simp at hx; rw [hx] at hvs; simp at hvs
  obtain ⟨b, o, cs, T, fr, ex, h1, h2, h3⟩ := hv.at hne
  have key : ∀ (k : Nat) u, vs[k]? = some u → cs.toList[o + (i : Int).toNat * 8 + k]? = some u := fun k u hu => by
    rw [← hx, List.getElem?_take] at hu
    split at hu
    · rw [List.getElem?_drop] at hu
      have := h3 _ _ hu
      rw [Int.toNat_natCast]
      simpa [Nat.add_assoc] using this
    · cases hu
  refine ⟨b, o, h1, cs.toList, T, fr, ex, by simpa using h2, key, ?_⟩
  apply List.ext_getElem?
  intro k
  by_cases hk : k < 8
  · rw [List.getElem?_take, if_pos hk, List.getElem?_drop]
    have h9 : vs[k]? = some vs[k] := List.getElem?_eq_getElem (by omega)
    rw [h9]
    exact key k _ h9
  · rw [List.getElem?_eq_none (by rw [List.length_take]; omega), List.getElem?_eq_none (by omega)]
theorem long_reads (v1 v2 v3 v : Value) (gs : List Gd) (us : List Au) (rs : List Int) (l : List As) (xs : List Value) (H : List Ck) (h1 : Rs v1 gs.length (gs.flatMap cellsG) H) (h2 : Rs v2 us.length (us.flatMap cellsU) H) (h3 : Rs v3 rs.length (ic rs) H) (ha : AskL v l xs H) (hl1 : gs.length ≤ 9223372036854775807) (hl2 : us.length ≤ 9223372036854775807) (hl3 : rs.length ≤ 9223372036854775807) (hl : l.length ≤ 9223372036854775807) : Tells Tryz.prog 19 [.agg #[v1, v2, v3], v] H fun r H' => H' = H ∧ ∃ z, r = .bool z ∧ (z = false → NotLong gs us rs l) := by
 refine Tells.enter Tryz.func19 rfl Tryz.ntmps19 rfl ?_
 intro w0 R
 obtain ⟨hv, hx, hA⟩ := ha
 obtain ⟨go, gc, rfl, _⟩ := h1.form
 obtain ⟨uo, uc, rfl, _⟩ := h2.form
 obtain ⟨ro, rc, rfl, _⟩ := h3.form
 obtain ⟨vo, vc, rfl, _⟩ := hv.form
 refine sr_ ?_
 refine WL.h rfl (Hd.boxA (vs := [.slice go gs.length gc, .slice uo us.length uc, .slice ro rs.length rc]) rfl fun b2 => ⟨_, rfl, ?_⟩)
 refine a_ rfl rfl ?_
 refine nt_ ?_
 refine WC.seq ?_
 refine sr_ ?_
 refine f_ 0 kr_ rfl rfl ?_
 refine d_ kr_ rfl mem_ (by rfl) rfl ?_
 refine WL.y rfl (Yd.len (e := 73) kr_ rfl) ?_
 refine WL.y rfl (Yd.gtr rfl rfl) ?_
 refine m_ rfl rfl ?_
 refine WL.partP (t := 12) rfl (fun hg12 => ?_) (fun hg12 => ?_)
 ·iterate 4 refine gn_ 12 rfl rfl rfl rfl ?_
  refine WL.y rfl (Yd.pickT rfl rfl) ?_
  refine m_ rfl rfl ?_
  iterate 4 refine gn_ 18 rfl rfl rfl rfl ?_
  refine WL.y rfl (Yd.pickT rfl rfl) ?_
  refine nt_ ?_
  refine WC.yes rfl ?_
  refine sr_ ?_
  refine a_ rfl rfl ?_
  refine nt_ ?_
  refine WC.ret ?_
  refine DN.then_ret ?_
  refine DN.fit (C := H) sp_ ?_
  refine DN.ret1 Tryz.results19 rfl ?_
  first | exact ⟨rfl, true, rfl, fun e => by cases e⟩ | exact ⟨rfl, false, rfl, fun _ => ⟨by omega, by omega, by omega, fun j h hj => hno j h (by omega)⟩⟩
 ·refine gy_ 12 rfl rfl rfl (Yd.fieldAddr (k := 1) kr_ rfl) ?_
  refine WL.gh (dj := 12) rfl rfl rfl (Hd.load1 kr_ rfl mem_ (by rfl) ⟨_, rfl, ?_⟩)
  refine gy_ 12 rfl rfl rfl (Yd.len (e := 71) kr_ rfl) ?_
  refine gy_ 12 rfl rfl rfl (Yd.gtr rfl rfl) ?_
  refine WL.y rfl (Yd.pickF rfl rfl) ?_
  refine m_ rfl rfl ?_
  refine WL.partP (t := 18) rfl (fun hg18 => ?_) (fun hg18 => ?_)
  ·iterate 4 refine gn_ 18 rfl rfl rfl rfl ?_
   refine WL.y rfl (Yd.pickT rfl rfl) ?_
   refine nt_ ?_
   refine WC.yes rfl ?_
   refine sr_ ?_
   refine a_ rfl rfl ?_
   refine nt_ ?_
   refine WC.ret ?_
   refine DN.then_ret ?_
   refine DN.fit (C := H) sp_ ?_
   refine DN.ret1 Tryz.results19 rfl ?_
   first | exact ⟨rfl, true, rfl, fun e => by cases e⟩ | exact ⟨rfl, false, rfl, fun _ => ⟨by omega, by omega, by omega, fun j h hj => hno j h (by omega)⟩⟩
  ·refine gy_ 18 rfl rfl rfl (Yd.fieldAddr (k := 2) kr_ rfl) ?_
   refine WL.gh (dj := 18) rfl rfl rfl (Hd.load1 kr_ rfl mem_ (by rfl) ⟨_, rfl, ?_⟩)
   refine gy_ 18 rfl rfl rfl (Yd.len (e := 3) kr_ rfl) ?_
   refine gy_ 18 rfl rfl rfl (Yd.gtr rfl rfl) ?_
   refine WL.y rfl (Yd.pickF rfl rfl) ?_
   refine nt_ ?_
   refine WC.ite rfl (fun h23 => ?_) (fun h23 => ?_)
   ·refine sr_ ?_
    refine a_ rfl rfl ?_
    refine nt_ ?_
    refine WC.ret ?_
    refine DN.then_ret ?_
    refine DN.fit (C := H) sp_ ?_
    refine DN.ret1 Tryz.results19 rfl ?_
    first | exact ⟨rfl, true, rfl, fun e => by cases e⟩ | exact ⟨rfl, false, rfl, fun _ => ⟨by omega, by omega, by omega, fun j h hj => hno j h (by omega)⟩⟩
   ·refine WC.skip ?_
    refine ts_ ?_
    refine sr_ ?_
    refine a_ rfl rfl ?_
    refine nt_ ?_
    refine WC.block ?_
    refine WC.loopS (fun z : Nat => z ≤ gs.length) (fun z : Nat => [(5, .int .i64 (z : Int))]) (fun z : Nat => row b2 [.slice go gs.length gc, .slice uo us.length uc, .slice ro rs.length rc] 47 :: H) (fun z : Nat => gs.length - z) (0) (show 0 ≤ gs.length from Nat.zero_le _) (Sx.put rfl (sx_)) sp_ ?_
    rintro i hI
    replace hI : i ≤ gs.length := hI
    obtain hi := hI
    change WC _ _ _ _ _ _ ([(5, .int .i64 (i : Int))] ++ _) (row b2 [.slice go gs.length gc, .slice uo us.length uc, .slice ro rs.length rc] 47 :: H)
    refine WC.seq ?_
    refine sr_ ?_
    refine m_ rfl rfl ?_
    refine f_ 0 kr_ rfl rfl ?_
    refine d_ kr_ rfl mem_ (by rfl) rfl ?_
    refine WL.y rfl (Yd.len (e := 73) kr_ rfl) ?_
    refine WL.y rfl (Yd.lss rfl rfl) ?_
    refine nt_ ?_
    refine WC.ite rfl (fun h28 => ?_) (fun h28 => ?_)
    ·have hlt : i < gs.length := by omega
     obtain ⟨pb, pf, ps, pT, pfr, pex, rfl, _, hpm, hps⟩ := h1.lies (by omega)
     refine WC.skip ?_
     refine ts_ ?_
     refine WC.block ?_
     refine sr_ ?_
     refine f_ 0 kr_ rfl rfl ?_
     refine d_ kr_ rfl mem_ (by rfl) rfl ?_
     refine m_ rfl rfl ?_
     refine WL.y rfl (Yd.indexAddr (e := 73) (s := 2) kr_ kr_ rfl rfl (by omega) (by omega)) ?_
     refine f_ 0 kr_ rfl rfl ?_
     refine WL.h rfl (Hd.load1 (v := .string gs[i].name) (b := pb) (o := pf + (i : Int).toNat * 2 + 0) (cs := ps) kr_ rfl (Gr.get gr_ hpm) (cell_at2 (L := gs) cellsG_len hps (by omega) (by omega)) ⟨_, rfl, ?_⟩)
     refine WL.y rfl (Yd.lenS Tryz.underlying9 rfl) ?_
     refine WL.y rfl (Yd.gtr rfl rfl) ?_
     refine nt_ ?_
     refine WC.ite rfl (fun h38 => ?_) (fun h38 => ?_)
     ·refine sr_ ?_
      refine a_ rfl rfl ?_
      refine nt_ ?_
      refine WC.ret ?_
      refine DN.block_ret ?_
      refine DN.then_ret ?_
      refine DN.then_ret ?_
      refine DN.block_ret ?_
      refine DN.then_ret ?_
      refine DN.fit (C := H) sp_ ?_
      refine DN.ret1 Tryz.results19 rfl ?_
      first | exact ⟨rfl, true, rfl, fun e => by cases e⟩ | exact ⟨rfl, false, rfl, fun _ => ⟨by omega, by omega, by omega, fun j h hj => hno j h (by omega)⟩⟩
     ·refine WC.skip ?_
      refine DN.block_normal ?_
      refine DN.then_normal ?_
      refine WC.region ?_
      refine m_ rfl rfl ?_
      refine WL.y rfl (Yd.add rfl rfl (by omega) (by omega)) ?_
      refine a_ rfl rfl ?_
      refine WL.nil ?_
      exact DN.againS (i + 1) (show (i + 1) ≤ gs.length from by omega) (show gs.length - (i + 1) < gs.length - i by omega) (Sx.put rfl (sx_)) sp_
    ·refine WC.exit ?_
     refine DN.then_exit ?_
     refine DN.then_exit ?_
     refine DN.block_exit ?_
     refine ts_ ?_
     refine sr_ ?_
     refine a_ rfl rfl ?_
     refine nt_ ?_
     refine WC.block ?_
     refine WC.loopS (fun z : Nat => z ≤ us.length) (fun z : Nat => [(6, .int .i64 (z : Int))]) (fun z : Nat => row b2 [.slice go gs.length gc, .slice uo us.length uc, .slice ro rs.length rc] 47 :: H) (fun z : Nat => us.length - z) (0) (show 0 ≤ us.length from Nat.zero_le _) (Sx.put rfl (sx_)) sp_ ?_
     rintro i hI
     replace hI : i ≤ us.length := hI
     obtain hi := hI
     change WC _ _ _ _ _ _ ([(6, .int .i64 (i : Int))] ++ _) (row b2 [.slice go gs.length gc, .slice uo us.length uc, .slice ro rs.length rc] 47 :: H)
     refine WC.seq ?_
     refine sr_ ?_
     refine m_ rfl rfl ?_
     refine f_ 1 kr_ rfl rfl ?_
     refine d_ kr_ rfl mem_ (by rfl) rfl ?_
     refine WL.y rfl (Yd.len (e := 71) kr_ rfl) ?_
     refine WL.y rfl (Yd.lss rfl rfl) ?_
     refine nt_ ?_
     refine WC.ite rfl (fun h43 => ?_) (fun h43 => ?_)
     ·have hlt : i < us.length := by omega
      obtain ⟨qb, qf, qs, qT, qfr, qex, rfl, _, hqm, hqs⟩ := h2.lies (by omega)
      refine WC.skip ?_
      refine ts_ ?_
      refine WC.block ?_
      refine sr_ ?_
      refine f_ 1 kr_ rfl rfl ?_
      refine d_ kr_ rfl mem_ (by rfl) rfl ?_
      refine m_ rfl rfl ?_
      refine WL.y rfl (Yd.indexAddr (e := 71) (s := 3) kr_ kr_ rfl rfl (by omega) (by omega)) ?_
      refine f_ 0 kr_ rfl rfl ?_
      refine WL.h rfl (Hd.load1 (v := .string us[i].name) (b := qb) (o := qf + (i : Int).toNat * 3 + 0) (cs := qs) kr_ rfl (Gr.get gr_ hqm) (cell_at2 (L := us) cellsU_len hqs (by omega) (by omega)) ⟨_, rfl, ?_⟩)
      refine WL.y rfl (Yd.lenS Tryz.underlying9 rfl) ?_
      refine WL.y rfl (Yd.gtr rfl rfl) ?_
      refine nt_ ?_
      refine WC.ite rfl (fun h53 => ?_) (fun h53 => ?_)
      ·refine sr_ ?_
       refine a_ rfl rfl ?_
       refine nt_ ?_
       refine WC.ret ?_
       refine DN.block_ret ?_
       refine DN.then_ret ?_
       refine DN.then_ret ?_
       refine DN.block_ret ?_
       refine DN.then_ret ?_
       refine DN.fit (C := H) sp_ ?_
       refine DN.ret1 Tryz.results19 rfl ?_
       first | exact ⟨rfl, true, rfl, fun e => by cases e⟩ | exact ⟨rfl, false, rfl, fun _ => ⟨by omega, by omega, by omega, fun j h hj => hno j h (by omega)⟩⟩
      ·refine WC.skip ?_
       refine DN.block_normal ?_
       refine DN.then_normal ?_
       refine WC.region ?_
       refine m_ rfl rfl ?_
       refine WL.y rfl (Yd.add rfl rfl (by omega) (by omega)) ?_
       refine a_ rfl rfl ?_
       refine WL.nil ?_
       exact DN.againS (i + 1) (show (i + 1) ≤ us.length from by omega) (show us.length - (i + 1) < us.length - i by omega) (Sx.put rfl (sx_)) sp_
     ·refine WC.exit ?_
      refine DN.then_exit ?_
      refine DN.then_exit ?_
      refine DN.block_exit ?_
      refine ts_ ?_
      refine sr_ ?_
      refine a_ rfl rfl ?_
      refine nt_ ?_
      refine WC.block ?_
      refine WC.loopS (fun z : Nat => z ≤ l.length ∧ ∀ j (h : j < l.length), j < z → l[j].w.name.length ≤ 500 ∧ l[j].data.length ≤ 500) (fun z : Nat => [(7, .int .i64 (z : Int))]) (fun z : Nat => row b2 [.slice go gs.length gc, .slice uo us.length uc, .slice ro rs.length rc] 47 :: H) (fun z : Nat => l.length - z) (0) (show 0 ≤ l.length ∧ ∀ j (h : j < l.length), j < 0 → l[j].w.name.length ≤ 500 ∧ l[j].data.length ≤ 500 from ⟨Nat.zero_le _, fun j h hj => by omega⟩) (Sx.put rfl (sx_)) sp_ ?_
      rintro i hI
      replace hI : i ≤ l.length ∧ ∀ j (h : j < l.length), j < i → l[j].w.name.length ≤ 500 ∧ l[j].data.length ≤ 500 := hI
      obtain ⟨hi, hno⟩ := hI
      change WC _ _ _ _ _ _ ([(7, .int .i64 (i : Int))] ++ _) (row b2 [.slice go gs.length gc, .slice uo us.length uc, .slice ro rs.length rc] 47 :: H)
      refine WC.seq ?_
      refine sr_ ?_
      refine m_ rfl rfl ?_
      refine m_ rfl rfl ?_
      refine WL.y rfl (Yd.len (e := 54) kr_ rfl) ?_
      refine WL.y rfl (Yd.lss rfl rfl) ?_
      refine m_ rfl rfl ?_
      refine WL.partP (t := 58) rfl (fun hg58 => ?_) (fun hg58 => ?_)
      ·refine gy_ 58 rfl rfl rfl (Yd.move rfl) ?_
       refine gy_ 58 rfl rfl rfl (Yd.lss rfl rfl) ?_
       refine WL.y rfl (Yd.pickT rfl rfl) ?_
       refine nt_ ?_
       refine WC.ite rfl (fun h61 => ?_) (fun h61 => ?_)
       ·have hlt : i < l.length := by omega
        obtain ⟨vn, vd, hcell, hk, hd, _⟩ := hA i hlt
        obtain ⟨ko, kc, rfl, _⟩ := hk.form
        obtain ⟨eo, ec, rfl, _⟩ := hd.form
        obtain ⟨b0, o0, rfl, c0, T0, fr0, ex0, hm0, hc0, _⟩ := ask_at hv hcell rfl
        refine WC.skip ?_
        refine ts_ ?_
        refine WC.block ?_
        refine sr_ ?_
        refine m_ rfl rfl ?_
        refine m_ rfl rfl ?_
        refine WL.y rfl (Yd.indexAddr (e := 54) (s := 8) kr_ kr_ rfl rfl (by omega) (by omega)) ?_
        refine f_ 4 kr_ rfl rfl ?_
        refine f_ 2 kr_ rfl rfl ?_
        refine WL.h rfl (Hd.load1 (v := .slice ko l[i].w.name.length kc) kr_ rfl (Gr.get gr_ hm0) (hc0 6 _ rfl) ⟨_, rfl, ?_⟩)
        refine WL.y rfl (Yd.len (e := 5) kr_ rfl) ?_
        refine WL.y rfl (Yd.gtr rfl rfl) ?_
        refine m_ rfl rfl ?_
        refine WL.partP (t := 72) rfl (fun hg72 => ?_) (fun hg72 => ?_)
        ·iterate 7 refine gn_ 72 rfl rfl rfl rfl ?_
         refine WL.y rfl (Yd.pickT rfl rfl) ?_
         refine nt_ ?_
         refine WC.yes rfl ?_
         refine sr_ ?_
         refine a_ rfl rfl ?_
         refine nt_ ?_
         refine WC.ret ?_
         refine DN.block_ret ?_
         refine DN.then_ret ?_
         refine DN.then_ret ?_
         refine DN.block_ret ?_
         refine DN.then_ret ?_
         refine DN.fit (C := H) sp_ ?_
         refine DN.ret1 Tryz.results19 rfl ?_
         first | exact ⟨rfl, true, rfl, fun e => by cases e⟩ | exact ⟨rfl, false, rfl, fun _ => ⟨by omega, by omega, by omega, fun j h hj => hno j h (by omega)⟩⟩
        ·refine gy_ 72 rfl rfl rfl (Yd.move rfl) ?_
         refine gy_ 72 rfl rfl rfl (Yd.move rfl) ?_
         refine gy_ 72 rfl rfl rfl (Yd.indexAddr (e := 54) (s := 8) kr_ kr_ rfl rfl (by omega) (by omega)) ?_
         refine gy_ 72 rfl rfl rfl (Yd.fieldAddr (k := 7) kr_ rfl) ?_
         refine WL.gh (dj := 72) rfl rfl rfl (Hd.load1 (v := .slice eo l[i].data.length ec) kr_ rfl (Gr.get gr_ hm0) (hc0 7 _ rfl) ⟨_, rfl, ?_⟩)
         refine gy_ 72 rfl rfl rfl (Yd.len (e := 5) kr_ rfl) ?_
         refine gy_ 72 rfl rfl rfl (Yd.gtr rfl rfl) ?_
         refine WL.y rfl (Yd.pickF rfl rfl) ?_
         refine nt_ ?_
         refine WC.ite rfl (fun h80 => ?_) (fun h80 => ?_)
         ·refine sr_ ?_
          refine a_ rfl rfl ?_
          refine nt_ ?_
          refine WC.ret ?_
          refine DN.block_ret ?_
          refine DN.then_ret ?_
          refine DN.then_ret ?_
          refine DN.block_ret ?_
          refine DN.then_ret ?_
          refine DN.fit (C := H) sp_ ?_
          refine DN.ret1 Tryz.results19 rfl ?_
          first | exact ⟨rfl, true, rfl, fun e => by cases e⟩ | exact ⟨rfl, false, rfl, fun _ => ⟨by omega, by omega, by omega, fun j h hj => hno j h (by omega)⟩⟩
         ·refine WC.skip ?_
          refine DN.block_normal ?_
          refine DN.then_normal ?_
          refine WC.region ?_
          refine m_ rfl rfl ?_
          refine WL.y rfl (Yd.add rfl rfl (by omega) (by omega)) ?_
          refine a_ rfl rfl ?_
          refine WL.nil ?_
          exact DN.againS (i + 1) (show (i + 1) ≤ l.length ∧ ∀ j (h : j < l.length), j < (i + 1) → l[j].w.name.length ≤ 500 ∧ l[j].data.length ≤ 500 from ⟨by omega, fun j h hj => by by_cases e : j = i; (subst e; exact ⟨by omega, by omega⟩); exact hno j h (by omega)⟩) (show l.length - (i + 1) < l.length - i by omega) (Sx.put rfl (sx_)) sp_
       ·refine WC.exit ?_
        refine DN.then_exit ?_
        refine DN.then_exit ?_
        refine DN.block_exit ?_
        refine ts_ ?_
        refine WC.region ?_
        refine a_ rfl rfl ?_
        refine nt_ ?_
        refine WC.ret ?_
        refine DN.fit (C := H) sp_ ?_
        refine DN.ret1 Tryz.results19 rfl ?_
        first | exact ⟨rfl, true, rfl, fun e => by cases e⟩ | exact ⟨rfl, false, rfl, fun _ => ⟨by omega, by omega, by omega, fun j h hj => hno j h (by omega)⟩⟩
      ·refine gn_ 58 rfl rfl rfl rfl ?_
       refine gn_ 58 rfl rfl rfl rfl ?_
       refine WL.y rfl (Yd.pickF rfl rfl) ?_
       refine nt_ ?_
       refine WC.no rfl ?_
       refine WC.exit ?_
       refine DN.then_exit ?_
       refine DN.then_exit ?_
       refine DN.block_exit ?_
       refine ts_ ?_
       refine WC.region ?_
       refine a_ rfl rfl ?_
       refine nt_ ?_
       refine WC.ret ?_
       refine DN.fit (C := H) sp_ ?_
       refine DN.ret1 Tryz.results19 rfl ?_
       first | exact ⟨rfl, true, rfl, fun e => by cases e⟩ | exact ⟨rfl, false, rfl, fun _ => ⟨by omega, by omega, by omega, fun j h hj => hno j h (by omega)⟩⟩
end Go.Proofs.YtkamlondepceiaaGreat

set_option linter.unusedVariables false
set_option linter.unusedSimpArgs false
set_option maxHeartbeats 8000000
namespace Go.Proofs.YtkamlondepceiaaGreat
open Go.SL
variable {s : Cw}
theorem und_goods {g0 : List Gd} {S S0 : List Gd} (inv : SInv g0 s.K s.L) (h : Und s []) (h0 : ToldK Gd.name sLt g0 S0) (h1 : ToldK Gd.name sLt s.K S) : S.map g2c = S0.map g2c := by
  obtain ⟨hl, hat⟩ := goods_at inv h0 h1
  have hL := h.end.1
  refine List.ext_getElem (by simpa using hl) fun i a b => ?_
  rw [List.length_map] at a b
  obtain ⟨e1, e2, e3, e4, e5⟩ := hat i a b
  have hg := h.gone S[i] (h1.perm.mem_iff.1 (List.getElem_mem a))
  rw [hL] at e5
  simp only [sumN, List.map_nil, List.sum_nil] at e5
  rw [List.getElem_map, List.getElem_map]
  unfold g2c
  rw [e1, show S[i].free = S0[i].free by omega]
theorem und_room {r0 : List Int} (inv : DInv r0 s.rs s.B) (h : Und s []) (d : Nat) (hd : d < r0.length) : roomOf s.rs d = roomOf r0 d := by
  have := (room_at inv d hd).2.2
  rw [h.end.2.1] at this
  simpa [sumDay] using this
theorem law_CrewUndone (v : Value) (l : List As) (xs : List Value) (H : List Ck) (ha : AskL v l xs H) (hm : l.length ≤ 9223372036854775807) : Reads Tryz.prog 6 [v] H (.bool true) := by
 refine Tells.enter Tryz.func6 rfl Tryz.ntmps6 rfl ?_
 intro w0 R
 have ha9 := ha
 obtain ⟨hv, hx, hA⟩ := ha
 obtain ⟨vo, vc, rfl, hvc⟩ := hv.form
 refine sr_ ?_
 refine a_ rfl rfl ?_
 refine ntsr_ ?_
 refine WL.ca rfl (Ent.func Tryz.call18 rfl) (small_tells H) ?_
 rintro q0 H0 ⟨p, C0, rfl, h0, rfl⟩
 have inv0 := sm_inv
 refine a_ rfl rfl ?_
 refine nt_ ?_
 refine WC.seq ?_
 refine sr_ ?_
 refine m_ rfl rfl ?_
 refine WL.y rfl (Yd.eqlNil Tryz.underlying40 rfl rfl) ?_
 refine WL.renamed (t := 22) (v := .bool false) rfl (congrArg Value.bool (rfl)) ?_
 refine m_ rfl rfl ?_
 refine gy_ 23 rfl rfl rfl (Yd.buildL (pl := [(0, 1), (1, 1), (2, 1)]) (zs := [.slice none 0 0, .slice none 0 0, .slice none 0 0]) (parts := []) (vs := []) (cells := [.slice none 0 0, .slice none 0 0, .slice none 0 0]) kr_ kr_ rfl rfl) ?_
 refine gy_ 23 rfl rfl rfl (Yd.move rfl) ?_
 refine WL.gc (dj := 23) rfl rfl rfl (Ent.func Tryz.call19 rfl) (long_reads _ _ _ _ [] [] [] l xs H (.inl ⟨none, 0, rfl, rfl, rfl⟩) (.inl ⟨none, 0, rfl, rfl, rfl⟩) (.inl ⟨none, 0, rfl, rfl, rfl⟩) ha9 (by decide) (by decide) (by decide) hm) (Sp.p sp_) ?_
 rintro q Hq ⟨hHq, z, rfl, hz⟩
 have hHq := hHq.symm
 subst hHq
 refine WL.y rfl (Yd.pickF rfl rfl) ?_
 refine nt_ ?_
 refine WC.cond rfl (fun h27 => ?_) (fun h27 => ?_)
 ·refine sr_ ?_
  refine m_ rfl rfl ?_
  refine WL.y rfl (Yd.neqNil Tryz.underlying40 rfl rfl) ?_
  refine WL.renamed (t := 29) (v := .bool true) rfl (congrArg Value.bool (rfl)) ?_
  refine m_ rfl rfl ?_
  refine WL.gr (dj := 30) rfl rfl rfl (Ent.func Tryz.call9 rfl) (known12 _) ?_
  refine WL.y rfl (Yd.pickT rfl rfl) ?_
  refine a_ rfl rfl ?_
  refine nt_ ?_
  refine WC.ret ?_
  refine DN.then_ret ?_
  refine DN.fit (C := H) sp_ ?_
  refine DN.ret1 Tryz.results6 rfl ?_
  exact ⟨rfl, rfl⟩
 ·have hnl := hz h27
  refine WC.skip ?_
  refine ts_ ?_
  refine WC.region ?_
  refine m_ rfl rfl ?_
  obtain ⟨hmK0, hmU0⟩ := inv_many inv0
  refine WL.c rfl (Ent.func Tryz.call25 rfl) (cgoods_tells p (Cw.new smG smU [3, 5]) C0 h0 (by omega)) (Sp.p sp_) ?_
  rintro q Hq ⟨S1, Cs1, hT1, ho1, rfl⟩
  have hl1 := hT1.perm.length_eq
  obtain ⟨so1, sc1, rfl, _⟩ := ho1.form
  refine a_ rfl rfl ?_
  refine ntsr_ ?_
  refine m_ rfl rfl ?_
  refine WL.c rfl (Ent.func Tryz.call26 rfl) (caccs_tells p (Cw.new smG smU [3, 5]) C0 h0 (by omega)) (Sp.p sp_) ?_
  rintro q Hq ⟨T1, Ct1, hU1, hq1, rfl⟩
  have hlU1 := hU1.perm.length_eq
  obtain ⟨to1, tc1, rfl, _⟩ := hq1.form
  refine a_ rfl rfl ?_
  refine ntsr_ ?_
  refine m_ rfl rfl ?_
  refine WL.rf rfl (Ent.func Tryz.call30 rfl) (croom_reads p (Cw.new smG smU [3, 5]) C0 h0 0) sp_ ?_
  refine a_ rfl rfl ?_
  refine ntsr_ ?_
  refine m_ rfl rfl ?_
  refine WL.rf rfl (Ent.func Tryz.call30 rfl) (croom_reads p (Cw.new smG smU [3, 5]) C0 h0 1) sp_ ?_
  refine a_ rfl rfl ?_
  refine ntsr_ ?_
  refine a_ rfl rfl ?_
  refine nt_ ?_
  refine WC.seq ?_
  refine sr_ ?_
  refine a_ rfl rfl ?_
  refine nt_ ?_
  refine WC.block ?_
  refine WC.loopS (fun z : Nat × Cw × List Ck × Value × List Value × List Nt × List Ck × List Ck => z.1 ≤ l.length ∧ CwAt 189 198 203 3 5 118 111 22 116 p z.2.1 z.2.2.1 ∧ CInv smG smU [3, 5] z.2.1 ∧ z.1 ≤ 60 ∧ Own z.2.2.2.1 z.2.2.2.2.2.1.length z.2.2.2.2.1 52 11 z.2.2.2.2.2.2.1 ∧ NtS (z.2.2.2.2.2.2.2 ++ H) z.2.2.2.2.1 z.2.2.2.2.2.1 ∧ Fwd z.2.1 z.2.2.2.2.2.1 z.1 ∧ z.2.2.2.2.2.1.length ≤ z.1) (fun z : Nat × Cw × List Ck × Value × List Value × List Nt × List Ck × List Ck => [(8, z.2.2.2.1), (9, .int .i64 (z.1 : Int))]) (fun z : Nat × Cw × List Ck × Value × List Value × List Nt × List Ck × List Ck => z.2.2.2.2.2.2.1 ++ (z.2.2.2.2.2.2.2 ++ (z.2.2.1 ++ (Cs1 ++ (Ct1 ++ H))))) (fun z : Nat × Cw × List Ck × Value × List Value × List Nt × List Ck × List Ck => l.length - z.1) (⟨0, (Cw.new smG smU [3, 5]), C0, .slice none 0 0, [], [], [], []⟩) (show 0 ≤ l.length ∧ CwAt 189 198 203 3 5 118 111 22 116 p ((Cw.new smG smU [3, 5])) C0 ∧ CInv smG smU [3, 5] ((Cw.new smG smU [3, 5])) ∧ 0 ≤ 60 ∧ Own (.slice none 0 0) [].length [] 52 11 [] ∧ NtS ([] ++ H) [] [] ∧ Fwd ((Cw.new smG smU [3, 5])) [] 0 ∧ [].length ≤ 0 from ⟨Nat.zero_le _, h0, inv0, Nat.zero_le _, Own.nil _ _, .nil, Fwd.start _ _ _ (by decide), Nat.zero_le _⟩) (Sx.put rfl (Sx.put rfl (sx_))) sp_ ?_
  rintro ⟨i, s, C, vl, cl, ds, CN, DD⟩ hI
  replace hI : i ≤ l.length ∧ CwAt 189 198 203 3 5 118 111 22 116 p s C ∧ CInv smG smU [3, 5] s ∧ i ≤ 60 ∧ Own vl ds.length cl 52 11 CN ∧ NtS (DD ++ H) cl ds ∧ Fwd s ds i ∧ ds.length ≤ i := hI
  obtain ⟨hi, h, inv, hi60, hO, hN, hF, hdl⟩ := hI
  change WC _ _ _ _ _ _ ([(8, vl), (9, .int .i64 (i : Int))] ++ _) (CN ++ (DD ++ (C ++ (Cs1 ++ (Ct1 ++ H)))))
  obtain ⟨lo, lc, rfl, hlc⟩ := hO.form
  refine WC.seq ?_
  refine sr_ ?_
  refine m_ rfl rfl ?_
  refine m_ rfl rfl ?_
  refine WL.y rfl (Yd.len (e := 54) kr_ rfl) ?_
  refine WL.y rfl (Yd.lss rfl rfl) ?_
  refine m_ rfl rfl ?_
  refine WL.partP (t := 45) rfl (fun hg45 => ?_) (fun hg45 => ?_)
  ·refine gy_ 45 rfl rfl rfl (Yd.move rfl) ?_
   refine gy_ 45 rfl rfl rfl (Yd.lss rfl rfl) ?_
   refine WL.y rfl (Yd.pickT rfl rfl) ?_
   refine nt_ ?_
   refine WC.ite rfl (fun h48 => ?_) (fun h48 => ?_)
   ·have hlt : i < l.length := by omega
    obtain ⟨hw1, hw2⟩ := hnl.2.2.2 i hlt (by omega)
    obtain ⟨vn, vd, hcell, hkn, hkd, _⟩ := hA i hlt
    obtain ⟨ko, kc, rfl, _⟩ := hkn.form
    obtain ⟨eo, ec, rfl, _⟩ := hkd.form
    obtain ⟨hmK, hmU⟩ := inv_many inv
    have hme := inv.ef
    have hmk := inv.ck.1
    refine WC.skip ?_
    refine ts_ ?_
    refine WC.block ?_
    refine sr_ ?_
    refine m_ rfl rfl ?_
    refine m_ rfl rfl ?_
    refine WL.elemA (e := 54) (s := 8) kr_ kr_ kr_ rfl rfl (rfl) (hv.mono gr_) (hcell) (by rfl) (by omega) (hlt) rfl rfl ?_
    intro p53
    refine WL.c rfl (Ent.func Tryz.call20 rfl) (note_tells l[i] _ _ H hkn hkd (by omega)) (Sp.p sp_) ?_
    rintro q1 Hq1 ⟨x, A, rfl, hbx, rfl⟩
    have hnl9 := note_len l[i]
    obtain ⟨n0, hn0⟩ : ∃ m, m = noteA l[i] := ⟨_, rfl⟩
    rw [← hn0] at hbx hnl9 ⊢
    obtain ⟨xo, xc, rfl, _⟩ := hbx.form
    refine WL.h rfl (Hd.alloc (zs := [.int .i64 0, .int .u32 0, .int .u32 0, .int .u64 0, .int .u64 0, .int .u32 0, .int .i64 0, .bool false, .int .i64 0, .slice none 0 0, .slice none 0 0]) kr_ fun b10 => ⟨_, rfl, ?_⟩)
    refine WL.s (Hd.storeAll (n := 11) kr_ rfl rfl (by rfl) one_ fr_ (by rfl) ⟨rfl, ?_⟩)
    refine ntsr_ ?_
    refine f_ 10 kr_ rfl rfl ?_
    refine d_ kr_ rfl mem_ (by rfl) rfl ?_
    refine WL.c rfl (Ent.func Tryz.call14 rfl) (rdecode_tells _ n0.data (A ++ H) hbx (by omega)) (Sp.p sp_) ?_
    rintro q3 Hq3 ⟨y, AY, rfl, hy, rfl⟩
    obtain ⟨yo, yc, rfl, _⟩ := hy.form
    refine m_ rfl rfl ?_
    refine x_ rfl rfl rfl ?_
    refine x_ rfl rfl rfl ?_
    refine WL.h rfl (Hd.alloc (zs := [.int .i64 0, .int .i64 0, .slice none 0 0]) kr_ fun b11 => ⟨_, rfl, ?_⟩)
    refine WL.s (Hd.storeAll (n := 3) kr_ rfl rfl (by rfl) one_ fr_ (by rfl) ⟨rfl, ?_⟩)
    refine a_ rfl rfl ?_
    refine ntsr_ ?_
    refine f_ 1 kr_ rfl rfl ?_
    refine WL.s (Hd.store1s (cs' := ntc { n0 with epoch := 1#32 } (.slice none 0 0) (.slice xo n0.data.length xc)) kr_ rfl rfl (by rfl) fr_ (by rfl) (by rfl) ⟨rfl, ?_⟩)
    refine ntsr_ ?_
    refine f_ 7 kr_ rfl rfl ?_
    obtain ⟨n, hn⟩ : ∃ m, m = ({ n0 with epoch := 1#32, undo := false } : Nt) := ⟨_, rfl⟩
    have hbn : Bs (.slice xo n.data.length xc) n.data (A ++ H) := by rw [hn]; exact hbx
    have hdn : n.data = n0.data := by rw [hn]
    refine WL.s (Hd.store1s (cs' := (ntc n (.slice none 0 0) (.slice xo n.data.length xc))) kr_ rfl rfl (by rfl) fr_ (by rfl) (by subst hn; rfl) ⟨rfl, ?_⟩)
    refine nt_ ?_
    refine WC.seq ?_
    refine sr_ ?_
    refine m_ rfl rfl ?_
    refine WL.y rfl (Yd.neq rfl rfl) ?_
    refine m_ rfl rfl ?_
    refine WL.partP (t := 66) rfl (fun hg66 => ?_) (fun hg66 => ?_)
    ·iterate 3 refine gn_ 66 rfl rfl rfl rfl ?_
     refine WL.y rfl (Yd.pickT rfl rfl) ?_
     refine nt_ ?_
     refine WC.yes rfl ?_
     refine WC.exit ?_
     refine DN.then_exit ?_
     refine DN.block_exit ?_
     refine DN.then_normal ?_
     refine WC.region ?_
     refine m_ rfl rfl ?_
     refine WL.y rfl (Yd.add rfl rfl (by omega) (by omega)) ?_
     refine a_ rfl rfl ?_
     refine WL.nil ?_
     exact DN.againS (⟨i + 1, s, C, .slice lo ds.length lc, cl, ds, CN, DD⟩) (show (i + 1) ≤ l.length ∧ CwAt 189 198 203 3 5 118 111 22 116 p s C ∧ CInv smG smU [3, 5] s ∧ (i + 1) ≤ 60 ∧ Own (.slice lo ds.length lc) ds.length cl 52 11 CN ∧ NtS (DD ++ H) cl ds ∧ Fwd s ds (i + 1) ∧ ds.length ≤ (i + 1) from ⟨by omega, h, inv, by omega, hO, hN, hF.more9 (by omega), by omega⟩) (show l.length - (i + 1) < l.length - i by omega) (Sx.put rfl (Sx.put rfl (sx_))) sp_
    ·refine gy_ 66 rfl rfl rfl (Yd.fieldAddr (k := 0) kr_ rfl) ?_
     refine WL.gh (dj := 66) rfl rfl rfl (Hd.load1 kr_ rfl mem_ (by rfl) ⟨_, rfl, ?_⟩)
     refine gy_ 66 rfl rfl rfl (Yd.eql rfl rfl) ?_
     refine WL.y rfl (Yd.pickF rfl rfl) ?_
     refine nt_ ?_
     refine WC.ite rfl (fun h70 => ?_) (fun h70 => ?_)
     ·refine WC.exit ?_
      refine DN.then_exit ?_
      refine DN.block_exit ?_
      refine DN.then_normal ?_
      refine WC.region ?_
      refine m_ rfl rfl ?_
      refine WL.y rfl (Yd.add rfl rfl (by omega) (by omega)) ?_
      refine a_ rfl rfl ?_
      refine WL.nil ?_
      exact DN.againS (⟨i + 1, s, C, .slice lo ds.length lc, cl, ds, CN, DD⟩) (show (i + 1) ≤ l.length ∧ CwAt 189 198 203 3 5 118 111 22 116 p s C ∧ CInv smG smU [3, 5] s ∧ (i + 1) ≤ 60 ∧ Own (.slice lo ds.length lc) ds.length cl 52 11 CN ∧ NtS (DD ++ H) cl ds ∧ Fwd s ds (i + 1) ∧ ds.length ≤ (i + 1) from ⟨by omega, h, inv, by omega, hO, hN, hF.more9 (by omega), by omega⟩) (show l.length - (i + 1) < l.length - i by omega) (Sx.put rfl (Sx.put rfl (sx_))) sp_
     ·have h0e : decE n.data = 0 := by rw [hdn]; exact Classical.byContradiction hg66
      have h2e : (decW n.data).what ≠ 2 := by rw [hdn]; exact h70
      refine WC.skip ?_
      refine ts_ ?_
      refine WC.region ?_
      refine m_ rfl rfl ?_
      refine WL.c rfl (Ent.func Tryz.call21 rfl) (ceffs_tells p s C h (by omega)) (Sp.p sp_) ?_
      rintro q Hq ⟨Ce1, he1, rfl⟩
      obtain ⟨fo1, fc1, rfl, _⟩ := he1.form
      refine WL.y rfl (Yd.len (e := 111) kr_ rfl) ?_
      refine a_ rfl rfl ?_
      refine ntsr_ ?_
      refine m_ rfl rfl ?_
      refine WL.h rfl (Hd.loadAll (n := 11) kr_ rfl mem_ (by rfl) ⟨_, rfl, ?_⟩)
      refine WL.c rfl (Ent.func Tryz.call22 rfl) (serve_tells p s C h inv n _ _ (A ++ H) (by rw [hn, hn0]; exact .inl ⟨_, _, rfl, rfl, rfl⟩) hbn) (Sp.p sp_) ?_
      rintro q2 Hq2 ⟨C2, w2, D2, rfl, h2, hD2, rfl⟩
      have inv2 := serve_inv inv n
      have hk2 := serve_key s n
      have hfw := hF.serve inv.ck (n := n) (by rw [hn]) (by rw [hn]) h0e h2e
      obtain ⟨s2, hs2⟩ : ∃ t, t = serveS s n := ⟨_, rfl⟩
      obtain ⟨a2, ha2⟩ : ∃ t, t = serveN s n := ⟨_, rfl⟩
      rw [← hs2] at h2 inv2 hfw
      rw [← ha2] at hD2 hk2  ⊢
      obtain ⟨wo2, wc2, rfl, _⟩ := hD2.form
      obtain ⟨hmK2, hmU2⟩ := inv_many inv2
      have hme2 := inv2.ef
      have hmk2 := inv2.ck.1
      refine ntsr_ ?_
      refine m_ rfl rfl ?_
      refine WL.c rfl (Ent.func Tryz.call21 rfl) (ceffs_tells p s2 C2 h2 (by omega)) (Sp.p sp_) ?_
      rintro q Hq ⟨Ce2, he2, rfl⟩
      obtain ⟨fo2, fc2, rfl, _⟩ := he2.form
      refine WL.y rfl (Yd.len (e := 111) kr_ rfl) ?_
      refine m_ rfl rfl ?_
      refine WL.y rfl (Yd.gtr rfl rfl) ?_
      refine nt_ ?_
      refine WC.ite rfl (fun h81 => ?_) (fun h81 => ?_)
      ·have hfw := hfw.resolve_right (fun q => by omega)
       refine WC.region ?_
       refine m_ rfl rfl ?_
       refine WL.h rfl (Hd.loadAll (n := 11) kr_ rfl mem_ (by rfl) ⟨_, rfl, ?_⟩)
       refine WL.h rfl (Hd.buildA (e := 52) (sz := 11) (zs := [.int .i64 0, .int .u32 0, .int .u32 0, .int .u64 0, .int .u64 0, .int .u32 0, .int .i64 0, .bool false, .int .i64 0, .slice none 0 0, .slice none 0 0]) kr_ kr_ kr_ rfl rfl (by rfl) kr_ fun b84 => ⟨_, rfl, ?_⟩)
       refine WL.h rfl (Hd.appendRow (e := 52) (sz := 11) (bytes := 112) (zs := [.int .i64 0, .int .u32 0, .int .u32 0, .int .u64 0, .int .u64 0, .int .u32 0, .int .i64 0, .bool false, .int .i64 0, .slice none 0 0, .slice none 0 0]) kr_ kr_ rfl (by omega) rfl rfl (hO) sp_ mem_ (by rfl) (ntc_one rfl rfl) (by simp only [maxLen]; omega) (by omega) fun v2 C9 h9 => ⟨_, rfl, ?_⟩)
       refine a_ rfl rfl ?_
       refine WL.nil ?_
       refine DN.block_normal ?_
       refine DN.then_normal ?_
       refine WC.region ?_
       refine m_ rfl rfl ?_
       refine WL.y rfl (Yd.add rfl rfl (by omega) (by omega)) ?_
       refine a_ rfl rfl ?_
       refine WL.nil ?_
       exact DN.againS (⟨i + 1, s2, C2, v2, cl ++ (ntc n (.slice none 0 0) (.slice xo n.data.length xc)), ds ++ [n], C9, DD ++ A⟩) (show (i + 1) ≤ l.length ∧ CwAt 189 198 203 3 5 118 111 22 116 p s2 C2 ∧ CInv smG smU [3, 5] s2 ∧ (i + 1) ≤ 60 ∧ Own v2 (ds ++ [n]).length (cl ++ (ntc n (.slice none 0 0) (.slice xo n.data.length xc))) 52 11 C9 ∧ NtS ((DD ++ A) ++ H) (cl ++ (ntc n (.slice none 0 0) (.slice xo n.data.length xc))) (ds ++ [n]) ∧ Fwd s2 (ds ++ [n]) (i + 1) ∧ (ds ++ [n]).length ≤ (i + 1) from ⟨by omega, h2, inv2, by omega, by rw [List.length_append]; exact h9, (hN.mono fun c hc => by simp only [List.mem_append] at hc ⊢; rcases hc with h | h; exact .inl (.inl h); exact .inr h).snoc (by rw [hn, hn0]; rfl) (hbn.mono fun c hc => by simp only [List.mem_append] at hc ⊢; rcases hc with h | h; exact .inl (.inr h); exact .inr h), hfw.2, by rw [List.length_append]; show ds.length + 1 ≤ i + 1; omega⟩) (show l.length - (i + 1) < l.length - i by omega) (Sx.put rfl (Sx.put rfl (sx_))) sp_
      ·have hfw := hfw.resolve_left (fun q => by omega)
       refine WC.skip ?_
       refine DN.block_normal ?_
       refine DN.then_normal ?_
       refine WC.region ?_
       refine m_ rfl rfl ?_
       refine WL.y rfl (Yd.add rfl rfl (by omega) (by omega)) ?_
       refine a_ rfl rfl ?_
       refine WL.nil ?_
       exact DN.againS (⟨i + 1, s2, C2, .slice lo ds.length lc, cl, ds, CN, DD⟩) (show (i + 1) ≤ l.length ∧ CwAt 189 198 203 3 5 118 111 22 116 p s2 C2 ∧ CInv smG smU [3, 5] s2 ∧ (i + 1) ≤ 60 ∧ Own (.slice lo ds.length lc) ds.length cl 52 11 CN ∧ NtS (DD ++ H) cl ds ∧ Fwd s2 ds (i + 1) ∧ ds.length ≤ (i + 1) from ⟨by omega, h2, inv2, by omega, hO, hN, hfw.2, by omega⟩) (show l.length - (i + 1) < l.length - i by omega) (Sx.put rfl (Sx.put rfl (sx_))) sp_
   ·refine WC.exit ?_
    refine DN.then_exit ?_
    refine DN.then_exit ?_
    refine DN.block_exit ?_
    refine ts_ ?_
    refine sr_ ?_
    refine m_ rfl rfl ?_
    refine WL.y rfl (Yd.len (e := 52) kr_ rfl) ?_
    refine WL.y rfl (Yd.sub rfl rfl (by omega) (by omega)) ?_
    refine a_ rfl rfl ?_
    refine nt_ ?_
    refine WC.block ?_
    refine WC.loopS (fun z : Nat × Cw × List Ck => z.1 ≤ ds.length ∧ CwAt 189 198 203 3 5 118 111 22 116 p z.2.1 z.2.2 ∧ CInv smG smU [3, 5] z.2.1 ∧ Bwd z.2.1 (ds.take z.1) (60 + (ds.length - z.1))) (fun z : Nat × Cw × List Ck => [(14, .int .i64 ((z.1 : Int) - 1))]) (fun z : Nat × Cw × List Ck => CN ++ (DD ++ (z.2.2 ++ (Cs1 ++ (Ct1 ++ H))))) (fun z : Nat × Cw × List Ck => z.1) (⟨ds.length, s, C⟩) (show ds.length ≤ ds.length ∧ CwAt 189 198 203 3 5 118 111 22 116 p s C ∧ CInv smG smU [3, 5] s ∧ Bwd s (ds.take ds.length) (60 + (ds.length - ds.length)) from ⟨Nat.le_refl _, h, inv, by rw [List.take_length]; exact (hF.turn inv.ck).more9 (by omega)⟩) (Sx.put rfl (sx_)) sp_ ?_
    rintro ⟨j, s, C⟩ hI
    replace hI : j ≤ ds.length ∧ CwAt 189 198 203 3 5 118 111 22 116 p s C ∧ CInv smG smU [3, 5] s ∧ Bwd s (ds.take j) (60 + (ds.length - j)) := hI
    obtain ⟨hj, h, inv, hB⟩ := hI
    change WC _ _ _ _ _ _ ([(14, .int .i64 ((j : Int) - 1))] ++ _) (CN ++ (DD ++ (C ++ (Cs1 ++ (Ct1 ++ H)))))
    refine WC.seq ?_
    refine sr_ ?_
    refine m_ rfl rfl ?_
    refine WL.y rfl (Yd.geq rfl rfl) ?_
    refine nt_ ?_
    refine WC.ite rfl (fun h90 => ?_) (fun h90 => ?_)
    ·obtain ⟨jj, hjj⟩ : ∃ q, j = q + 1 := ⟨j - 1, by omega⟩
     have hjl : jj < ds.length := by omega
     rw [hjj] at hB
     obtain ⟨hmK, hmU⟩ := inv_many inv
     rw [List.take_succ_eq_append_getElem hjl] at hB
     obtain ⟨vd9, hcl, hdk, hdd⟩ := hN.at jj hjl
     obtain ⟨do_, dc, rfl, _⟩ := hdd.form
     refine WC.skip ?_
     refine ts_ ?_
     refine WC.block ?_
     refine sr_ ?_
     refine m_ rfl rfl ?_
     refine m_ rfl rfl ?_
     refine WL.renamed (t := 94) (v := .int .i64 (jj : Int)) rfl (congrArg (Value.int .i64) (by omega)) ?_
     refine WL.elemA (e := 52) (s := 11) kr_ kr_ kr_ rfl rfl (rfl) (hO.rs.mono gr_) (hcl) (by rfl) (by omega) (hjl) rfl rfl ?_
     intro p95
     refine WL.h rfl (Hd.alloc (zs := [.int .i64 0, .int .u32 0, .int .u32 0, .int .u64 0, .int .u64 0, .int .u32 0, .int .i64 0, .bool false, .int .i64 0, .slice none 0 0, .slice none 0 0]) kr_ fun b15 => ⟨_, rfl, ?_⟩)
     refine WL.s (Hd.storeAll (n := 11) kr_ rfl rfl (by rfl) one_ fr_ (by rfl) ⟨rfl, ?_⟩)
     refine ntsr_ ?_
     refine f_ 7 kr_ rfl rfl ?_
     refine WL.s (Hd.store1s (cs' := ntc { ds[jj] with undo := true } (.slice none 0 0) (.slice do_ ds[jj].data.length dc)) kr_ rfl rfl (by rfl) fr_ (by rfl) (by rfl) ⟨rfl, ?_⟩)
     refine ntsr_ ?_
     refine f_ 1 kr_ rfl rfl ?_
     refine WL.s (Hd.store1s (cs' := ntc (backN ds[jj]) (.slice none 0 0) (.slice do_ ds[jj].data.length dc)) kr_ rfl rfl (by rfl) fr_ (by rfl) (by rfl) ⟨rfl, ?_⟩)
     refine ntsr_ ?_
     refine m_ rfl rfl ?_
     refine WL.h rfl (Hd.loadAll (n := 11) kr_ rfl mem_ (by rfl) ⟨_, rfl, ?_⟩)
     refine WL.c rfl (Ent.func Tryz.call22 rfl) (serve_tells p s C h inv (backN ds[jj]) _ _ (DD ++ H) (by show Bs _ ds[jj].key _; rw [hdk]; exact .inl ⟨_, _, rfl, rfl, rfl⟩) hdd) (Sp.p sp_) ?_
     rintro q2 Hq2 ⟨C2, w2, D2, rfl, h2, hD2, rfl⟩
     have inv2 := serve_inv inv (backN ds[jj])
     have hk2 := serve_key s (backN ds[jj])
     have hkb := hB.serve (n := ds[jj]) inv.ck inv.pu.keys (by omega)
     obtain ⟨s2, hs2⟩ : ∃ t, t = serveS s (backN ds[jj]) := ⟨_, rfl⟩
     obtain ⟨a2, ha2⟩ : ∃ t, t = serveN s (backN ds[jj]) := ⟨_, rfl⟩
     rw [← hs2] at h2 inv2 hkb
     rw [← ha2] at hD2 hk2 hkb ⊢
     obtain ⟨wo2, wc2, rfl, _⟩ := hD2.form
     obtain ⟨hmK2, hmU2⟩ := inv_many inv2
     have hme2 := inv2.ef
     have hmk2 := inv2.ck.1
     refine WL.h rfl (Hd.alloc (zs := [.int .i64 0, .int .u32 0, .int .u32 0, .int .u64 0, .int .u64 0, .int .u32 0, .int .i64 0, .bool false, .int .i64 0, .slice none 0 0, .slice none 0 0]) kr_ fun b16 => ⟨_, rfl, ?_⟩)
     refine WL.s (Hd.storeAll (n := 11) kr_ rfl rfl (by rfl) one_ fr_ (by rfl) ⟨rfl, ?_⟩)
     refine ntsr_ ?_
     refine f_ 0 kr_ rfl rfl ?_
     refine d_ kr_ rfl mem_ (by rfl) rfl ?_
     refine WL.y rfl (Yd.neq rfl rfl) ?_
     refine WL.renamed (t := 104) (v := .bool false) rfl (congrArg Value.bool (by rw [hkb.1]; decide)) ?_
     refine nt_ ?_
     refine WC.no rfl ?_
     refine WC.skip ?_
     refine DN.block_normal ?_
     refine DN.then_normal ?_
     refine WC.region ?_
     refine m_ rfl rfl ?_
     refine WL.y rfl (Yd.sub rfl rfl (by omega) (by omega)) ?_
     refine WL.renamed (t := 92) (v := .int .i64 ((jj : Int) - 1)) rfl (congrArg (Value.int .i64) (by omega)) ?_
     refine a_ rfl rfl ?_
     refine WL.nil ?_
     exact DN.againS (⟨jj, s2, C2⟩) (show jj ≤ ds.length ∧ CwAt 189 198 203 3 5 118 111 22 116 p s2 C2 ∧ CInv smG smU [3, 5] s2 ∧ Bwd s2 (ds.take jj) (60 + (ds.length - jj)) from ⟨by omega, h2, inv2, hkb.2.more9 (by omega)⟩) (show jj < j by omega) (Sx.put rfl (sx_)) sp_
    ·obtain rfl : j = 0 := by omega
     obtain ⟨hmK, hmU⟩ := inv_many inv
     have hU0 := hB.und
     rw [List.take_zero] at hU0
     have hSum := hU0.end.2.2
     refine WC.exit ?_
     refine DN.then_exit ?_
     refine DN.then_exit ?_
     refine DN.block_exit ?_
     refine ts_ ?_
     refine WC.region ?_
     refine a_ rfl rfl ?_
     refine ntsr_ ?_
     refine m_ rfl rfl ?_
     refine WL.c rfl (Ent.func Tryz.call26 rfl) (caccs_tells p s C h (by omega)) (Sp.p sp_) ?_
     rintro q Hq ⟨T2, Ct2, hU2, hq2, rfl⟩
     have hlU2 := hU2.perm.length_eq
     obtain ⟨to2, tc2, rfl, _⟩ := hq2.form
     obtain ⟨hul, huat⟩ := accs_at inv.pu hU1 hU2
     refine a_ rfl rfl ?_
     refine nt_ ?_
     refine WC.seq ?_
     refine sr_ ?_
     refine a_ rfl rfl ?_
     refine nt_ ?_
     refine WC.block ?_
     refine WC.loopS (fun z : Nat => z ≤ T2.length) (fun z : Nat => [(17, .int .i64 0), (19, .int .i64 (z : Int))]) (fun z : Nat => Ct2 ++ (CN ++ (DD ++ (C ++ (Cs1 ++ (Ct1 ++ H)))))) (fun z : Nat => T2.length - z) (0) (show 0 ≤ T2.length from Nat.zero_le _) (Sx.put rfl (Sx.put rfl (sx_))) sp_ ?_
     rintro k hI
     replace hI : k ≤ T2.length := hI
     obtain hk := hI
     change WC _ _ _ _ _ _ ([(17, .int .i64 0), (19, .int .i64 (k : Int))] ++ _) (Ct2 ++ (CN ++ (DD ++ (C ++ (Cs1 ++ (Ct1 ++ H))))))
     refine WC.seq ?_
     refine sr_ ?_
     refine m_ rfl rfl ?_
     refine m_ rfl rfl ?_
     refine WL.y rfl (Yd.len (e := 71) kr_ rfl) ?_
     refine WL.y rfl (Yd.lss rfl rfl) ?_
     refine m_ rfl rfl ?_
     refine WL.partP (t := 111) rfl (fun hg111 => ?_) (fun hg111 => ?_)
     ·refine gy_ 111 rfl rfl rfl (Yd.move rfl) ?_
      refine gy_ 111 rfl rfl rfl (Yd.move rfl) ?_
      refine gy_ 111 rfl rfl rfl (Yd.len (e := 71) kr_ rfl) ?_
      refine gy_ 111 rfl rfl rfl (Yd.lss rfl rfl) ?_
      refine WL.y rfl (Yd.pickT rfl rfl) ?_
      refine nt_ ?_
      refine WC.ite rfl (fun h116 => ?_) (fun h116 => ?_)
      ·have hk2 : k < T2.length := by omega
       have hk1 : k < T1.length := by omega
       obtain ⟨ub, uf, us, uT, ufr, uex, rfl, _, hum, hus⟩ := hq2.rs.lies (by omega)
       obtain ⟨fb, ff, fs, fT, ffr, fex, rfl, _, hfm, hfs⟩ := hq1.rs.lies (by omega)
       obtain ⟨e1, e2, e3, e4, e5, e6⟩ := huat k hk2 hk1
       have e7 := hSum T2[k].name
       refine WC.skip ?_
       refine ts_ ?_
       refine WC.block ?_
       refine WC.seq ?_
       refine WC.seq ?_
       refine WC.draw 11 kr_ rfl ?_
       refine WA.float (N := 11) rfl ?_
       refine WAF.add (i := 0) (d := 119) rfl (QF.mk [] [] rfl rfl kr_ rfl (QAt.y Wt.none (Yd.move rfl))) ?_
       refine WAF.add (i := 1) (d := 120) rfl (QF.mk [] [] rfl rfl kr_ rfl (QAt.y Wt.none (Yd.move rfl))) ?_
       refine WAF.add (i := 2) (d := 121) rfl (QF.mk [1, 0] [(120, _), (119, _)] rfl rfl kr_ rfl (QAt.y Wt.none (Yd.indexAddr (e := 71) (s := 3) kr_ kr_ rfl rfl (by omega) (by omega)))) ?_
       refine WAF.add (i := 3) (d := 122) rfl (QF.mk [2] [(121, _)] rfl rfl kr_ rfl (QAt.y Wt.none (Yd.fieldAddr (k := 1) kr_ rfl))) ?_
       refine WAF.add (i := 4) (d := 123) rfl (QF.mk [3] [(122, _)] rfl rfl kr_ rfl (QAt.rd Wt.none (Rd.load1 (v := .int .i64 T2[k].money) (b := ub) (o := uf + (k : Int).toNat * 3 + 1) (cs := us) kr_ rfl (Gr.get gr_ hum) (cell_at2 (L := T2) cellsU_len hus (by omega) (by omega))))) ?_
       refine WAF.add (i := 5) (d := 124) rfl (QF.mk [] [] rfl rfl kr_ rfl (QAt.y Wt.none (Yd.move rfl))) ?_
       refine WAF.add (i := 6) (d := 125) rfl (QF.mk [] [] rfl rfl kr_ rfl (QAt.y Wt.none (Yd.move rfl))) ?_
       refine WAF.add (i := 7) (d := 126) rfl (QF.mk [6, 5] [(125, _), (124, _)] rfl rfl kr_ rfl (QAt.y Wt.none (Yd.indexAddr (e := 71) (s := 3) kr_ kr_ rfl rfl (by omega) (by omega)))) ?_
       refine WAF.add (i := 8) (d := 127) rfl (QF.mk [7] [(126, _)] rfl rfl kr_ rfl (QAt.y Wt.none (Yd.fieldAddr (k := 1) kr_ rfl))) ?_
       refine WAF.add (i := 9) (d := 128) rfl (QF.mk [8] [(127, _)] rfl rfl kr_ rfl (QAt.rd Wt.none (Rd.load1 (v := .int .i64 T1[k].money) (b := fb) (o := ff + (k : Int).toNat * 3 + 1) (cs := fs) kr_ rfl (Gr.get gr_ hfm) (cell_at2 (L := T1) cellsU_len hfs (by omega) (by omega))))) ?_
       refine WAF.add (i := 10) (d := 129) rfl (QF.mk [9, 4] [(128, _), (123, _)] rfl rfl kr_ rfl (QAt.y Wt.none (Yd.neq rfl rfl))) ?_
       refine WAF.ren (v := .bool false) (congrArg Value.bool (decide_eq_false (by omega))) ?_
       refine WAF.done (pd := [(10, 129), (9, 128), (8, 127), (7, 126), (6, 125), (5, 124), (4, 123), (3, 122), (2, 121), (1, 120), (0, 119)]) rfl kr_ kr_ (all_c rfl (all_c rfl (all_c rfl (all_c rfl (all_c rfl (all_c rfl (all_c rfl (all_c rfl (all_c rfl (all_c rfl (all_c rfl (all_n)))))))))))) (all_c (QF.ren (congrArg Value.bool (decide_eq_false (by omega))) (QF.mk [9, 4] [(128, _), (123, _)] rfl rfl kr_ rfl (QAt.y Wt.none (Yd.neq rfl rfl)))) (all_c (QF.mk [8] [(127, _)] rfl rfl kr_ rfl (QAt.rd Wt.none (Rd.load1 (v := .int .i64 T1[k].money) (b := fb) (o := ff + (k : Int).toNat * 3 + 1) (cs := fs) kr_ rfl (Gr.get gr_ hfm) (cell_at2 (L := T1) cellsU_len hfs (by omega) (by omega))))) (all_c (QF.mk [7] [(126, _)] rfl rfl kr_ rfl (QAt.y Wt.none (Yd.fieldAddr (k := 1) kr_ rfl))) (all_c (QF.mk [6, 5] [(125, _), (124, _)] rfl rfl kr_ rfl (QAt.y Wt.none (Yd.indexAddr (e := 71) (s := 3) kr_ kr_ rfl rfl (by omega) (by omega)))) (all_c (QF.mk [] [] rfl rfl kr_ rfl (QAt.y Wt.none (Yd.move rfl))) (all_c (QF.mk [] [] rfl rfl kr_ rfl (QAt.y Wt.none (Yd.move rfl))) (all_c (QF.mk [3] [(122, _)] rfl rfl kr_ rfl (QAt.rd Wt.none (Rd.load1 (v := .int .i64 T2[k].money) (b := ub) (o := uf + (k : Int).toNat * 3 + 1) (cs := us) kr_ rfl (Gr.get gr_ hum) (cell_at2 (L := T2) cellsU_len hus (by omega) (by omega))))) (all_c (QF.mk [2] [(121, _)] rfl rfl kr_ rfl (QAt.y Wt.none (Yd.fieldAddr (k := 1) kr_ rfl))) (all_c (QF.mk [1, 0] [(120, _), (119, _)] rfl rfl kr_ rfl (QAt.y Wt.none (Yd.indexAddr (e := 71) (s := 3) kr_ kr_ rfl rfl (by omega) (by omega)))) (all_c (QF.mk [] [] rfl rfl kr_ rfl (QAt.y Wt.none (Yd.move rfl))) (all_c (QF.mk [] [] rfl rfl kr_ rfl (QAt.y Wt.none (Yd.move rfl))) (all_n)))))))))))) ?_
       change DN _ _ _ _ _ _ ([(129, _), (128, _), (127, _), (126, _), (125, _), (124, _), (123, _), (122, _), (121, _), (120, _), (119, _)] ++ _) _
       refine DN.then_normal ?_
       refine WC.no rfl ?_
       refine WC.skip ?_
       refine DN.then_normal ?_
       refine WC.region ?_
       iterate 3 refine m_ rfl rfl ?_
       refine WL.y rfl (Yd.indexAddr (e := 71) (s := 3) kr_ kr_ rfl rfl (by omega) (by omega)) ?_
       refine f_ 2 kr_ rfl rfl ?_
       refine WL.h rfl (Hd.load1 (v := .int .i64 T2[k].held) (b := ub) (o := uf + (k : Int).toNat * 3 + 2) (cs := us) kr_ rfl (Gr.get gr_ hum) (cell_at2 (L := T2) cellsU_len hus (by omega) (by omega)) ⟨_, rfl, ?_⟩)
       refine WL.y rfl (Yd.add rfl rfl (by omega) (by omega)) ?_
       refine WL.renamed (t := 136) (v := .int .i64 0) rfl (congrArg (Value.int .i64) (by omega)) ?_
       refine a_ rfl rfl ?_
       refine WL.nil ?_
       refine DN.block_normal ?_
       refine DN.then_normal ?_
       refine WC.region ?_
       refine m_ rfl rfl ?_
       refine WL.y rfl (Yd.add rfl rfl (by omega) (by omega)) ?_
       refine a_ rfl rfl ?_
       refine WL.nil ?_
       exact DN.againS (k + 1) (show (k + 1) ≤ T2.length from by omega) (show T2.length - (k + 1) < T2.length - k by omega) (Sx.put rfl (Sx.put rfl (sx_))) sp_
      ·refine WC.exit ?_
       refine DN.then_exit ?_
       refine DN.then_exit ?_
       refine DN.block_exit ?_
       refine ts_ ?_
       refine WC.region ?_
       refine m_ rfl rfl ?_
       refine WL.c rfl (Ent.func Tryz.call25 rfl) (cgoods_tells p s C h (by omega)) (Sp.p sp_) ?_
       rintro q Hq ⟨S2, Cs2, hT2, ho2, rfl⟩
       have hl2 := hT2.perm.length_eq
       obtain ⟨so2, sc2, rfl, _⟩ := ho2.form
       refine m_ rfl rfl ?_
       refine WL.rf rfl (Ent.func Tryz.call27 rfl) (sameGoods_reads _ _ S2 S1 (Cs2 ++ Cs1) (ho2.rs.mono gr_) (ho1.rs.mono gr_) (by omega) (by omega)) sp_ ?_
       refine WL.renamed (t := 140) (v := .bool true) rfl (congrArg Value.bool (decide_eq_true (und_goods inv.st hU0 hT1 hT2))) ?_
       refine m_ rfl rfl ?_
       refine gy_ 141 rfl rfl rfl (Yd.move rfl) ?_
       refine gy_ 141 rfl rfl rfl (Yd.len (e := 71) kr_ rfl) ?_
       refine gy_ 141 rfl rfl rfl (Yd.move rfl) ?_
       refine gy_ 141 rfl rfl rfl (Yd.len (e := 71) kr_ rfl) ?_
       refine gy_ 141 rfl rfl rfl (Yd.eql rfl rfl) ?_
       refine WL.renamed (t := 146) (v := .bool true) rfl (congrArg Value.bool (decide_eq_true (by omega))) ?_
       refine WL.y rfl (Yd.pickT rfl rfl) ?_
       refine m_ rfl rfl ?_
       refine gy_ 148 rfl rfl rfl (Yd.move rfl) ?_
       refine gy_ 148 rfl rfl rfl (Yd.eql rfl rfl) ?_
       refine WL.renamed (t := 150) (v := .bool true) rfl (congrArg Value.bool (by decide)) ?_
       refine WL.y rfl (Yd.pickT rfl rfl) ?_
       refine m_ rfl rfl ?_
       refine gy_ 152 rfl rfl rfl (Yd.move rfl) ?_
       refine WL.grf (dj := 152) rfl rfl rfl (Ent.func Tryz.call30 rfl) (croom_reads p s C h 0) sp_ ?_
       refine gy_ 152 rfl rfl rfl (Yd.move rfl) ?_
       refine gy_ 152 rfl rfl rfl (Yd.eql rfl rfl) ?_
       refine WL.renamed (t := 156) (v := .bool true) rfl (congrArg Value.bool (decide_eq_true (und_room inv.dk hU0 0 (by decide)))) ?_
       refine WL.y rfl (Yd.pickT rfl rfl) ?_
       refine m_ rfl rfl ?_
       refine gy_ 158 rfl rfl rfl (Yd.move rfl) ?_
       refine WL.grf (dj := 158) rfl rfl rfl (Ent.func Tryz.call30 rfl) (croom_reads p s C h 1) sp_ ?_
       refine gy_ 158 rfl rfl rfl (Yd.move rfl) ?_
       refine gy_ 158 rfl rfl rfl (Yd.eql rfl rfl) ?_
       refine WL.renamed (t := 162) (v := .bool true) rfl (congrArg Value.bool (decide_eq_true (und_room inv.dk hU0 1 (by decide)))) ?_
       refine WL.y rfl (Yd.pickT rfl rfl) ?_
       refine m_ rfl rfl ?_
       refine WL.gr (dj := 164) rfl rfl rfl (Ent.func Tryz.call9 rfl) (known12 _) ?_
       refine WL.y rfl (Yd.pickT rfl rfl) ?_
       refine a_ rfl rfl ?_
       refine nt_ ?_
       refine WC.ret ?_
       refine DN.fit (C := H) sp_ ?_
       refine DN.ret1 Tryz.results6 rfl ?_
       exact ⟨rfl, rfl⟩
     ·iterate 4 refine gn_ 111 rfl rfl rfl rfl ?_
      refine WL.y rfl (Yd.pickF rfl rfl) ?_
      refine nt_ ?_
      refine WC.no rfl ?_
      refine WC.exit ?_
      refine DN.then_exit ?_
      refine DN.then_exit ?_
      refine DN.block_exit ?_
      refine ts_ ?_
      refine WC.region ?_
      refine m_ rfl rfl ?_
      refine WL.c rfl (Ent.func Tryz.call25 rfl) (cgoods_tells p s C h (by omega)) (Sp.p sp_) ?_
      rintro q Hq ⟨S2, Cs2, hT2, ho2, rfl⟩
      have hl2 := hT2.perm.length_eq
      obtain ⟨so2, sc2, rfl, _⟩ := ho2.form
      refine m_ rfl rfl ?_
      refine WL.rf rfl (Ent.func Tryz.call27 rfl) (sameGoods_reads _ _ S2 S1 (Cs2 ++ Cs1) (ho2.rs.mono gr_) (ho1.rs.mono gr_) (by omega) (by omega)) sp_ ?_
      refine WL.renamed (t := 140) (v := .bool true) rfl (congrArg Value.bool (decide_eq_true (und_goods inv.st hU0 hT1 hT2))) ?_
      refine m_ rfl rfl ?_
      refine gy_ 141 rfl rfl rfl (Yd.move rfl) ?_
      refine gy_ 141 rfl rfl rfl (Yd.len (e := 71) kr_ rfl) ?_
      refine gy_ 141 rfl rfl rfl (Yd.move rfl) ?_
      refine gy_ 141 rfl rfl rfl (Yd.len (e := 71) kr_ rfl) ?_
      refine gy_ 141 rfl rfl rfl (Yd.eql rfl rfl) ?_
      refine WL.renamed (t := 146) (v := .bool true) rfl (congrArg Value.bool (decide_eq_true (by omega))) ?_
      refine WL.y rfl (Yd.pickT rfl rfl) ?_
      refine m_ rfl rfl ?_
      refine gy_ 148 rfl rfl rfl (Yd.move rfl) ?_
      refine gy_ 148 rfl rfl rfl (Yd.eql rfl rfl) ?_
      refine WL.renamed (t := 150) (v := .bool true) rfl (congrArg Value.bool (by decide)) ?_
      refine WL.y rfl (Yd.pickT rfl rfl) ?_
      refine m_ rfl rfl ?_
      refine gy_ 152 rfl rfl rfl (Yd.move rfl) ?_
      refine WL.grf (dj := 152) rfl rfl rfl (Ent.func Tryz.call30 rfl) (croom_reads p s C h 0) sp_ ?_
      refine gy_ 152 rfl rfl rfl (Yd.move rfl) ?_
      refine gy_ 152 rfl rfl rfl (Yd.eql rfl rfl) ?_
      refine WL.renamed (t := 156) (v := .bool true) rfl (congrArg Value.bool (decide_eq_true (und_room inv.dk hU0 0 (by decide)))) ?_
      refine WL.y rfl (Yd.pickT rfl rfl) ?_
      refine m_ rfl rfl ?_
      refine gy_ 158 rfl rfl rfl (Yd.move rfl) ?_
      refine WL.grf (dj := 158) rfl rfl rfl (Ent.func Tryz.call30 rfl) (croom_reads p s C h 1) sp_ ?_
      refine gy_ 158 rfl rfl rfl (Yd.move rfl) ?_
      refine gy_ 158 rfl rfl rfl (Yd.eql rfl rfl) ?_
      refine WL.renamed (t := 162) (v := .bool true) rfl (congrArg Value.bool (decide_eq_true (und_room inv.dk hU0 1 (by decide)))) ?_
      refine WL.y rfl (Yd.pickT rfl rfl) ?_
      refine m_ rfl rfl ?_
      refine WL.gr (dj := 164) rfl rfl rfl (Ent.func Tryz.call9 rfl) (known12 _) ?_
      refine WL.y rfl (Yd.pickT rfl rfl) ?_
      refine a_ rfl rfl ?_
      refine nt_ ?_
      refine WC.ret ?_
      refine DN.fit (C := H) sp_ ?_
      refine DN.ret1 Tryz.results6 rfl ?_
      exact ⟨rfl, rfl⟩
  ·refine gn_ 45 rfl rfl rfl rfl ?_
   refine gn_ 45 rfl rfl rfl rfl ?_
   refine WL.y rfl (Yd.pickF rfl rfl) ?_
   refine nt_ ?_
   refine WC.no rfl ?_
   refine WC.exit ?_
   refine DN.then_exit ?_
   refine DN.then_exit ?_
   refine DN.block_exit ?_
   refine ts_ ?_
   refine sr_ ?_
   refine m_ rfl rfl ?_
   refine WL.y rfl (Yd.len (e := 52) kr_ rfl) ?_
   refine WL.y rfl (Yd.sub rfl rfl (by omega) (by omega)) ?_
   refine a_ rfl rfl ?_
   refine nt_ ?_
   refine WC.block ?_
   refine WC.loopS (fun z : Nat × Cw × List Ck => z.1 ≤ ds.length ∧ CwAt 189 198 203 3 5 118 111 22 116 p z.2.1 z.2.2 ∧ CInv smG smU [3, 5] z.2.1 ∧ Bwd z.2.1 (ds.take z.1) (60 + (ds.length - z.1))) (fun z : Nat × Cw × List Ck => [(14, .int .i64 ((z.1 : Int) - 1))]) (fun z : Nat × Cw × List Ck => CN ++ (DD ++ (z.2.2 ++ (Cs1 ++ (Ct1 ++ H))))) (fun z : Nat × Cw × List Ck => z.1) (⟨ds.length, s, C⟩) (show ds.length ≤ ds.length ∧ CwAt 189 198 203 3 5 118 111 22 116 p s C ∧ CInv smG smU [3, 5] s ∧ Bwd s (ds.take ds.length) (60 + (ds.length - ds.length)) from ⟨Nat.le_refl _, h, inv, by rw [List.take_length]; exact (hF.turn inv.ck).more9 (by omega)⟩) (Sx.put rfl (sx_)) sp_ ?_
   rintro ⟨j, s, C⟩ hI
   replace hI : j ≤ ds.length ∧ CwAt 189 198 203 3 5 118 111 22 116 p s C ∧ CInv smG smU [3, 5] s ∧ Bwd s (ds.take j) (60 + (ds.length - j)) := hI
   obtain ⟨hj, h, inv, hB⟩ := hI
   change WC _ _ _ _ _ _ ([(14, .int .i64 ((j : Int) - 1))] ++ _) (CN ++ (DD ++ (C ++ (Cs1 ++ (Ct1 ++ H)))))
   refine WC.seq ?_
   refine sr_ ?_
   refine m_ rfl rfl ?_
   refine WL.y rfl (Yd.geq rfl rfl) ?_
   refine nt_ ?_
   refine WC.ite rfl (fun h90 => ?_) (fun h90 => ?_)
   ·obtain ⟨jj, hjj⟩ : ∃ q, j = q + 1 := ⟨j - 1, by omega⟩
    have hjl : jj < ds.length := by omega
    rw [hjj] at hB
    obtain ⟨hmK, hmU⟩ := inv_many inv
    rw [List.take_succ_eq_append_getElem hjl] at hB
    obtain ⟨vd9, hcl, hdk, hdd⟩ := hN.at jj hjl
    obtain ⟨do_, dc, rfl, _⟩ := hdd.form
    refine WC.skip ?_
    refine ts_ ?_
    refine WC.block ?_
    refine sr_ ?_
    refine m_ rfl rfl ?_
    refine m_ rfl rfl ?_
    refine WL.renamed (t := 94) (v := .int .i64 (jj : Int)) rfl (congrArg (Value.int .i64) (by omega)) ?_
    refine WL.elemA (e := 52) (s := 11) kr_ kr_ kr_ rfl rfl (rfl) (hO.rs.mono gr_) (hcl) (by rfl) (by omega) (hjl) rfl rfl ?_
    intro p95
    refine WL.h rfl (Hd.alloc (zs := [.int .i64 0, .int .u32 0, .int .u32 0, .int .u64 0, .int .u64 0, .int .u32 0, .int .i64 0, .bool false, .int .i64 0, .slice none 0 0, .slice none 0 0]) kr_ fun b15 => ⟨_, rfl, ?_⟩)
    refine WL.s (Hd.storeAll (n := 11) kr_ rfl rfl (by rfl) one_ fr_ (by rfl) ⟨rfl, ?_⟩)
    refine ntsr_ ?_
    refine f_ 7 kr_ rfl rfl ?_
    refine WL.s (Hd.store1s (cs' := ntc { ds[jj] with undo := true } (.slice none 0 0) (.slice do_ ds[jj].data.length dc)) kr_ rfl rfl (by rfl) fr_ (by rfl) (by rfl) ⟨rfl, ?_⟩)
    refine ntsr_ ?_
    refine f_ 1 kr_ rfl rfl ?_
    refine WL.s (Hd.store1s (cs' := ntc (backN ds[jj]) (.slice none 0 0) (.slice do_ ds[jj].data.length dc)) kr_ rfl rfl (by rfl) fr_ (by rfl) (by rfl) ⟨rfl, ?_⟩)
    refine ntsr_ ?_
    refine m_ rfl rfl ?_
    refine WL.h rfl (Hd.loadAll (n := 11) kr_ rfl mem_ (by rfl) ⟨_, rfl, ?_⟩)
    refine WL.c rfl (Ent.func Tryz.call22 rfl) (serve_tells p s C h inv (backN ds[jj]) _ _ (DD ++ H) (by show Bs _ ds[jj].key _; rw [hdk]; exact .inl ⟨_, _, rfl, rfl, rfl⟩) hdd) (Sp.p sp_) ?_
    rintro q2 Hq2 ⟨C2, w2, D2, rfl, h2, hD2, rfl⟩
    have inv2 := serve_inv inv (backN ds[jj])
    have hk2 := serve_key s (backN ds[jj])
    have hkb := hB.serve (n := ds[jj]) inv.ck inv.pu.keys (by omega)
    obtain ⟨s2, hs2⟩ : ∃ t, t = serveS s (backN ds[jj]) := ⟨_, rfl⟩
    obtain ⟨a2, ha2⟩ : ∃ t, t = serveN s (backN ds[jj]) := ⟨_, rfl⟩
    rw [← hs2] at h2 inv2 hkb
    rw [← ha2] at hD2 hk2 hkb ⊢
    obtain ⟨wo2, wc2, rfl, _⟩ := hD2.form
    obtain ⟨hmK2, hmU2⟩ := inv_many inv2
    have hme2 := inv2.ef
    have hmk2 := inv2.ck.1
    refine WL.h rfl (Hd.alloc (zs := [.int .i64 0, .int .u32 0, .int .u32 0, .int .u64 0, .int .u64 0, .int .u32 0, .int .i64 0, .bool false, .int .i64 0, .slice none 0 0, .slice none 0 0]) kr_ fun b16 => ⟨_, rfl, ?_⟩)
    refine WL.s (Hd.storeAll (n := 11) kr_ rfl rfl (by rfl) one_ fr_ (by rfl) ⟨rfl, ?_⟩)
    refine ntsr_ ?_
    refine f_ 0 kr_ rfl rfl ?_
    refine d_ kr_ rfl mem_ (by rfl) rfl ?_
    refine WL.y rfl (Yd.neq rfl rfl) ?_
    refine WL.renamed (t := 104) (v := .bool false) rfl (congrArg Value.bool (by rw [hkb.1]; decide)) ?_
    refine nt_ ?_
    refine WC.no rfl ?_
    refine WC.skip ?_
    refine DN.block_normal ?_
    refine DN.then_normal ?_
    refine WC.region ?_
    refine m_ rfl rfl ?_
    refine WL.y rfl (Yd.sub rfl rfl (by omega) (by omega)) ?_
    refine WL.renamed (t := 92) (v := .int .i64 ((jj : Int) - 1)) rfl (congrArg (Value.int .i64) (by omega)) ?_
    refine a_ rfl rfl ?_
    refine WL.nil ?_
    exact DN.againS (⟨jj, s2, C2⟩) (show jj ≤ ds.length ∧ CwAt 189 198 203 3 5 118 111 22 116 p s2 C2 ∧ CInv smG smU [3, 5] s2 ∧ Bwd s2 (ds.take jj) (60 + (ds.length - jj)) from ⟨by omega, h2, inv2, hkb.2.more9 (by omega)⟩) (show jj < j by omega) (Sx.put rfl (sx_)) sp_
   ·obtain rfl : j = 0 := by omega
    obtain ⟨hmK, hmU⟩ := inv_many inv
    have hU0 := hB.und
    rw [List.take_zero] at hU0
    have hSum := hU0.end.2.2
    refine WC.exit ?_
    refine DN.then_exit ?_
    refine DN.then_exit ?_
    refine DN.block_exit ?_
    refine ts_ ?_
    refine WC.region ?_
    refine a_ rfl rfl ?_
    refine ntsr_ ?_
    refine m_ rfl rfl ?_
    refine WL.c rfl (Ent.func Tryz.call26 rfl) (caccs_tells p s C h (by omega)) (Sp.p sp_) ?_
    rintro q Hq ⟨T2, Ct2, hU2, hq2, rfl⟩
    have hlU2 := hU2.perm.length_eq
    obtain ⟨to2, tc2, rfl, _⟩ := hq2.form
    obtain ⟨hul, huat⟩ := accs_at inv.pu hU1 hU2
    refine a_ rfl rfl ?_
    refine nt_ ?_
    refine WC.seq ?_
    refine sr_ ?_
    refine a_ rfl rfl ?_
    refine nt_ ?_
    refine WC.block ?_
    refine WC.loopS (fun z : Nat => z ≤ T2.length) (fun z : Nat => [(17, .int .i64 0), (19, .int .i64 (z : Int))]) (fun z : Nat => Ct2 ++ (CN ++ (DD ++ (C ++ (Cs1 ++ (Ct1 ++ H)))))) (fun z : Nat => T2.length - z) (0) (show 0 ≤ T2.length from Nat.zero_le _) (Sx.put rfl (Sx.put rfl (sx_))) sp_ ?_
    rintro k hI
    replace hI : k ≤ T2.length := hI
    obtain hk := hI
    change WC _ _ _ _ _ _ ([(17, .int .i64 0), (19, .int .i64 (k : Int))] ++ _) (Ct2 ++ (CN ++ (DD ++ (C ++ (Cs1 ++ (Ct1 ++ H))))))
    refine WC.seq ?_
    refine sr_ ?_
    refine m_ rfl rfl ?_
    refine m_ rfl rfl ?_
    refine WL.y rfl (Yd.len (e := 71) kr_ rfl) ?_
    refine WL.y rfl (Yd.lss rfl rfl) ?_
    refine m_ rfl rfl ?_
    refine WL.partP (t := 111) rfl (fun hg111 => ?_) (fun hg111 => ?_)
    ·refine gy_ 111 rfl rfl rfl (Yd.move rfl) ?_
     refine gy_ 111 rfl rfl rfl (Yd.move rfl) ?_
     refine gy_ 111 rfl rfl rfl (Yd.len (e := 71) kr_ rfl) ?_
     refine gy_ 111 rfl rfl rfl (Yd.lss rfl rfl) ?_
     refine WL.y rfl (Yd.pickT rfl rfl) ?_
     refine nt_ ?_
     refine WC.ite rfl (fun h116 => ?_) (fun h116 => ?_)
     ·have hk2 : k < T2.length := by omega
      have hk1 : k < T1.length := by omega
      obtain ⟨ub, uf, us, uT, ufr, uex, rfl, _, hum, hus⟩ := hq2.rs.lies (by omega)
      obtain ⟨fb, ff, fs, fT, ffr, fex, rfl, _, hfm, hfs⟩ := hq1.rs.lies (by omega)
      obtain ⟨e1, e2, e3, e4, e5, e6⟩ := huat k hk2 hk1
      have e7 := hSum T2[k].name
      refine WC.skip ?_
      refine ts_ ?_
      refine WC.block ?_
      refine WC.seq ?_
      refine WC.seq ?_
      refine WC.draw 11 kr_ rfl ?_
      refine WA.float (N := 11) rfl ?_
      refine WAF.add (i := 0) (d := 119) rfl (QF.mk [] [] rfl rfl kr_ rfl (QAt.y Wt.none (Yd.move rfl))) ?_
      refine WAF.add (i := 1) (d := 120) rfl (QF.mk [] [] rfl rfl kr_ rfl (QAt.y Wt.none (Yd.move rfl))) ?_
      refine WAF.add (i := 2) (d := 121) rfl (QF.mk [1, 0] [(120, _), (119, _)] rfl rfl kr_ rfl (QAt.y Wt.none (Yd.indexAddr (e := 71) (s := 3) kr_ kr_ rfl rfl (by omega) (by omega)))) ?_
      refine WAF.add (i := 3) (d := 122) rfl (QF.mk [2] [(121, _)] rfl rfl kr_ rfl (QAt.y Wt.none (Yd.fieldAddr (k := 1) kr_ rfl))) ?_
      refine WAF.add (i := 4) (d := 123) rfl (QF.mk [3] [(122, _)] rfl rfl kr_ rfl (QAt.rd Wt.none (Rd.load1 (v := .int .i64 T2[k].money) (b := ub) (o := uf + (k : Int).toNat * 3 + 1) (cs := us) kr_ rfl (Gr.get gr_ hum) (cell_at2 (L := T2) cellsU_len hus (by omega) (by omega))))) ?_
      refine WAF.add (i := 5) (d := 124) rfl (QF.mk [] [] rfl rfl kr_ rfl (QAt.y Wt.none (Yd.move rfl))) ?_
      refine WAF.add (i := 6) (d := 125) rfl (QF.mk [] [] rfl rfl kr_ rfl (QAt.y Wt.none (Yd.move rfl))) ?_
      refine WAF.add (i := 7) (d := 126) rfl (QF.mk [6, 5] [(125, _), (124, _)] rfl rfl kr_ rfl (QAt.y Wt.none (Yd.indexAddr (e := 71) (s := 3) kr_ kr_ rfl rfl (by omega) (by omega)))) ?_
      refine WAF.add (i := 8) (d := 127) rfl (QF.mk [7] [(126, _)] rfl rfl kr_ rfl (QAt.y Wt.none (Yd.fieldAddr (k := 1) kr_ rfl))) ?_
      refine WAF.add (i := 9) (d := 128) rfl (QF.mk [8] [(127, _)] rfl rfl kr_ rfl (QAt.rd Wt.none (Rd.load1 (v := .int .i64 T1[k].money) (b := fb) (o := ff + (k : Int).toNat * 3 + 1) (cs := fs) kr_ rfl (Gr.get gr_ hfm) (cell_at2 (L := T1) cellsU_len hfs (by omega) (by omega))))) ?_
      refine WAF.add (i := 10) (d := 129) rfl (QF.mk [9, 4] [(128, _), (123, _)] rfl rfl kr_ rfl (QAt.y Wt.none (Yd.neq rfl rfl))) ?_
      refine WAF.ren (v := .bool false) (congrArg Value.bool (decide_eq_false (by omega))) ?_
      refine WAF.done (pd := [(10, 129), (9, 128), (8, 127), (7, 126), (6, 125), (5, 124), (4, 123), (3, 122), (2, 121), (1, 120), (0, 119)]) rfl kr_ kr_ (all_c rfl (all_c rfl (all_c rfl (all_c rfl (all_c rfl (all_c rfl (all_c rfl (all_c rfl (all_c rfl (all_c rfl (all_c rfl (all_n)))))))))))) (all_c (QF.ren (congrArg Value.bool (decide_eq_false (by omega))) (QF.mk [9, 4] [(128, _), (123, _)] rfl rfl kr_ rfl (QAt.y Wt.none (Yd.neq rfl rfl)))) (all_c (QF.mk [8] [(127, _)] rfl rfl kr_ rfl (QAt.rd Wt.none (Rd.load1 (v := .int .i64 T1[k].money) (b := fb) (o := ff + (k : Int).toNat * 3 + 1) (cs := fs) kr_ rfl (Gr.get gr_ hfm) (cell_at2 (L := T1) cellsU_len hfs (by omega) (by omega))))) (all_c (QF.mk [7] [(126, _)] rfl rfl kr_ rfl (QAt.y Wt.none (Yd.fieldAddr (k := 1) kr_ rfl))) (all_c (QF.mk [6, 5] [(125, _), (124, _)] rfl rfl kr_ rfl (QAt.y Wt.none (Yd.indexAddr (e := 71) (s := 3) kr_ kr_ rfl rfl (by omega) (by omega)))) (all_c (QF.mk [] [] rfl rfl kr_ rfl (QAt.y Wt.none (Yd.move rfl))) (all_c (QF.mk [] [] rfl rfl kr_ rfl (QAt.y Wt.none (Yd.move rfl))) (all_c (QF.mk [3] [(122, _)] rfl rfl kr_ rfl (QAt.rd Wt.none (Rd.load1 (v := .int .i64 T2[k].money) (b := ub) (o := uf + (k : Int).toNat * 3 + 1) (cs := us) kr_ rfl (Gr.get gr_ hum) (cell_at2 (L := T2) cellsU_len hus (by omega) (by omega))))) (all_c (QF.mk [2] [(121, _)] rfl rfl kr_ rfl (QAt.y Wt.none (Yd.fieldAddr (k := 1) kr_ rfl))) (all_c (QF.mk [1, 0] [(120, _), (119, _)] rfl rfl kr_ rfl (QAt.y Wt.none (Yd.indexAddr (e := 71) (s := 3) kr_ kr_ rfl rfl (by omega) (by omega)))) (all_c (QF.mk [] [] rfl rfl kr_ rfl (QAt.y Wt.none (Yd.move rfl))) (all_c (QF.mk [] [] rfl rfl kr_ rfl (QAt.y Wt.none (Yd.move rfl))) (all_n)))))))))))) ?_
      change DN _ _ _ _ _ _ ([(129, _), (128, _), (127, _), (126, _), (125, _), (124, _), (123, _), (122, _), (121, _), (120, _), (119, _)] ++ _) _
      refine DN.then_normal ?_
      refine WC.no rfl ?_
      refine WC.skip ?_
      refine DN.then_normal ?_
      refine WC.region ?_
      iterate 3 refine m_ rfl rfl ?_
      refine WL.y rfl (Yd.indexAddr (e := 71) (s := 3) kr_ kr_ rfl rfl (by omega) (by omega)) ?_
      refine f_ 2 kr_ rfl rfl ?_
      refine WL.h rfl (Hd.load1 (v := .int .i64 T2[k].held) (b := ub) (o := uf + (k : Int).toNat * 3 + 2) (cs := us) kr_ rfl (Gr.get gr_ hum) (cell_at2 (L := T2) cellsU_len hus (by omega) (by omega)) ⟨_, rfl, ?_⟩)
      refine WL.y rfl (Yd.add rfl rfl (by omega) (by omega)) ?_
      refine WL.renamed (t := 136) (v := .int .i64 0) rfl (congrArg (Value.int .i64) (by omega)) ?_
      refine a_ rfl rfl ?_
      refine WL.nil ?_
      refine DN.block_normal ?_
      refine DN.then_normal ?_
      refine WC.region ?_
      refine m_ rfl rfl ?_
      refine WL.y rfl (Yd.add rfl rfl (by omega) (by omega)) ?_
      refine a_ rfl rfl ?_
      refine WL.nil ?_
      exact DN.againS (k + 1) (show (k + 1) ≤ T2.length from by omega) (show T2.length - (k + 1) < T2.length - k by omega) (Sx.put rfl (Sx.put rfl (sx_))) sp_
     ·refine WC.exit ?_
      refine DN.then_exit ?_
      refine DN.then_exit ?_
      refine DN.block_exit ?_
      refine ts_ ?_
      refine WC.region ?_
      refine m_ rfl rfl ?_
      refine WL.c rfl (Ent.func Tryz.call25 rfl) (cgoods_tells p s C h (by omega)) (Sp.p sp_) ?_
      rintro q Hq ⟨S2, Cs2, hT2, ho2, rfl⟩
      have hl2 := hT2.perm.length_eq
      obtain ⟨so2, sc2, rfl, _⟩ := ho2.form
      refine m_ rfl rfl ?_
      refine WL.rf rfl (Ent.func Tryz.call27 rfl) (sameGoods_reads _ _ S2 S1 (Cs2 ++ Cs1) (ho2.rs.mono gr_) (ho1.rs.mono gr_) (by omega) (by omega)) sp_ ?_
      refine WL.renamed (t := 140) (v := .bool true) rfl (congrArg Value.bool (decide_eq_true (und_goods inv.st hU0 hT1 hT2))) ?_
      refine m_ rfl rfl ?_
      refine gy_ 141 rfl rfl rfl (Yd.move rfl) ?_
      refine gy_ 141 rfl rfl rfl (Yd.len (e := 71) kr_ rfl) ?_
      refine gy_ 141 rfl rfl rfl (Yd.move rfl) ?_
      refine gy_ 141 rfl rfl rfl (Yd.len (e := 71) kr_ rfl) ?_
      refine gy_ 141 rfl rfl rfl (Yd.eql rfl rfl) ?_
      refine WL.renamed (t := 146) (v := .bool true) rfl (congrArg Value.bool (decide_eq_true (by omega))) ?_
      refine WL.y rfl (Yd.pickT rfl rfl) ?_
      refine m_ rfl rfl ?_
      refine gy_ 148 rfl rfl rfl (Yd.move rfl) ?_
      refine gy_ 148 rfl rfl rfl (Yd.eql rfl rfl) ?_
      refine WL.renamed (t := 150) (v := .bool true) rfl (congrArg Value.bool (by decide)) ?_
      refine WL.y rfl (Yd.pickT rfl rfl) ?_
      refine m_ rfl rfl ?_
      refine gy_ 152 rfl rfl rfl (Yd.move rfl) ?_
      refine WL.grf (dj := 152) rfl rfl rfl (Ent.func Tryz.call30 rfl) (croom_reads p s C h 0) sp_ ?_
      refine gy_ 152 rfl rfl rfl (Yd.move rfl) ?_
      refine gy_ 152 rfl rfl rfl (Yd.eql rfl rfl) ?_
      refine WL.renamed (t := 156) (v := .bool true) rfl (congrArg Value.bool (decide_eq_true (und_room inv.dk hU0 0 (by decide)))) ?_
      refine WL.y rfl (Yd.pickT rfl rfl) ?_
      refine m_ rfl rfl ?_
      refine gy_ 158 rfl rfl rfl (Yd.move rfl) ?_
      refine WL.grf (dj := 158) rfl rfl rfl (Ent.func Tryz.call30 rfl) (croom_reads p s C h 1) sp_ ?_
      refine gy_ 158 rfl rfl rfl (Yd.move rfl) ?_
      refine gy_ 158 rfl rfl rfl (Yd.eql rfl rfl) ?_
      refine WL.renamed (t := 162) (v := .bool true) rfl (congrArg Value.bool (decide_eq_true (und_room inv.dk hU0 1 (by decide)))) ?_
      refine WL.y rfl (Yd.pickT rfl rfl) ?_
      refine m_ rfl rfl ?_
      refine WL.gr (dj := 164) rfl rfl rfl (Ent.func Tryz.call9 rfl) (known12 _) ?_
      refine WL.y rfl (Yd.pickT rfl rfl) ?_
      refine a_ rfl rfl ?_
      refine nt_ ?_
      refine WC.ret ?_
      refine DN.fit (C := H) sp_ ?_
      refine DN.ret1 Tryz.results6 rfl ?_
      exact ⟨rfl, rfl⟩
    ·iterate 4 refine gn_ 111 rfl rfl rfl rfl ?_
     refine WL.y rfl (Yd.pickF rfl rfl) ?_
     refine nt_ ?_
     refine WC.no rfl ?_
     refine WC.exit ?_
     refine DN.then_exit ?_
     refine DN.then_exit ?_
     refine DN.block_exit ?_
     refine ts_ ?_
     refine WC.region ?_
     refine m_ rfl rfl ?_
     refine WL.c rfl (Ent.func Tryz.call25 rfl) (cgoods_tells p s C h (by omega)) (Sp.p sp_) ?_
     rintro q Hq ⟨S2, Cs2, hT2, ho2, rfl⟩
     have hl2 := hT2.perm.length_eq
     obtain ⟨so2, sc2, rfl, _⟩ := ho2.form
     refine m_ rfl rfl ?_
     refine WL.rf rfl (Ent.func Tryz.call27 rfl) (sameGoods_reads _ _ S2 S1 (Cs2 ++ Cs1) (ho2.rs.mono gr_) (ho1.rs.mono gr_) (by omega) (by omega)) sp_ ?_
     refine WL.renamed (t := 140) (v := .bool true) rfl (congrArg Value.bool (decide_eq_true (und_goods inv.st hU0 hT1 hT2))) ?_
     refine m_ rfl rfl ?_
     refine gy_ 141 rfl rfl rfl (Yd.move rfl) ?_
     refine gy_ 141 rfl rfl rfl (Yd.len (e := 71) kr_ rfl) ?_
     refine gy_ 141 rfl rfl rfl (Yd.move rfl) ?_
     refine gy_ 141 rfl rfl rfl (Yd.len (e := 71) kr_ rfl) ?_
     refine gy_ 141 rfl rfl rfl (Yd.eql rfl rfl) ?_
     refine WL.renamed (t := 146) (v := .bool true) rfl (congrArg Value.bool (decide_eq_true (by omega))) ?_
     refine WL.y rfl (Yd.pickT rfl rfl) ?_
     refine m_ rfl rfl ?_
     refine gy_ 148 rfl rfl rfl (Yd.move rfl) ?_
     refine gy_ 148 rfl rfl rfl (Yd.eql rfl rfl) ?_
     refine WL.renamed (t := 150) (v := .bool true) rfl (congrArg Value.bool (by decide)) ?_
     refine WL.y rfl (Yd.pickT rfl rfl) ?_
     refine m_ rfl rfl ?_
     refine gy_ 152 rfl rfl rfl (Yd.move rfl) ?_
     refine WL.grf (dj := 152) rfl rfl rfl (Ent.func Tryz.call30 rfl) (croom_reads p s C h 0) sp_ ?_
     refine gy_ 152 rfl rfl rfl (Yd.move rfl) ?_
     refine gy_ 152 rfl rfl rfl (Yd.eql rfl rfl) ?_
     refine WL.renamed (t := 156) (v := .bool true) rfl (congrArg Value.bool (decide_eq_true (und_room inv.dk hU0 0 (by decide)))) ?_
     refine WL.y rfl (Yd.pickT rfl rfl) ?_
     refine m_ rfl rfl ?_
     refine gy_ 158 rfl rfl rfl (Yd.move rfl) ?_
     refine WL.grf (dj := 158) rfl rfl rfl (Ent.func Tryz.call30 rfl) (croom_reads p s C h 1) sp_ ?_
     refine gy_ 158 rfl rfl rfl (Yd.move rfl) ?_
     refine gy_ 158 rfl rfl rfl (Yd.eql rfl rfl) ?_
     refine WL.renamed (t := 162) (v := .bool true) rfl (congrArg Value.bool (decide_eq_true (und_room inv.dk hU0 1 (by decide)))) ?_
     refine WL.y rfl (Yd.pickT rfl rfl) ?_
     refine m_ rfl rfl ?_
     refine WL.gr (dj := 164) rfl rfl rfl (Ent.func Tryz.call9 rfl) (known12 _) ?_
     refine WL.y rfl (Yd.pickT rfl rfl) ?_
     refine a_ rfl rfl ?_
     refine nt_ ?_
     refine WC.ret ?_
     refine DN.fit (C := H) sp_ ?_
     refine DN.ret1 Tryz.results6 rfl ?_
     exact ⟨rfl, rfl⟩
end Go.Proofs.YtkamlondepceiaaGreat
