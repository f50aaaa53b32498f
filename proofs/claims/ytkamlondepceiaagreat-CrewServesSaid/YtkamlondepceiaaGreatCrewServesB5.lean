/-
  Lemmas and walks that CrewServes stands on (part 5); no condition.
-/
import Derived.Orders
import Derived.Tactics
import Derived.Scope
import Derived.Below
import Derived.WalkKit
import Derived.KernelRfl
import Derived.Laws.RangeString
import Derived.Laws.StructEq
import Derived.Lib.AppendZerosOnto
import Derived.Laws.CopyRow
import Derived.Lib.Overlaps
import Derived.Laws.IdiomStrings
import Derived.Deep.Quiet
import Derived.Lib.Bytealg
import Derived.Shelf.SlSortCmp.NoneTotal
import Derived.ProofKit
import Derived.OpenShut
import Derived.ShutString
import Derived.ChangeOld
import Derived.Test.YtkamlondepceiaaGreatRows
import Derived.Ground.SlsfProg
import Derived.Shelf.Small.Strs
import Derived.Test.YtkamlondepceiaaGreatCrewServesB4

set_option linter.unusedVariables false
set_option linter.unusedSimpArgs false
set_option maxHeartbeats 4000000
namespace Go.Proofs.YtkamlondepceiaaGreat.St
open Go.SL
theorem rnew_tells (v : Value) (gs : List Gd) (H : List Ck) (hv : Rs v gs.length (gs.flatMap cellsG) H) (hl : gs.length ≤ 9223372036854775807) : Tells Tryz.prog 66 [v] H fun r H' => (GoodL gs ∧ ∃ p C F, r = .tuple #[.pointer (some ⟨p, 0, none⟩), .int .i64 0] ∧ RsAt 147 73 215 p F [] [] C ∧ ToldK Gd.name sLt gs F ∧ H' = C ++ H) ∨ (¬ GoodL gs ∧ r = .tuple #[.pointer none, .int .i64 2] ∧ H' = H) := by
 refine Tells.enter Tryz.func66 rfl Tryz.ntmps66 rfl ?_
 intro w0 R
 obtain ⟨vo, vc, rfl, hvc⟩ := hv.form
 refine sr_ (a_ rfl rfl (a_ rfl rfl (nt_ (WC.seq (sr_ (m_ rfl rfl (WL.y rfl (Yd.len (e := 73) kr_ rfl) ?_)))))))
 refine WL.y rfl (Yd.gtr rfl rfl) (nt_ (WC.ite rfl (fun h11 => ?_) (fun h11 => ?_)))
 refine sr_ (a_ rfl rfl (a_ rfl rfl (nt_ (WC.ret (DN.then_ret ?_)))))
 first | (have hlt2 : i < gs.length := hlt; refine DN.fit (C := H) sp_ ?_) | refine DN.fit (C := row b13 [.slice fo F.length fc, .slice none 0 0, .slice none 0 0] 147 :: (Cf ++ H)) sp_ ?_ | skip
 refine DN.ret2 Tryz.results66 rfl rfl ?_
 rotate_left
 refine WC.skip (ts_ (WC.region (WL.y rfl (Yd.buildL (pl := [(0, 1), (1, 1), (2, 1)]) (zs := [.slice none 0 0, .slice none 0 0, .slice none 0 0]) (parts := []) (vs := []) (cells := [.slice none 0 0, .slice none 0 0, .slice none 0 0]) kr_ kr_ rfl rfl) ?_)))
 refine WL.h rfl (Hd.boxA rfl fun b13 => ⟨_, rfl, ?_⟩)
 refine a_ rfl rfl (nt_ (WC.seq (sr_ (a_ rfl rfl (nt_ (WC.block (WC.loopS (fun z : Nat × List Gd × Value × List Ck => z.1 ≤ gs.length ∧ (∀ (j : Nat) (h : j < gs.length), j < z.1 → goodB gs[j]) ∧ ((gs.take z.1).map Gd.name).Nodup ∧ ToldK Gd.name sLt (gs.take z.1) z.2.1 ∧ Own z.2.2.1 z.2.1.length (z.2.1.flatMap cellsG) 73 2 z.2.2.2) (fun z : Nat × List Gd × Value × List Ck => [(5, .int .i64 (z.1 : Int))]) (fun z : Nat × List Gd × Value × List Ck => row b13 [z.2.2.1, .slice none 0 0, .slice none 0 0] 147 :: (z.2.2.2 ++ H)) (fun z : Nat × List Gd × Value × List Ck => gs.length - z.1) (⟨0, [], .slice none 0 0, []⟩) (show 0 ≤ gs.length ∧ (∀ (j : Nat) (h : j < gs.length), j < 0 → goodB gs[j]) ∧ ((gs.take 0).map Gd.name).Nodup ∧ ToldK Gd.name sLt (gs.take 0) [] ∧ Own (.slice none 0 0) [].length ([].flatMap cellsG) 73 2 [] from ⟨Nat.zero_le _, fun j h hj => by omega, by simp, ⟨by simp, List.Pairwise.nil⟩, Own.nil _ _⟩) (Sx.put rfl (sx_)) sp_ ?_)))))))
 rintro ⟨i, F, w, Cf⟩ hI
 replace hI : i ≤ gs.length ∧ (∀ (j : Nat) (h : j < gs.length), j < i → goodB gs[j]) ∧ ((gs.take i).map Gd.name).Nodup ∧ ToldK Gd.name sLt (gs.take i) F ∧ Own w F.length (F.flatMap cellsG) 73 2 Cf := hI
 obtain ⟨hi, hgood, hnd, hT, hF⟩ := hI
 change WC _ _ _ _ _ _ ([(5, .int .i64 (i : Int))] ++ _) (row b13 [w, .slice none 0 0, .slice none 0 0] 147 :: (Cf ++ H))
 obtain ⟨fo, fc, rfl, hfc⟩ := hF.form
 have hFl := hT.perm.length_eq
 rw [List.length_take] at hFl
 refine WC.seq (sr_ (m_ rfl rfl (m_ rfl rfl (WL.y rfl (Yd.len (e := 73) kr_ rfl) ?_))))
 refine WL.y rfl (Yd.lss rfl rfl) (nt_ (WC.ite rfl (fun h17 => ?_) (fun h17 => ?_)))
 have hlt : i < gs.length := by omega
 refine WC.skip (ts_ (WC.block (sr_ (m_ rfl rfl (m_ rfl rfl (WL.elemA (e := 73) (s := 2) kr_ kr_ kr_ rfl rfl (rfl) (hv.mono gr_) (flat_row cellsG 2 cellsG_len gs i hlt) (by rfl) (by omega) (hlt) rfl rfl ?_))))))
 intro p22
 refine WL.h rfl (Hd.alloc (zs := [.string ⟨#[]⟩, .int .i64 0]) kr_ fun b6 => ⟨_, rfl, ?_⟩)
 refine WL.s (Hd.storeAll (n := 2) kr_ rfl rfl (by rfl) one_ fr_ (by rfl) ⟨rfl, ?_⟩)
 refine nt_ (WC.seq (sr_ (f_ 0 kr_ rfl rfl ?_)))
 refine d_ kr_ rfl mem_ (by rfl) rfl ?_
 refine WL.y rfl (Yd.lenS Tryz.underlying9 rfl) (WL.y rfl (Yd.lss rfl rfl) (m_ rfl rfl (WL.partP (t := 28) rfl (fun hg28 => ?_) (fun hg28 => ?_))))
 iterate 4 refine gn_ 28 rfl rfl rfl rfl ?_
 refine WL.y rfl (Yd.pickT rfl rfl) (m_ rfl rfl ?_)
 iterate 3 refine gn_ 34 rfl rfl rfl rfl ?_
 refine WL.y rfl (Yd.pickT rfl rfl) (m_ rfl rfl ?_)
 iterate 3 refine gn_ 39 rfl rfl rfl rfl ?_
 refine WL.y rfl (Yd.pickT rfl rfl) (nt_ (WC.yes rfl (sr_ (a_ rfl rfl (a_ rfl rfl (nt_ (WC.ret (DN.then_ret (DN.block_ret (DN.then_ret (DN.then_ret (DN.block_ret (DN.then_ret ?_)))))))))))))
 first | (have hlt2 : i < gs.length := hlt; refine DN.fit (C := H) sp_ ?_) | refine DN.fit (C := row b13 [.slice fo F.length fc, .slice none 0 0, .slice none 0 0] 147 :: (Cf ++ H)) sp_ ?_ | skip
 refine DN.ret2 Tryz.results66 rfl rfl ?_
 rotate_left
 refine gy_ 28 rfl rfl rfl (Yd.fieldAddr (k := 0) kr_ rfl) ?_
 refine WL.gh (dj := 28) rfl rfl rfl (Hd.load1 kr_ rfl mem_ (by rfl) ⟨_, rfl, ?_⟩)
 refine gy_ 28 rfl rfl rfl (Yd.lenS Tryz.underlying9 rfl) (gy_ 28 rfl rfl rfl (Yd.gtr rfl rfl) (WL.y rfl (Yd.pickF rfl rfl) (m_ rfl rfl (WL.partP (t := 34) rfl (fun hg34 => ?_) (fun hg34 => ?_)))))
 iterate 3 refine gn_ 34 rfl rfl rfl rfl ?_
 refine WL.y rfl (Yd.pickT rfl rfl) (m_ rfl rfl ?_)
 iterate 3 refine gn_ 39 rfl rfl rfl rfl ?_
 refine WL.y rfl (Yd.pickT rfl rfl) (nt_ (WC.yes rfl (sr_ (a_ rfl rfl (a_ rfl rfl (nt_ (WC.ret (DN.then_ret (DN.block_ret (DN.then_ret (DN.then_ret (DN.block_ret (DN.then_ret ?_)))))))))))))
 first | (have hlt2 : i < gs.length := hlt; refine DN.fit (C := H) sp_ ?_) | refine DN.fit (C := row b13 [.slice fo F.length fc, .slice none 0 0, .slice none 0 0] 147 :: (Cf ++ H)) sp_ ?_ | skip
 refine DN.ret2 Tryz.results66 rfl rfl ?_
 rotate_left
 refine gy_ 34 rfl rfl rfl (Yd.fieldAddr (k := 1) kr_ rfl) ?_
 refine WL.gh (dj := 34) rfl rfl rfl (Hd.load1 kr_ rfl mem_ (by rfl) ⟨_, rfl, ?_⟩)
 refine gy_ 34 rfl rfl rfl (Yd.lss rfl rfl) (WL.y rfl (Yd.pickF rfl rfl) (m_ rfl rfl (WL.partP (t := 39) rfl (fun hg39 => ?_) (fun hg39 => ?_))))
 iterate 3 refine gn_ 39 rfl rfl rfl rfl ?_
 refine WL.y rfl (Yd.pickT rfl rfl) (nt_ (WC.yes rfl (sr_ (a_ rfl rfl (a_ rfl rfl (nt_ (WC.ret (DN.then_ret (DN.block_ret (DN.then_ret (DN.then_ret (DN.block_ret (DN.then_ret ?_)))))))))))))
 first | (have hlt2 : i < gs.length := hlt; refine DN.fit (C := H) sp_ ?_) | refine DN.fit (C := row b13 [.slice fo F.length fc, .slice none 0 0, .slice none 0 0] 147 :: (Cf ++ H)) sp_ ?_ | skip
 refine DN.ret2 Tryz.results66 rfl rfl ?_
 rotate_left
 refine gy_ 39 rfl rfl rfl (Yd.fieldAddr (k := 1) kr_ rfl) ?_
 refine WL.gh (dj := 39) rfl rfl rfl (Hd.load1 kr_ rfl mem_ (by rfl) ⟨_, rfl, ?_⟩)
 refine gy_ 39 rfl rfl rfl (Yd.gtr rfl rfl) (WL.y rfl (Yd.pickF rfl rfl) (nt_ (WC.ite rfl (fun h43 => ?_) (fun h43 => ?_))))
 refine sr_ (a_ rfl rfl (a_ rfl rfl (nt_ (WC.ret (DN.then_ret (DN.block_ret (DN.then_ret (DN.then_ret (DN.block_ret (DN.then_ret ?_))))))))))
 first | (have hlt2 : i < gs.length := hlt; refine DN.fit (C := H) sp_ ?_) | refine DN.fit (C := row b13 [.slice fo F.length fc, .slice none 0 0, .slice none 0 0] 147 :: (Cf ++ H)) sp_ ?_ | skip
 refine DN.ret2 Tryz.results66 rfl rfl ?_
 rotate_left
 have hgi : goodB gs[i] := ⟨fun e => hg28 (by rw [e]; decide), by omega, by omega, by omega⟩
 refine WC.skip (ts_ (WC.region (a_ rfl rfl (ntsr_ (a_ rfl rfl (nt_ (WC.seq (WC.block (WC.loopS (fun z : Nat × Value × List Ck => z.1 ≤ F.length ∧ (∀ (j : Nat) (hj : j < F.length), j < z.1 → sLt F[j].name gs[i].name = true) ∧ Own z.2.1 z.1 ((F.take z.1).flatMap cellsG) 73 2 z.2.2) (fun z : Nat × Value × List Ck => [(8, .int .i64 (z.1 : Int)), (7, z.2.1)]) (fun z : Nat × Value × List Ck => z.2.2 ++ (row b6 (cellsG gs[i]) 73 :: (row b13 [.slice fo F.length fc, .slice none 0 0, .slice none 0 0] 147 :: (Cf ++ H)))) (fun z : Nat × Value × List Ck => F.length - z.1) (⟨0, .slice none 0 0, []⟩) (show 0 ≤ F.length ∧ (∀ (j : Nat) (hj : j < F.length), j < 0 → sLt F[j].name gs[i].name = true) ∧ Own (.slice none 0 0) 0 ((F.take 0).flatMap cellsG) 73 2 [] from ⟨Nat.zero_le _, fun j hj h => by omega, by simpa using Own.nil 73 2⟩) (Sx.put rfl (Sx.put rfl (sx_))) sp_ ?_)))))))))
 rintro ⟨k, vm, Cm⟩ hI
 replace hI : k ≤ F.length ∧ (∀ (j : Nat) (hj : j < F.length), j < k → sLt F[j].name gs[i].name = true) ∧ Own vm k ((F.take k).flatMap cellsG) 73 2 Cm := hI
 obtain ⟨hk, hbelow, hm⟩ := hI
 change WC _ _ _ _ _ _ ([(8, .int .i64 (k : Int)), (7, vm)] ++ _) (Cm ++ (row b6 (cellsG gs[i]) 73 :: (row b13 [.slice fo F.length fc, .slice none 0 0, .slice none 0 0] 147 :: (Cf ++ H))))
 obtain ⟨mo, mc, rfl, hmc⟩ := hm.form
 refine WC.seq (WC.cutK (fun z : Bool => z = true ↔ ∃ h : k < F.length, sLt F[k].name gs[i].name = true) (fun z : Bool => [(63, .bool z)]) (fun z : Bool => Cm ++ (row b6 (cellsG gs[i]) 73 :: (row b13 [.slice fo F.length fc, .slice none 0 0, .slice none 0 0] 147 :: (Cf ++ H)))) ?_ ?_)
 refine WC.draw 20 kr_ rfl ?_
 refine WAG.start (N := 20) rfl (wy_ 0 [] rfl (Yd.move rfl) kr_ ?_)
 refine wy_ 1 [] rfl (Yd.move rfl) kr_ ?_
 refine wy_ 2 [1] rfl (Yd.notNil rfl) kr_ ?_
 refine wy_ 3 [2] rfl (Yd.fieldAddr (k := 0) kr_ rfl) kr_ ?_
 refine wq_ (wf_ (i := 4) [3] rfl (QAt.rd Wt.none (Rd.load1 kr_ rfl mem_ (by rfl))) kr_) kr_ ?_
 refine wy_ 5 [4] rfl (Yd.len (e := 73) kr_ rfl) kr_ ?_
 refine wy_ 6 [5, 0] rfl (Yd.lss rfl rfl) kr_ ?_
 refine wy_ 7 [6] rfl (Yd.move rfl) kr_ ?_
 refine WAG.partP (fun hg51 => ?_) (fun hg51 => ?_)
 refine wg_ 8 [7] 51 rfl rfl (Yd.move rfl) kr_ ?_
 refine wg_ 9 [8, 7] 51 rfl rfl (Yd.notNil rfl) kr_ ?_
 refine wg_ 10 [9, 7] 51 rfl rfl (Yd.fieldAddr (k := 0) kr_ rfl) kr_ ?_
 obtain ⟨tb, tf, ts, tT, tfr, tex, efo, _, htm, hts⟩ := hF.rs.lies (by omega)
 refine wq_ (wf_ (i := 11) [10, 7] rfl (QAt.rd (Wt.yes (dj := 51) rfl rfl) (Rd.load1 kr_ rfl mem_ (by rfl))) kr_) kr_ ?_
 refine wg_ 12 [7] 51 rfl rfl (Yd.move rfl) kr_ ?_
 refine wg_ 13 [12, 11, 7] 51 rfl rfl (Yd.indexAddr (e := 73) (s := 2) (b := tb) (o := tf) (n := F.length) (c := fc) kr_ kr_ (congrArg (fun q => some (Value.slice q F.length fc)) efo) rfl (by omega) (by omega)) kr_ ?_
 refine wg_ 14 [13, 7] 51 rfl rfl (Yd.fieldAddr (k := 0) kr_ rfl) kr_ ?_
 refine wq_ (wf_ (i := 15) [14, 7] rfl (QAt.rd (Wt.yes (dj := 51) rfl rfl) (Rd.load1 (v := .string F[k].name) (b := tb) (o := tf + (k : Int).toNat * 2 + 0) (cs := ts) kr_ rfl (Gr.get gr_ htm) (cell_at2 (L := F) cellsG_len hts (by omega) (by omega)))) kr_) kr_ ?_
 refine wg_ 16 [7] 51 rfl rfl (Yd.fieldAddr (k := 0) kr_ rfl) kr_ ?_
 refine wq_ (wf_ (i := 17) [16, 7] rfl (QAt.rd (Wt.yes (dj := 51) rfl rfl) (Rd.load1 kr_ rfl mem_ (by rfl))) kr_) kr_ ?_
 refine wg_ 18 [17, 15, 7] 51 rfl rfl (Yd.lssS rfl rfl) kr_ ?_
 refine wy_ 19 [18, 7] rfl (Yd.pickT rfl rfl) kr_ ?_
 refine wd_ [_, _, _, _, _, _, _, _, _, _, _, _, _, _, _, _, _, _, _, _] rfl kr_ ?_
 exact DN.reachK (_) (by
   first
   | exact ⟨fun h => ⟨by omega, h⟩, fun ⟨_, h⟩ => h⟩
   | exact ⟨fun h => (by cases h), fun ⟨h, _⟩ => (by omega)⟩) (Sx.put rfl (sx_)) (Sp.all sp_)
 refine wn_ 8 [7] 51 rfl rfl kr_ ?_
 refine wn_ 9 [8, 7] 51 rfl rfl kr_ ?_
 refine wn_ 10 [9, 7] 51 rfl rfl kr_ ?_
 refine wn_ 11 [10, 7] 51 rfl rfl kr_ ?_
 refine wn_ 12 [7] 51 rfl rfl kr_ ?_
 refine wn_ 13 [12, 11, 7] 51 rfl rfl kr_ ?_
 refine wn_ 14 [13, 7] 51 rfl rfl kr_ ?_
 refine wn_ 15 [14, 7] 51 rfl rfl kr_ ?_
 refine wn_ 16 [7] 51 rfl rfl kr_ ?_
 refine wn_ 17 [16, 7] 51 rfl rfl kr_ ?_
 refine wn_ 18 [17, 15, 7] 51 rfl rfl kr_ ?_
 refine wy_ 19 [18, 7] rfl (Yd.pickF rfl rfl) kr_ ?_
 refine wd_ [_, _, _, _, _, _, _, _, _, _, _, _, _, _, _, _, _, _, _, _] rfl kr_ ?_
 exact DN.reachK (_) (by
   first
   | exact ⟨fun h => ⟨by omega, h⟩, fun ⟨_, h⟩ => h⟩
   | exact ⟨fun h => (by cases h), fun ⟨h, _⟩ => (by omega)⟩) (Sx.put rfl (sx_)) (Sp.all sp_)
 intro z63 hz63
 refine WC.cond rfl (fun h63 => ?_) (fun h63 => ?_)
 obtain ⟨hkl, hlow⟩ := hz63.1 h63
 obtain ⟨tb, tf, ts, tT, tfr, tex, efo, _, htm, hts⟩ := hF.rs.lies (by omega)
 refine WC.skip (DN.then_normal (WC.block (sr_ (m_ rfl rfl (m_ rfl rfl (n_ rfl rfl (f_ 0 kr_ rfl rfl ?_)))))))
 refine d_ kr_ rfl mem_ (by rfl) rfl ?_
 refine m_ rfl rfl (WL.y rfl (Yd.indexAddr (e := 73) (s := 2) (b := tb) (o := tf) (n := F.length) (c := fc) kr_ kr_ (congrArg (fun q => some (Value.slice q F.length fc)) efo) rfl (by omega) (by omega)) ?_)
 refine WL.h rfl (Hd.loadA (n := 2) (b := tb) (o := tf + (k : Int).toNat * 2) (cs := ts) (vs := cellsG F[k]) kr_ rfl (Gr.get gr_ htm) (cellsG_len _) (rs_cell hts (by rw [flat_len cellsG 2 cellsG_len]; omega) (flat_row cellsG 2 cellsG_len F k hkl)) ⟨_, rfl, ?_⟩)
 refine WL.h rfl (Hd.buildA (e := 73) (sz := 2) (zs := [.string ⟨#[]⟩, .int .i64 0]) kr_ kr_ kr_ rfl rfl (by rfl) kr_ fun b72 => ⟨_, rfl, ?_⟩)
 refine WL.h rfl (Hd.appendRow (e := 73) (sz := 2) (bytes := 24) (zs := [.string ⟨#[]⟩, .int .i64 0]) kr_ kr_ rfl (by omega) rfl rfl (hm) sp_ mem_ (by rfl) one_ (by simp only [maxLen]; omega) (by omega) fun v2 C2 h2 => ⟨_, rfl, ?_⟩)
 refine a_ rfl rfl (ntr_ (m_ rfl rfl (WL.y rfl (Yd.add rfl rfl (by omega) (by omega)) ?_)))
 refine a_ rfl rfl (WL.nil (DN.block_normal ?_))
 exact DN.againS (⟨k + 1, v2, C2⟩) (show (k + 1) ≤ F.length ∧ (∀ (j : Nat) (hj : j < F.length), j < (k + 1) → sLt F[j].name gs[i].name = true) ∧ Own v2 (k + 1) ((F.take (k + 1)).flatMap cellsG) 73 2 C2 from ⟨by omega, fun j hj h => by
   rcases Nat.lt_or_ge j k with h5 | h5
   · exact hbelow j hj h5
   obtain rfl : j = k := by omega
   exact hlow, by rw [List.take_succ_eq_append_getElem hkl, List.flatMap_append]; simpa using h2⟩) (show F.length - (k + 1) < F.length - k by omega) (Sx.put rfl (Sx.put rfl (sx_))) sp_
 have hge : ∀ h : k < F.length, sLt F[k].name gs[i].name = false := fun h => by
   cases h2 : sLt F[k].name gs[i].name with
   | false => rfl
   | true => rw [hz63.2 ⟨h, h2⟩] at h63; cases h63
 refine WC.exit (DN.then_exit (DN.then_exit (DN.block_exit (ts_ (WC.cutK (fun z : Bool => z = true ↔ ∃ h : k < F.length, F[k].name = gs[i].name) (fun z : Bool => [(95, .bool z)]) (fun z : Bool => Cm ++ (row b6 (cellsG gs[i]) 73 :: (row b13 [.slice fo F.length fc, .slice none 0 0, .slice none 0 0] 147 :: (Cf ++ H)))) ?_ ?_)))))
 refine WC.draw 20 kr_ rfl ?_
 refine WAG.start (N := 20) rfl (wy_ 0 [] rfl (Yd.move rfl) kr_ ?_)
 refine wy_ 1 [] rfl (Yd.move rfl) kr_ ?_
 refine wy_ 2 [1] rfl (Yd.notNil rfl) kr_ ?_
 refine wy_ 3 [2] rfl (Yd.fieldAddr (k := 0) kr_ rfl) kr_ ?_
 refine wq_ (wf_ (i := 4) [3] rfl (QAt.rd Wt.none (Rd.load1 kr_ rfl mem_ (by rfl))) kr_) kr_ ?_
 refine wy_ 5 [4] rfl (Yd.len (e := 73) kr_ rfl) kr_ ?_
 refine wy_ 6 [5, 0] rfl (Yd.lss rfl rfl) kr_ ?_
 refine wy_ 7 [6] rfl (Yd.move rfl) kr_ ?_
 refine WAG.partP (fun hg83 => ?_) (fun hg83 => ?_)
 refine wg_ 8 [7] 83 rfl rfl (Yd.move rfl) kr_ ?_
 refine wg_ 9 [8, 7] 83 rfl rfl (Yd.notNil rfl) kr_ ?_
 refine wg_ 10 [9, 7] 83 rfl rfl (Yd.fieldAddr (k := 0) kr_ rfl) kr_ ?_
 obtain ⟨tb, tf, ts, tT, tfr, tex, efo, _, htm, hts⟩ := hF.rs.lies (by omega)
 refine wq_ (wf_ (i := 11) [10, 7] rfl (QAt.rd (Wt.yes (dj := 83) rfl rfl) (Rd.load1 kr_ rfl mem_ (by rfl))) kr_) kr_ ?_
 refine wg_ 12 [7] 83 rfl rfl (Yd.move rfl) kr_ ?_
 refine wg_ 13 [12, 11, 7] 83 rfl rfl (Yd.indexAddr (e := 73) (s := 2) (b := tb) (o := tf) (n := F.length) (c := fc) kr_ kr_ (congrArg (fun q => some (Value.slice q F.length fc)) efo) rfl (by omega) (by omega)) kr_ ?_
 refine wg_ 14 [13, 7] 83 rfl rfl (Yd.fieldAddr (k := 0) kr_ rfl) kr_ ?_
 refine wq_ (wf_ (i := 15) [14, 7] rfl (QAt.rd (Wt.yes (dj := 83) rfl rfl) (Rd.load1 (v := .string F[k].name) (b := tb) (o := tf + (k : Int).toNat * 2 + 0) (cs := ts) kr_ rfl (Gr.get gr_ htm) (cell_at2 (L := F) cellsG_len hts (by omega) (by omega)))) kr_) kr_ ?_
 refine wg_ 16 [7] 83 rfl rfl (Yd.fieldAddr (k := 0) kr_ rfl) kr_ ?_
 refine wq_ (wf_ (i := 17) [16, 7] rfl (QAt.rd (Wt.yes (dj := 83) rfl rfl) (Rd.load1 kr_ rfl mem_ (by rfl))) kr_) kr_ ?_
 refine wg_ 18 [17, 15, 7] 83 rfl rfl (Yd.eqlS rfl rfl) kr_ ?_
 refine wy_ 19 [18, 7] rfl (Yd.pickT rfl rfl) kr_ ?_
 refine wd_ [_, _, _, _, _, _, _, _, _, _, _, _, _, _, _, _, _, _, _, _] rfl kr_ ?_
 exact DN.reachK (_) (by
   first
   | (rw [decide_eq_true_eq]; exact ⟨fun h => ⟨by omega, h⟩, fun ⟨_, h⟩ => h⟩)
   | exact ⟨fun h => (by cases h), fun ⟨h, _⟩ => (by omega)⟩) (Sx.put rfl (sx_)) (Sp.all sp_)
 refine wn_ 8 [7] 83 rfl rfl kr_ ?_
 refine wn_ 9 [8, 7] 83 rfl rfl kr_ ?_
 refine wn_ 10 [9, 7] 83 rfl rfl kr_ ?_
 refine wn_ 11 [10, 7] 83 rfl rfl kr_ ?_
 refine wn_ 12 [7] 83 rfl rfl kr_ ?_
 refine wn_ 13 [12, 11, 7] 83 rfl rfl kr_ ?_
 refine wn_ 14 [13, 7] 83 rfl rfl kr_ ?_
 refine wn_ 15 [14, 7] 83 rfl rfl kr_ ?_
 refine wn_ 16 [7] 83 rfl rfl kr_ ?_
 refine wn_ 17 [16, 7] 83 rfl rfl kr_ ?_
 refine wn_ 18 [17, 15, 7] 83 rfl rfl kr_ ?_
 refine wy_ 19 [18, 7] rfl (Yd.pickF rfl rfl) kr_ ?_
 refine wd_ [_, _, _, _, _, _, _, _, _, _, _, _, _, _, _, _, _, _, _, _] rfl kr_ ?_
 exact DN.reachK (_) (by
   first
   | (rw [decide_eq_true_eq]; exact ⟨fun h => ⟨by omega, h⟩, fun ⟨_, h⟩ => h⟩)
   | exact ⟨fun h => (by cases h), fun ⟨h, _⟩ => (by omega)⟩) (Sx.put rfl (sx_)) (Sp.all sp_)
 intro z95 hz95
 refine WC.cond rfl (fun h95 => ?_) (fun h95 => ?_)
 obtain ⟨hkl, hsame⟩ := hz95.1 h95
 have htw : (findK Gd.name (gs.take i) gs[i].name).isSome = true := by
   rw [← hsame, findK_of hnd (hT.perm.mem_iff.1 (List.getElem_mem hkl))]; rfl
 refine sr_ (a_ rfl rfl (a_ rfl rfl (nt_ (WC.ret (DN.then_ret (DN.block_ret (DN.then_ret (DN.then_ret (DN.block_ret (DN.then_ret ?_))))))))))
 first | (have hlt2 : i < gs.length := hlt; refine DN.fit (C := H) sp_ ?_) | refine DN.fit (C := row b13 [.slice fo F.length fc, .slice none 0 0, .slice none 0 0] 147 :: (Cf ++ H)) sp_ ?_ | skip
 refine DN.ret2 Tryz.results66 rfl rfl ?_
 rotate_left
 have hne : ∀ h : k < F.length, F[k].name ≠ gs[i].name := fun h h2 => by rw [hz95.2 ⟨h, h2⟩] at h95; cases h95
 refine WC.skip (ts_ (WC.region (m_ rfl rfl (WL.h rfl (Hd.loadAll (n := 2) kr_ rfl mem_ (by rfl) ⟨_, rfl, ?_⟩)))))
 refine WL.h rfl (Hd.buildA (e := 73) (sz := 2) (zs := [.string ⟨#[]⟩, .int .i64 0]) kr_ kr_ kr_ rfl rfl (by rfl) kr_ fun b98 => ⟨_, rfl, ?_⟩)
 refine WL.h rfl (Hd.appendRow (e := 73) (sz := 2) (bytes := 24) (zs := [.string ⟨#[]⟩, .int .i64 0]) kr_ kr_ rfl (by omega) rfl rfl (hm) sp_ mem_ (by rfl) one_ (by simp only [maxLen]; omega) (by omega) fun v3 C3 h3 => ⟨_, rfl, ?_⟩)
 refine a_ rfl rfl (ntsr_ (m_ rfl rfl (m_ rfl rfl (n_ rfl rfl (f_ 0 kr_ rfl rfl ?_)))))
 refine d_ kr_ rfl mem_ (by rfl) rfl ?_
 refine m_ rfl rfl (WL.y rfl (Yd.slice (e := 73) (s := 2) (i := k) (j := F.length) kr_ kr_ rfl ⟨_, _, rfl, rfl⟩ rfl hk hfc) ?_)
 refine WL.h rfl (Hd.appendF (e := 73) (sz := 2) (bytes := 24) (zs := [.string ⟨#[]⟩, .int .i64 0]) kr_ kr_ rfl (by omega) rfl rfl h3 sp_ ((hF.rs.sub (by rw [flat_len cellsG 2 cellsG_len]) hk (Nat.le_refl _)).mono gr_) (by rw [List.length_take, List.length_drop, flat_len cellsG 2 cellsG_len]; omega) (one_partE cellsG cellsG_one F _ _) (by simp only [maxLen]; omega) (by omega) fun v4 C4 h4 => ⟨_, rfl, ?_⟩)
 refine a_ rfl rfl (ntr_ ?_)
 obtain ⟨zo, zc, rfl, _⟩ := h4.form
 refine m_ rfl rfl (m_ rfl rfl (n_ rfl rfl (f_ 0 kr_ rfl rfl ?_)))
 refine WL.s (Hd.store1s kr_ rfl rfl (by rfl) fr_ (by rfl) (by first | (simp only [List.set_cons_zero, List.set_cons_succ, Nat.zero_add, Nat.add_zero, Nat.reduceAdd]; rfl) | rfl) ⟨rfl, ?_⟩)
 refine WL.nil (DN.block_normal (DN.then_normal (WC.region (m_ rfl rfl (WL.y rfl (Yd.add rfl rfl (by omega) (by omega)) ?_)))))
 refine a_ rfl rfl (WL.nil ?_)
 exact DN.againS (⟨i + 1, F.take k ++ gs[i] :: F.drop k, .slice zo (k + 1 + (F.length - k)) zc, C4⟩) (show (i + 1) ≤ gs.length ∧ (∀ (j : Nat) (h : j < gs.length), j < (i + 1) → goodB gs[j]) ∧ ((gs.take (i + 1)).map Gd.name).Nodup ∧ ToldK Gd.name sLt (gs.take (i + 1)) (F.take k ++ gs[i] :: F.drop k) ∧ Own (.slice zo (k + 1 + (F.length - k)) zc) (F.take k ++ gs[i] :: F.drop k).length ((F.take k ++ gs[i] :: F.drop k).flatMap cellsG) 73 2 C4 from ⟨by omega, fun j h hj => by
   rcases Nat.lt_or_ge j i with h5 | h5
   · exact hgood j h h5
   obtain rfl : j = i := by omega
   exact hgi, by rw [List.take_succ_eq_append_getElem hlt]; exact once_more hnd (hT.free (lt := sLt) (fun _ _ _ => sLt_trans) sLt_irrefl sLt_tri hnd gs[i].name hk hbelow hge hne), hT.put (lt := sLt) (fun _ _ _ => sLt_trans) sLt_irrefl sLt_tri hlt hk hbelow hge, by rw [← put_flatE cellsG 2 cellsG_len]; have e : (F.take k ++ gs[i] :: F.drop k).length = k + 1 + (F.length - k) := (by rw [List.length_append, List.length_cons, List.length_take, List.length_drop]; omega); rw [e]; exact h4⟩) (show gs.length - (i + 1) < gs.length - i by omega) (Sx.put rfl (sx_)) sp_
 obtain rfl : i = gs.length := by omega
 rw [List.take_length] at hnd hT
 refine WC.exit (DN.then_exit (DN.then_exit (DN.block_exit (ts_ (WC.region (m_ rfl rfl (a_ rfl rfl (a_ rfl rfl (nt_ (WC.ret ?_))))))))))
 first | (have hlt2 : i < gs.length := hlt; refine DN.fit (C := H) sp_ ?_) | refine DN.fit (C := row b13 [.slice fo F.length fc, .slice none 0 0, .slice none 0 0] 147 :: (Cf ++ H)) sp_ ?_ | skip
 refine DN.ret2 Tryz.results66 rfl rfl ?_
 rotate_left
 all_goals
  first
    | exact .inr ⟨fun hG => by have := hG.1; omega, rfl, rfl⟩
    | exact .inr ⟨fun hG => (twice_no hlt htw) hG.2.1, rfl, rfl⟩
    | exact .inr ⟨fun hG => (hG.2.2 gs[i] (List.getElem_mem hlt)).1 (ByteArray.ext (Array.eq_empty_of_size_eq_zero (by have : gs[i].name.size = 0 := (by omega); exact this))), rfl, rfl⟩
    | exact .inr ⟨fun hG => by have := (hG.2.2 gs[i] (List.getElem_mem hlt)).2; omega, rfl, rfl⟩
    | exact .inl ⟨⟨by omega, hnd, fun g hm => by obtain ⟨j, hj, rfl⟩ := List.getElem_of_mem hm; exact hgood j hj hj⟩, b13, row b13 [.slice fo F.length fc, .slice none 0 0, .slice none 0 0] 147 :: (Cf ++ []), F, rfl, ⟨_, _, _, Cf, [], [], rfl, hF, Own.nil _ _, Own.nil _ _⟩, hT, by simp⟩
end Go.Proofs.YtkamlondepceiaaGreat.St

set_option linter.unusedVariables false
set_option linter.unusedSimpArgs false
set_option maxHeartbeats 4000000
namespace Go.Proofs.YtkamlondepceiaaGreat.Pu
open Go.SL
theorem rsum_reads (p : Nat) (F : List Au) (L : List Py) (C : List Ck) (h : RpAt 151 71 217 p F L C) (hl : L.length ≤ 100000000) (hp : ∀ x ∈ L, 1 ≤ x.n) (nm : ByteArray) (s : Int) (hb : sumP L nm s ≤ 1000000000) : Reads Tryz.prog 75 [.pointer (some ⟨p, 0, none⟩), .string nm, .int .i64 s] C (.int .i64 (sumP L nm s)) := by
 refine Tells.enter Tryz.func75 rfl Tryz.ntmps75 rfl ?_
 intro w0 R
 obtain ⟨vf, vl, Cf, Cl, rfl, hF, hL⟩ := h
 obtain ⟨fo, fc, rfl, _⟩ := hF.form
 obtain ⟨lo, lc, rfl, _⟩ := hL.form
 refine sr_ (a_ rfl rfl (ntsr_ (a_ rfl rfl (nt_ (WC.seq (sr_ (a_ rfl rfl (nt_ (WC.block (WC.loopS (fun z : Nat × Int => z.1 ≤ L.length ∧ z.2 = sumP (L.take z.1) nm s) (fun z : Nat × Int => [(8, .int .i64 (z.1 : Int)), (7, .int .i64 z.2)]) (fun z : Nat × Int => row p [.slice fo F.length fc, .slice lo L.length lc] 151 :: (Cf ++ Cl)) (fun z : Nat × Int => L.length - z.1) (⟨0, 0⟩) (show 0 ≤ L.length ∧ 0 = sumP (L.take 0) nm s from ⟨Nat.zero_le _, by simp [sumP]⟩) (Sx.put rfl (Sx.put rfl (sx_))) sp_ ?_))))))))))
 rintro ⟨j, z⟩ hI
 replace hI : j ≤ L.length ∧ z = sumP (L.take j) nm s := hI
 obtain ⟨hj, hz⟩ := hI
 change WC _ _ _ _ _ _ ([(8, .int .i64 (j : Int)), (7, .int .i64 z)] ++ _) (row p [.slice fo F.length fc, .slice lo L.length lc] 151 :: (Cf ++ Cl))
 refine WC.seq (sr_ (m_ rfl rfl (m_ rfl rfl (n_ rfl rfl (f_ 1 kr_ rfl rfl ?_)))))
 refine d_ kr_ rfl mem_ (by rfl) rfl ?_
 refine WL.y rfl (Yd.len (e := 217) kr_ rfl) ?_
 refine WL.y rfl (Yd.lss rfl rfl) (nt_ (WC.ite rfl (fun h15 => ?_) (fun h15 => ?_)))
 have hjl : j < L.length := by omega
 obtain ⟨wb, wf, ws, wT, wfr, wex, rfl, _, hwm, hws⟩ := hL.rs.lies (by omega)
 have hst := sumP_take hjl nm s
 have hp1 := sumP_part hp (j + 1) nm s
 have hp0 := sumP_part hp j nm s
 have hpn := hp L[j] (List.getElem_mem hjl)
 refine WC.skip (ts_ (WC.block (sr_ (m_ rfl rfl (n_ rfl rfl (f_ 1 kr_ rfl rfl ?_))))))
 refine d_ kr_ rfl mem_ (by rfl) rfl ?_
 refine m_ rfl rfl (WL.y rfl (Yd.indexAddr (e := 217) (s := 4) kr_ kr_ rfl rfl (by omega) (by omega)) ?_)
 refine f_ 1 kr_ rfl rfl ?_
 refine WL.h rfl (Hd.load1 (v := .string L[j].name) (b := wb) (o := wf + (j : Int).toNat * 4 + 1) (cs := ws) kr_ rfl (Gr.get gr_ hwm) (cell_atP (L := L) cellsP_len hws (by omega) (by omega)) ⟨_, rfl, ?_⟩)
 refine m_ rfl rfl (WL.y rfl (Yd.eqlS rfl rfl) (m_ rfl rfl (WL.partP (t := 28) rfl (fun hg28 => ?_) (fun hg28 => ?_))))
 refine gy_ 28 rfl rfl rfl (Yd.move rfl) (gy_ 28 rfl rfl rfl (Yd.notNil rfl) (gy_ 28 rfl rfl rfl (Yd.fieldAddr (k := 1) kr_ rfl) ?_))
 refine WL.gh (dj := 28) rfl rfl rfl (Hd.load1 kr_ rfl mem_ (by rfl) ⟨_, rfl, ?_⟩)
 refine gy_ 28 rfl rfl rfl (Yd.move rfl) (gy_ 28 rfl rfl rfl (Yd.indexAddr (e := 217) (s := 4) kr_ kr_ rfl rfl (by omega) (by omega)) ?_)
 refine gy_ 28 rfl rfl rfl (Yd.fieldAddr (k := 3) kr_ rfl) ?_
 refine WL.gh (dj := 28) rfl rfl rfl (Hd.load1 (v := .int .i64 L[j].st) (b := wb) (o := wf + (j : Int).toNat * 4 + 3) (cs := ws) kr_ rfl (Gr.get gr_ hwm) (cell_atP (L := L) cellsP_len hws (by omega) (by omega)) ⟨_, rfl, ?_⟩)
 refine gy_ 28 rfl rfl rfl (Yd.move rfl) (gy_ 28 rfl rfl rfl (Yd.eql rfl rfl) (WL.y rfl (Yd.pickT rfl rfl) (nt_ (WC.ite rfl (fun h39 => ?_) (fun h39 => ?_)))))
 rw [if_pos ⟨hg28, h39⟩] at hst
 refine WC.region (m_ rfl rfl (m_ rfl rfl (n_ rfl rfl (f_ 1 kr_ rfl rfl ?_))))
 refine d_ kr_ rfl mem_ (by rfl) rfl ?_
 refine m_ rfl rfl (WL.y rfl (Yd.indexAddr (e := 217) (s := 4) kr_ kr_ rfl rfl (by omega) (by omega)) ?_)
 refine f_ 2 kr_ rfl rfl ?_
 refine WL.h rfl (Hd.load1 (v := .int .i64 L[j].n) (b := wb) (o := wf + (j : Int).toNat * 4 + 2) (cs := ws) kr_ rfl (Gr.get gr_ hwm) (cell_atP (L := L) cellsP_len hws (by omega) (by omega)) ⟨_, rfl, ?_⟩)
 refine WL.y rfl (Yd.add rfl rfl (by omega) (by omega)) ?_
 refine a_ rfl rfl (WL.nil (DN.block_normal (DN.then_normal (WC.region (m_ rfl rfl (WL.y rfl (Yd.add rfl rfl (by omega) (by omega)) ?_))))))
 exact a_ rfl rfl (WL.nil (DN.againS (⟨j + 1, z + L[j].n⟩) (show (j + 1) ≤ L.length ∧ (z + L[j].n) = sumP (L.take (j + 1)) nm s from ⟨by omega, by omega⟩) (show L.length - (j + 1) < L.length - j by omega) (Sx.put rfl (Sx.put rfl (sx_))) sp_))
 rw [if_neg (fun e => h39 e.2)] at hst
 refine WC.skip (DN.block_normal (DN.then_normal (WC.region (m_ rfl rfl (WL.y rfl (Yd.add rfl rfl (by omega) (by omega)) ?_)))))
 exact a_ rfl rfl (WL.nil (DN.againS (⟨j + 1, z⟩) (show (j + 1) ≤ L.length ∧ z = sumP (L.take (j + 1)) nm s from ⟨by omega, by omega⟩) (show L.length - (j + 1) < L.length - j by omega) (Sx.put rfl (Sx.put rfl (sx_))) sp_))
 iterate 10 refine gn_ 28 rfl rfl rfl rfl ?_
 refine WL.y rfl (Yd.pickF rfl rfl) (nt_ (WC.no rfl (WC.skip (DN.block_normal (DN.then_normal (WC.region (m_ rfl rfl (WL.y rfl (Yd.add rfl rfl (by omega) (by omega)) ?_))))))))
 refine a_ rfl rfl (WL.nil ?_)
 exact DN.againS (⟨j + 1, z⟩) (show (j + 1) ≤ L.length ∧ z = sumP (L.take (j + 1)) nm s from ⟨by omega, by rw [hst, if_neg (fun e => hg28 e.1)]; omega⟩) (show L.length - (j + 1) < L.length - j by omega) (Sx.put rfl (Sx.put rfl (sx_))) sp_
 obtain rfl : j = L.length := by omega
 rw [List.take_length] at hz
 exact WC.exit (DN.then_exit (DN.then_exit (DN.block_exit (ts_ (WC.region (m_ rfl rfl (a_ rfl rfl (nt_ (WC.ret (DN.ret1 Tryz.results75 rfl (⟨by rw [hz], rfl⟩)))))))))))
theorem rat_reads (p : Nat) (F : List Au) (L : List Py) (C : List Ck) (h : RpAt 151 71 217 p F L C) (hl : L.length ≤ 100000000) (o : BitVec 32) : Reads Tryz.prog 139 [.pointer (some ⟨p, 0, none⟩), .int .u32 o.toNat] C (.int .i64 (atK Py.o L o)) := by
 refine Tells.enter Tryz.func139 rfl Tryz.ntmps139 rfl ?_
 intro w0 R
 obtain ⟨vf, vl, Cf, Cl, rfl, hF, hL⟩ := h
 obtain ⟨fo, fc, rfl, _⟩ := hF.form
 obtain ⟨lo, lc, rfl, _⟩ := hL.form
 refine sr_ (a_ rfl rfl (nt_ (WC.seq (sr_ (a_ rfl rfl (nt_ (WC.block (WC.loopS (fun z : Nat => z ≤ L.length ∧ ∀ (j : Nat) (hj : j < L.length), j < z → ¬ o = L[j].o) (fun z : Nat => [(5, .int .i64 (z : Int))]) (fun z : Nat => row p [.slice fo F.length fc, .slice lo L.length lc] 151 :: (Cf ++ Cl)) (fun z : Nat => L.length - z) (0) (show 0 ≤ L.length ∧ ∀ (j : Nat) (hj : j < L.length), j < 0 → ¬ o = L[j].o from ⟨Nat.zero_le _, fun j hj h => by omega⟩) (Sx.put rfl (sx_)) sp_ ?_))))))))
 rintro i hI
 replace hI : i ≤ L.length ∧ ∀ (j : Nat) (hj : j < L.length), j < i → ¬ o = L[j].o := hI
 obtain ⟨hi, hno⟩ := hI
 change WC _ _ _ _ _ _ ([(5, .int .i64 (i : Int))] ++ _) (row p [.slice fo F.length fc, .slice lo L.length lc] 151 :: (Cf ++ Cl))
 refine WC.seq (sr_ (m_ rfl rfl (m_ rfl rfl (n_ rfl rfl (f_ 1 kr_ rfl rfl ?_)))))
 refine d_ kr_ rfl mem_ (by rfl) rfl ?_
 refine WL.y rfl (Yd.len (e := 217) kr_ rfl) ?_
 refine WL.y rfl (Yd.lss rfl rfl) (nt_ (WC.ite rfl (fun h12 => ?_) (fun h12 => ?_)))
 have hlt : i < L.length := by omega
 obtain ⟨ub, uf, us, uT, ufr, uex, rfl, _, hum, hus⟩ := hL.rs.lies (by omega)
 refine WC.skip (ts_ (WC.block (sr_ (m_ rfl rfl (n_ rfl rfl (f_ 1 kr_ rfl rfl ?_))))))
 refine d_ kr_ rfl mem_ (by rfl) rfl ?_
 refine m_ rfl rfl (WL.y rfl (Yd.indexAddr (e := 217) (s := 4) kr_ kr_ rfl rfl (by omega) (by omega)) ?_)
 refine f_ 0 kr_ rfl rfl ?_
 refine WL.h rfl (Hd.load1 (v := .int .u32 L[i].o.toNat) (b := ub) (o := uf + (i : Int).toNat * 4 + 0) (cs := us) kr_ rfl (Gr.get gr_ hum) (cell_atP (L := L) cellsP_len hus (by omega) (by omega)) ⟨_, rfl, ?_⟩)
 refine m_ rfl rfl (WL.y rfl (Yd.eql32 _ _ rfl rfl rfl rfl) (nt_ (WC.ite rfl (fun h24 => ?_) (fun h24 => ?_))))
 exact sr_ (m_ rfl rfl (a_ rfl rfl (nt_ (WC.ret (DN.block_ret (DN.then_ret (DN.then_ret (DN.block_ret (DN.then_ret (DN.ret1 Tryz.results139 rfl (⟨by rw [atK_yes L o i hlt h24.symm hno], rfl⟩)))))))))))
 refine WC.skip (DN.block_normal (DN.then_normal (WC.region (m_ rfl rfl (WL.y rfl (Yd.add rfl rfl (by omega) (by omega)) ?_)))))
 refine a_ rfl rfl (WL.nil ?_)
 exact DN.againS (i + 1) (show (i + 1) ≤ L.length ∧ ∀ (j : Nat) (hj : j < L.length), j < (i + 1) → ¬ o = L[j].o from ⟨by omega, fun j hj h => by
   rcases Nat.lt_or_ge j i with h5 | h5
   · exact hno j hj h5
   obtain rfl : j = i := by omega
   exact fun e => h24 e.symm⟩) (show L.length - (i + 1) < L.length - i by omega) (Sx.put rfl (sx_)) sp_
 exact WC.exit (DN.then_exit (DN.then_exit (DN.block_exit (ts_ (WC.region (a_ rfl rfl (nt_ (WC.ret (DN.ret1 Tryz.results139 rfl (⟨by rw [atK_no L o fun j hj => hno j hj (by omega)], rfl⟩))))))))))
theorem raccs_tells (p : Nat) (gs K F : List Au) (L : List Py) (C : List Ck) (h : RpAt 151 71 217 p F L C) (inv : PInv gs K L) (hF0 : ToldK Au.name sLt gs F) (hl : L.length ≤ 100000000) : Tells Tryz.prog 37 [.pointer (some ⟨p, 0, none⟩)] C fun r H' => ∃ Cs, Own r (vwU K F).length ((vwU K F).flatMap cellsU) 71 3 Cs ∧ H' = Cs ++ C := by
 refine Tells.enter Tryz.func37 rfl Tryz.ntmps37 rfl ?_
 intro w0 R
 have h0 := h
 obtain ⟨vf, vl, Cf, Cl, rfl, hF, hL⟩ := h
 obtain ⟨fo, fc, rfl, _⟩ := hF.form
 obtain ⟨lo, lc, rfl, _⟩ := hL.form
 have hFl := hF0.perm.length_eq
 have hfew := inv.few
 have hvl := vwU_len K F
 have hp : ∀ x ∈ L, 1 ≤ x.n := fun x hx => (inv.pays x hx).1
 refine sr_ (a_ rfl rfl (ntsr_ (a_ rfl rfl (nt_ (WC.seq (sr_ (a_ rfl rfl (nt_ (WC.block (WC.loopS (fun z : Nat × Value × List Ck => z.1 ≤ F.length ∧ Own z.2.1 z.1 (((vwU K F).take z.1).flatMap cellsU) 71 3 z.2.2) (fun z : Nat × Value × List Ck => [(4, .int .i64 (z.1 : Int)), (3, z.2.1)]) (fun z : Nat × Value × List Ck => z.2.2 ++ (row p [.slice fo F.length fc, .slice lo L.length lc] 151 :: (Cf ++ Cl))) (fun z : Nat × Value × List Ck => F.length - z.1) (⟨0, .slice none 0 0, []⟩) (show 0 ≤ F.length ∧ Own (.slice none 0 0) 0 (((vwU K F).take 0).flatMap cellsU) 71 3 [] from ⟨Nat.zero_le _, by simpa using Own.nil 71 3⟩) (Sx.put rfl (Sx.put rfl (sx_))) sp_ ?_))))))))))
 rintro ⟨i, w, Co⟩ hI
 replace hI : i ≤ F.length ∧ Own w i (((vwU K F).take i).flatMap cellsU) 71 3 Co := hI
 obtain ⟨hi, ho⟩ := hI
 change WC _ _ _ _ _ _ ([(4, .int .i64 (i : Int)), (3, w)] ++ _) (Co ++ (row p [.slice fo F.length fc, .slice lo L.length lc] 151 :: (Cf ++ Cl)))
 obtain ⟨oo, oc, rfl, _⟩ := ho.form
 refine WC.seq (sr_ (m_ rfl rfl (m_ rfl rfl (n_ rfl rfl (f_ 0 kr_ rfl rfl ?_)))))
 refine d_ kr_ rfl mem_ (by rfl) rfl ?_
 refine WL.y rfl (Yd.len (e := 71) kr_ rfl) ?_
 refine WL.y rfl (Yd.lss rfl rfl) (nt_ (WC.ite rfl (fun h13 => ?_) (fun h13 => ?_)))
 have hlt : i < F.length := by omega
 obtain ⟨ub, uf, us, uT, ufr, uex, rfl, _, hum, hus⟩ := hF.rs.lies (by omega)
 have hs := vwU_step inv hF0 hlt
 have hmid := inv.mid F[i].name
 refine WC.skip (ts_ (WC.block (sr_ (m_ rfl rfl (n_ rfl rfl (f_ 0 kr_ rfl rfl ?_))))))
 refine d_ kr_ rfl mem_ (by rfl) rfl ?_
 refine m_ rfl rfl (WL.y rfl (Yd.indexAddr (e := 71) (s := 3) kr_ kr_ rfl rfl (by omega) (by omega)) ?_)
 refine f_ 0 kr_ rfl rfl ?_
 refine WL.h rfl (Hd.load1 (v := .string F[i].name) (b := ub) (o := uf + (i : Int).toNat * 3 + 0) (cs := us) kr_ rfl (Gr.get gr_ hum) (cell_atP (L := F) cellsU_len hus (by omega) (by omega)) ⟨_, rfl, ?_⟩)
 refine a_ rfl rfl (nt_ (WC.seq (WC.draw 13 kr_ rfl ?_)))
 refine WAG.start (N := 13) rfl (wy_ 0 [] rfl (Yd.move rfl) kr_ ?_)
 refine wy_ 1 [0] rfl (Yd.notNil rfl) kr_ ?_
 refine wy_ 2 [1] rfl (Yd.fieldAddr (k := 0) kr_ rfl) kr_ ?_
 refine wq_ (wf_ (i := 3) [2] rfl (QAt.rd Wt.none (Rd.load1 kr_ rfl mem_ (by rfl))) kr_) kr_ ?_
 refine wy_ 4 [] rfl (Yd.move rfl) kr_ ?_
 refine wy_ 5 [4, 3] rfl (Yd.indexAddr (e := 71) (s := 3) kr_ kr_ rfl rfl (by omega) (by omega)) kr_ ?_
 refine wy_ 6 [5] rfl (Yd.fieldAddr (k := 1) kr_ rfl) kr_ ?_
 refine wq_ (wf_ (i := 7) [6] rfl (QAt.rd Wt.none (Rd.load1 (v := .int .i64 F[i].money) (b := ub) (o := uf + (i : Int).toNat * 3 + 1) (cs := us) kr_ rfl (Gr.get gr_ hum) (cell_atP (L := F) cellsU_len hus (by omega) (by omega)))) kr_) kr_ ?_
 refine wy_ 8 [] rfl (Yd.move rfl) kr_ ?_
 refine wy_ 9 [] rfl (Yd.move rfl) kr_ ?_
 refine wq_ (wf_ (i := 10) [9, 8] rfl (QAt.rf Wt.none (Ent.func Tryz.call75 rfl) (rsum_reads p F L _ h0 hl hp F[i].name 2 (by omega)) sp_) kr_) kr_ ?_
 refine wy_ 11 [10, 7] rfl (Yd.sub rfl rfl (by omega) (by omega)) kr_ ?_
 refine wy_ 12 [11, 10, 9, 8, 7, 6, 5, 4, 3, 2, 1, 0] rfl (Yd.assign rfl) kr_ ?_
 refine wd_ [_, _, _, _, _, _, _, _, _, _, _, _, _] rfl kr_ ?_
 refine DN.then_normal (WC.region ?_)
 iterate 5 refine m_ rfl rfl ?_
 refine WL.rf rfl (Ent.func Tryz.call75 rfl) (rsum_reads p F L _ h0 hl hp F[i].name 1 (by omega)) sp_ ?_
 refine WL.y rfl (Yd.buildL (pl := [(0, 1), (1, 1), (2, 1)]) (zs := [.string ⟨#[]⟩, .int .i64 0, .int .i64 0]) (parts := [(0, .tmp 37), (1, .tmp 38), (2, .tmp 41)]) (vs := [(0, _), (1, _), (2, _)]) (cells := [_, _, _]) kr_ kr_ rfl rfl) ?_
 refine WL.h rfl (Hd.buildA (e := 71) (sz := 3) (zs := [.string ⟨#[]⟩, .int .i64 0, .int .i64 0]) kr_ kr_ kr_ rfl rfl (by rfl) kr_ fun b43 => ⟨_, rfl, ?_⟩)
 refine WL.h rfl (Hd.appendRow (e := 71) (sz := 3) (bytes := 32) (zs := [.string ⟨#[]⟩, .int .i64 0, .int .i64 0]) kr_ kr_ rfl (by omega) rfl rfl (ho) sp_ mem_ (by rfl) one_ (by simp only [maxLen]; omega) (by omega) fun v2 C2 h2 => ⟨_, rfl, ?_⟩)
 refine a_ rfl rfl (WL.nil (DN.block_normal (DN.then_normal (WC.region (m_ rfl rfl (WL.y rfl (Yd.add rfl rfl (by omega) (by omega)) ?_))))))
 refine a_ rfl rfl (WL.nil ?_)
 exact DN.againS (⟨i + 1, v2, C2⟩) (show (i + 1) ≤ F.length ∧ Own v2 (i + 1) (((vwU K F).take (i + 1)).flatMap cellsU) 71 3 C2 from ⟨by omega, by rw [List.take_succ_eq_append_getElem (by omega), List.flatMap_append, vwU_at K F i hlt]; simpa [cellsU, ← hs.1, ← hs.2.1, hs.2.2.1] using h2⟩) (show F.length - (i + 1) < F.length - i by omega) (Sx.put rfl (Sx.put rfl (sx_))) sp_
 obtain rfl : i = F.length := by omega
 rw [← hvl, List.take_length] at ho
 refine WC.exit (DN.then_exit (DN.then_exit (DN.block_exit (ts_ (WC.region (m_ rfl rfl (a_ rfl rfl (nt_ (WC.ret (DN.fit (C := Co ++ (row p [.slice fo F.length fc, .slice lo L.length lc] 151 :: (Cf ++ Cl))) sp_ ?_))))))))))
 exact DN.ret1 Tryz.results37 rfl (⟨Co, by rwa [hvl] at ho ⊢, rfl⟩)
theorem rauth_tells (p : Nat) (gs K F : List Au) (L : List Py) (C : List Ck) (h : RpAt 151 71 217 p F L C) (inv : PInv gs K L) (hF0 : ToldK Au.name sLt gs F) (hl : L.length ≤ 100000000) (o : BitVec 32) (nm : ByteArray) (n : Int) : Tells Tryz.prog 113 [.pointer (some ⟨p, 0, none⟩), .int .u32 o.toNat, .string nm, .int .i64 n] C fun r H' => r = .int .i64 (vdP (authB K L o nm n)) ∧ RpAt 151 71 217 p F (authLs K L o nm n) H' := by
 refine Tells.enter Tryz.func113 rfl Tryz.ntmps113 rfl ?_
 intro w0 R
 have hat := atK_spec (key := Py.o) L o
 have h0 := h
 obtain ⟨vf, vl, Cf, Cl, rfl, hF, hL⟩ := h
 obtain ⟨fo, fc, rfl, _⟩ := hF.form
 obtain ⟨lo, lc, rfl, _⟩ := hL.form
 have hFl := hF0.perm.length_eq
 have hfew := inv.few
 have hvl := vwU_len K F
 obtain ⟨G, hG⟩ : ∃ G, G = vwU K F := ⟨_, rfl⟩
 rw [← hG] at hvl
 refine sr_ (a_ rfl rfl (ntsr_ (m_ rfl rfl (m_ rfl rfl (WL.rf rfl (Ent.func Tryz.call139 rfl) (rat_reads p F L _ h0 hl o) sp_ ?_)))))
 refine a_ rfl rfl (nt_ (WC.seq (sr_ (m_ rfl rfl (WL.y rfl (Yd.eql32 _ (0#32) rfl rfl rfl rfl) (m_ rfl rfl (WL.partP (t := 17) rfl (fun hg17 => ?_) (fun hg17 => ?_))))))))
 refine gn_ 17 rfl rfl rfl rfl (gn_ 17 rfl rfl rfl rfl (WL.y rfl (Yd.pickT rfl rfl) (m_ rfl rfl (gn_ 21 rfl rfl rfl rfl (gn_ 21 rfl rfl rfl rfl (WL.y rfl (Yd.pickT rfl rfl) (nt_ (WC.yes rfl (sr_ (a_ rfl rfl (nt_ (WC.ret (DN.then_ret ?_)))))))))))))
 first | refine DN.fit (C := row p [.slice fo F.length fc, .slice zo (L.length + 1) zc] 151 :: (Cf ++ C2)) sp_ ?_ | refine DN.fit (C := row p [.slice fo F.length fc, .slice lo L.length lc] 151 :: (Cf ++ Cl)) sp_ ?_
 refine DN.ret1 Tryz.results113 rfl ?_
 rotate_left
 refine gy_ 17 rfl rfl rfl (Yd.move rfl) (gy_ 17 rfl rfl rfl (Yd.lss rfl rfl) (WL.y rfl (Yd.pickF rfl rfl) (m_ rfl rfl (WL.partP (t := 21) rfl (fun hg21 => ?_) (fun hg21 => ?_)))))
 refine gn_ 21 rfl rfl rfl rfl (gn_ 21 rfl rfl rfl rfl (WL.y rfl (Yd.pickT rfl rfl) (nt_ (WC.yes rfl (sr_ (a_ rfl rfl (nt_ (WC.ret (DN.then_ret ?_)))))))))
 first | refine DN.fit (C := row p [.slice fo F.length fc, .slice zo (L.length + 1) zc] 151 :: (Cf ++ C2)) sp_ ?_ | refine DN.fit (C := row p [.slice fo F.length fc, .slice lo L.length lc] 151 :: (Cf ++ Cl)) sp_ ?_
 refine DN.ret1 Tryz.results113 rfl ?_
 rotate_left
 refine gy_ 21 rfl rfl rfl (Yd.move rfl) (gy_ 21 rfl rfl rfl (Yd.geq rfl rfl) (WL.y rfl (Yd.pickF rfl rfl) (nt_ (WC.ite rfl (fun h24 => ?_) (fun h24 => ?_)))))
 refine sr_ (a_ rfl rfl (nt_ (WC.ret (DN.then_ret ?_))))
 first | refine DN.fit (C := row p [.slice fo F.length fc, .slice zo (L.length + 1) zc] 151 :: (Cf ++ C2)) sp_ ?_ | refine DN.fit (C := row p [.slice fo F.length fc, .slice lo L.length lc] 151 :: (Cf ++ Cl)) sp_ ?_
 refine DN.ret1 Tryz.results113 rfl ?_
 rotate_left
 have hnone : findK Py.o L o = none := by
   rcases hat with h | ⟨i, hi, h, _⟩
   · exact h.2
   omega
 refine WC.skip (ts_ (WC.region (m_ rfl rfl (WL.c rfl (Ent.func Tryz.call37 rfl) (raccs_tells p gs K F L _ h0 inv hF0 hl) (Sp.p sp_) ?_))))
 rintro qq C9 ⟨Cs, ho, rfl⟩
 rw [← hG] at ho
 obtain ⟨go, gc, rfl, _⟩ := ho.form
 refine a_ rfl rfl (nt_ (WC.seq (sr_ (a_ rfl rfl (nt_ (WC.block (WC.loopS (fun z : Nat => z ≤ G.length ∧ ∀ (j : Nat) (hj : j < G.length), j < z → ¬ (G[j].name = nm ∧ n ≤ G[j].money - G[j].held)) (fun z : Nat => [(11, .int .i64 (z : Int))]) (fun z : Nat => Cs ++ (row p [.slice fo F.length fc, .slice lo L.length lc] 151 :: (Cf ++ Cl))) (fun z : Nat => G.length - z) (0) (show 0 ≤ G.length ∧ ∀ (j : Nat) (hj : j < G.length), j < 0 → ¬ (G[j].name = nm ∧ n ≤ G[j].money - G[j].held) from ⟨Nat.zero_le _, fun j hj h => by omega⟩) (Sx.put rfl (sx_)) sp_ ?_)))))))
 rintro i hI
 replace hI : i ≤ G.length ∧ ∀ (j : Nat) (hj : j < G.length), j < i → ¬ (G[j].name = nm ∧ n ≤ G[j].money - G[j].held) := hI
 obtain ⟨hi, hno⟩ := hI
 change WC _ _ _ _ _ _ ([(11, .int .i64 (i : Int))] ++ _) (Cs ++ (row p [.slice fo F.length fc, .slice lo L.length lc] 151 :: (Cf ++ Cl)))
 refine WC.seq (sr_ (m_ rfl rfl (m_ rfl rfl (WL.y rfl (Yd.len (e := 71) kr_ rfl) ?_))))
 refine WL.y rfl (Yd.lss rfl rfl) (nt_ (WC.ite rfl (fun h30 => ?_) (fun h30 => ?_)))
 have hlt : i < G.length := by omega
 have hgm : 0 ≤ G[i].held ∧ G[i].held ≤ G[i].money ∧ G[i].money ≤ 1000000000 := by subst hG; exact vwU_mid inv hF0 hlt
 obtain ⟨ub, uf, us, uT, ufr, uex, rfl, _, hum, hus⟩ := ho.rs.lies (by omega)
 refine WC.skip (ts_ (WC.block (WC.seq (WC.draw 22 kr_ rfl ?_))))
 refine WAG.start (N := 22) rfl (wy_ 0 [] rfl (Yd.move rfl) kr_ ?_)
 refine wy_ 1 [] rfl (Yd.move rfl) kr_ ?_
 refine wy_ 2 [1, 0] rfl (Yd.indexAddr (e := 71) (s := 3) kr_ kr_ rfl rfl (by omega) (by omega)) kr_ ?_
 refine wy_ 3 [2] rfl (Yd.fieldAddr (k := 0) kr_ rfl) kr_ ?_
 refine wq_ (wf_ (i := 4) [3] rfl (QAt.rd Wt.none (Rd.load1 (v := .string G[i].name) (b := ub) (o := uf + (i : Int).toNat * 3 + 0) (cs := us) kr_ rfl (Gr.get gr_ hum) (cell_atP (L := G) cellsU_len hus (by omega) (by omega)))) kr_) kr_ ?_
 refine wy_ 5 [] rfl (Yd.move rfl) kr_ ?_
 refine wy_ 6 [5, 4] rfl (Yd.eqlS rfl rfl) kr_ ?_
 refine wy_ 7 [6] rfl (Yd.move rfl) kr_ ?_
 refine WAG.partP (fun hg40 => ?_) (fun hg40 => ?_)
 refine wg_ 8 [7] 40 rfl rfl (Yd.move rfl) kr_ ?_
 refine wg_ 9 [7] 40 rfl rfl (Yd.move rfl) kr_ ?_
 refine wg_ 10 [9, 8, 7] 40 rfl rfl (Yd.indexAddr (e := 71) (s := 3) kr_ kr_ rfl rfl (by omega) (by omega)) kr_ ?_
 refine wg_ 11 [10, 7] 40 rfl rfl (Yd.fieldAddr (k := 1) kr_ rfl) kr_ ?_
 refine wq_ (wf_ (i := 12) [11, 7] rfl (QAt.rd (Wt.yes (dj := 40) rfl rfl) (Rd.load1 (v := .int .i64 G[i].money) (b := ub) (o := uf + (i : Int).toNat * 3 + 1) (cs := us) kr_ rfl (Gr.get gr_ hum) (cell_atP (L := G) cellsU_len hus (by omega) (by omega)))) kr_) kr_ ?_
 refine wg_ 13 [7] 40 rfl rfl (Yd.move rfl) kr_ ?_
 refine wg_ 14 [7] 40 rfl rfl (Yd.move rfl) kr_ ?_
 refine wg_ 15 [14, 13, 7] 40 rfl rfl (Yd.indexAddr (e := 71) (s := 3) kr_ kr_ rfl rfl (by omega) (by omega)) kr_ ?_
 refine wg_ 16 [15, 7] 40 rfl rfl (Yd.fieldAddr (k := 2) kr_ rfl) kr_ ?_
 refine wq_ (wf_ (i := 17) [16, 7] rfl (QAt.rd (Wt.yes (dj := 40) rfl rfl) (Rd.load1 (v := .int .i64 G[i].held) (b := ub) (o := uf + (i : Int).toNat * 3 + 2) (cs := us) kr_ rfl (Gr.get gr_ hum) (cell_atP (L := G) cellsU_len hus (by omega) (by omega)))) kr_) kr_ ?_
 refine wg_ 18 [17, 12, 7] 40 rfl rfl (Yd.sub rfl rfl (by omega) (by omega)) kr_ ?_
 refine wg_ 19 [7] 40 rfl rfl (Yd.move rfl) kr_ ?_
 refine wg_ 20 [19, 18, 7] 40 rfl rfl (Yd.geq rfl rfl) kr_ ?_
 refine wy_ 21 [20, 7] rfl (Yd.pickT rfl rfl) kr_ ?_
 refine wd_ [_, _, _, _, _, _, _, _, _, _, _, _, _, _, _, _, _, _, _, _, _, _] rfl kr_ ?_
 refine DN.then_normal (WC.ite rfl (fun h54 => ?_) (fun h54 => ?_))
 have hb : authB K L o nm n = true := by subst hG; exact auth_found inv hF0 hg17 hg21 hnone hlt hg40 (by omega)
 have hK : authLs K L o nm n = L ++ [⟨o, nm, n, 1⟩] := (auth_yes hb).2
 refine sr_ (m_ rfl rfl (m_ rfl rfl (n_ rfl rfl (f_ 1 kr_ rfl rfl ?_))))
 refine d_ kr_ rfl mem_ (by rfl) rfl ?_
 iterate 3 refine m_ rfl rfl ?_
 refine WL.y rfl (Yd.buildL (pl := [(0, 1), (1, 1), (2, 1), (3, 1)]) (zs := [.int .u32 0, .string ⟨#[]⟩, .int .i64 0, .int .i64 0]) (parts := [(0, .tmp 60), (1, .tmp 61), (2, .tmp 62), (3, .const (.int .i64 1))]) (vs := [(0, _), (1, _), (2, _), (3, _)]) (cells := [_, _, _, _]) kr_ kr_ rfl rfl) ?_
 refine WL.h rfl (Hd.buildA (e := 217) (sz := 4) (zs := [.int .u32 0, .string ⟨#[]⟩, .int .i64 0, .int .i64 0]) kr_ kr_ kr_ rfl rfl (by rfl) kr_ fun b64 => ⟨_, rfl, ?_⟩)
 refine WL.h rfl (Hd.appendRow (e := 217) (sz := 4) (bytes := 40) (zs := [.int .u32 0, .string ⟨#[]⟩, .int .i64 0, .int .i64 0]) kr_ kr_ rfl (by omega) rfl rfl (hL) sp_ mem_ (by rfl) one_ (by simp only [maxLen]; omega) (by omega) fun v2 C2 h2 => ⟨_, rfl, ?_⟩)
 obtain ⟨zo, zc, rfl, _⟩ := h2.form
 refine n_ rfl rfl (f_ 1 kr_ rfl rfl ?_)
 refine WL.s (Hd.store1s kr_ rfl rfl (by rfl) fr_ (by rfl) (by first | (simp only [List.set_cons_zero, List.set_cons_succ, Nat.zero_add, Nat.add_zero, Nat.reduceAdd]; rfl) | rfl) ⟨rfl, ?_⟩)
 refine ntsr_ (a_ rfl rfl (nt_ (WC.ret (DN.block_ret (DN.then_ret (DN.then_ret (DN.block_ret (DN.then_ret ?_))))))))
 first | refine DN.fit (C := row p [.slice fo F.length fc, .slice zo (L.length + 1) zc] 151 :: (Cf ++ C2)) sp_ ?_ | refine DN.fit (C := row p [.slice fo F.length fc, .slice lo L.length lc] 151 :: (Cf ++ Cl)) sp_ ?_
 refine DN.ret1 Tryz.results113 rfl ?_
 rotate_left
 refine WC.skip (DN.block_normal (DN.then_normal (WC.region (m_ rfl rfl (WL.y rfl (Yd.add rfl rfl (by omega) (by omega)) ?_)))))
 refine a_ rfl rfl (WL.nil ?_)
 exact DN.againS (i + 1) (show (i + 1) ≤ G.length ∧ ∀ (j : Nat) (hj : j < G.length), j < (i + 1) → ¬ (G[j].name = nm ∧ n ≤ G[j].money - G[j].held) from ⟨by omega, fun j hj h => by
   rcases Nat.lt_or_ge j i with h5 | h5
   · exact hno j hj h5
   obtain rfl : j = i := by omega
   first | exact fun e => hg40 e.1 | exact fun e => h54 (by have := e.2; omega)⟩) (show G.length - (i + 1) < G.length - i by omega) (Sx.put rfl (sx_)) sp_
 refine wn_ 8 [7] 40 rfl rfl kr_ ?_
 refine wn_ 9 [7] 40 rfl rfl kr_ ?_
 refine wn_ 10 [9, 8, 7] 40 rfl rfl kr_ ?_
 refine wn_ 11 [10, 7] 40 rfl rfl kr_ ?_
 refine wn_ 12 [11, 7] 40 rfl rfl kr_ ?_
 refine wn_ 13 [7] 40 rfl rfl kr_ ?_
 refine wn_ 14 [7] 40 rfl rfl kr_ ?_
 refine wn_ 15 [14, 13, 7] 40 rfl rfl kr_ ?_
 refine wn_ 16 [15, 7] 40 rfl rfl kr_ ?_
 refine wn_ 17 [16, 7] 40 rfl rfl kr_ ?_
 refine wn_ 18 [17, 12, 7] 40 rfl rfl kr_ ?_
 refine wn_ 19 [7] 40 rfl rfl kr_ ?_
 refine wn_ 20 [19, 18, 7] 40 rfl rfl kr_ ?_
 refine wy_ 21 [20, 7] rfl (Yd.pickF rfl rfl) kr_ ?_
 refine wd_ [_, _, _, _, _, _, _, _, _, _, _, _, _, _, _, _, _, _, _, _, _, _] rfl kr_ ?_
 refine DN.then_normal (WC.no rfl (WC.skip (DN.block_normal (DN.then_normal (WC.region (m_ rfl rfl (WL.y rfl (Yd.add rfl rfl (by omega) (by omega)) ?_)))))))
 refine a_ rfl rfl (WL.nil ?_)
 exact DN.againS (i + 1) (show (i + 1) ≤ G.length ∧ ∀ (j : Nat) (hj : j < G.length), j < (i + 1) → ¬ (G[j].name = nm ∧ n ≤ G[j].money - G[j].held) from ⟨by omega, fun j hj h => by
   rcases Nat.lt_or_ge j i with h5 | h5
   · exact hno j hj h5
   obtain rfl : j = i := by omega
   first | exact fun e => hg40 e.1 | exact fun e => h54 (by have := e.2; omega)⟩) (show G.length - (i + 1) < G.length - i by omega) (Sx.put rfl (sx_)) sp_
 refine WC.exit (DN.then_exit (DN.then_exit (DN.block_exit (ts_ (WC.region (a_ rfl rfl (nt_ (WC.ret ?_))))))))
 first | refine DN.fit (C := row p [.slice fo F.length fc, .slice zo (L.length + 1) zc] 151 :: (Cf ++ C2)) sp_ ?_ | refine DN.fit (C := row p [.slice fo F.length fc, .slice lo L.length lc] 151 :: (Cf ++ Cl)) sp_ ?_
 refine DN.ret1 Tryz.results113 rfl ?_
 rotate_left
 all_goals
  first
    | (rw [hb, hK]
       exact ⟨rfl, _, _, Cf, C2, rfl, hF, by rw [List.flatMap_append, List.length_append]; exact h2⟩)
    | (have hb : authB K L o nm n = false := by
         first
         | (subst hG; exact auth_lost inv hF0 fun j hj => hno j hj (by omega))
         | (rw [Bool.eq_false_iff]
            intro e
            have hp := authB_parts e
            first
            | exact hp.1 hg17
            | exact absurd hp.2.1 (by omega)
            | (rcases hat with h | ⟨i, hi, h1, _, h2⟩
               · exact absurd h.1 (by omega)
               rw [hp.2.2.1] at h2; cases h2))
       rw [hb, (auth_no hb).2]
       exact ⟨rfl, h0⟩)
theorem rturn_tells (p : Nat) (gs K F : List Au) (L : List Py) (C : List Ck) (h : RpAt 151 71 217 p F L C) (inv : PInv gs K L) (hl : L.length ≤ 100000000) (o : BitVec 32) (s t : Int) : Tells Tryz.prog 110 [.pointer (some ⟨p, 0, none⟩), .int .u32 o.toNat, .int .i64 s, .int .i64 t] C fun r H' => r = .int .i64 (vdP (turnB L o s)) ∧ RpAt 151 71 217 p F (turnLs L o s t) H' := by
 refine Tells.enter Tryz.func110 rfl Tryz.ntmps110 rfl ?_
 intro w0 R
 have hat := atK_spec (key := Py.o) L o
 have h0 := h
 obtain ⟨vf, vl, Cf, Cl, rfl, hF, hL⟩ := h
 obtain ⟨fo, fc, rfl, _⟩ := hF.form
 obtain ⟨lo, lc, rfl, _⟩ := hL.form
 refine sr_ (a_ rfl rfl (ntsr_ (m_ rfl rfl (m_ rfl rfl (WL.rf rfl (Ent.func Tryz.call139 rfl) (rat_reads p F L _ h0 hl o) sp_ ?_)))))
 refine a_ rfl rfl (nt_ (WC.seq (sr_ (m_ rfl rfl (WL.y rfl (Yd.lss rfl rfl) (m_ rfl rfl (WL.partP (t := 15) rfl (fun hg15 => ?_) (fun hg15 => ?_))))))))
 iterate 10 refine gn_ 15 rfl rfl rfl rfl ?_
 refine WL.y rfl (Yd.pickT rfl rfl) (nt_ (WC.yes rfl (sr_ (a_ rfl rfl (nt_ (WC.ret (DN.then_ret ?_)))))))
 first | refine DN.fit (C := row p [.slice fo F.length fc, .slice lo L.length lc] 151 :: (Cf ++ [row bo ((L.flatMap cellsP).set ((q : Int).toNat * 4 + 3) (.int .i64 t) ++ extra) 217])) sp_ ?_ | skip
 refine DN.ret1 Tryz.results110 rfl ?_
 rotate_left
 obtain ⟨q, hq, haq, hoq, hfq⟩ : ∃ (i : Nat) (hi : i < L.length), atK Py.o L o = i ∧ o = L[i].o ∧ findK Py.o L o = some L[i] := by
   rcases hat with h | h
   · exact absurd h.1 (by omega)
   exact h
 rw [haq]
 obtain ⟨ub, uf, us, uT, ufr, uex, elo, _, hum, hus⟩ := hL.rs.lies (by omega)
 refine gy_ 15 rfl rfl rfl (Yd.move rfl) (gy_ 15 rfl rfl rfl (Yd.notNil rfl) (gy_ 15 rfl rfl rfl (Yd.fieldAddr (k := 1) kr_ rfl) ?_))
 refine WL.gh (dj := 15) rfl rfl rfl (Hd.load1 kr_ rfl mem_ (by rfl) ⟨_, rfl, ?_⟩)
 refine gy_ 15 rfl rfl rfl (Yd.move rfl) (gy_ 15 rfl rfl rfl (Yd.indexAddr (e := 217) (s := 4) (b := ub) (o := uf) (n := L.length) (c := lc) kr_ kr_ (congrArg (fun q => some (Value.slice q L.length lc)) elo) rfl (by omega) (by omega)) ?_)
 refine gy_ 15 rfl rfl rfl (Yd.fieldAddr (k := 3) kr_ rfl) ?_
 refine WL.gh (dj := 15) rfl rfl rfl (Hd.load1 (v := .int .i64 L[q].st) (b := ub) (o := uf + (q : Int).toNat * 4 + 3) (cs := us) kr_ rfl (Gr.get gr_ hum) (cell_atP (L := L) cellsP_len hus (by omega) (by omega)) ⟨_, rfl, ?_⟩)
 refine gy_ 15 rfl rfl rfl (Yd.move rfl) (gy_ 15 rfl rfl rfl (Yd.neq rfl rfl) (WL.y rfl (Yd.pickF rfl rfl) (nt_ (WC.ite rfl (fun h26 => ?_) (fun h26 => ?_)))))
 refine sr_ (a_ rfl rfl (nt_ (WC.ret (DN.then_ret ?_))))
 first | refine DN.fit (C := row p [.slice fo F.length fc, .slice lo L.length lc] 151 :: (Cf ++ [row bo ((L.flatMap cellsP).set ((q : Int).toNat * 4 + 3) (.int .i64 t) ++ extra) 217])) sp_ ?_ | skip
 refine DN.ret1 Tryz.results110 rfl ?_
 rotate_left
 have hst : L[q].st = s := Classical.byContradiction h26
 have hb : turnB L o s = true := by unfold turnB; rw [hfq]; simpa using hst
 have hTL : turnLs L o s t = L.set q ⟨L[q].o, L[q].name, L[q].n, t⟩ := by
   unfold turnLs
   rw [hfq]
   simp only [if_pos hst]
   exact put_set inv.keys hq t
 have hxl := hL.len
 obtain ⟨bo, extra, eso, hCl, hset, ho2⟩ := hL.set1 (by omega) ((q : Int).toNat * 4 + 3) (by omega) (.int .i64 t)
 subst hCl
 refine WC.skip (ts_ (WC.region (m_ rfl rfl (n_ rfl rfl (f_ 1 kr_ rfl rfl ?_)))))
 refine d_ kr_ rfl mem_ (by rfl) rfl ?_
 refine m_ rfl rfl (m_ rfl rfl (WL.y rfl (Yd.indexAddr (e := 217) (s := 4) (b := bo) (o := 0) (n := L.length) (c := lc) kr_ kr_ (congrArg (fun z => some (Value.slice z L.length lc)) eso) rfl (by omega) (by omega)) ?_))
 refine f_ 3 kr_ rfl rfl ?_
 refine WL.s (Hd.store1q (b := bo) (cs := L.flatMap cellsP ++ extra) (T' := 217) kr_ rfl rfl rfl fr_ (by rw [List.length_append]; omega) ((congrArg (fun z => (L.flatMap cellsP ++ extra).set z (Value.int .i64 t)) (Nat.add_assoc 0 _ 3)).trans hset) ⟨rfl, ?_⟩)
 refine ntsr_ (a_ rfl rfl (nt_ (WC.ret ?_)))
 first | refine DN.fit (C := row p [.slice fo F.length fc, .slice lo L.length lc] 151 :: (Cf ++ [row bo ((L.flatMap cellsP).set ((q : Int).toNat * 4 + 3) (.int .i64 t) ++ extra) 217])) sp_ ?_ | skip
 refine DN.ret1 Tryz.results110 rfl ?_
 rotate_left
 all_goals
  first
    | (rw [hb, hTL]
       refine ⟨rfl, _, _, Cf, _, rfl, hF, ?_⟩
       rw [← flat_set hq t, List.length_set]
       exact ho2)
    | (have hb : turnB L o s = false := by
         unfold turnB
         first
         | (rcases hat with h | ⟨i, hi, h, _⟩
            · rw [h.2]
            exfalso; omega)
         | (rw [hfq]; exact decide_eq_false h26)
       rw [hb, (turn_no (K := K) t 0 0 hb).2]
       exact ⟨rfl, h0⟩)
end Go.Proofs.YtkamlondepceiaaGreat.Pu

set_option linter.unusedVariables false
set_option linter.unusedSimpArgs false
set_option maxHeartbeats 4000000
namespace Go.Proofs.YtkamlondepceiaaGreat.Pu
open Go.SL
theorem rnew_tells (v : Value) (gs : List Au) (H : List Ck) (hv : Rs v gs.length (gs.flatMap cellsU) H) (hl : gs.length ≤ 9223372036854775807) : Tells Tryz.prog 67 [v] H fun r H' => (AccL gs ∧ ∃ p C F, r = .tuple #[.pointer (some ⟨p, 0, none⟩), .int .i64 0] ∧ RpAt 151 71 217 p F [] C ∧ ToldK Au.name sLt gs F ∧ H' = C ++ H) ∨ (¬ AccL gs ∧ r = .tuple #[.pointer none, .int .i64 2] ∧ H' = H) := by
 refine Tells.enter Tryz.func67 rfl Tryz.ntmps67 rfl ?_
 intro w0 R
 obtain ⟨vo, vc, rfl, hvc⟩ := hv.form
 refine sr_ (a_ rfl rfl (a_ rfl rfl (nt_ (WC.seq (sr_ (m_ rfl rfl (WL.y rfl (Yd.len (e := 71) kr_ rfl) ?_)))))))
 refine WL.y rfl (Yd.gtr rfl rfl) (nt_ (WC.ite rfl (fun h11 => ?_) (fun h11 => ?_)))
 refine sr_ (a_ rfl rfl (a_ rfl rfl (nt_ (WC.ret (DN.then_ret ?_)))))
 first | (have hlt2 : i < gs.length := hlt; refine DN.fit (C := H) sp_ ?_) | refine DN.fit (C := row b13 [.slice fo F.length fc, .slice none 0 0] 151 :: (Cf ++ H)) sp_ ?_ | skip
 refine DN.ret2 Tryz.results67 rfl rfl ?_
 rotate_left
 refine WC.skip (ts_ (WC.region (WL.y rfl (Yd.buildL (pl := [(0, 1), (1, 1)]) (zs := [.slice none 0 0, .slice none 0 0]) (parts := []) (vs := []) (cells := [.slice none 0 0, .slice none 0 0]) kr_ kr_ rfl rfl) ?_)))
 refine WL.h rfl (Hd.boxA rfl fun b13 => ⟨_, rfl, ?_⟩)
 refine a_ rfl rfl (nt_ (WC.seq (sr_ (a_ rfl rfl (nt_ (WC.block (WC.loopS (fun z : Nat × List Au × Value × List Ck => z.1 ≤ gs.length ∧ (∀ (j : Nat) (h : j < gs.length), j < z.1 → accB gs[j]) ∧ ((gs.take z.1).map Au.name).Nodup ∧ ToldK Au.name sLt (gs.take z.1) z.2.1 ∧ Own z.2.2.1 z.2.1.length (z.2.1.flatMap cellsU) 71 3 z.2.2.2) (fun z : Nat × List Au × Value × List Ck => [(5, .int .i64 (z.1 : Int))]) (fun z : Nat × List Au × Value × List Ck => row b13 [z.2.2.1, .slice none 0 0] 151 :: (z.2.2.2 ++ H)) (fun z : Nat × List Au × Value × List Ck => gs.length - z.1) (⟨0, [], .slice none 0 0, []⟩) (show 0 ≤ gs.length ∧ (∀ (j : Nat) (h : j < gs.length), j < 0 → accB gs[j]) ∧ ((gs.take 0).map Au.name).Nodup ∧ ToldK Au.name sLt (gs.take 0) [] ∧ Own (.slice none 0 0) [].length ([].flatMap cellsU) 71 3 [] from ⟨Nat.zero_le _, fun j h hj => by omega, by simp, ⟨by simp, List.Pairwise.nil⟩, Own.nil _ _⟩) (Sx.put rfl (sx_)) sp_ ?_)))))))
 rintro ⟨i, F, w, Cf⟩ hI
 replace hI : i ≤ gs.length ∧ (∀ (j : Nat) (h : j < gs.length), j < i → accB gs[j]) ∧ ((gs.take i).map Au.name).Nodup ∧ ToldK Au.name sLt (gs.take i) F ∧ Own w F.length (F.flatMap cellsU) 71 3 Cf := hI
 obtain ⟨hi, hgood, hnd, hT, hF⟩ := hI
 change WC _ _ _ _ _ _ ([(5, .int .i64 (i : Int))] ++ _) (row b13 [w, .slice none 0 0] 151 :: (Cf ++ H))
 obtain ⟨fo, fc, rfl, hfc⟩ := hF.form
 have hFl := hT.perm.length_eq
 rw [List.length_take] at hFl
 refine WC.seq (sr_ (m_ rfl rfl (m_ rfl rfl (WL.y rfl (Yd.len (e := 71) kr_ rfl) ?_))))
 refine WL.y rfl (Yd.lss rfl rfl) (nt_ (WC.ite rfl (fun h17 => ?_) (fun h17 => ?_)))
 have hlt : i < gs.length := by omega
 refine WC.skip (ts_ (WC.block (sr_ (m_ rfl rfl (m_ rfl rfl (WL.elemA (e := 71) (s := 3) kr_ kr_ kr_ rfl rfl (rfl) (hv.mono gr_) (flat_row cellsU 3 cellsU_len gs i hlt) (by rfl) (by omega) (hlt) rfl rfl ?_))))))
 intro p22
 refine WL.h rfl (Hd.alloc (zs := [.string ⟨#[]⟩, .int .i64 0, .int .i64 0]) kr_ fun b6 => ⟨_, rfl, ?_⟩)
 refine WL.s (Hd.storeAll (n := 3) kr_ rfl rfl (by rfl) one_ fr_ (by rfl) ⟨rfl, ?_⟩)
 refine nt_ (WC.seq (sr_ (f_ 0 kr_ rfl rfl ?_)))
 refine d_ kr_ rfl mem_ (by rfl) rfl ?_
 refine WL.y rfl (Yd.lenS Tryz.underlying9 rfl) (WL.y rfl (Yd.lss rfl rfl) (m_ rfl rfl (WL.partP (t := 28) rfl (fun hg28 => ?_) (fun hg28 => ?_))))
 iterate 4 refine gn_ 28 rfl rfl rfl rfl ?_
 refine WL.y rfl (Yd.pickT rfl rfl) (m_ rfl rfl ?_)
 iterate 3 refine gn_ 34 rfl rfl rfl rfl ?_
 refine WL.y rfl (Yd.pickT rfl rfl) (m_ rfl rfl ?_)
 iterate 3 refine gn_ 39 rfl rfl rfl rfl ?_
 refine WL.y rfl (Yd.pickT rfl rfl) (m_ rfl rfl ?_)
 iterate 3 refine gn_ 44 rfl rfl rfl rfl ?_
 refine WL.y rfl (Yd.pickT rfl rfl) (nt_ (WC.yes rfl (sr_ (a_ rfl rfl (a_ rfl rfl (nt_ (WC.ret (DN.then_ret (DN.block_ret (DN.then_ret (DN.then_ret (DN.block_ret (DN.then_ret ?_)))))))))))))
 first | (have hlt2 : i < gs.length := hlt; refine DN.fit (C := H) sp_ ?_) | refine DN.fit (C := row b13 [.slice fo F.length fc, .slice none 0 0] 151 :: (Cf ++ H)) sp_ ?_ | skip
 refine DN.ret2 Tryz.results67 rfl rfl ?_
 rotate_left
 refine gy_ 28 rfl rfl rfl (Yd.fieldAddr (k := 0) kr_ rfl) ?_
 refine WL.gh (dj := 28) rfl rfl rfl (Hd.load1 kr_ rfl mem_ (by rfl) ⟨_, rfl, ?_⟩)
 refine gy_ 28 rfl rfl rfl (Yd.lenS Tryz.underlying9 rfl) (gy_ 28 rfl rfl rfl (Yd.gtr rfl rfl) (WL.y rfl (Yd.pickF rfl rfl) (m_ rfl rfl (WL.partP (t := 34) rfl (fun hg34 => ?_) (fun hg34 => ?_)))))
 iterate 3 refine gn_ 34 rfl rfl rfl rfl ?_
 refine WL.y rfl (Yd.pickT rfl rfl) (m_ rfl rfl ?_)
 iterate 3 refine gn_ 39 rfl rfl rfl rfl ?_
 refine WL.y rfl (Yd.pickT rfl rfl) (m_ rfl rfl ?_)
 iterate 3 refine gn_ 44 rfl rfl rfl rfl ?_
 refine WL.y rfl (Yd.pickT rfl rfl) (nt_ (WC.yes rfl (sr_ (a_ rfl rfl (a_ rfl rfl (nt_ (WC.ret (DN.then_ret (DN.block_ret (DN.then_ret (DN.then_ret (DN.block_ret (DN.then_ret ?_)))))))))))))
 first | (have hlt2 : i < gs.length := hlt; refine DN.fit (C := H) sp_ ?_) | refine DN.fit (C := row b13 [.slice fo F.length fc, .slice none 0 0] 151 :: (Cf ++ H)) sp_ ?_ | skip
 refine DN.ret2 Tryz.results67 rfl rfl ?_
 rotate_left
 refine gy_ 34 rfl rfl rfl (Yd.fieldAddr (k := 1) kr_ rfl) ?_
 refine WL.gh (dj := 34) rfl rfl rfl (Hd.load1 kr_ rfl mem_ (by rfl) ⟨_, rfl, ?_⟩)
 refine gy_ 34 rfl rfl rfl (Yd.lss rfl rfl) (WL.y rfl (Yd.pickF rfl rfl) (m_ rfl rfl (WL.partP (t := 39) rfl (fun hg39 => ?_) (fun hg39 => ?_))))
 iterate 3 refine gn_ 39 rfl rfl rfl rfl ?_
 refine WL.y rfl (Yd.pickT rfl rfl) (m_ rfl rfl ?_)
 iterate 3 refine gn_ 44 rfl rfl rfl rfl ?_
 refine WL.y rfl (Yd.pickT rfl rfl) (nt_ (WC.yes rfl (sr_ (a_ rfl rfl (a_ rfl rfl (nt_ (WC.ret (DN.then_ret (DN.block_ret (DN.then_ret (DN.then_ret (DN.block_ret (DN.then_ret ?_)))))))))))))
 first | (have hlt2 : i < gs.length := hlt; refine DN.fit (C := H) sp_ ?_) | refine DN.fit (C := row b13 [.slice fo F.length fc, .slice none 0 0] 151 :: (Cf ++ H)) sp_ ?_ | skip
 refine DN.ret2 Tryz.results67 rfl rfl ?_
 rotate_left
 refine gy_ 39 rfl rfl rfl (Yd.fieldAddr (k := 1) kr_ rfl) ?_
 refine WL.gh (dj := 39) rfl rfl rfl (Hd.load1 kr_ rfl mem_ (by rfl) ⟨_, rfl, ?_⟩)
 refine gy_ 39 rfl rfl rfl (Yd.gtr rfl rfl) (WL.y rfl (Yd.pickF rfl rfl) (m_ rfl rfl (WL.partP (t := 44) rfl (fun hg44 => ?_) (fun hg44 => ?_))))
 iterate 3 refine gn_ 44 rfl rfl rfl rfl ?_
 refine WL.y rfl (Yd.pickT rfl rfl) (nt_ (WC.yes rfl (sr_ (a_ rfl rfl (a_ rfl rfl (nt_ (WC.ret (DN.then_ret (DN.block_ret (DN.then_ret (DN.then_ret (DN.block_ret (DN.then_ret ?_)))))))))))))
 first | (have hlt2 : i < gs.length := hlt; refine DN.fit (C := H) sp_ ?_) | refine DN.fit (C := row b13 [.slice fo F.length fc, .slice none 0 0] 151 :: (Cf ++ H)) sp_ ?_ | skip
 refine DN.ret2 Tryz.results67 rfl rfl ?_
 rotate_left
 refine gy_ 44 rfl rfl rfl (Yd.fieldAddr (k := 2) kr_ rfl) ?_
 refine WL.gh (dj := 44) rfl rfl rfl (Hd.load1 kr_ rfl mem_ (by rfl) ⟨_, rfl, ?_⟩)
 refine gy_ 44 rfl rfl rfl (Yd.neq rfl rfl) (WL.y rfl (Yd.pickF rfl rfl) (nt_ (WC.ite rfl (fun h48 => ?_) (fun h48 => ?_))))
 refine sr_ (a_ rfl rfl (a_ rfl rfl (nt_ (WC.ret (DN.then_ret (DN.block_ret (DN.then_ret (DN.then_ret (DN.block_ret (DN.then_ret ?_))))))))))
 first | (have hlt2 : i < gs.length := hlt; refine DN.fit (C := H) sp_ ?_) | refine DN.fit (C := row b13 [.slice fo F.length fc, .slice none 0 0] 151 :: (Cf ++ H)) sp_ ?_ | skip
 refine DN.ret2 Tryz.results67 rfl rfl ?_
 rotate_left
 have hgi : accB gs[i] := ⟨fun e => hg28 (by rw [e]; decide), by omega, by omega, by omega, by omega⟩
 refine WC.skip (ts_ (WC.region (a_ rfl rfl (ntsr_ (a_ rfl rfl (nt_ (WC.seq (WC.block (WC.loopS (fun z : Nat × Value × List Ck => z.1 ≤ F.length ∧ (∀ (j : Nat) (hj : j < F.length), j < z.1 → sLt F[j].name gs[i].name = true) ∧ Own z.2.1 z.1 ((F.take z.1).flatMap cellsU) 71 3 z.2.2) (fun z : Nat × Value × List Ck => [(8, .int .i64 (z.1 : Int)), (7, z.2.1)]) (fun z : Nat × Value × List Ck => z.2.2 ++ (row b6 (cellsU gs[i]) 71 :: (row b13 [.slice fo F.length fc, .slice none 0 0] 151 :: (Cf ++ H)))) (fun z : Nat × Value × List Ck => F.length - z.1) (⟨0, .slice none 0 0, []⟩) (show 0 ≤ F.length ∧ (∀ (j : Nat) (hj : j < F.length), j < 0 → sLt F[j].name gs[i].name = true) ∧ Own (.slice none 0 0) 0 ((F.take 0).flatMap cellsU) 71 3 [] from ⟨Nat.zero_le _, fun j hj h => by omega, by simpa using Own.nil 71 3⟩) (Sx.put rfl (Sx.put rfl (sx_))) sp_ ?_)))))))))
 rintro ⟨k, vm, Cm⟩ hI
 replace hI : k ≤ F.length ∧ (∀ (j : Nat) (hj : j < F.length), j < k → sLt F[j].name gs[i].name = true) ∧ Own vm k ((F.take k).flatMap cellsU) 71 3 Cm := hI
 obtain ⟨hk, hbelow, hm⟩ := hI
 change WC _ _ _ _ _ _ ([(8, .int .i64 (k : Int)), (7, vm)] ++ _) (Cm ++ (row b6 (cellsU gs[i]) 71 :: (row b13 [.slice fo F.length fc, .slice none 0 0] 151 :: (Cf ++ H))))
 obtain ⟨mo, mc, rfl, hmc⟩ := hm.form
 refine WC.seq (WC.cutK (fun z : Bool => z = true ↔ ∃ h : k < F.length, sLt F[k].name gs[i].name = true) (fun z : Bool => [(68, .bool z)]) (fun z : Bool => Cm ++ (row b6 (cellsU gs[i]) 71 :: (row b13 [.slice fo F.length fc, .slice none 0 0] 151 :: (Cf ++ H)))) ?_ ?_)
 refine WC.draw 20 kr_ rfl ?_
 refine WAG.start (N := 20) rfl (wy_ 0 [] rfl (Yd.move rfl) kr_ ?_)
 refine wy_ 1 [] rfl (Yd.move rfl) kr_ ?_
 refine wy_ 2 [1] rfl (Yd.notNil rfl) kr_ ?_
 refine wy_ 3 [2] rfl (Yd.fieldAddr (k := 0) kr_ rfl) kr_ ?_
 refine wq_ (wf_ (i := 4) [3] rfl (QAt.rd Wt.none (Rd.load1 kr_ rfl mem_ (by rfl))) kr_) kr_ ?_
 refine wy_ 5 [4] rfl (Yd.len (e := 71) kr_ rfl) kr_ ?_
 refine wy_ 6 [5, 0] rfl (Yd.lss rfl rfl) kr_ ?_
 refine wy_ 7 [6] rfl (Yd.move rfl) kr_ ?_
 refine WAG.partP (fun hg56 => ?_) (fun hg56 => ?_)
 refine wg_ 8 [7] 56 rfl rfl (Yd.move rfl) kr_ ?_
 refine wg_ 9 [8, 7] 56 rfl rfl (Yd.notNil rfl) kr_ ?_
 refine wg_ 10 [9, 7] 56 rfl rfl (Yd.fieldAddr (k := 0) kr_ rfl) kr_ ?_
 obtain ⟨tb, tf, ts, tT, tfr, tex, efo, _, htm, hts⟩ := hF.rs.lies (by omega)
 refine wq_ (wf_ (i := 11) [10, 7] rfl (QAt.rd (Wt.yes (dj := 56) rfl rfl) (Rd.load1 kr_ rfl mem_ (by rfl))) kr_) kr_ ?_
 refine wg_ 12 [7] 56 rfl rfl (Yd.move rfl) kr_ ?_
 refine wg_ 13 [12, 11, 7] 56 rfl rfl (Yd.indexAddr (e := 71) (s := 3) (b := tb) (o := tf) (n := F.length) (c := fc) kr_ kr_ (congrArg (fun q => some (Value.slice q F.length fc)) efo) rfl (by omega) (by omega)) kr_ ?_
 refine wg_ 14 [13, 7] 56 rfl rfl (Yd.fieldAddr (k := 0) kr_ rfl) kr_ ?_
 refine wq_ (wf_ (i := 15) [14, 7] rfl (QAt.rd (Wt.yes (dj := 56) rfl rfl) (Rd.load1 (v := .string F[k].name) (b := tb) (o := tf + (k : Int).toNat * 3 + 0) (cs := ts) kr_ rfl (Gr.get gr_ htm) (cell_atP (L := F) cellsU_len hts (by omega) (by omega)))) kr_) kr_ ?_
 refine wg_ 16 [7] 56 rfl rfl (Yd.fieldAddr (k := 0) kr_ rfl) kr_ ?_
 refine wq_ (wf_ (i := 17) [16, 7] rfl (QAt.rd (Wt.yes (dj := 56) rfl rfl) (Rd.load1 kr_ rfl mem_ (by rfl))) kr_) kr_ ?_
 refine wg_ 18 [17, 15, 7] 56 rfl rfl (Yd.lssS rfl rfl) kr_ ?_
 refine wy_ 19 [18, 7] rfl (Yd.pickT rfl rfl) kr_ ?_
 refine wd_ [_, _, _, _, _, _, _, _, _, _, _, _, _, _, _, _, _, _, _, _] rfl kr_ ?_
 exact DN.reachK (_) (by
   first
   | exact ⟨fun h => ⟨by omega, h⟩, fun ⟨_, h⟩ => h⟩
   | exact ⟨fun h => (by cases h), fun ⟨h, _⟩ => (by omega)⟩) (Sx.put rfl (sx_)) (Sp.all sp_)
 refine wn_ 8 [7] 56 rfl rfl kr_ ?_
 refine wn_ 9 [8, 7] 56 rfl rfl kr_ ?_
 refine wn_ 10 [9, 7] 56 rfl rfl kr_ ?_
 refine wn_ 11 [10, 7] 56 rfl rfl kr_ ?_
 refine wn_ 12 [7] 56 rfl rfl kr_ ?_
 refine wn_ 13 [12, 11, 7] 56 rfl rfl kr_ ?_
 refine wn_ 14 [13, 7] 56 rfl rfl kr_ ?_
 refine wn_ 15 [14, 7] 56 rfl rfl kr_ ?_
 refine wn_ 16 [7] 56 rfl rfl kr_ ?_
 refine wn_ 17 [16, 7] 56 rfl rfl kr_ ?_
 refine wn_ 18 [17, 15, 7] 56 rfl rfl kr_ ?_
 refine wy_ 19 [18, 7] rfl (Yd.pickF rfl rfl) kr_ ?_
 refine wd_ [_, _, _, _, _, _, _, _, _, _, _, _, _, _, _, _, _, _, _, _] rfl kr_ ?_
 exact DN.reachK (_) (by
   first
   | exact ⟨fun h => ⟨by omega, h⟩, fun ⟨_, h⟩ => h⟩
   | exact ⟨fun h => (by cases h), fun ⟨h, _⟩ => (by omega)⟩) (Sx.put rfl (sx_)) (Sp.all sp_)
 intro z68 hz68
 refine WC.cond rfl (fun h68 => ?_) (fun h68 => ?_)
 obtain ⟨hkl, hlow⟩ := hz68.1 h68
 obtain ⟨tb, tf, ts, tT, tfr, tex, efo, _, htm, hts⟩ := hF.rs.lies (by omega)
 refine WC.skip (DN.then_normal (WC.block (sr_ (m_ rfl rfl (m_ rfl rfl (n_ rfl rfl (f_ 0 kr_ rfl rfl ?_)))))))
 refine d_ kr_ rfl mem_ (by rfl) rfl ?_
 refine m_ rfl rfl (WL.y rfl (Yd.indexAddr (e := 71) (s := 3) (b := tb) (o := tf) (n := F.length) (c := fc) kr_ kr_ (congrArg (fun q => some (Value.slice q F.length fc)) efo) rfl (by omega) (by omega)) ?_)
 refine WL.h rfl (Hd.loadA (n := 3) (b := tb) (o := tf + (k : Int).toNat * 3) (cs := ts) (vs := cellsU F[k]) kr_ rfl (Gr.get gr_ htm) (cellsU_len _) (rs_cell hts (by rw [flat_len cellsU 3 cellsU_len]; omega) (flat_row cellsU 3 cellsU_len F k (by omega))) ⟨_, rfl, ?_⟩)
 refine WL.h rfl (Hd.buildA (e := 71) (sz := 3) (zs := [.string ⟨#[]⟩, .int .i64 0, .int .i64 0]) kr_ kr_ kr_ rfl rfl (by rfl) kr_ fun b77 => ⟨_, rfl, ?_⟩)
 refine WL.h rfl (Hd.appendRow (e := 71) (sz := 3) (bytes := 32) (zs := [.string ⟨#[]⟩, .int .i64 0, .int .i64 0]) kr_ kr_ rfl (by omega) rfl rfl (hm) sp_ mem_ (by rfl) one_ (by simp only [maxLen]; omega) (by omega) fun v2 C2 h2 => ⟨_, rfl, ?_⟩)
 refine a_ rfl rfl (ntr_ (m_ rfl rfl (WL.y rfl (Yd.add rfl rfl (by omega) (by omega)) ?_)))
 refine a_ rfl rfl (WL.nil (DN.block_normal ?_))
 exact DN.againS (⟨k + 1, v2, C2⟩) (show (k + 1) ≤ F.length ∧ (∀ (j : Nat) (hj : j < F.length), j < (k + 1) → sLt F[j].name gs[i].name = true) ∧ Own v2 (k + 1) ((F.take (k + 1)).flatMap cellsU) 71 3 C2 from ⟨by omega, fun j hj h => by
   rcases Nat.lt_or_ge j k with h5 | h5
   · exact hbelow j hj h5
   obtain rfl : j = k := by omega
   exact hlow, by rw [List.take_succ_eq_append_getElem hkl, List.flatMap_append]; simpa using h2⟩) (show F.length - (k + 1) < F.length - k by omega) (Sx.put rfl (Sx.put rfl (sx_))) sp_
 have hge : ∀ h : k < F.length, sLt F[k].name gs[i].name = false := fun h => by
   cases h2 : sLt F[k].name gs[i].name with
   | false => rfl
   | true => rw [hz68.2 ⟨h, h2⟩] at h68; cases h68
 refine WC.exit (DN.then_exit (DN.then_exit (DN.block_exit (ts_ (WC.cutK (fun z : Bool => z = true ↔ ∃ h : k < F.length, F[k].name = gs[i].name) (fun z : Bool => [(100, .bool z)]) (fun z : Bool => Cm ++ (row b6 (cellsU gs[i]) 71 :: (row b13 [.slice fo F.length fc, .slice none 0 0] 151 :: (Cf ++ H)))) ?_ ?_)))))
 refine WC.draw 20 kr_ rfl ?_
 refine WAG.start (N := 20) rfl (wy_ 0 [] rfl (Yd.move rfl) kr_ ?_)
 refine wy_ 1 [] rfl (Yd.move rfl) kr_ ?_
 refine wy_ 2 [1] rfl (Yd.notNil rfl) kr_ ?_
 refine wy_ 3 [2] rfl (Yd.fieldAddr (k := 0) kr_ rfl) kr_ ?_
 refine wq_ (wf_ (i := 4) [3] rfl (QAt.rd Wt.none (Rd.load1 kr_ rfl mem_ (by rfl))) kr_) kr_ ?_
 refine wy_ 5 [4] rfl (Yd.len (e := 71) kr_ rfl) kr_ ?_
 refine wy_ 6 [5, 0] rfl (Yd.lss rfl rfl) kr_ ?_
 refine wy_ 7 [6] rfl (Yd.move rfl) kr_ ?_
 refine WAG.partP (fun hg88 => ?_) (fun hg88 => ?_)
 refine wg_ 8 [7] 88 rfl rfl (Yd.move rfl) kr_ ?_
 refine wg_ 9 [8, 7] 88 rfl rfl (Yd.notNil rfl) kr_ ?_
 refine wg_ 10 [9, 7] 88 rfl rfl (Yd.fieldAddr (k := 0) kr_ rfl) kr_ ?_
 obtain ⟨tb, tf, ts, tT, tfr, tex, efo, _, htm, hts⟩ := hF.rs.lies (by omega)
 refine wq_ (wf_ (i := 11) [10, 7] rfl (QAt.rd (Wt.yes (dj := 88) rfl rfl) (Rd.load1 kr_ rfl mem_ (by rfl))) kr_) kr_ ?_
 refine wg_ 12 [7] 88 rfl rfl (Yd.move rfl) kr_ ?_
 refine wg_ 13 [12, 11, 7] 88 rfl rfl (Yd.indexAddr (e := 71) (s := 3) (b := tb) (o := tf) (n := F.length) (c := fc) kr_ kr_ (congrArg (fun q => some (Value.slice q F.length fc)) efo) rfl (by omega) (by omega)) kr_ ?_
 refine wg_ 14 [13, 7] 88 rfl rfl (Yd.fieldAddr (k := 0) kr_ rfl) kr_ ?_
 refine wq_ (wf_ (i := 15) [14, 7] rfl (QAt.rd (Wt.yes (dj := 88) rfl rfl) (Rd.load1 (v := .string F[k].name) (b := tb) (o := tf + (k : Int).toNat * 3 + 0) (cs := ts) kr_ rfl (Gr.get gr_ htm) (cell_atP (L := F) cellsU_len hts (by omega) (by omega)))) kr_) kr_ ?_
 refine wg_ 16 [7] 88 rfl rfl (Yd.fieldAddr (k := 0) kr_ rfl) kr_ ?_
 refine wq_ (wf_ (i := 17) [16, 7] rfl (QAt.rd (Wt.yes (dj := 88) rfl rfl) (Rd.load1 kr_ rfl mem_ (by rfl))) kr_) kr_ ?_
 refine wg_ 18 [17, 15, 7] 88 rfl rfl (Yd.eqlS rfl rfl) kr_ ?_
 refine wy_ 19 [18, 7] rfl (Yd.pickT rfl rfl) kr_ ?_
 refine wd_ [_, _, _, _, _, _, _, _, _, _, _, _, _, _, _, _, _, _, _, _] rfl kr_ ?_
 exact DN.reachK (_) (by
   first
   | (rw [decide_eq_true_eq]; exact ⟨fun h => ⟨by omega, h⟩, fun ⟨_, h⟩ => h⟩)
   | exact ⟨fun h => (by cases h), fun ⟨h, _⟩ => (by omega)⟩) (Sx.put rfl (sx_)) (Sp.all sp_)
 refine wn_ 8 [7] 88 rfl rfl kr_ ?_
 refine wn_ 9 [8, 7] 88 rfl rfl kr_ ?_
 refine wn_ 10 [9, 7] 88 rfl rfl kr_ ?_
 refine wn_ 11 [10, 7] 88 rfl rfl kr_ ?_
 refine wn_ 12 [7] 88 rfl rfl kr_ ?_
 refine wn_ 13 [12, 11, 7] 88 rfl rfl kr_ ?_
 refine wn_ 14 [13, 7] 88 rfl rfl kr_ ?_
 refine wn_ 15 [14, 7] 88 rfl rfl kr_ ?_
 refine wn_ 16 [7] 88 rfl rfl kr_ ?_
 refine wn_ 17 [16, 7] 88 rfl rfl kr_ ?_
 refine wn_ 18 [17, 15, 7] 88 rfl rfl kr_ ?_
 refine wy_ 19 [18, 7] rfl (Yd.pickF rfl rfl) kr_ ?_
 refine wd_ [_, _, _, _, _, _, _, _, _, _, _, _, _, _, _, _, _, _, _, _] rfl kr_ ?_
 exact DN.reachK (_) (by
   first
   | (rw [decide_eq_true_eq]; exact ⟨fun h => ⟨by omega, h⟩, fun ⟨_, h⟩ => h⟩)
   | exact ⟨fun h => (by cases h), fun ⟨h, _⟩ => (by omega)⟩) (Sx.put rfl (sx_)) (Sp.all sp_)
 intro z100 hz100
 refine WC.cond rfl (fun h100 => ?_) (fun h100 => ?_)
 obtain ⟨hkl, hsame⟩ := hz100.1 h100
 have htw : (findK Au.name (gs.take i) gs[i].name).isSome = true := by
   rw [← hsame, findK_of hnd (hT.perm.mem_iff.1 (List.getElem_mem hkl))]; rfl
 refine sr_ (a_ rfl rfl (a_ rfl rfl (nt_ (WC.ret (DN.then_ret (DN.block_ret (DN.then_ret (DN.then_ret (DN.block_ret (DN.then_ret ?_))))))))))
 first | (have hlt2 : i < gs.length := hlt; refine DN.fit (C := H) sp_ ?_) | refine DN.fit (C := row b13 [.slice fo F.length fc, .slice none 0 0] 151 :: (Cf ++ H)) sp_ ?_ | skip
 refine DN.ret2 Tryz.results67 rfl rfl ?_
 rotate_left
 have hne : ∀ h : k < F.length, F[k].name ≠ gs[i].name := fun h h2 => by rw [hz100.2 ⟨h, h2⟩] at h100; cases h100
 refine WC.skip (ts_ (WC.region (m_ rfl rfl (WL.h rfl (Hd.loadAll (n := 3) kr_ rfl mem_ (by rfl) ⟨_, rfl, ?_⟩)))))
 refine WL.h rfl (Hd.buildA (e := 71) (sz := 3) (zs := [.string ⟨#[]⟩, .int .i64 0, .int .i64 0]) kr_ kr_ kr_ rfl rfl (by rfl) kr_ fun b103 => ⟨_, rfl, ?_⟩)
 refine WL.h rfl (Hd.appendRow (e := 71) (sz := 3) (bytes := 32) (zs := [.string ⟨#[]⟩, .int .i64 0, .int .i64 0]) kr_ kr_ rfl (by omega) rfl rfl (hm) sp_ mem_ (by rfl) one_ (by simp only [maxLen]; omega) (by omega) fun v3 C3 h3 => ⟨_, rfl, ?_⟩)
 refine a_ rfl rfl (ntsr_ (m_ rfl rfl (m_ rfl rfl (n_ rfl rfl (f_ 0 kr_ rfl rfl ?_)))))
 refine d_ kr_ rfl mem_ (by rfl) rfl ?_
 refine m_ rfl rfl (WL.y rfl (Yd.slice (e := 71) (s := 3) (i := k) (j := F.length) kr_ kr_ rfl ⟨_, _, rfl, rfl⟩ rfl hk hfc) ?_)
 refine WL.h rfl (Hd.appendF (e := 71) (sz := 3) (bytes := 32) (zs := [.string ⟨#[]⟩, .int .i64 0, .int .i64 0]) kr_ kr_ rfl (by omega) rfl rfl h3 sp_ ((hF.rs.sub (by rw [flat_len cellsU 3 cellsU_len]) hk (Nat.le_refl _)).mono gr_) (by rw [List.length_take, List.length_drop, flat_len cellsU 3 cellsU_len]; omega) (one_partE cellsU cellsU_one F _ _) (by simp only [maxLen]; omega) (by omega) fun v4 C4 h4 => ⟨_, rfl, ?_⟩)
 refine a_ rfl rfl (ntr_ ?_)
 obtain ⟨zo, zc, rfl, _⟩ := h4.form
 refine m_ rfl rfl (m_ rfl rfl (n_ rfl rfl (f_ 0 kr_ rfl rfl ?_)))
 refine WL.s (Hd.store1s kr_ rfl rfl (by rfl) fr_ (by rfl) (by first | (simp only [List.set_cons_zero, List.set_cons_succ, Nat.zero_add, Nat.add_zero, Nat.reduceAdd]; rfl) | rfl) ⟨rfl, ?_⟩)
 refine WL.nil (DN.block_normal (DN.then_normal (WC.region (m_ rfl rfl (WL.y rfl (Yd.add rfl rfl (by omega) (by omega)) ?_)))))
 refine a_ rfl rfl (WL.nil ?_)
 exact DN.againS (⟨i + 1, F.take k ++ gs[i] :: F.drop k, .slice zo (k + 1 + (F.length - k)) zc, C4⟩) (show (i + 1) ≤ gs.length ∧ (∀ (j : Nat) (h : j < gs.length), j < (i + 1) → accB gs[j]) ∧ ((gs.take (i + 1)).map Au.name).Nodup ∧ ToldK Au.name sLt (gs.take (i + 1)) (F.take k ++ gs[i] :: F.drop k) ∧ Own (.slice zo (k + 1 + (F.length - k)) zc) (F.take k ++ gs[i] :: F.drop k).length ((F.take k ++ gs[i] :: F.drop k).flatMap cellsU) 71 3 C4 from ⟨by omega, fun j h hj => by
   rcases Nat.lt_or_ge j i with h5 | h5
   · exact hgood j h h5
   obtain rfl : j = i := by omega
   exact hgi, by rw [List.take_succ_eq_append_getElem hlt]; exact once_moreU hnd (hT.free (lt := sLt) (fun _ _ _ => sLt_trans) sLt_irrefl sLt_tri hnd gs[i].name hk hbelow hge hne), hT.put (lt := sLt) (fun _ _ _ => sLt_trans) sLt_irrefl sLt_tri hlt hk hbelow hge, by rw [← put_flatE cellsU 3 cellsU_len]; have e : (F.take k ++ gs[i] :: F.drop k).length = k + 1 + (F.length - k) := (by rw [List.length_append, List.length_cons, List.length_take, List.length_drop]; omega); rw [e]; exact h4⟩) (show gs.length - (i + 1) < gs.length - i by omega) (Sx.put rfl (sx_)) sp_
 obtain rfl : i = gs.length := by omega
 rw [List.take_length] at hnd hT
 refine WC.exit (DN.then_exit (DN.then_exit (DN.block_exit (ts_ (WC.region (m_ rfl rfl (a_ rfl rfl (a_ rfl rfl (nt_ (WC.ret ?_))))))))))
 first | (have hlt2 : i < gs.length := hlt; refine DN.fit (C := H) sp_ ?_) | refine DN.fit (C := row b13 [.slice fo F.length fc, .slice none 0 0] 151 :: (Cf ++ H)) sp_ ?_ | skip
 refine DN.ret2 Tryz.results67 rfl rfl ?_
 rotate_left
 all_goals
  first
    | exact .inr ⟨fun hG => by have := hG.1; omega, rfl, rfl⟩
    | exact .inr ⟨fun hG => (twice_noU hlt htw) hG.2.1, rfl, rfl⟩
    | exact .inr ⟨fun hG => (hG.2.2 gs[i] (List.getElem_mem hlt)).1 (ByteArray.ext (Array.eq_empty_of_size_eq_zero (by have : gs[i].name.size = 0 := (by omega); exact this))), rfl, rfl⟩
    | exact .inr ⟨fun hG => by have := (hG.2.2 gs[i] (List.getElem_mem hlt)).2; omega, rfl, rfl⟩
    | exact .inl ⟨⟨by omega, hnd, fun g hm => by obtain ⟨j, hj, rfl⟩ := List.getElem_of_mem hm; exact hgood j hj hj⟩, b13, row b13 [.slice fo F.length fc, .slice none 0 0] 151 :: (Cf ++ []), F, rfl, ⟨_, _, Cf, [], rfl, hF, Own.nil _ _⟩, hT, by simp⟩
end Go.Proofs.YtkamlondepceiaaGreat.Pu

set_option linter.unusedVariables false
set_option linter.unusedSimpArgs false
set_option maxHeartbeats 4000000
namespace Go.Proofs.YtkamlondepceiaaGreat.Do
open Go.SL
theorem rat_reads (p : Nat) (fs : List Int) (L : List Bk) (C : List Ck) (h : RfAt 155 3 157 p fs L C) (hl : L.length ≤ 100000000) (o : BitVec 32) : Reads Tryz.prog 140 [.pointer (some ⟨p, 0, none⟩), .int .u32 o.toNat] C (.int .i64 (atOf L o)) := by
 refine Tells.enter Tryz.func140 rfl Tryz.ntmps140 rfl ?_
 intro w0 R
 obtain ⟨vf, vl, Cf, Cl, rfl, hf, hL⟩ := h
 obtain ⟨fo, fc, rfl, hfc⟩ := hf.form
 obtain ⟨lo, lc, rfl, hlc⟩ := hL.form
 refine sr_ (a_ rfl rfl (nt_ (WC.seq (sr_ (a_ rfl rfl (nt_ (WC.block (WC.loopS (fun z : Nat => z ≤ L.length ∧ ∀ (j : Nat) (hj : j < L.length), j < z → ¬ o = L[j].o) (fun z : Nat => [(5, .int .i64 (z : Int))]) (fun z : Nat => row p [.slice fo fs.length fc, .slice lo L.length lc] 155 :: (Cf ++ Cl)) (fun z : Nat => L.length - z) (0) (show 0 ≤ L.length ∧ ∀ (j : Nat) (hj : j < L.length), j < 0 → ¬ o = L[j].o from ⟨Nat.zero_le _, fun j hj h => by omega⟩) (Sx.put rfl (sx_)) sp_ ?_))))))))
 rintro i hI
 replace hI : i ≤ L.length ∧ ∀ (j : Nat) (hj : j < L.length), j < i → ¬ o = L[j].o := hI
 obtain ⟨hi, hno⟩ := hI
 change WC _ _ _ _ _ _ ([(5, .int .i64 (i : Int))] ++ _) (row p [.slice fo fs.length fc, .slice lo L.length lc] 155 :: (Cf ++ Cl))
 refine WC.seq (sr_ (m_ rfl rfl (m_ rfl rfl (n_ rfl rfl (f_ 1 kr_ rfl rfl ?_)))))
 refine d_ kr_ rfl mem_ (by rfl) rfl ?_
 refine WL.y rfl (Yd.len (e := 157) kr_ rfl) ?_
 refine WL.y rfl (Yd.lss rfl rfl) (nt_ (WC.ite rfl (fun h12 => ?_) (fun h12 => ?_)))
 have hlt : i < L.length := by omega
 obtain ⟨lb, lf, lcs, lT, lfr, lex, rfl, _, hlm, hlcs⟩ := hL.rs.lies (by omega)
 refine WC.skip (ts_ (WC.block (sr_ (m_ rfl rfl (n_ rfl rfl (f_ 1 kr_ rfl rfl ?_))))))
 refine d_ kr_ rfl mem_ (by rfl) rfl ?_
 refine m_ rfl rfl (WL.y rfl (Yd.indexAddr (e := 157) (s := 3) kr_ kr_ rfl rfl (by omega) (by omega)) ?_)
 refine f_ 0 kr_ rfl rfl ?_
 refine WL.h rfl (Hd.load1 (v := .int .u32 L[i].o.toNat) (b := lb) (o := lf + (i : Int).toNat * 3 + 0) (cs := lcs) kr_ rfl (Gr.get gr_ hlm) (bk_rs hlcs (by omega) (by omega)) ⟨_, rfl, ?_⟩)
 refine m_ rfl rfl (WL.y rfl (Yd.eql32 _ _ rfl rfl rfl rfl) (nt_ (WC.ite rfl (fun h24 => ?_) (fun h24 => ?_))))
 exact sr_ (m_ rfl rfl (a_ rfl rfl (nt_ (WC.ret (DN.block_ret (DN.then_ret (DN.then_ret (DN.block_ret (DN.then_ret (DN.ret1 Tryz.results140 rfl (⟨by rw [at_yes L o i hlt h24.symm hno], rfl⟩)))))))))))
 refine WC.skip (DN.block_normal (DN.then_normal (WC.region (m_ rfl rfl (WL.y rfl (Yd.add rfl rfl (by omega) (by omega)) ?_)))))
 refine a_ rfl rfl (WL.nil ?_)
 exact DN.againS (i + 1) (show (i + 1) ≤ L.length ∧ ∀ (j : Nat) (hj : j < L.length), j < (i + 1) → ¬ o = L[j].o from ⟨by omega, fun j hj h => by
   rcases Nat.lt_or_ge j i with h5 | h5
   · exact hno j hj h5
   obtain rfl : j = i := by omega
   exact fun e => h24 e.symm⟩) (show L.length - (i + 1) < L.length - i by omega) (Sx.put rfl (sx_)) sp_
 exact WC.exit (DN.then_exit (DN.then_exit (DN.block_exit (ts_ (WC.region (a_ rfl rfl (nt_ (WC.ret (DN.ret1 Tryz.results140 rfl (⟨by rw [at_no L o fun j hj => hno j hj (by omega)], rfl⟩))))))))))
theorem rroom_reads (p : Nat) (fs rs : List Int) (L : List Bk) (C : List Ck) (h : RfAt 155 3 157 p fs L C) (inv : DInv fs rs L) (day : Int) : Reads Tryz.prog 38 [.pointer (some ⟨p, 0, none⟩), .int .i64 day] C (.int .i64 (roomOf rs day)) := by
 refine Tells.enter Tryz.func38 rfl Tryz.ntmps38 rfl ?_
 intro w0 R
 obtain ⟨vf, vl, Cf, Cl, rfl, hf, hL⟩ := h
 obtain ⟨fo, fc, rfl, hfc⟩ := hf.form
 obtain ⟨lo, lc, rfl, hlc⟩ := hL.form
 have hmany := inv.many
 have hlen := inv.len
 have hfew := inv.few
 refine sr_ (a_ rfl rfl (nt_ (WC.seq (sr_ (m_ rfl rfl (WL.y rfl (Yd.lss rfl rfl) (m_ rfl rfl (WL.partP (t := 9) rfl (fun hg9 => ?_) (fun hg9 => ?_)))))))))
 iterate 7 refine gn_ 9 rfl rfl rfl rfl ?_
 refine WL.y rfl (Yd.pickT rfl rfl) (nt_ (WC.yes rfl (sr_ (a_ rfl rfl (nt_ (WC.ret (DN.then_ret (DN.ret1 Tryz.results38 rfl ?_))))))))
 first
   | exact ⟨by rw [roomOf, if_neg (by omega)], rfl⟩
   | exact ⟨by rw [roomOf, if_pos (by omega), Int.toNat_natCast]; have := (inv.sums d).2; congr 1; omega, rfl⟩
 refine gy_ 9 rfl rfl rfl (Yd.move rfl) (gy_ 9 rfl rfl rfl (Yd.move rfl) (gy_ 9 rfl rfl rfl (Yd.notNil rfl) (gy_ 9 rfl rfl rfl (Yd.fieldAddr (k := 0) kr_ rfl) ?_)))
 refine WL.gh (dj := 9) rfl rfl rfl (Hd.load1 kr_ rfl mem_ (by rfl) ⟨_, rfl, ?_⟩)
 refine gy_ 9 rfl rfl rfl (Yd.len (e := 3) kr_ rfl) ?_
 refine gy_ 9 rfl rfl rfl (Yd.geq rfl rfl) (WL.y rfl (Yd.pickF rfl rfl) (nt_ (WC.ite rfl (fun h17 => ?_) (fun h17 => ?_))))
 refine sr_ (a_ rfl rfl (nt_ (WC.ret (DN.then_ret (DN.ret1 Tryz.results38 rfl ?_)))))
 first
   | exact ⟨by rw [roomOf, if_neg (by omega)], rfl⟩
   | exact ⟨by rw [roomOf, if_pos (by omega), Int.toNat_natCast]; have := (inv.sums d).2; congr 1; omega, rfl⟩
 obtain ⟨d, rfl⟩ : ∃ d : Nat, day = (d : Int) := ⟨day.toNat, by omega⟩
 have hd : d < fs.length := by omega
 refine WC.skip (ts_ (WC.region (m_ rfl rfl (n_ rfl rfl (f_ 0 kr_ rfl rfl ?_)))))
 refine d_ kr_ rfl mem_ (by rfl) rfl ?_
 refine m_ rfl rfl (WL.elem (e := 3) kr_ kr_ kr_ rfl rfl (rfl) (hf.rs.mono gr_) (ic_getD hd) (hd) rfl rfl ?_)
 intro _
 refine a_ rfl rfl (nt_ (WC.seq (sr_ (a_ rfl rfl (nt_ (WC.block (WC.loopS (fun z : Nat × Int => z.1 ≤ L.length ∧ z.2 = fs.getD d 0 - sumDay (L.take z.1) d) (fun z : Nat × Int => [(6, .int .i64 (z.1 : Int)), (5, .int .i64 z.2)]) (fun z : Nat × Int => row p [.slice fo fs.length fc, .slice lo L.length lc] 155 :: (Cf ++ Cl)) (fun z : Nat × Int => L.length - z.1) (⟨0, fs.getD d 0⟩) (show 0 ≤ L.length ∧ (fs.getD d 0) = fs.getD d 0 - sumDay (L.take 0) d from ⟨Nat.zero_le _, by simp [sumDay]⟩) (Sx.put rfl (Sx.put rfl (sx_))) sp_ ?_)))))))
 rintro ⟨i, z⟩ hI
 replace hI : i ≤ L.length ∧ z = fs.getD d 0 - sumDay (L.take i) d := hI
 obtain ⟨hi, hz⟩ := hI
 change WC _ _ _ _ _ _ ([(6, .int .i64 (i : Int)), (5, .int .i64 z)] ++ _) (row p [.slice fo fs.length fc, .slice lo L.length lc] 155 :: (Cf ++ Cl))
 refine WC.seq (sr_ (m_ rfl rfl (m_ rfl rfl (n_ rfl rfl (f_ 1 kr_ rfl rfl ?_)))))
 refine d_ kr_ rfl mem_ (by rfl) rfl ?_
 refine WL.y rfl (Yd.len (e := 157) kr_ rfl) ?_
 refine WL.y rfl (Yd.lss rfl rfl) (nt_ (WC.ite rfl (fun h31 => ?_) (fun h31 => ?_)))
 have hlt : i < L.length := by omega
 obtain ⟨hm1, hm2, hm3, hm4, hm5, hm6, hm7, hm8, hm9⟩ := sumDay_mid inv d hd i hlt
 obtain ⟨lb, lf, lcs, lT, lfr, lex, rfl, _, hlm, hlcs⟩ := hL.rs.lies (by omega)
 refine WC.skip (ts_ (WC.block (sr_ (m_ rfl rfl (n_ rfl rfl (f_ 1 kr_ rfl rfl ?_))))))
 refine d_ kr_ rfl mem_ (by rfl) rfl ?_
 refine m_ rfl rfl (WL.y rfl (Yd.indexAddr (e := 157) (s := 3) kr_ kr_ rfl rfl (by omega) (by omega)) ?_)
 refine f_ 1 kr_ rfl rfl ?_
 refine WL.h rfl (Hd.load1 (v := .int .i64 L[i].day) (b := lb) (o := lf + (i : Int).toNat * 3 + 1) (cs := lcs) kr_ rfl (Gr.get gr_ hlm) (bk_rs hlcs (by omega) (by omega)) ⟨_, rfl, ?_⟩)
 refine m_ rfl rfl (WL.y rfl (Yd.eql rfl rfl) (nt_ (WC.ite rfl (fun h43 => ?_) (fun h43 => ?_))))
 rw [if_pos (by omega)] at hm9
 refine WC.region (m_ rfl rfl (m_ rfl rfl (n_ rfl rfl (f_ 1 kr_ rfl rfl ?_))))
 refine d_ kr_ rfl mem_ (by rfl) rfl ?_
 refine m_ rfl rfl (WL.y rfl (Yd.indexAddr (e := 157) (s := 3) kr_ kr_ rfl rfl (by omega) (by omega)) ?_)
 refine f_ 2 kr_ rfl rfl ?_
 refine WL.h rfl (Hd.load1 (v := .int .i64 L[i].n) (b := lb) (o := lf + (i : Int).toNat * 3 + 2) (cs := lcs) kr_ rfl (Gr.get gr_ hlm) (bk_rs hlcs (by omega) (by omega)) ⟨_, rfl, ?_⟩)
 refine WL.y rfl (Yd.sub rfl rfl (by omega) (by omega)) ?_
 refine a_ rfl rfl (WL.nil (DN.block_normal (DN.then_normal (WC.region (m_ rfl rfl (WL.y rfl (Yd.add rfl rfl (by omega) (by omega)) ?_))))))
 refine a_ rfl rfl (WL.nil ?_)
 exact DN.againS (⟨i + 1, z - L[i].n⟩) (show (i + 1) ≤ L.length ∧ (z - L[i].n) = fs.getD d 0 - sumDay (L.take (i + 1)) d from ⟨by omega, by rw [hm9]; omega⟩) (show L.length - (i + 1) < L.length - i by omega) (Sx.put rfl (Sx.put rfl (sx_))) sp_
 rw [if_neg (by omega)] at hm9
 refine WC.skip (DN.block_normal (DN.then_normal (WC.region (m_ rfl rfl (WL.y rfl (Yd.add rfl rfl (by omega) (by omega)) ?_)))))
 refine a_ rfl rfl (WL.nil ?_)
 exact DN.againS (⟨i + 1, z⟩) (show (i + 1) ≤ L.length ∧ z = fs.getD d 0 - sumDay (L.take (i + 1)) d from ⟨by omega, by rw [hm9]; omega⟩) (show L.length - (i + 1) < L.length - i by omega) (Sx.put rfl (Sx.put rfl (sx_))) sp_
 obtain rfl : i = L.length := by omega
 rw [List.take_length] at hz
 refine WC.exit (DN.then_exit (DN.then_exit (DN.block_exit (ts_ (WC.region (m_ rfl rfl (a_ rfl rfl (nt_ (WC.ret (DN.ret1 Tryz.results38 rfl ?_))))))))))
 first
   | exact ⟨by rw [roomOf, if_neg (by omega)], rfl⟩
   | exact ⟨by rw [roomOf, if_pos (by omega), Int.toNat_natCast]; have := (inv.sums d).2; congr 1; omega, rfl⟩
theorem rbook_tells (p : Nat) (fs rs : List Int) (L : List Bk) (C : List Ck) (h : RfAt 155 3 157 p fs L C) (inv : DInv fs rs L) (o : BitVec 32) (from_ n : Int) : Tells Tryz.prog 114 [.pointer (some ⟨p, 0, none⟩), .int .u32 o.toNat, .int .i64 from_, .int .i64 n] C fun r H' => r = .tuple #[.int .i64 (resOf (bookOf rs L o from_ n)).1, .int .i64 (resOf (bookOf rs L o from_ n)).2] ∧ RfAt 155 3 157 p fs (listB L (bookOf rs L o from_ n) o n) H' := by
 refine Tells.enter Tryz.func114 rfl Tryz.ntmps114 rfl ?_
 intro w0 R
 have hat := at_spec L o
 have h0 := h
 obtain ⟨vf, vl, Cf, Cl, rfl, hf, hL⟩ := h
 obtain ⟨fo, fc, rfl, hfc⟩ := hf.form
 obtain ⟨lo, lc, rfl, hlc⟩ := hL.form
 have hmany := inv.many
 have hlen := inv.len
 have hfew := inv.few
 refine sr_ (a_ rfl rfl (a_ rfl rfl (ntsr_ (m_ rfl rfl (m_ rfl rfl (WL.rf rfl (Ent.func Tryz.call140 rfl) (rat_reads p fs L _ h0 hmany o) sp_ ?_))))))
 refine a_ rfl rfl (nt_ (WC.seq (sr_ (m_ rfl rfl (WL.y rfl (Yd.eql32 _ (0#32) rfl rfl rfl rfl) (m_ rfl rfl (WL.partP (t := 18) rfl (fun hg18 => ?_) (fun hg18 => ?_))))))))
 refine gn_ 18 rfl rfl rfl rfl (gn_ 18 rfl rfl rfl rfl (WL.y rfl (Yd.pickT rfl rfl) (m_ rfl rfl (gn_ 22 rfl rfl rfl rfl (gn_ 22 rfl rfl rfl rfl (WL.y rfl (Yd.pickT rfl rfl) (m_ rfl rfl (gn_ 26 rfl rfl rfl rfl (gn_ 26 rfl rfl rfl rfl (WL.y rfl (Yd.pickT rfl rfl) (nt_ (WC.yes rfl (sr_ ?_)))))))))))))
 refine a_ rfl rfl (a_ rfl rfl (nt_ (WC.ret (DN.then_ret ?_))))
 first | refine DN.fit (C := row p [.slice fo fs.length fc, .slice zo (L.length + 1) zc] 155 :: (Cf ++ C2)) sp_ ?_ | skip
 refine DN.ret2 Tryz.results114 rfl rfl ?_
 rotate_left
 refine gy_ 18 rfl rfl rfl (Yd.move rfl) (gy_ 18 rfl rfl rfl (Yd.lss rfl rfl) (WL.y rfl (Yd.pickF rfl rfl) (m_ rfl rfl (WL.partP (t := 22) rfl (fun hg22 => ?_) (fun hg22 => ?_)))))
 refine gn_ 22 rfl rfl rfl rfl (gn_ 22 rfl rfl rfl rfl (WL.y rfl (Yd.pickT rfl rfl) (m_ rfl rfl (gn_ 26 rfl rfl rfl rfl (gn_ 26 rfl rfl rfl rfl (WL.y rfl (Yd.pickT rfl rfl) (nt_ (WC.yes rfl (sr_ (a_ rfl rfl (a_ rfl rfl (nt_ (WC.ret ?_)))))))))))))
 refine DN.then_ret ?_
 first | refine DN.fit (C := row p [.slice fo fs.length fc, .slice zo (L.length + 1) zc] 155 :: (Cf ++ C2)) sp_ ?_ | skip
 refine DN.ret2 Tryz.results114 rfl rfl ?_
 rotate_left
 refine gy_ 22 rfl rfl rfl (Yd.move rfl) (gy_ 22 rfl rfl rfl (Yd.lss rfl rfl) (WL.y rfl (Yd.pickF rfl rfl) (m_ rfl rfl (WL.partP (t := 26) rfl (fun hg26 => ?_) (fun hg26 => ?_)))))
 refine gn_ 26 rfl rfl rfl rfl (gn_ 26 rfl rfl rfl rfl (WL.y rfl (Yd.pickT rfl rfl) (nt_ (WC.yes rfl (sr_ (a_ rfl rfl (a_ rfl rfl (nt_ (WC.ret (DN.then_ret ?_))))))))))
 first | refine DN.fit (C := row p [.slice fo fs.length fc, .slice zo (L.length + 1) zc] 155 :: (Cf ++ C2)) sp_ ?_ | skip
 refine DN.ret2 Tryz.results114 rfl rfl ?_
 rotate_left
 refine gy_ 26 rfl rfl rfl (Yd.move rfl) (gy_ 26 rfl rfl rfl (Yd.geq rfl rfl) (WL.y rfl (Yd.pickF rfl rfl) (nt_ (WC.ite rfl (fun h29 => ?_) (fun h29 => ?_)))))
 refine sr_ (a_ rfl rfl (a_ rfl rfl (nt_ (WC.ret (DN.then_ret ?_)))))
 first | refine DN.fit (C := row p [.slice fo fs.length fc, .slice zo (L.length + 1) zc] 155 :: (Cf ++ C2)) sp_ ?_ | skip
 refine DN.ret2 Tryz.results114 rfl rfl ?_
 rotate_left
 obtain ⟨d0, hd0⟩ : ∃ d0 : Nat, from_ = (d0 : Int) := ⟨from_.toNat, by omega⟩
 have hnone : findB L o = none := by
   rcases hat with h | ⟨i, hi, h, _⟩
   · exact h.2
   omega
 refine WC.skip (ts_ (sr_ (m_ rfl rfl (WL.renamed (t := 30) (v := .int .i64 (d0 : Int)) rfl (congrArg (Value.int .i64) hd0) (a_ rfl rfl (nt_ (WC.block (WC.loopS (fun z : Nat => from_ ≤ (z : Int) ∧ ∀ j, j < z → ¬ (from_ ≤ (j : Int) ∧ n ≤ rs.getD j 0)) (fun z : Nat => [(11, .int .i64 (z : Int))]) (fun z : Nat => row p [.slice fo fs.length fc, .slice lo L.length lc] 155 :: (Cf ++ Cl)) (fun z : Nat => fs.length - z) (d0) (show from_ ≤ (d0 : Int) ∧ ∀ j, j < d0 → ¬ (from_ ≤ (j : Int) ∧ n ≤ rs.getD j 0) from ⟨by omega, fun j hj => by omega⟩) (Sx.put rfl (sx_)) sp_ ?_))))))))
 rintro d hI
 replace hI : from_ ≤ (d : Int) ∧ ∀ j, j < d → ¬ (from_ ≤ (j : Int) ∧ n ≤ rs.getD j 0) := hI
 obtain ⟨hfd, hno⟩ := hI
 change WC _ _ _ _ _ _ ([(11, .int .i64 (d : Int))] ++ _) (row p [.slice fo fs.length fc, .slice lo L.length lc] 155 :: (Cf ++ Cl))
 refine WC.seq (sr_ (m_ rfl rfl (m_ rfl rfl (n_ rfl rfl (f_ 0 kr_ rfl rfl ?_)))))
 refine d_ kr_ rfl mem_ (by rfl) rfl ?_
 refine WL.y rfl (Yd.len (e := 3) kr_ rfl) ?_
 refine WL.y rfl (Yd.lss rfl rfl) (nt_ (WC.ite rfl (fun h37 => ?_) (fun h37 => ?_)))
 have hlt : d < fs.length := by omega
 have hrd : roomOf rs (d : Int) = rs.getD d 0 := by rw [roomOf, if_pos (by omega), Int.toNat_natCast]
 refine WC.skip (ts_ (WC.block (sr_ (m_ rfl rfl (m_ rfl rfl (WL.rf rfl (Ent.func Tryz.call38 rfl) (rroom_reads p fs rs L _ h0 inv (d : Int)) sp_ ?_))))))
 refine a_ rfl rfl (ntsr_ (m_ rfl rfl (m_ rfl rfl (WL.y rfl (Yd.geq rfl rfl) (nt_ (WC.ite rfl (fun h45 => ?_) (fun h45 => ?_)))))))
 have hday : bookOf rs L o from_ n = some d := by
   rw [bookOf, if_neg (by rintro (h | h | h | h); exact absurd h (by assumption); omega; omega; rw [hnone] at h; cases h)]
   exact dayOf_yes rs from_ n d (by omega) (by omega) (by omega) hno
 refine sr_ (m_ rfl rfl (m_ rfl rfl (n_ rfl rfl (f_ 1 kr_ rfl rfl ?_))))
 refine d_ kr_ rfl mem_ (by rfl) rfl ?_
 iterate 3 refine m_ rfl rfl ?_
 refine WL.y rfl (Yd.buildL (pl := [(0, 1), (1, 1), (2, 1)]) (zs := [.int .u32 0, .int .i64 0, .int .i64 0]) (parts := [(0, .tmp 51), (1, .tmp 52), (2, .tmp 53)]) (vs := [(0, _), (1, _), (2, _)]) (cells := [_, _, _]) kr_ kr_ rfl rfl) ?_
 refine WL.h rfl (Hd.buildA (e := 157) (sz := 3) (zs := [.int .u32 0, .int .i64 0, .int .i64 0]) kr_ kr_ kr_ rfl rfl (by rfl) kr_ fun b55 => ⟨_, rfl, ?_⟩)
 refine WL.h rfl (Hd.appendRow (e := 157) (sz := 3) (bytes := 24) (zs := [.int .u32 0, .int .i64 0, .int .i64 0]) kr_ kr_ rfl (by omega) rfl rfl (hL) sp_ mem_ (by rfl) one_ (by simp only [maxLen]; omega) (by omega) fun v2 C2 h2 => ⟨_, rfl, ?_⟩)
 obtain ⟨zo, zc, rfl, _⟩ := h2.form
 refine n_ rfl rfl (f_ 1 kr_ rfl rfl ?_)
 refine WL.s (Hd.store1s kr_ rfl rfl (by rfl) fr_ (by rfl) (by first | (simp only [List.set_cons_zero, List.set_cons_succ, Nat.zero_add, Nat.add_zero, Nat.reduceAdd]; rfl) | rfl) ⟨rfl, ?_⟩)
 refine ntsr_ (m_ rfl rfl (a_ rfl rfl (a_ rfl rfl (nt_ (WC.ret (DN.block_ret (DN.then_ret (DN.then_ret (DN.block_ret (DN.then_ret ?_))))))))))
 first | refine DN.fit (C := row p [.slice fo fs.length fc, .slice zo (L.length + 1) zc] 155 :: (Cf ++ C2)) sp_ ?_ | skip
 refine DN.ret2 Tryz.results114 rfl rfl ?_
 rotate_left
 refine WC.skip (DN.block_normal (DN.then_normal (WC.region (m_ rfl rfl (WL.y rfl (Yd.add rfl rfl (by omega) (by omega)) ?_)))))
 refine a_ rfl rfl (WL.nil ?_)
 exact DN.againS (d + 1) (show from_ ≤ ((d + 1) : Int) ∧ ∀ j, j < (d + 1) → ¬ (from_ ≤ (j : Int) ∧ n ≤ rs.getD j 0) from ⟨by omega, fun j hj => by by_cases e : j = d; (subst e; omega); exact hno j (by omega)⟩) (show fs.length - (d + 1) < fs.length - d by omega) (Sx.put rfl (sx_)) sp_
 have hge : fs.length ≤ d := by omega
 refine WC.exit (DN.then_exit (DN.then_exit (DN.block_exit (ts_ (WC.region (a_ rfl rfl (a_ rfl rfl (nt_ (WC.ret ?_)))))))))
 first | refine DN.fit (C := row p [.slice fo fs.length fc, .slice zo (L.length + 1) zc] 155 :: (Cf ++ C2)) sp_ ?_ | skip
 refine DN.ret2 Tryz.results114 rfl rfl ?_
 rotate_left
 all_goals
  first
    | (rw [hday]
       exact ⟨rfl, _, _, Cf, C2, rfl, hf, by rw [show listB L (some d) o n = L ++ [⟨o, d, n⟩] from rfl, List.flatMap_append, List.length_append]; exact h2⟩)
    | (have hb : bookOf rs L o from_ n = none := by
         rcases Classical.em (o = 0#32 ∨ n < 1 ∨ from_ < 0 ∨ (findB L o).isSome = true) with hc | hc
         · exact if_pos hc
         first
         | exact (hc (.inl hg18)).elim
         | exact (hc (.inr (.inl hg22))).elim
         | exact (hc (.inr (.inr (.inl hg26)))).elim
         | exact (hc (.inr (.inr (.inl h29)))).elim
         | (rcases hat with h | ⟨i, hi, h1, _, h2⟩
            · exact absurd h.1 (by omega)
            exact (hc (.inr (.inr (.inr (by rw [h2]; rfl))))).elim)
         | (rw [bookOf, if_neg hc]
            exact dayOf_no rs from_ n fun j hj => hno j (by omega))
       rw [hb]
       exact ⟨rfl, h0⟩)
theorem rcancel_tells (p : Nat) (fs : List Int) (L : List Bk) (C : List Ck) (h : RfAt 155 3 157 p fs L C) (hmany : L.length ≤ 100000000) (hn : (L.map Bk.o).Nodup) (o : BitVec 32) : Tells Tryz.prog 111 [.pointer (some ⟨p, 0, none⟩), .int .u32 o.toNat] C fun r H' => r = .int .i64 (resC (findB L o)) ∧ RfAt 155 3 157 p fs (listC L (findB L o) o) H' := by
 refine Tells.enter Tryz.func111 rfl Tryz.ntmps111 rfl ?_
 intro w0 R
 have hat := at_spec L o
 have h0 := h
 obtain ⟨vf, vl, Cf, Cl, rfl, hf, hL⟩ := h
 obtain ⟨fo, fc, rfl, hfc⟩ := hf.form
 obtain ⟨lo, lc, rfl, hlc⟩ := hL.form
 refine sr_ (a_ rfl rfl (ntsr_ (m_ rfl rfl (m_ rfl rfl (WL.rf rfl (Ent.func Tryz.call140 rfl) (rat_reads p fs L _ h0 hmany o) sp_ ?_)))))
 refine a_ rfl rfl (nt_ (WC.seq (sr_ (m_ rfl rfl (WL.y rfl (Yd.lss rfl rfl) (nt_ (WC.ite rfl (fun h12 => ?_) (fun h12 => ?_))))))))
 have hnone : findB L o = none := by
   rcases hat with h | ⟨i, hi, h, _⟩
   · exact h.2
   omega
 refine sr_ (a_ rfl rfl (nt_ (WC.ret (DN.then_ret ?_))))
 first | refine DN.fit (C := row p [.slice fo fs.length fc, .slice oo ((L.take L.length).eraseIdx q).length oc] 155 :: (Cf ++ Co)) sp_ ?_ | skip
 refine DN.ret1 Tryz.results111 rfl ?_
 first
   | (rw [hnone]
      exact ⟨rfl, h0⟩)
   | (rw [List.take_length] at ho ⊢
      rw [hfq]
      refine ⟨rfl, _, _, Cf, Co, rfl, hf, ?_⟩
      have e : listC L (some L[q]) o = L.eraseIdx q := by
        rw [erase_at hn hq, ← hoq]; rfl
      rw [e]
      exact ho)
 obtain ⟨q, hq, haq, hoq, hfq⟩ : ∃ (i : Nat) (hi : i < L.length), atOf L o = i ∧ o = L[i].o ∧ findB L o = some L[i] := by
   rcases hat with h | h
   · exact absurd h.1 (by omega)
   exact h
 rw [haq]
 refine WC.skip (ts_ (WC.region (a_ rfl rfl (nt_ (WC.seq (sr_ (a_ rfl rfl (nt_ (WC.block (WC.loopS (fun z : Nat × Value × List Ck => z.1 ≤ L.length ∧ Own z.2.1 ((L.take z.1).eraseIdx q).length (((L.take z.1).eraseIdx q).flatMap encB) 157 3 z.2.2) (fun z : Nat × Value × List Ck => [(7, .int .i64 (z.1 : Int)), (6, z.2.1)]) (fun z : Nat × Value × List Ck => z.2.2 ++ (row p [.slice fo fs.length fc, .slice lo L.length lc] 155 :: (Cf ++ Cl))) (fun z : Nat × Value × List Ck => L.length - z.1) (⟨0, .slice none 0 0, []⟩) (show 0 ≤ L.length ∧ Own (.slice none 0 0) ((L.take 0).eraseIdx q).length (((L.take 0).eraseIdx q).flatMap encB) 157 3 [] from ⟨Nat.zero_le _, by simpa using Own.nil 157 3⟩) (Sx.put rfl (Sx.put rfl (sx_))) sp_ ?_))))))))))
 rintro ⟨i, v, Co⟩ hI
 replace hI : i ≤ L.length ∧ Own v ((L.take i).eraseIdx q).length (((L.take i).eraseIdx q).flatMap encB) 157 3 Co := hI
 obtain ⟨hi, ho⟩ := hI
 change WC _ _ _ _ _ _ ([(7, .int .i64 (i : Int)), (6, v)] ++ _) (Co ++ (row p [.slice fo fs.length fc, .slice lo L.length lc] 155 :: (Cf ++ Cl)))
 obtain ⟨oo, oc, rfl, hoc⟩ := ho.form
 refine WC.seq (sr_ (m_ rfl rfl (m_ rfl rfl (n_ rfl rfl (f_ 1 kr_ rfl rfl ?_)))))
 refine d_ kr_ rfl mem_ (by rfl) rfl ?_
 refine WL.y rfl (Yd.len (e := 157) kr_ rfl) ?_
 refine WL.y rfl (Yd.lss rfl rfl) (nt_ (WC.ite rfl (fun h19 => ?_) (fun h19 => ?_)))
 have hlt : i < L.length := by omega
 obtain ⟨lb, lf, lcs, lT, lfr, lex, rfl, _, hlm, hlcs⟩ := hL.rs.lies (by omega)
 have hel : ((L.take i).eraseIdx q).length ≤ L.length := by rw [List.length_eraseIdx, List.length_take]; split <;> omega
 refine WC.skip (ts_ (WC.block (sr_ (m_ rfl rfl (m_ rfl rfl (WL.y rfl (Yd.neq rfl rfl) (nt_ (WC.ite rfl (fun h24 => ?_) (fun h24 => ?_)))))))))
 refine WC.region (m_ rfl rfl (m_ rfl rfl (n_ rfl rfl (f_ 1 kr_ rfl rfl ?_))))
 refine d_ kr_ rfl mem_ (by rfl) rfl ?_
 refine m_ rfl rfl (WL.y rfl (Yd.indexAddr (e := 157) (s := 3) kr_ kr_ rfl rfl (by omega) (by omega)) ?_)
 refine WL.h rfl (Hd.loadA (n := 3) (b := lb) (o := lf + (i : Int).toNat * 3) (cs := lcs) (vs := encB L[i]) kr_ rfl (Gr.get gr_ hlm) (encB_len _) (rs_cell hlcs (by rw [flat_len encB 3 encB_len]; omega) (flat_row encB 3 encB_len L i (by omega))) ⟨_, rfl, ?_⟩)
 refine WL.h rfl (Hd.buildA (e := 157) (sz := 3) (zs := [.int .u32 0, .int .i64 0, .int .i64 0]) kr_ kr_ kr_ rfl rfl (by rfl) kr_ fun b33 => ⟨_, rfl, ?_⟩)
 refine WL.h rfl (Hd.appendRow (e := 157) (sz := 3) (bytes := 24) (zs := [.int .u32 0, .int .i64 0, .int .i64 0]) kr_ kr_ rfl (by omega) rfl rfl (ho) sp_ mem_ (by rfl) one_ (by simp only [maxLen]; omega) (by omega) fun v2 C2 h2 => ⟨_, rfl, ?_⟩)
 refine a_ rfl rfl (WL.nil (DN.block_normal (DN.then_normal (WC.region (m_ rfl rfl (WL.y rfl (Yd.add rfl rfl (by omega) (by omega)) ?_))))))
 refine a_ rfl rfl (WL.nil ?_)
 exact DN.againS (⟨i + 1, v2, C2⟩) (show (i + 1) ≤ L.length ∧ Own v2 ((L.take (i + 1)).eraseIdx q).length (((L.take (i + 1)).eraseIdx q).flatMap encB) 157 3 C2 from ⟨by omega, by rw [erase_skip L i q hlt (by omega), List.flatMap_append, List.length_append]; simpa using h2⟩) (show L.length - (i + 1) < L.length - i by omega) (Sx.put rfl (Sx.put rfl (sx_))) sp_
 refine WC.skip (DN.block_normal (DN.then_normal (WC.region (m_ rfl rfl (WL.y rfl (Yd.add rfl rfl (by omega) (by omega)) ?_)))))
 refine a_ rfl rfl (WL.nil ?_)
 exact DN.againS (⟨i + 1, .slice oo ((L.take i).eraseIdx q).length oc, Co⟩) (show (i + 1) ≤ L.length ∧ Own (.slice oo ((L.take i).eraseIdx q).length oc) ((L.take (i + 1)).eraseIdx q).length (((L.take (i + 1)).eraseIdx q).flatMap encB) 157 3 Co from ⟨by omega, by obtain rfl : i = q := (by omega); rw [erase_here L i hlt]; exact ho⟩) (show L.length - (i + 1) < L.length - i by omega) (Sx.put rfl (Sx.put rfl (sx_))) sp_
 obtain rfl : i = L.length := by omega
 refine WC.exit (DN.then_exit (DN.then_exit (DN.block_exit (ts_ (WC.region (m_ rfl rfl (m_ rfl rfl (n_ rfl rfl (f_ 1 kr_ rfl rfl ?_)))))))))
 refine WL.s (Hd.store1s kr_ rfl rfl (by rfl) fr_ (by rfl) (by first | (simp only [List.set_cons_zero, List.set_cons_succ, Nat.zero_add, Nat.add_zero, Nat.reduceAdd]; rfl) | rfl) ⟨rfl, ?_⟩)
 refine ntsr_ (a_ rfl rfl (nt_ (WC.ret ?_)))
 first | refine DN.fit (C := row p [.slice fo fs.length fc, .slice oo ((L.take L.length).eraseIdx q).length oc] 155 :: (Cf ++ Co)) sp_ ?_ | skip
 refine DN.ret1 Tryz.results111 rfl ?_
 first
   | (rw [hnone]
      exact ⟨rfl, h0⟩)
   | (rw [List.take_length] at ho ⊢
      rw [hfq]
      refine ⟨rfl, _, _, Cf, Co, rfl, hf, ?_⟩
      have e : listC L (some L[q]) o = L.eraseIdx q := by
        rw [erase_at hn hq, ← hoq]; rfl
      rw [e]
      exact ho)
end Go.Proofs.YtkamlondepceiaaGreat.Do

set_option linter.unusedVariables false
set_option linter.unusedSimpArgs false
set_option maxHeartbeats 4000000
namespace Go.Proofs.YtkamlondepceiaaGreat.Do
open Go.SL
theorem rnew_tells (v : Value) (rs : List Int) (H : List Ck) (hv : Rs v rs.length (ic rs) H) (hl : rs.length ≤ 9223372036854775807) : Tells Tryz.prog 68 [v] H fun r H' => if (rs.findIdx? badRoom).isSome = false ∧ rs.length ≤ 60 then ∃ p C, r = .tuple #[.pointer (some ⟨p, 0, none⟩), .int .i64 0] ∧ RfAt 155 3 157 p rs [] C ∧ H' = C ++ H else r = .tuple #[.pointer none, .int .i64 2] ∧ H' = H := by
 refine Tells.enter Tryz.func68 rfl Tryz.ntmps68 rfl ?_
 intro w0 R
 obtain ⟨vo, vc, rfl, hvc⟩ := hv.form
 refine sr_ (a_ rfl rfl (a_ rfl rfl (nt_ (WC.seq (sr_ (m_ rfl rfl (WL.y rfl (Yd.len (e := 3) kr_ rfl) ?_)))))))
 refine WL.y rfl (Yd.gtr rfl rfl) (nt_ (WC.ite rfl (fun h8 => ?_) (fun h8 => ?_)))
 refine sr_ (a_ rfl rfl (a_ rfl rfl (nt_ (WC.ret (DN.then_ret ?_)))))
 first | refine DN.fit (C := row b10 [.slice wo rs.length wc, .slice none 0 0] 155 :: (C1 ++ H)) sp_ ?_ | refine DN.fit (C := H) sp_ ?_
 refine DN.ret2 Tryz.results68 rfl rfl ?_
 rotate_left
 refine WC.skip (ts_ (WC.region (WL.y rfl (Yd.buildL (pl := [(0, 1), (1, 1)]) (zs := [.slice none 0 0, .slice none 0 0]) (parts := []) (vs := []) (cells := [.slice none 0 0, .slice none 0 0]) kr_ kr_ rfl rfl) ?_)))
 refine WL.h rfl (Hd.boxA rfl fun b10 => ⟨_, rfl, ?_⟩)
 refine a_ rfl rfl (nt_ (WC.seq (sr_ (a_ rfl rfl (nt_ (WC.block (WC.loopS (fun z : Nat × Value × List Ck => z.1 ≤ rs.length ∧ (∀ j, j < z.1 → badRoom (rs.getD j 0) = false) ∧ Own z.2.1 z.1 (ic (rs.take z.1)) 3 1 z.2.2) (fun z : Nat × Value × List Ck => [(5, .int .i64 (z.1 : Int))]) (fun z : Nat × Value × List Ck => row b10 [z.2.1, .slice none 0 0] 155 :: (z.2.2 ++ H)) (fun z : Nat × Value × List Ck => rs.length - z.1) (⟨0, .slice none 0 0, []⟩) (show 0 ≤ rs.length ∧ (∀ j, j < 0 → badRoom (rs.getD j 0) = false) ∧ Own (.slice none 0 0) 0 (ic (rs.take 0)) 3 1 [] from ⟨Nat.zero_le _, fun j h => by omega, by simpa [ic] using Own.nil 3 1⟩) (Sx.put rfl (sx_)) sp_ ?_)))))))
 rintro ⟨i, w, C1⟩ hI
 replace hI : i ≤ rs.length ∧ (∀ j, j < i → badRoom (rs.getD j 0) = false) ∧ Own w i (ic (rs.take i)) 3 1 C1 := hI
 obtain ⟨hi, hno, ho⟩ := hI
 change WC _ _ _ _ _ _ ([(5, .int .i64 (i : Int))] ++ _) (row b10 [w, .slice none 0 0] 155 :: (C1 ++ H))
 obtain ⟨wo, wc, rfl, hwc⟩ := ho.form
 refine WC.seq (sr_ (m_ rfl rfl (m_ rfl rfl (WL.y rfl (Yd.len (e := 3) kr_ rfl) ?_))))
 refine WL.y rfl (Yd.lss rfl rfl) (nt_ (WC.ite rfl (fun h14 => ?_) (fun h14 => ?_)))
 have hlt : i < rs.length := by omega
 refine WC.skip (ts_ (WC.block (WC.seq (sr_ (m_ rfl rfl (m_ rfl rfl (WL.elem (e := 3) kr_ kr_ kr_ rfl rfl (rfl) (hv.mono gr_) (ic_getD hlt) (hlt) rfl rfl ?_)))))))
 intro _
 refine WL.y rfl (Yd.lss rfl rfl) (m_ rfl rfl (WL.partP (t := 22) rfl (fun hg22 => ?_) (fun hg22 => ?_)))
 iterate 5 refine gn_ 22 rfl rfl rfl rfl ?_
 refine WL.y rfl (Yd.pickT rfl rfl) (nt_ (WC.yes rfl (sr_ (a_ rfl rfl (a_ rfl rfl (nt_ (WC.ret (DN.then_ret (DN.block_ret (DN.then_ret (DN.then_ret (DN.block_ret (DN.then_ret ?_)))))))))))))
 first | refine DN.fit (C := row b10 [.slice wo rs.length wc, .slice none 0 0] 155 :: (C1 ++ H)) sp_ ?_ | refine DN.fit (C := H) sp_ ?_
 refine DN.ret2 Tryz.results68 rfl rfl ?_
 rotate_left
 refine gy_ 22 rfl rfl rfl (Yd.move rfl) (gy_ 22 rfl rfl rfl (Yd.move rfl) (WL.elemN (e := 3) (dj := 22) kr_ kr_ kr_ rfl rfl (rfl) (hv.mono gr_) (ic_getD hlt) (hlt) rfl rfl rfl rfl rfl ?_))
 intro _
 refine gy_ 22 rfl rfl rfl (Yd.gtr rfl rfl) (WL.y rfl (Yd.pickF rfl rfl) (nt_ (WC.ite rfl (fun h28 => ?_) (fun h28 => ?_))))
 refine sr_ (a_ rfl rfl (a_ rfl rfl (nt_ (WC.ret (DN.then_ret (DN.block_ret (DN.then_ret (DN.then_ret (DN.block_ret (DN.then_ret ?_))))))))))
 first | refine DN.fit (C := row b10 [.slice wo rs.length wc, .slice none 0 0] 155 :: (C1 ++ H)) sp_ ?_ | refine DN.fit (C := H) sp_ ?_
 refine DN.ret2 Tryz.results68 rfl rfl ?_
 rotate_left
 obtain ⟨vb, vf, vcs, vT, vfr, vex, evo, _, hvm, hvcs⟩ := hv.lies (by omega)
 refine WC.skip (DN.then_normal (WC.draw 14 kr_ rfl ?_))
 refine WAG.start (N := 14) rfl (wy_ 0 [] rfl (Yd.move rfl) kr_ ?_)
 refine wy_ 1 [] rfl (Yd.move rfl) kr_ ?_
 refine wy_ 2 [1] rfl (Yd.notNil rfl) kr_ ?_
 refine wy_ 3 [2] rfl (Yd.fieldAddr (k := 0) kr_ rfl) kr_ ?_
 refine wq_ (wf_ (i := 4) [3] rfl (QAt.rd Wt.none (Rd.load1 kr_ rfl mem_ (by rfl))) kr_) kr_ ?_
 refine wy_ 5 [] rfl (Yd.move rfl) kr_ ?_
 refine wy_ 6 [] rfl (Yd.move rfl) kr_ ?_
 refine wy_ 7 [6, 5] rfl (Yd.indexAddr (e := 3) (s := 1) (b := vb) (o := vf) (n := rs.length) (c := vc) kr_ kr_ (congrArg (fun q => some (Value.slice q rs.length vc)) evo) rfl (by omega) (by omega)) kr_ ?_
 refine wq_ (wf_ (i := 8) [7] rfl (QAt.rd Wt.none (Rd.load1 (v := .int .i64 (rs.getD i 0)) (b := vb) (o := vf + (i : Int).toNat * 1) (cs := vcs) kr_ rfl (Gr.get gr_ hvm) (rs_cell1 hvcs (ic_getD hlt)))) kr_) kr_ ?_
 refine ws_ [(9, [8])] kr_ (all_c ?_ (all_n))
 refine so_ (j := 9) [_] rfl (SO.h rfl Wt.none rfl (Hd.build1 (e := 3) (z := .int .i64 0) kr_ kr_ kr_ rfl (by rfl) fun b38 => ⟨_, rfl, ?_⟩))
 refine wk_ [_, _, _, _, _, _, _, _] (_ :: ([_] ++ _)) rfl rfl (all_c (wf_ [3] rfl (QAt.rd Wt.none (Rd.load1 kr_ rfl mem_ (by rfl))) kr_) all_n) ?_
 refine ws_ [(10, [4])] kr_ (all_c ?_ (all_n))
 refine so_ (j := 10) [_] rfl ?_
 refine SO.h rfl Wt.none rfl (Hd.appendRow (e := 3) (sz := 1) (bytes := 8) (zs := [.int .i64 0]) kr_ kr_ rfl (by omega) rfl rfl (ho) sp_ mem_ (by rfl) one_ (by simp only [maxLen]; omega) (by omega) fun v2 C2 h2 => ⟨_, rfl, ?_⟩)
 obtain ⟨zo, zc, rfl, _⟩ := h2.form
 refine wk_ [_, _, _, _, _, _, _] (_ :: ([_] ++ _)) rfl rfl all_n (wy_ 11 [7, 6, 5, 3, 2, 1, 0] rfl (Yd.notNil rfl) kr_ ?_)
 refine wy_ 12 [11, 7, 6, 5, 3, 2, 1, 0] rfl (Yd.fieldAddr (k := 0) kr_ rfl) kr_ ?_
 refine ws_ [(13, [12, 7, 6, 5, 3, 2, 1, 0])] kr_ (all_c ?_ (all_n))
 refine so_ (j := 13) [_, _, _, _, _, _, _, _] rfl ?_
 refine SO.s rfl Wt.none (Hd.store1s kr_ rfl rfl (by rfl) fr_ (by rfl) (by first | (simp only [List.set_cons_zero, List.set_cons_succ, Nat.zero_add, Nat.add_zero, Nat.reduceAdd]; rfl) | rfl) ⟨rfl, ?_⟩)
 refine wk_ [_] (([_, _, _, _, _, _, _, _] ++ _)) rfl rfl all_n (wd_ [_] rfl kr_ ?_)
 refine DN.block_normal (DN.then_normal (WC.region (m_ rfl rfl (WL.y rfl (Yd.add rfl rfl (by omega) (by omega)) ?_))))
 refine a_ rfl rfl (WL.nil ?_)
 exact DN.againS (⟨i + 1, .slice zo (i + 1) zc, C2⟩) (show (i + 1) ≤ rs.length ∧ (∀ j, j < (i + 1) → badRoom (rs.getD j 0) = false) ∧ Own (.slice zo (i + 1) zc) (i + 1) (ic (rs.take (i + 1))) 3 1 C2 from ⟨by omega, fun j hj => by by_cases e : j = i; (subst e; unfold badRoom; rw [Bool.or_eq_false_iff, decide_eq_false_iff_not, decide_eq_false_iff_not]; omega); exact hno j (by omega), by rw [List.take_succ_eq_append_getElem hlt, ic_append]; have e2 : rs.getD i 0 = rs[i] := (by simp [List.getD, hlt]); first | exact h2 | (rw [← e2]; exact h2)⟩) (show rs.length - (i + 1) < rs.length - i by omega) (Sx.put rfl (sx_)) sp_
 obtain rfl : i = rs.length := by omega
 rw [List.take_length] at ho
 refine WC.exit (DN.then_exit (DN.then_exit (DN.block_exit (ts_ (WC.region (m_ rfl rfl (a_ rfl rfl (a_ rfl rfl (nt_ (WC.ret ?_))))))))))
 first | refine DN.fit (C := row b10 [.slice wo rs.length wc, .slice none 0 0] 155 :: (C1 ++ H)) sp_ ?_ | refine DN.fit (C := H) sp_ ?_
 refine DN.ret2 Tryz.results68 rfl rfl ?_
 rotate_left
 all_goals
  first
    | (rw [if_neg (by omega)]
       exact ⟨rfl, rfl⟩)
    | (have hbad : badRoom (rs.getD i 0) = true := by unfold badRoom; rw [Bool.or_eq_true, decide_eq_true_eq, decide_eq_true_eq]; omega
       rw [if_neg (by rw [findIdx_yes rs i hlt hbad hno]; simp)]
       exact ⟨rfl, rfl⟩)
    | (rw [if_pos ⟨by rw [findIdx_no rs hno]; rfl, by omega⟩]
       exact ⟨_, row b10 [.slice wo rs.length wc, .slice none 0 0] 155 :: (C1 ++ []), rfl, ⟨_, _, C1, [], rfl, ho, Own.nil _ _⟩, by simp⟩)
end Go.Proofs.YtkamlondepceiaaGreat.Do

set_option linter.unusedVariables false
set_option linter.unusedSimpArgs false
set_option maxHeartbeats 4000000
namespace Go.Proofs.YtkamlondepceiaaGreat
open Go.SL
theorem rcnew_tells (v1 v2 v3 : Value) (gs : List Gd) (us9 : List Au) (rs : List Int) (hg : ∀ g ∈ gs, g.gone = 0) (H : List Ck) (h1 : Rs v1 gs.length (gs.flatMap cellsG) H) (h2 : Rs v2 us9.length (us9.flatMap cellsU) H) (h3 : Rs v3 rs.length (ic rs) H) (hl1 : gs.length ≤ 9223372036854775807) (hl2 : us9.length ≤ 9223372036854775807) (hl3 : rs.length ≤ 9223372036854775807) : Tells Tryz.prog 32 [v1, v2, v3] H fun r H' => ((GoodL gs ∧ AccL us9 ∧ ((rs.findIdx? Do.badRoom).isSome = false ∧ rs.length ≤ 60)) ∧ ∃ p C, r = .tuple #[.pointer (some ⟨p, 0, none⟩), .int .i64 0] ∧ RcAt 147 73 215 151 71 217 155 3 157 5 118 111 22 87 p gs us9 rs (Cw.new gs us9 rs) C ∧ H' = C ++ H) ∨ (¬ (GoodL gs ∧ AccL us9 ∧ ((rs.findIdx? Do.badRoom).isSome = false ∧ rs.length ≤ 60)) ∧ r = .tuple #[.pointer none, .int .i64 2] ∧ H' = H) := by
 refine Tells.enter Tryz.func32 rfl Tryz.ntmps32 rfl ?_
 intro w0 R
 obtain ⟨ao1, ac1, rfl, _⟩ := h1.form
 obtain ⟨ao2, ac2, rfl, _⟩ := h2.form
 obtain ⟨ao3, ac3, rfl, _⟩ := h3.form
 refine sr_ (a_ rfl rfl (a_ rfl rfl (ntsr_ (m_ rfl rfl (WL.c rfl (Ent.func Tryz.call66 rfl) (St.rnew_tells _ gs H h1 hl1) (Sp.p sp_) ?_)))))
 intro x H9 h9
 have h91 : ∃ a e C, x = .tuple #[.pointer a, .int .i64 e] ∧ H9 = C ++ H ∧ ((e = 0 ∧ GoodL gs ∧ ∃ p F, a = some ⟨p, 0, none⟩ ∧ RsAt 147 73 215 p F [] [] C ∧ ToldK Gd.name sLt gs F) ∨ (e = 2 ∧ ¬ GoodL gs)) := by
   rcases h9 with ⟨hg, p, C, F, rfl, hC, hT, rfl⟩ | ⟨hn, rfl, rfl⟩
   · exact ⟨_, _, C, rfl, rfl, .inl ⟨rfl, hg, p, F, rfl, hC, hT⟩⟩
   exact ⟨none, 2, [], rfl, rfl, .inr ⟨rfl, hn⟩⟩
 clear h9
 obtain ⟨a1, e1, C1, rfl, rfl, h91⟩ := h91
 refine m_ rfl rfl (x_ rfl rfl rfl (x_ rfl rfl rfl (a_ rfl rfl (a_ rfl rfl (nt_ (WC.seq (sr_ (m_ rfl rfl (WL.y rfl (Yd.neq rfl rfl) (nt_ (WC.ite rfl (fun h20 => ?_) (fun h20 => ?_))))))))))))
 obtain ⟨rfl, hn1⟩ := h91.resolve_left (fun q => h20 q.1)
 refine sr_ (m_ rfl rfl (a_ rfl rfl (a_ rfl rfl (nt_ (WC.ret (DN.then_ret (DN.fit (C := H) sp_ ?_)))))))
 exact DN.ret2 Tryz.results32 rfl rfl (.inr ⟨fun q => hn1 q.1, rfl, rfl⟩)
 obtain ⟨rfl, hg1, p1, F1, rfl, hC1, hT1⟩ := h91.resolve_right (fun q => h20 (by rw [q.1]; decide))
 refine WC.skip (ts_ (WC.region (m_ rfl rfl (WL.c rfl (Ent.func Tryz.call67 rfl) (Pu.rnew_tells _ us9 H h2 hl2) (Sp.p sp_) ?_))))
 intro x H9 h9
 have h92 : ∃ a e C, x = .tuple #[.pointer a, .int .i64 e] ∧ H9 = C ++ H ∧ ((e = 0 ∧ AccL us9 ∧ ∃ p F, a = some ⟨p, 0, none⟩ ∧ RpAt 151 71 217 p F [] C ∧ ToldK Au.name sLt us9 F) ∨ (e = 2 ∧ ¬ AccL us9)) := by
   rcases h9 with ⟨hg, p, C, F, rfl, hC, hT, rfl⟩ | ⟨hn, rfl, rfl⟩
   · exact ⟨_, _, C, rfl, rfl, .inl ⟨rfl, hg, p, F, rfl, hC, hT⟩⟩
   exact ⟨none, 2, [], rfl, rfl, .inr ⟨rfl, hn⟩⟩
 clear h9
 obtain ⟨a2, e2, C2, rfl, rfl, h92⟩ := h92
 refine m_ rfl rfl (x_ rfl rfl rfl (x_ rfl rfl rfl (a_ rfl rfl (a_ rfl rfl (nt_ (WC.seq (sr_ (m_ rfl rfl (WL.y rfl (Yd.neq rfl rfl) (nt_ (WC.ite rfl (fun h28 => ?_) (fun h28 => ?_))))))))))))
 obtain ⟨rfl, hn2⟩ := h92.resolve_left (fun q => h28 q.1)
 refine sr_ (m_ rfl rfl (a_ rfl rfl (a_ rfl rfl (nt_ (WC.ret (DN.then_ret (DN.fit (C := H) sp_ ?_)))))))
 exact DN.ret2 Tryz.results32 rfl rfl (.inr ⟨fun q => hn2 q.2.1, rfl, rfl⟩)
 obtain ⟨rfl, hg2, p2, F2, rfl, hC2, hT2⟩ := h92.resolve_right (fun q => h28 (by rw [q.1]; decide))
 refine WC.skip (ts_ (WC.region (m_ rfl rfl (WL.c rfl (Ent.func Tryz.call68 rfl) (Do.rnew_tells _ rs H h3 hl3) (Sp.p sp_) ?_))))
 intro x H9 h9
 obtain ⟨a3, e3, C3, rfl, rfl, h93⟩ : ∃ a e C, x = .tuple #[.pointer a, .int .i64 e] ∧ H9 = C ++ H ∧ ((e = 0 ∧ ((rs.findIdx? Do.badRoom).isSome = false ∧ rs.length ≤ 60) ∧ ∃ p, a = some ⟨p, 0, none⟩ ∧ RfAt 155 3 157 p rs [] C) ∨ (e = 2 ∧ ¬ ((rs.findIdx? Do.badRoom).isSome = false ∧ rs.length ≤ 60))) := by
   by_cases hg3 : ((rs.findIdx? Do.badRoom).isSome = false ∧ rs.length ≤ 60)
   · rw [if_pos hg3] at h9
     obtain ⟨p, C, rfl, hC, rfl⟩ := h9
     exact ⟨_, _, C, rfl, rfl, .inl ⟨rfl, hg3, p, rfl, hC⟩⟩
   rw [if_neg hg3] at h9
   obtain ⟨rfl, rfl⟩ := h9
   exact ⟨none, 2, [], rfl, rfl, .inr ⟨rfl, hg3⟩⟩
 clear h9
 refine m_ rfl rfl (x_ rfl rfl rfl (x_ rfl rfl rfl (a_ rfl rfl (a_ rfl rfl (nt_ (WC.seq (sr_ (m_ rfl rfl (WL.y rfl (Yd.neq rfl rfl) (nt_ (WC.ite rfl (fun h36 => ?_) (fun h36 => ?_))))))))))))
 obtain ⟨rfl, hn3⟩ := h93.resolve_left (fun q => h36 q.1)
 refine sr_ (m_ rfl rfl (a_ rfl rfl (a_ rfl rfl (nt_ (WC.ret (DN.then_ret (DN.fit (C := H) sp_ ?_)))))))
 exact DN.ret2 Tryz.results32 rfl rfl (.inr ⟨fun q => hn3 q.2.2, rfl, rfl⟩)
 obtain ⟨rfl, hg3, p3, rfl, hC3⟩ := h93.resolve_right (fun q => h36 (by rw [q.1]; decide))
 refine WC.skip (ts_ (WC.region ?_))
 iterate 3 refine m_ rfl rfl ?_
 refine WL.y rfl (Yd.build (pl := [(0, 1), (1, 1), (2, 1), (3, 2), (5, 1), (6, 1)]) (zs := [.pointer none, .pointer none, .pointer none, .int .u32 0, .slice none 0 0, .slice none 0 0, .slice none 0 0]) (parts := [(0, .tmp 38), (1, .tmp 39), (2, .tmp 40)]) (vs := [(0, .pointer (some ⟨p1, 0, none⟩)), (1, .pointer (some ⟨p2, 0, none⟩)), (2, .pointer (some ⟨p3, 0, none⟩))]) (cells := [.pointer (some ⟨p1, 0, none⟩), .pointer (some ⟨p2, 0, none⟩), .pointer (some ⟨p3, 0, none⟩), .int .u32 0, .slice none 0 0, .slice none 0 0, .slice none 0 0]) kr_ kr_ rfl rfl) ?_
 refine WL.h rfl (Hd.box rfl fun p => ⟨_, rfl, ?_⟩)
 refine a_ rfl rfl (a_ rfl rfl (nt_ (WC.ret (DN.fit (C := (row p [.pointer (some ⟨p1, 0, none⟩), .pointer (some ⟨p2, 0, none⟩), .pointer (some ⟨p3, 0, none⟩), .int .u32 0, .slice none 0 0, .slice none 0 0, .slice none 0 0] 87 :: (C1 ++ (C2 ++ (C3 ++ ([] ++ ([] ++ ([] ++ []))))))) ++ H) sp_ ?_))))
 exact DN.ret2 Tryz.results32 rfl rfl (.inl ⟨⟨hg1, hg2, hg3⟩, p, _, rfl, ⟨p1, p2, p3, _, _, _, C1, C2, C3, [], [], [], [], [], F1, [], F2, rfl, hC1, RInv.start hg hg1.2.1 hT1, hC2, hT2, hC3, FAt.nil _ _, Own.nil _ _, Own.nil _ _, NoS.nil⟩, rfl⟩)
theorem rcno_reads {g0 : List Gd} {u0 : List Au} {r0 : List Int} (q : Nat) (s : Cw) (C : List Ck) (h : RcAt 147 73 215 151 71 217 155 3 157 5 118 111 22 87 q g0 u0 r0 s C) (code : Int) : Reads Tryz.prog 70 [.pointer (some ⟨q, 0, none⟩), .int .i64 code] C (.agg (ntc (noN s.e code) (.slice none 0 0) (.slice none 0 0)).toArray) := by
 refine Tells.enter Tryz.func70 rfl Tryz.ntmps70 rfl ?_
 intro w0 R
 obtain ⟨ps, pp, pd, vL, vE, vN, CS, CP, CD, CF, CE, us, CN, DZ, F1, A1, F2, rfl, hS, hR, hP, hF2, hD, hF, hE, hN, hO⟩ := h
 obtain ⟨lo, lc, rfl⟩ := hF.form
 obtain ⟨eo, ec, rfl, hec⟩ := hE.form
 obtain ⟨no, nc, rfl, hnc⟩ := hN.form
 refine sr_ (WL.h rfl (Hd.alloc (zs := [.int .i64 0, .int .u32 0, .int .u32 0, .int .u64 0, .int .u64 0, .int .u32 0, .int .i64 0, .bool false, .int .i64 0, .slice none 0 0, .slice none 0 0]) kr_ fun b4 => ⟨_, rfl, ?_⟩))
 refine ntsr_ (m_ rfl rfl (n_ rfl rfl (f_ 3 kr_ rfl rfl ?_)))
 refine f_ 0 kr_ rfl rfl ?_
 refine d_ kr_ rfl mem_ (by rfl) rfl ?_
 refine m_ rfl rfl (WL.y rfl (Yd.buildL (pl := [(0, 1), (1, 1), (2, 1), (3, 1), (4, 1), (5, 1), (6, 1), (7, 1), (8, 1), (9, 1), (10, 1)]) (zs := [.int .i64 0, .int .u32 0, .int .u32 0, .int .u64 0, .int .u64 0, .int .u32 0, .int .i64 0, .bool false, .int .i64 0, .slice none 0 0, .slice none 0 0]) (parts := [(0, .const (.int .i64 6)), (1, .tmp 9), (8, .tmp 10)]) (vs := [(0, _), (1, _), (8, _)]) (cells := [_, _, .int .u32 0, .int .u64 0, .int .u64 0, .int .u32 0, .int .i64 0, .bool false, _, .slice none 0 0, .slice none 0 0]) kr_ kr_ rfl rfl) ?_)
 refine WL.s (Hd.storeAll (n := 11) kr_ rfl rfl (by rfl) one_ fr_ (by rfl) ⟨rfl, ?_⟩)
 refine nt_ (WC.ret (DN.retCS (s := 11) (row q [.pointer (some ⟨ps, 0, none⟩), .pointer (some ⟨pp, 0, none⟩), .pointer (some ⟨pd, 0, none⟩), .int .u32 s.e.toNat, .slice lo s.ks.length lc, .slice eo s.ef.length ec, .slice no s.no.length nc] 87 :: (CS ++ (CP ++ (CD ++ (CF ++ (CE ++ (CN ++ DZ))))))) Tryz.results70 kr_ rfl mem_ (by rfl) sp_ ?_))
 exact ⟨rfl, rfl⟩
theorem rcdo_tells {g0 : List Gd} {u0 : List Au} {r0 : List Int} (q : Nat) (s : Cw) (C : List Ck) (h : RcAt 147 73 215 151 71 217 155 3 157 5 118 111 22 87 q g0 u0 r0 s C) (hst : SInv g0 s.K s.L) (hpu : PInv u0 s.U s.Y) (hdk : DInv r0 s.rs s.B) (hyl : s.Y.length ≤ 100000) (hno : s.no.length ≤ 100000) (n : Nt) (vk vd : Value) (H : List Ck) (hk : IsSl vk n.key.length) (hvd : Bs vd n.data H) (hdl : n.data.length ≤ 1000) : Tells Tryz.prog 72 [.pointer (some ⟨q, 0, none⟩), .agg (ntc n vk vd).toArray] (C ++ H) fun r H' => ∃ C' x A, r = .tuple #[.int .i64 (doV s n), x] ∧ RcAt 147 73 215 151 71 217 155 3 157 5 118 111 22 87 q g0 u0 r0 (doS s n) C' ∧ Bs x (doR s n) A ∧ H' = C' ++ (A ++ H) := by
 refine Tells.enter Tryz.func72 rfl Tryz.ntmps72 rfl ?_
 intro w0 R
 obtain ⟨ps, pp, pd, vL, vE, vN, CS, CP, CD, CF, CE, us, CN, DZ, F1, A1, F2, rfl, hS, hR, hP, hF2, hD, hF, hE, hN, hO⟩ := h
 obtain ⟨lo, lc, rfl⟩ := hF.form
 obtain ⟨eo, ec, rfl, hec⟩ := hE.form
 obtain ⟨no, nc, rfl, hnc⟩ := hN.form
 obtain ⟨ko, kc, rfl⟩ := hk
 obtain ⟨do_, dc, rfl, hdc⟩ := hvd.form
 have hol := hN.len
 refine sr_ (WL.h rfl (Hd.boxA rfl fun b3 => ⟨_, rfl, ?_⟩))
 refine a_ rfl rfl (a_ rfl rfl (ntsr_ (f_ 10 kr_ rfl rfl ?_)))
 refine d_ kr_ rfl mem_ (by rfl) rfl ?_
 refine WL.c rfl (Ent.func Tryz.call14 rfl) (rdecode_tells _ n.data H hvd (by omega)) (Sp.p sp_) ?_
 rintro x H9 ⟨wv, AW, rfl, hW, rfl⟩
 obtain ⟨wo, wc, rfl, hwc⟩ := hW.form
 have hwn := decW_name n.data
 refine m_ rfl rfl (x_ rfl rfl rfl (x_ rfl rfl rfl (WL.h rfl (Hd.alloc (zs := [.int .i64 0, .int .i64 0, .slice none 0 0]) kr_ fun b6 => ⟨_, rfl, ?_⟩))))
 refine WL.s (Hd.storeAll (n := 3) kr_ rfl rfl (by rfl) one_ fr_ (by rfl) ⟨rfl, ?_⟩)
 refine a_ rfl rfl (nt_ (WC.seq (sr_ (m_ rfl rfl (WL.y rfl (Yd.neq rfl rfl) (nt_ (WC.ite rfl (fun h18 => ?_) (fun h18 => ?_))))))))
 have hde : decE n.data ≠ 0 := h18
 refine sr_ (a_ rfl rfl (a_ rfl rfl (nt_ (WC.ret (DN.then_ret (DN.fit (C := (row q [.pointer (some ⟨ps, 0, none⟩), .pointer (some ⟨pp, 0, none⟩), .pointer (some ⟨pd, 0, none⟩), .int .u32 s.e.toNat, .slice lo s.ks.length lc, .slice eo s.ef.length ec, .slice no s.no.length nc] 87 :: (CS ++ (CP ++ (CD ++ (CF ++ (CE ++ (CN ++ DZ))))))) ++ H) sp_ ?_))))))
 refine DN.ret2 Tryz.results72 rfl rfl ?_
 rw [show doV s n = 2 from if_pos hde, show doS s n = s from if_pos hde, show doR s n = [] from if_pos hde]
 exact ⟨_, _, [], rfl, ⟨ps, pp, pd, _, _, _, _, _, _, _, _, _, _, _, F1, _, F2, rfl, hS, hR, hP, hF2, hD, hF, hE, hN, hO⟩, Bs_nil _, rfl⟩
 have hde : ¬ decE n.data ≠ 0 := h18
 have hwg := dec_what (Classical.byContradiction hde)
 refine WC.skip (ts_ (WC.region (f_ 2 kr_ rfl rfl ?_)))
 refine d_ kr_ rfl mem_ (by rfl) rfl ?_
 refine WL.h rfl (Hd.toStr (e := 5) (bs := (decW n.data).name) kr_ kr_ Tryz.underlying9 rfl (hW.mono gr_) ⟨_, rfl, ?_⟩)
 refine a_ rfl rfl (nt_ (WC.seq (sr_ (f_ 7 kr_ rfl rfl ?_))))
 refine d_ kr_ rfl mem_ (by rfl) rfl ?_
 refine nt_ (WC.cond rfl (fun h23 => ?_) (fun h23 => ?_))
 refine WC.seq (sr_ (f_ 0 kr_ rfl rfl ?_))
 refine d_ kr_ rfl mem_ (by rfl) rfl ?_
 refine nt_ (WC.block (sr_ (WL.y rfl (Yd.eql rfl rfl) (a_ rfl rfl (nt_ (WC.ite rfl (fun h26 => ?_) (fun h26 => ?_)))))))
 refine WC.seq (WC.draw 9 kr_ rfl ?_)
 refine WAG.start (N := 9) rfl (wy_ 0 [] rfl (Yd.move rfl) kr_ ?_)
 refine wy_ 1 [0] rfl (Yd.notNil rfl) kr_ ?_
 refine wy_ 2 [1] rfl (Yd.fieldAddr (k := 0) kr_ rfl) kr_ ?_
 refine wq_ (wf_ (i := 3) [2] rfl (QAt.rd Wt.none (Rd.load1 kr_ rfl mem_ (by rfl))) kr_) kr_ ?_
 refine wy_ 4 [] rfl (Yd.fieldAddr (k := 5) kr_ rfl) kr_ ?_
 refine wq_ (wf_ (i := 5) [4] rfl (QAt.rd Wt.none (Rd.load1 kr_ rfl mem_ (by rfl))) kr_) kr_ ?_
 refine ws_ [(6, [5, 3])] kr_ (all_c ?_ (all_n))
 refine so_ (j := 6) [_, _] rfl (SO.c rfl Wt.none rfl (Ent.func Tryz.call109 rfl) (St.rleave_tells ps g0 s.K F1 s.L A1 CS hS hst hR n.order false) (Sp.p sp_) ?_)
 rintro x H9 ⟨rfl, h9⟩
 refine wk_ [_, _, _, _] (_ :: ([_, _] ++ _)) rfl rfl all_n (ws_ [(7, [4, 2, 1, 0])] kr_ (all_c ?_ (all_n)))
 refine so_ (j := 7) [_, _, _, _] rfl (SO.y rfl Wt.none rfl (Yd.assign rfl) (wk_ [] (_ :: ([_, _, _, _] ++ _)) rfl rfl all_n (ws_ [(8, [])] kr_ (all_c ?_ (all_n)))))
 refine so_ (j := 8) [] rfl (SO.y rfl Wt.none rfl (Yd.assign rfl) (wk_ [] (_ :: ([] ++ _)) rfl rfl all_n (wd_ [] rfl kr_ ?_)))
 refine DN.then_normal (WC.ret (DN.block_ret (DN.then_ret (DN.then_ret (DN.fit (C := (row q [.pointer (some ⟨ps, 0, none⟩), .pointer (some ⟨pp, 0, none⟩), .pointer (some ⟨pd, 0, none⟩), .int .u32 s.e.toNat, .slice lo s.ks.length lc, .slice eo s.ef.length ec, .slice no s.no.length nc] 87 :: (H9 ++ (CP ++ (CD ++ (CF ++ (CE ++ (CN ++ DZ))))))) ++ H) sp_ ?_)))))
 refine DN.ret2 Tryz.results72 rfl rfl ?_
 have g1 : doV s n = vd (findK Ho.o s.L n.order).isSome := by unfold doV; rw [if_neg hde, if_pos h23]; unfold undoV; rw [if_pos (by omega)]
 have g2 : doS s n = { s with K := leaveKs s.K s.L n.order false, L := delK Ho.o s.L n.order } := by unfold doS; rw [if_neg hde, if_pos h23]; unfold undoS; rw [if_pos (by omega)]
 have g3 : doR s n = [] := by unfold doR; rw [if_neg hde, if_pos h23]
 rw [g1, g2, g3]
 exact ⟨_, _, [], rfl, ⟨ps, pp, pd, _, _, _, _, _, _, _, _, _, _, _, F1, _, F2, rfl, h9, (hR.leave hst n.order false), hP, hF2, hD, hF, hE, hN, hO⟩, Bs_nil _, rfl⟩
 refine sr_ (WL.y rfl (Yd.eql rfl rfl) (a_ rfl rfl (nt_ (WC.ite rfl (fun h35 => ?_) (fun h35 => ?_)))))
 refine WC.seq (WC.draw 9 kr_ rfl ?_)
 refine WAG.start (N := 9) rfl (wy_ 0 [] rfl (Yd.move rfl) kr_ ?_)
 refine wy_ 1 [0] rfl (Yd.notNil rfl) kr_ ?_
 refine wy_ 2 [1] rfl (Yd.fieldAddr (k := 1) kr_ rfl) kr_ ?_
 refine wq_ (wf_ (i := 3) [2] rfl (QAt.rd Wt.none (Rd.load1 kr_ rfl mem_ (by rfl))) kr_) kr_ ?_
 refine wy_ 4 [] rfl (Yd.fieldAddr (k := 5) kr_ rfl) kr_ ?_
 refine wq_ (wf_ (i := 5) [4] rfl (QAt.rd Wt.none (Rd.load1 kr_ rfl mem_ (by rfl))) kr_) kr_ ?_
 refine ws_ [(6, [5, 3])] kr_ (all_c ?_ (all_n))
 refine so_ (j := 6) [_, _] rfl (SO.c rfl Wt.none rfl (Ent.func Tryz.call110 rfl) (Pu.rturn_tells pp u0 s.U F2 s.Y CP hP hpu (by omega) n.order 1 3) (Sp.p sp_) ?_)
 rintro x H9 ⟨rfl, h9⟩
 refine wk_ [_, _, _, _] (_ :: ([_, _] ++ _)) rfl rfl all_n (ws_ [(7, [4, 2, 1, 0])] kr_ (all_c ?_ (all_n)))
 refine so_ (j := 7) [_, _, _, _] rfl (SO.y rfl Wt.none rfl (Yd.assign rfl) (wk_ [] (_ :: ([_, _, _, _] ++ _)) rfl rfl all_n (ws_ [(8, [])] kr_ (all_c ?_ (all_n)))))
 refine so_ (j := 8) [] rfl (SO.y rfl Wt.none rfl (Yd.assign rfl) (wk_ [] (_ :: ([] ++ _)) rfl rfl all_n (wd_ [] rfl kr_ ?_)))
 refine DN.then_normal (WC.ret (DN.block_ret (DN.then_ret (DN.then_ret (DN.fit (C := (row q [.pointer (some ⟨ps, 0, none⟩), .pointer (some ⟨pp, 0, none⟩), .pointer (some ⟨pd, 0, none⟩), .int .u32 s.e.toNat, .slice lo s.ks.length lc, .slice eo s.ef.length ec, .slice no s.no.length nc] 87 :: (CS ++ (H9 ++ (CD ++ (CF ++ (CE ++ (CN ++ DZ))))))) ++ H) sp_ ?_)))))
 refine DN.ret2 Tryz.results72 rfl rfl ?_
 have e1 : ¬ (decW n.data).what = 1 := by omega
 have e2 : ¬ (decW n.data).what = 2 := by omega
 have g1 : doV s n = vdP (turnB s.Y n.order 1) := by unfold doV; rw [if_neg hde, if_pos h23]; unfold undoV; rw [if_neg e1, if_neg e2, if_pos (by omega)]
 have g2 : doS s n = { s with U := turnKs s.U s.Y n.order 1 0 (-1), Y := turnLs s.Y n.order 1 3 } := by unfold doS; rw [if_neg hde, if_pos h23]; unfold undoS; rw [if_neg e1, if_neg e2, if_pos (by omega)]
 have g3 : doR s n = [] := by unfold doR; rw [if_neg hde, if_pos h23]
 rw [g1, g2, g3]
 exact ⟨_, _, [], rfl, ⟨ps, pp, pd, _, _, _, _, _, _, _, _, _, _, _, F1, _, F2, rfl, hS, hR, h9, hF2, hD, hF, hE, hN, hO⟩, Bs_nil _, rfl⟩
 refine sr_ (WL.y rfl (Yd.eql rfl rfl) (a_ rfl rfl (nt_ (WC.ite rfl (fun h44 => ?_) (fun h44 => ?_)))))
 refine WC.seq (WC.draw 9 kr_ rfl ?_)
 refine WAG.start (N := 9) rfl (wy_ 0 [] rfl (Yd.move rfl) kr_ ?_)
 refine wy_ 1 [0] rfl (Yd.notNil rfl) kr_ ?_
 refine wy_ 2 [1] rfl (Yd.fieldAddr (k := 1) kr_ rfl) kr_ ?_
 refine wq_ (wf_ (i := 3) [2] rfl (QAt.rd Wt.none (Rd.load1 kr_ rfl mem_ (by rfl))) kr_) kr_ ?_
 refine wy_ 4 [] rfl (Yd.fieldAddr (k := 5) kr_ rfl) kr_ ?_
 refine wq_ (wf_ (i := 5) [4] rfl (QAt.rd Wt.none (Rd.load1 kr_ rfl mem_ (by rfl))) kr_) kr_ ?_
 refine ws_ [(6, [5, 3])] kr_ (all_c ?_ (all_n))
 refine so_ (j := 6) [_, _] rfl (SO.c rfl Wt.none rfl (Ent.func Tryz.call110 rfl) (Pu.rturn_tells pp u0 s.U F2 s.Y CP hP hpu (by omega) n.order 2 3) (Sp.p sp_) ?_)
 rintro x H9 ⟨rfl, h9⟩
 refine wk_ [_, _, _, _] (_ :: ([_, _] ++ _)) rfl rfl all_n (ws_ [(7, [4, 2, 1, 0])] kr_ (all_c ?_ (all_n)))
 refine so_ (j := 7) [_, _, _, _] rfl (SO.y rfl Wt.none rfl (Yd.assign rfl) (wk_ [] (_ :: ([_, _, _, _] ++ _)) rfl rfl all_n (ws_ [(8, [])] kr_ (all_c ?_ (all_n)))))
 refine so_ (j := 8) [] rfl (SO.y rfl Wt.none rfl (Yd.assign rfl) (wk_ [] (_ :: ([] ++ _)) rfl rfl all_n (wd_ [] rfl kr_ ?_)))
 refine DN.then_normal (WC.ret (DN.block_ret (DN.then_ret (DN.then_ret (DN.fit (C := (row q [.pointer (some ⟨ps, 0, none⟩), .pointer (some ⟨pp, 0, none⟩), .pointer (some ⟨pd, 0, none⟩), .int .u32 s.e.toNat, .slice lo s.ks.length lc, .slice eo s.ef.length ec, .slice no s.no.length nc] 87 :: (CS ++ (H9 ++ (CD ++ (CF ++ (CE ++ (CN ++ DZ))))))) ++ H) sp_ ?_)))))
 refine DN.ret2 Tryz.results72 rfl rfl ?_
 have e1 : ¬ (decW n.data).what = 1 := by omega
 have e2 : ¬ (decW n.data).what = 2 := by omega
 have e3 : ¬ (decW n.data).what = 3 := by omega
 have g1 : doV s n = vdP (turnB s.Y n.order 2) := by unfold doV; rw [if_neg hde, if_pos h23]; unfold undoV; rw [if_neg e1, if_neg e2, if_neg e3, if_pos (by omega)]
 have g2 : doS s n = { s with U := turnKs s.U s.Y n.order 2 1 0, Y := turnLs s.Y n.order 2 3 } := by unfold doS; rw [if_neg hde, if_pos h23]; unfold undoS; rw [if_neg e1, if_neg e2, if_neg e3, if_pos (by omega)]
 have g3 : doR s n = [] := by unfold doR; rw [if_neg hde, if_pos h23]
 rw [g1, g2, g3]
 exact ⟨_, _, [], rfl, ⟨ps, pp, pd, _, _, _, _, _, _, _, _, _, _, _, F1, _, F2, rfl, hS, hR, h9, hF2, hD, hF, hE, hN, hO⟩, Bs_nil _, rfl⟩
 refine sr_ (WL.y rfl (Yd.eql rfl rfl) (a_ rfl rfl (nt_ (WC.ite rfl (fun h53 => ?_) (fun h53 => ?_)))))
 refine WC.seq (WC.draw 9 kr_ rfl ?_)
 refine WAG.start (N := 9) rfl (wy_ 0 [] rfl (Yd.move rfl) kr_ ?_)
 refine wy_ 1 [0] rfl (Yd.notNil rfl) kr_ ?_
 refine wy_ 2 [1] rfl (Yd.fieldAddr (k := 2) kr_ rfl) kr_ ?_
 refine wq_ (wf_ (i := 3) [2] rfl (QAt.rd Wt.none (Rd.load1 kr_ rfl mem_ (by rfl))) kr_) kr_ ?_
 refine wy_ 4 [] rfl (Yd.fieldAddr (k := 5) kr_ rfl) kr_ ?_
 refine wq_ (wf_ (i := 5) [4] rfl (QAt.rd Wt.none (Rd.load1 kr_ rfl mem_ (by rfl))) kr_) kr_ ?_
 refine ws_ [(6, [5, 3])] kr_ (all_c ?_ (all_n))
 refine so_ (j := 6) [_, _] rfl (SO.c rfl Wt.none rfl (Ent.func Tryz.call111 rfl) (Do.rcancel_tells pd r0 s.B CD hD hdk.many hdk.keys n.order) (Sp.p sp_) ?_)
 rintro x H9 ⟨rfl, h9⟩
 refine wk_ [_, _, _, _] (_ :: ([_, _] ++ _)) rfl rfl all_n (ws_ [(7, [4, 2, 1, 0])] kr_ (all_c ?_ (all_n)))
 refine so_ (j := 7) [_, _, _, _] rfl (SO.y rfl Wt.none rfl (Yd.assign rfl) (wk_ [] (_ :: ([_, _, _, _] ++ _)) rfl rfl all_n (ws_ [(8, [])] kr_ (all_c ?_ (all_n)))))
 refine so_ (j := 8) [] rfl (SO.y rfl Wt.none rfl (Yd.assign rfl) (wk_ [] (_ :: ([] ++ _)) rfl rfl all_n (wd_ [] rfl kr_ ?_)))
 refine DN.then_normal (WC.ret (DN.block_ret (DN.then_ret (DN.then_ret (DN.fit (C := (row q [.pointer (some ⟨ps, 0, none⟩), .pointer (some ⟨pp, 0, none⟩), .pointer (some ⟨pd, 0, none⟩), .int .u32 s.e.toNat, .slice lo s.ks.length lc, .slice eo s.ef.length ec, .slice no s.no.length nc] 87 :: (CS ++ (CP ++ (H9 ++ (CF ++ (CE ++ (CN ++ DZ))))))) ++ H) sp_ ?_)))))
 refine DN.ret2 Tryz.results72 rfl rfl ?_
 have e1 : ¬ (decW n.data).what = 1 := by omega
 have e2 : ¬ (decW n.data).what = 2 := by omega
 have e3 : ¬ (decW n.data).what = 3 := by omega
 have e4 : ¬ (decW n.data).what = 4 := by omega
 have g1 : doV s n = resC (findB s.B n.order) := by unfold doV; rw [if_neg hde, if_pos h23]; unfold undoV; rw [if_neg e1, if_neg e2, if_neg e3, if_neg e4, if_pos (by omega)]
 have g2 : doS s n = { s with rs := roomsC s.rs (findB s.B n.order), B := listC s.B (findB s.B n.order) n.order } := by unfold doS; rw [if_neg hde, if_pos h23]; unfold undoS; rw [if_neg e1, if_neg e2, if_neg e3, if_neg e4, if_pos (by omega)]
 have g3 : doR s n = [] := by unfold doR; rw [if_neg hde, if_pos h23]
 rw [g1, g2, g3]
 exact ⟨_, _, [], rfl, ⟨ps, pp, pd, _, _, _, _, _, _, _, _, _, _, _, F1, _, F2, rfl, hS, hR, hP, hF2, h9, hF, hE, hN, hO⟩, Bs_nil _, rfl⟩
 refine sr_ (WL.y rfl (Yd.eql rfl rfl) (a_ rfl rfl (nt_ (WC.ite rfl (fun h62 => ?_) (fun h62 => ?_)))))
 refine sr_ (m_ rfl rfl (m_ rfl rfl (n_ rfl rfl (f_ 6 kr_ rfl rfl ?_))))
 refine d_ kr_ rfl mem_ (by rfl) rfl ?_
 refine m_ rfl rfl ?_
 refine WL.y rfl (Yd.addS (s := str [33#8]) rfl rfl (by rw [show ∀ b : List (BitVec 8), (str b).size = b.length from fun b => by simp [str, ByteArray.size], show ∀ b : List (BitVec 8), (str b).size = b.length from fun b => by simp [str, ByteArray.size]]; simp; omega)) ?_
 refine WL.renamed (t := 70) (v := .string (str (33#8 :: (decW n.data).name))) rfl (congrArg Value.string (str_append _ _)) (WL.h rfl (Hd.ofStr (e := 5) (bs := 33#8 :: (decW n.data).name) Tryz.underlying9 kr_ kr_ rfl fun b71 c71 k71 hk71 => ⟨_, rfl, ?_⟩))
 refine WL.h rfl (Hd.build1 (e := 22) (z := .slice none 0 0) kr_ kr_ kr_ rfl (by rfl) fun b72 => ⟨_, rfl, ?_⟩)
 refine WL.h rfl (Hd.appendMany (e := 22) (sz := 1) (bytes := 24) (zs := [.slice none 0 0]) (m := 1) kr_ kr_ rfl (by omega) rfl rfl hN sp_ mem_ rfl (by intro u hu; rw [List.mem_singleton.1 hu]; rfl) (by simp only [maxLen]; omega) (by omega) fun v2 C2 ho2 => ⟨_, rfl, ?_⟩)
 obtain ⟨no2, nc2, rfl, _⟩ := ho2.form
 refine n_ rfl rfl (f_ 6 kr_ rfl rfl ?_)
 refine WL.s (Hd.store1s kr_ rfl rfl (by rfl) fr_ (by rfl) (by first | (simp only [List.set_cons_zero, List.set_cons_succ, Nat.zero_add, Nat.add_zero, Nat.reduceAdd]; rfl) | rfl) ⟨rfl, ?_⟩)
 refine ntsr_ (a_ rfl rfl (a_ rfl rfl (nt_ (WC.ret (DN.block_ret (DN.then_ret (DN.then_ret (DN.fit (C := (row q [.pointer (some ⟨ps, 0, none⟩), .pointer (some ⟨pp, 0, none⟩), .pointer (some ⟨pd, 0, none⟩), .int .u32 s.e.toNat, .slice lo s.ks.length lc, .slice eo s.ef.length ec, .slice no2 (s.no.length + 1) nc2] 87 :: (CS ++ (CP ++ (CD ++ (CF ++ (CE ++ (C2 ++ (DZ ++ [k71])))))))) ++ H) sp_ ?_))))))))
 refine DN.ret2 Tryz.results72 rfl rfl ?_
 have e1 : ¬ (decW n.data).what = 1 := by omega
 have e2 : ¬ (decW n.data).what = 2 := by omega
 have e3 : ¬ (decW n.data).what = 3 := by omega
 have e4 : ¬ (decW n.data).what = 4 := by omega
 have e5 : ¬ (decW n.data).what = 5 := by omega
 have g1 : doV s n = 1 := by unfold doV; rw [if_neg hde, if_pos h23]; unfold undoV; rw [if_neg e1, if_neg e2, if_neg e3, if_neg e4, if_neg e5]
 have g2 : doS s n = { s with no := s.no ++ [33#8 :: (decW n.data).name] } := by unfold doS; rw [if_neg hde, if_pos h23]; unfold undoS; rw [if_neg e1, if_neg e2, if_neg e3, if_neg e4, if_neg e5]
 have g3 : doR s n = [] := by unfold doR; rw [if_neg hde, if_pos h23]
 rw [g1, g2, g3]
 exact ⟨_, _, [], rfl, ⟨ps, pp, pd, _, _, _, _, _, _, _, _, _, _, _, F1, _, F2, rfl, hS, hR, hP, hF2, hD, hF, hE, (by rw [List.length_append]; exact ho2), (hO.snoc (by omega) hk71)⟩, Bs_nil _, rfl⟩
 refine WC.skip (DN.block_normal (ts_ (WC.region (a_ rfl rfl (a_ rfl rfl (nt_ (WC.ret (DN.then_ret (DN.fit (C := (row q [.pointer (some ⟨ps, 0, none⟩), .pointer (some ⟨pp, 0, none⟩), .pointer (some ⟨pd, 0, none⟩), .int .u32 s.e.toNat, .slice lo s.ks.length lc, .slice eo s.ef.length ec, .slice no s.no.length nc] 87 :: (CS ++ (CP ++ (CD ++ (CF ++ (CE ++ (CN ++ DZ))))))) ++ H) sp_ ?_)))))))))
 refine DN.ret2 Tryz.results72 rfl rfl ?_
 have h2 : (decW n.data).what = 2 := by have := hwg.1; have := hwg.2.1; omega
 have e1 : ¬ (decW n.data).what = 1 := by omega
 have g1 : doV s n = 2 := by unfold doV; rw [if_neg hde, if_pos h23]; unfold undoV; rw [if_neg e1, if_pos (by omega)]
 have g2 : doS s n = s := by unfold doS; rw [if_neg hde, if_pos h23]; unfold undoS; rw [if_neg e1, if_pos (by omega)]
 have g3 : doR s n = [] := by unfold doR; rw [if_neg hde, if_pos h23]
 rw [g1, g2, g3]
 exact ⟨_, _, [], rfl, ⟨ps, pp, pd, _, _, _, _, _, _, _, _, _, _, _, F1, _, F2, rfl, hS, hR, hP, hF2, hD, hF, hE, hN, hO⟩, Bs_nil _, rfl⟩
 have hnu : ¬ n.undo = true := by rw [h23]; decide
 refine WC.skip (ts_ (sr_ (f_ 0 kr_ rfl rfl ?_)))
 refine d_ kr_ rfl mem_ (by rfl) rfl ?_
 refine nt_ (WC.block (sr_ (WL.y rfl (Yd.eql rfl rfl) (a_ rfl rfl (nt_ (WC.ite rfl (fun h78 => ?_) (fun h78 => ?_)))))))
 refine WC.seq (WC.draw 12 kr_ rfl ?_)
 refine WAG.start (N := 12) rfl (wy_ 0 [] rfl (Yd.move rfl) kr_ ?_)
 refine wy_ 1 [0] rfl (Yd.notNil rfl) kr_ ?_
 refine wy_ 2 [1] rfl (Yd.fieldAddr (k := 0) kr_ rfl) kr_ ?_
 refine wq_ (wf_ (i := 3) [2] rfl (QAt.rd Wt.none (Rd.load1 kr_ rfl mem_ (by rfl))) kr_) kr_ ?_
 refine wy_ 4 [] rfl (Yd.fieldAddr (k := 5) kr_ rfl) kr_ ?_
 refine wq_ (wf_ (i := 5) [4] rfl (QAt.rd Wt.none (Rd.load1 kr_ rfl mem_ (by rfl))) kr_) kr_ ?_
 refine wy_ 6 [] rfl (Yd.move rfl) kr_ ?_
 refine wy_ 7 [] rfl (Yd.fieldAddr (k := 1) kr_ rfl) kr_ ?_
 refine wq_ (wf_ (i := 8) [7] rfl (QAt.rd Wt.none (Rd.load1 kr_ rfl mem_ (by rfl))) kr_) kr_ ?_
 refine ws_ [(9, [8, 6, 5, 3])] kr_ (all_c ?_ (all_n))
 refine so_ (j := 9) [_, _, _, _] rfl (SO.c rfl Wt.none rfl (Ent.func Tryz.call112 rfl) (St.rhold_tells ps g0 s.K F1 s.L A1 CS hS hst hR n.order (str (decW n.data).name) (decW n.data).n) (Sp.p sp_) ?_)
 rintro x H9 ⟨rfl, h9⟩
 refine wk_ [_, _, _, _, _] (_ :: ([_, _, _, _] ++ _)) rfl rfl all_n (ws_ [(10, [7, 4, 2, 1, 0])] kr_ (all_c ?_ (all_n)))
 refine so_ (j := 10) [_, _, _, _, _] rfl (SO.y rfl Wt.none rfl (Yd.assign rfl) (wk_ [] (_ :: ([_, _, _, _, _] ++ _)) rfl rfl all_n (ws_ [(11, [])] kr_ (all_c ?_ (all_n)))))
 refine so_ (j := 11) [] rfl (SO.y rfl Wt.none rfl (Yd.assign rfl) (wk_ [] (_ :: ([] ++ _)) rfl rfl all_n (wd_ [] rfl kr_ ?_)))
 refine DN.then_normal (WC.ret (DN.block_ret (DN.then_ret (DN.fit (C := (row q [.pointer (some ⟨ps, 0, none⟩), .pointer (some ⟨pp, 0, none⟩), .pointer (some ⟨pd, 0, none⟩), .int .u32 s.e.toNat, .slice lo s.ks.length lc, .slice eo s.ef.length ec, .slice no s.no.length nc] 87 :: (H9 ++ (CP ++ (CD ++ (CF ++ (CE ++ (CN ++ DZ))))))) ++ H) sp_ ?_))))
 refine DN.ret2 Tryz.results72 rfl rfl ?_
 have e5 : ¬ (decW n.data).what = 5 := by omega
 have g1 : doV s n = vd (holdB s.K s.L n.order (str (decW n.data).name) (decW n.data).n) := by unfold doV; rw [if_neg hde, if_neg hnu]; unfold workV; rw [if_pos (by omega)]
 have g2 : doS s n = { s with K := holdKs s.K s.L n.order (str (decW n.data).name) (decW n.data).n, L := holdLs s.K s.L n.order (str (decW n.data).name) (decW n.data).n } := by unfold doS; rw [if_neg hde, if_neg hnu]; unfold workS; rw [if_pos (by omega)]
 have g3 : doR s n = [] := by unfold doR; rw [if_neg hde, if_neg hnu]; unfold workR; rw [if_neg e5]
 rw [g1, g2, g3]
 exact ⟨_, _, [], rfl, ⟨ps, pp, pd, _, _, _, _, _, _, _, _, _, _, _, F1, _, F2, rfl, h9, (hR.hold n.order _ _), hP, hF2, hD, hF, hE, hN, hO⟩, Bs_nil _, rfl⟩
 refine sr_ (WL.y rfl (Yd.eql rfl rfl) (a_ rfl rfl (nt_ (WC.ite rfl (fun h90 => ?_) (fun h90 => ?_)))))
 refine WC.seq (WC.draw 9 kr_ rfl ?_)
 refine WAG.start (N := 9) rfl (wy_ 0 [] rfl (Yd.move rfl) kr_ ?_)
 refine wy_ 1 [0] rfl (Yd.notNil rfl) kr_ ?_
 refine wy_ 2 [1] rfl (Yd.fieldAddr (k := 0) kr_ rfl) kr_ ?_
 refine wq_ (wf_ (i := 3) [2] rfl (QAt.rd Wt.none (Rd.load1 kr_ rfl mem_ (by rfl))) kr_) kr_ ?_
 refine wy_ 4 [] rfl (Yd.fieldAddr (k := 5) kr_ rfl) kr_ ?_
 refine wq_ (wf_ (i := 5) [4] rfl (QAt.rd Wt.none (Rd.load1 kr_ rfl mem_ (by rfl))) kr_) kr_ ?_
 refine ws_ [(6, [5, 3])] kr_ (all_c ?_ (all_n))
 refine so_ (j := 6) [_, _] rfl (SO.c rfl Wt.none rfl (Ent.func Tryz.call109 rfl) (St.rleave_tells ps g0 s.K F1 s.L A1 CS hS hst hR n.order true) (Sp.p sp_) ?_)
 rintro x H9 ⟨rfl, h9⟩
 refine wk_ [_, _, _, _] (_ :: ([_, _] ++ _)) rfl rfl all_n (ws_ [(7, [4, 2, 1, 0])] kr_ (all_c ?_ (all_n)))
 refine so_ (j := 7) [_, _, _, _] rfl (SO.y rfl Wt.none rfl (Yd.assign rfl) (wk_ [] (_ :: ([_, _, _, _] ++ _)) rfl rfl all_n (ws_ [(8, [])] kr_ (all_c ?_ (all_n)))))
 refine so_ (j := 8) [] rfl (SO.y rfl Wt.none rfl (Yd.assign rfl) (wk_ [] (_ :: ([] ++ _)) rfl rfl all_n (wd_ [] rfl kr_ ?_)))
 refine DN.then_normal (WC.ret (DN.block_ret (DN.then_ret (DN.fit (C := (row q [.pointer (some ⟨ps, 0, none⟩), .pointer (some ⟨pp, 0, none⟩), .pointer (some ⟨pd, 0, none⟩), .int .u32 s.e.toNat, .slice lo s.ks.length lc, .slice eo s.ef.length ec, .slice no s.no.length nc] 87 :: (H9 ++ (CP ++ (CD ++ (CF ++ (CE ++ (CN ++ DZ))))))) ++ H) sp_ ?_))))
 refine DN.ret2 Tryz.results72 rfl rfl ?_
 have e1 : ¬ (decW n.data).what = 1 := by omega
 have e5 : ¬ (decW n.data).what = 5 := by omega
 have g1 : doV s n = vd (findK Ho.o s.L n.order).isSome := by unfold doV; rw [if_neg hde, if_neg hnu]; unfold workV; rw [if_neg e1, if_pos (by omega)]
 have g2 : doS s n = { s with K := leaveKs s.K s.L n.order true, L := delK Ho.o s.L n.order } := by unfold doS; rw [if_neg hde, if_neg hnu]; unfold workS; rw [if_neg e1, if_pos (by omega)]
 have g3 : doR s n = [] := by unfold doR; rw [if_neg hde, if_neg hnu]; unfold workR; rw [if_neg e5]
 rw [g1, g2, g3]
 exact ⟨_, _, [], rfl, ⟨ps, pp, pd, _, _, _, _, _, _, _, _, _, _, _, F1, _, F2, rfl, h9, (hR.leave hst n.order true), hP, hF2, hD, hF, hE, hN, hO⟩, Bs_nil _, rfl⟩
 refine sr_ (WL.y rfl (Yd.eql rfl rfl) (a_ rfl rfl (nt_ (WC.ite rfl (fun h99 => ?_) (fun h99 => ?_)))))
 refine WC.seq (WC.draw 12 kr_ rfl ?_)
 refine WAG.start (N := 12) rfl (wy_ 0 [] rfl (Yd.move rfl) kr_ ?_)
 refine wy_ 1 [0] rfl (Yd.notNil rfl) kr_ ?_
 refine wy_ 2 [1] rfl (Yd.fieldAddr (k := 1) kr_ rfl) kr_ ?_
 refine wq_ (wf_ (i := 3) [2] rfl (QAt.rd Wt.none (Rd.load1 kr_ rfl mem_ (by rfl))) kr_) kr_ ?_
 refine wy_ 4 [] rfl (Yd.fieldAddr (k := 5) kr_ rfl) kr_ ?_
 refine wq_ (wf_ (i := 5) [4] rfl (QAt.rd Wt.none (Rd.load1 kr_ rfl mem_ (by rfl))) kr_) kr_ ?_
 refine wy_ 6 [] rfl (Yd.move rfl) kr_ ?_
 refine wy_ 7 [] rfl (Yd.fieldAddr (k := 1) kr_ rfl) kr_ ?_
 refine wq_ (wf_ (i := 8) [7] rfl (QAt.rd Wt.none (Rd.load1 kr_ rfl mem_ (by rfl))) kr_) kr_ ?_
 refine ws_ [(9, [8, 6, 5, 3])] kr_ (all_c ?_ (all_n))
 refine so_ (j := 9) [_, _, _, _] rfl (SO.c rfl Wt.none rfl (Ent.func Tryz.call113 rfl) (Pu.rauth_tells pp u0 s.U F2 s.Y CP hP hpu hF2 (by omega) n.order (str (decW n.data).name) (decW n.data).n) (Sp.p sp_) ?_)
 rintro x H9 ⟨rfl, h9⟩
 refine wk_ [_, _, _, _, _] (_ :: ([_, _, _, _] ++ _)) rfl rfl all_n (ws_ [(10, [7, 4, 2, 1, 0])] kr_ (all_c ?_ (all_n)))
 refine so_ (j := 10) [_, _, _, _, _] rfl (SO.y rfl Wt.none rfl (Yd.assign rfl) (wk_ [] (_ :: ([_, _, _, _, _] ++ _)) rfl rfl all_n (ws_ [(11, [])] kr_ (all_c ?_ (all_n)))))
 refine so_ (j := 11) [] rfl (SO.y rfl Wt.none rfl (Yd.assign rfl) (wk_ [] (_ :: ([] ++ _)) rfl rfl all_n (wd_ [] rfl kr_ ?_)))
 refine DN.then_normal (WC.ret (DN.block_ret (DN.then_ret (DN.fit (C := (row q [.pointer (some ⟨ps, 0, none⟩), .pointer (some ⟨pp, 0, none⟩), .pointer (some ⟨pd, 0, none⟩), .int .u32 s.e.toNat, .slice lo s.ks.length lc, .slice eo s.ef.length ec, .slice no s.no.length nc] 87 :: (CS ++ (H9 ++ (CD ++ (CF ++ (CE ++ (CN ++ DZ))))))) ++ H) sp_ ?_))))
 refine DN.ret2 Tryz.results72 rfl rfl ?_
 have e1 : ¬ (decW n.data).what = 1 := by omega
 have e2 : ¬ (decW n.data).what = 2 := by omega
 have e5 : ¬ (decW n.data).what = 5 := by omega
 have g1 : doV s n = vdP (authB s.U s.Y n.order (str (decW n.data).name) (decW n.data).n) := by unfold doV; rw [if_neg hde, if_neg hnu]; unfold workV; rw [if_neg e1, if_neg e2, if_pos (by omega)]
 have g2 : doS s n = { s with U := authKs s.U s.Y n.order (str (decW n.data).name) (decW n.data).n, Y := authLs s.U s.Y n.order (str (decW n.data).name) (decW n.data).n } := by unfold doS; rw [if_neg hde, if_neg hnu]; unfold workS; rw [if_neg e1, if_neg e2, if_pos (by omega)]
 have g3 : doR s n = [] := by unfold doR; rw [if_neg hde, if_neg hnu]; unfold workR; rw [if_neg e5]
 rw [g1, g2, g3]
 exact ⟨_, _, [], rfl, ⟨ps, pp, pd, _, _, _, _, _, _, _, _, _, _, _, F1, _, F2, rfl, hS, hR, h9, hF2, hD, hF, hE, hN, hO⟩, Bs_nil _, rfl⟩
 refine sr_ (WL.y rfl (Yd.eql rfl rfl) (a_ rfl rfl (nt_ (WC.ite rfl (fun h111 => ?_) (fun h111 => ?_)))))
 refine WC.seq (WC.draw 9 kr_ rfl ?_)
 refine WAG.start (N := 9) rfl (wy_ 0 [] rfl (Yd.move rfl) kr_ ?_)
 refine wy_ 1 [0] rfl (Yd.notNil rfl) kr_ ?_
 refine wy_ 2 [1] rfl (Yd.fieldAddr (k := 1) kr_ rfl) kr_ ?_
 refine wq_ (wf_ (i := 3) [2] rfl (QAt.rd Wt.none (Rd.load1 kr_ rfl mem_ (by rfl))) kr_) kr_ ?_
 refine wy_ 4 [] rfl (Yd.fieldAddr (k := 5) kr_ rfl) kr_ ?_
 refine wq_ (wf_ (i := 5) [4] rfl (QAt.rd Wt.none (Rd.load1 kr_ rfl mem_ (by rfl))) kr_) kr_ ?_
 refine ws_ [(6, [5, 3])] kr_ (all_c ?_ (all_n))
 refine so_ (j := 6) [_, _] rfl (SO.c rfl Wt.none rfl (Ent.func Tryz.call110 rfl) (Pu.rturn_tells pp u0 s.U F2 s.Y CP hP hpu (by omega) n.order 1 2) (Sp.p sp_) ?_)
 rintro x H9 ⟨rfl, h9⟩
 refine wk_ [_, _, _, _] (_ :: ([_, _] ++ _)) rfl rfl all_n (ws_ [(7, [4, 2, 1, 0])] kr_ (all_c ?_ (all_n)))
 refine so_ (j := 7) [_, _, _, _] rfl (SO.y rfl Wt.none rfl (Yd.assign rfl) (wk_ [] (_ :: ([_, _, _, _] ++ _)) rfl rfl all_n (ws_ [(8, [])] kr_ (all_c ?_ (all_n)))))
 refine so_ (j := 8) [] rfl (SO.y rfl Wt.none rfl (Yd.assign rfl) (wk_ [] (_ :: ([] ++ _)) rfl rfl all_n (wd_ [] rfl kr_ ?_)))
 refine DN.then_normal (WC.ret (DN.block_ret (DN.then_ret (DN.fit (C := (row q [.pointer (some ⟨ps, 0, none⟩), .pointer (some ⟨pp, 0, none⟩), .pointer (some ⟨pd, 0, none⟩), .int .u32 s.e.toNat, .slice lo s.ks.length lc, .slice eo s.ef.length ec, .slice no s.no.length nc] 87 :: (CS ++ (H9 ++ (CD ++ (CF ++ (CE ++ (CN ++ DZ))))))) ++ H) sp_ ?_))))
 refine DN.ret2 Tryz.results72 rfl rfl ?_
 have e1 : ¬ (decW n.data).what = 1 := by omega
 have e2 : ¬ (decW n.data).what = 2 := by omega
 have e3 : ¬ (decW n.data).what = 3 := by omega
 have e5 : ¬ (decW n.data).what = 5 := by omega
 have g1 : doV s n = vdP (turnB s.Y n.order 1) := by unfold doV; rw [if_neg hde, if_neg hnu]; unfold workV; rw [if_neg e1, if_neg e2, if_neg e3, if_pos (by omega)]
 have g2 : doS s n = { s with U := turnKs s.U s.Y n.order 1 (-1) (-1), Y := turnLs s.Y n.order 1 2 } := by unfold doS; rw [if_neg hde, if_neg hnu]; unfold workS; rw [if_neg e1, if_neg e2, if_neg e3, if_pos (by omega)]
 have g3 : doR s n = [] := by unfold doR; rw [if_neg hde, if_neg hnu]; unfold workR; rw [if_neg e5]
 rw [g1, g2, g3]
 exact ⟨_, _, [], rfl, ⟨ps, pp, pd, _, _, _, _, _, _, _, _, _, _, _, F1, _, F2, rfl, hS, hR, h9, hF2, hD, hF, hE, hN, hO⟩, Bs_nil _, rfl⟩
 refine sr_ (WL.y rfl (Yd.eql rfl rfl) (a_ rfl rfl (nt_ (WC.ite rfl (fun h120 => ?_) (fun h120 => ?_)))))
 refine WC.seq (WC.draw 14 kr_ rfl ?_)
 refine WAG.start (N := 14) rfl (wy_ 0 [] rfl (Yd.move rfl) kr_ ?_)
 refine wy_ 1 [0] rfl (Yd.notNil rfl) kr_ ?_
 refine wy_ 2 [1] rfl (Yd.fieldAddr (k := 2) kr_ rfl) kr_ ?_
 refine wq_ (wf_ (i := 3) [2] rfl (QAt.rd Wt.none (Rd.load1 kr_ rfl mem_ (by rfl))) kr_) kr_ ?_
 refine wy_ 4 [] rfl (Yd.fieldAddr (k := 5) kr_ rfl) kr_ ?_
 refine wq_ (wf_ (i := 5) [4] rfl (QAt.rd Wt.none (Rd.load1 kr_ rfl mem_ (by rfl))) kr_) kr_ ?_
 refine wy_ 6 [] rfl (Yd.fieldAddr (k := 1) kr_ rfl) kr_ ?_
 refine wq_ (wf_ (i := 7) [6] rfl (QAt.rd Wt.none (Rd.load1 kr_ rfl mem_ (by rfl))) kr_) kr_ ?_
 refine ws_ [(8, [7, 5, 3])] kr_ (all_c ?_ (all_n))
 refine so_ (j := 8) [_, _, _] rfl (SO.c rfl Wt.none rfl (Ent.func Tryz.call114 rfl) (Do.rbook_tells pd r0 s.rs s.B CD hD hdk n.order 0 (decW n.data).n) (Sp.p sp_) ?_)
 rintro x H9 ⟨rfl, h9⟩
 obtain ⟨bk, hbk⟩ : ∃ z, bookOf s.rs s.B n.order 0 (decW n.data).n = z := ⟨_, rfl⟩
 rw [hbk] at h9 ⊢
 refine wk_ [_, _, _, _, _] (_ :: ([_, _, _] ++ _)) rfl rfl all_n (wy_ 9 [] rfl (Yd.move rfl) kr_ ?_)
 refine wy_ 10 [9] rfl (Yd.extract rfl rfl) kr_ ?_
 refine wy_ 11 [9] rfl (Yd.extract rfl rfl) kr_ ?_
 refine wy_ 12 [10, 9, 6, 4, 2, 1, 0] rfl (Yd.assign rfl) kr_ ?_
 refine wy_ 13 [12, 11, 10, 9, 6, 4, 2, 1, 0] rfl (Yd.assign rfl) kr_ ?_
 refine wd_ [_, _, _, _, _, _, _, _, _, _] rfl kr_ ?_
 refine ts_ (sr_ (m_ rfl rfl (WL.y rfl (Yd.eql rfl rfl) (nt_ (WC.ite rfl (fun h135 => ?_) (fun h135 => ?_))))))
 obtain ⟨d, rfl⟩ : ∃ d, bk = some d := by
   cases bk with
   | none => exact absurd h135 (by decide)
   | some d => exact ⟨d, rfl⟩
 refine sr_ (m_ rfl rfl (WL.y rfl (Yd.to8 _ kr_ kr_ rfl rfl) ?_))
 refine WL.h rfl (Hd.build1 (e := 5) (z := .int .u8 0) kr_ kr_ kr_ rfl rfl fun b138 => ⟨_, rfl, ?_⟩)
 refine a_ rfl rfl (a_ rfl rfl (nt_ (WC.ret (DN.then_ret (DN.block_ret (DN.then_ret (DN.fit (C := (row q [.pointer (some ⟨ps, 0, none⟩), .pointer (some ⟨pp, 0, none⟩), .pointer (some ⟨pd, 0, none⟩), .int .u32 s.e.toNat, .slice lo s.ks.length lc, .slice eo s.ef.length ec, .slice no s.no.length nc] 87 :: (CS ++ (CP ++ (H9 ++ (CF ++ (CE ++ (CN ++ DZ))))))) ++ ([row b138 (bc [BitVec.ofInt 8 (d : Int)]) 5] ++ H)) sp_ ?_)))))))
 refine DN.ret2 Tryz.results72 rfl rfl ?_
 have e1 : ¬ (decW n.data).what = 1 := by omega
 have e2 : ¬ (decW n.data).what = 2 := by omega
 have e3 : ¬ (decW n.data).what = 3 := by omega
 have e4 : ¬ (decW n.data).what = 4 := by omega
 have g1 : doV s n = (resOf (some d)).2 := by unfold doV; rw [if_neg hde, if_neg hnu]; unfold workV; rw [if_neg e1, if_neg e2, if_neg e3, if_neg e4, if_pos (by omega)]; rw [hbk]
 have g2 : doS s n = { s with rs := roomsB s.rs (some d) (decW n.data).n, B := listB s.B (some d) n.order (decW n.data).n } := by unfold doS; rw [if_neg hde, if_neg hnu]; unfold workS; rw [if_neg e1, if_neg e2, if_neg e3, if_neg e4, if_pos (by omega)]; rw [hbk]
 have g3 : doR s n = [BitVec.ofInt 8 (d : Int)] := by unfold doR; rw [if_neg hde, if_neg hnu]; unfold workR; rw [if_pos (by omega)]; rw [hbk]
 rw [g1, g2, g3]
 exact ⟨_, _, [_], rfl, ⟨ps, pp, pd, _, _, _, _, _, _, _, _, _, _, _, F1, _, F2, rfl, hS, hR, hP, hF2, h9, hF, hE, hN, hO⟩, Bs.block (bs := [BitVec.ofInt 8 (d : Int)]) rfl (by decide) List.mem_cons_self, rfl⟩
 have hbn : bk = none := by
   cases bk with
   | none => rfl
   | some d => exact absurd rfl h135
 refine WC.skip (ts_ (WC.region (a_ rfl rfl (a_ rfl rfl (nt_ (WC.ret (DN.block_ret (DN.then_ret (DN.fit (C := (row q [.pointer (some ⟨ps, 0, none⟩), .pointer (some ⟨pp, 0, none⟩), .pointer (some ⟨pd, 0, none⟩), .int .u32 s.e.toNat, .slice lo s.ks.length lc, .slice eo s.ef.length ec, .slice no s.no.length nc] 87 :: (CS ++ (CP ++ (H9 ++ (CF ++ (CE ++ (CN ++ DZ))))))) ++ H) sp_ ?_)))))))))
 refine DN.ret2 Tryz.results72 rfl rfl ?_
 subst hbn
 have e1 : ¬ (decW n.data).what = 1 := by omega
 have e2 : ¬ (decW n.data).what = 2 := by omega
 have e3 : ¬ (decW n.data).what = 3 := by omega
 have e4 : ¬ (decW n.data).what = 4 := by omega
 have g1 : doV s n = (resOf none).2 := by unfold doV; rw [if_neg hde, if_neg hnu]; unfold workV; rw [if_neg e1, if_neg e2, if_neg e3, if_neg e4, if_pos (by omega)]; rw [hbk]
 have g2 : doS s n = { s with rs := roomsB s.rs none (decW n.data).n, B := listB s.B none n.order (decW n.data).n } := by unfold doS; rw [if_neg hde, if_neg hnu]; unfold workS; rw [if_neg e1, if_neg e2, if_neg e3, if_neg e4, if_pos (by omega)]; rw [hbk]
 have g3 : doR s n = [] := by unfold doR; rw [if_neg hde, if_neg hnu]; unfold workR; rw [if_pos (by omega)]; rw [hbk]
 rw [g1, g2, g3]
 exact ⟨_, _, [], rfl, ⟨ps, pp, pd, _, _, _, _, _, _, _, _, _, _, _, F1, _, F2, rfl, hS, hR, hP, hF2, h9, hF, hE, hN, hO⟩, Bs_nil _, rfl⟩
 refine WC.skip (DN.block_normal (ts_ (WC.region (m_ rfl rfl (m_ rfl rfl (n_ rfl rfl (f_ 6 kr_ rfl rfl ?_)))))))
 refine d_ kr_ rfl mem_ (by rfl) rfl ?_
 refine m_ rfl rfl (WL.h rfl (Hd.ofStr (e := 5) (bs := (decW n.data).name) Tryz.underlying9 kr_ kr_ rfl fun b145 c145 k145 hk145 => ⟨_, rfl, ?_⟩))
 refine WL.h rfl (Hd.build1 (e := 22) (z := .slice none 0 0) kr_ kr_ kr_ rfl (by rfl) fun b146 => ⟨_, rfl, ?_⟩)
 refine WL.h rfl (Hd.appendMany (e := 22) (sz := 1) (bytes := 24) (zs := [.slice none 0 0]) (m := 1) kr_ kr_ rfl (by omega) rfl rfl hN sp_ mem_ rfl (by intro u hu; rw [List.mem_singleton.1 hu]; rfl) (by simp only [maxLen]; omega) (by omega) fun v2 C2 ho2 => ⟨_, rfl, ?_⟩)
 obtain ⟨no2, nc2, rfl, _⟩ := ho2.form
 refine n_ rfl rfl (f_ 6 kr_ rfl rfl ?_)
 refine WL.s (Hd.store1s kr_ rfl rfl (by rfl) fr_ (by rfl) (by first | (simp only [List.set_cons_zero, List.set_cons_succ, Nat.zero_add, Nat.add_zero, Nat.reduceAdd]; rfl) | rfl) ⟨rfl, ?_⟩)
 refine ntsr_ (a_ rfl rfl (a_ rfl rfl (nt_ (WC.ret (DN.fit (C := (row q [.pointer (some ⟨ps, 0, none⟩), .pointer (some ⟨pp, 0, none⟩), .pointer (some ⟨pd, 0, none⟩), .int .u32 s.e.toNat, .slice lo s.ks.length lc, .slice eo s.ef.length ec, .slice no2 (s.no.length + 1) nc2] 87 :: (CS ++ (CP ++ (CD ++ (CF ++ (CE ++ (C2 ++ (DZ ++ [k145])))))))) ++ H) sp_ ?_)))))
 refine DN.ret2 Tryz.results72 rfl rfl ?_
 have e1 : ¬ (decW n.data).what = 1 := by omega
 have e2 : ¬ (decW n.data).what = 2 := by omega
 have e3 : ¬ (decW n.data).what = 3 := by omega
 have e4 : ¬ (decW n.data).what = 4 := by omega
 have e5 : ¬ (decW n.data).what = 5 := by omega
 have g1 : doV s n = 1 := by unfold doV; rw [if_neg hde, if_neg hnu]; unfold workV; rw [if_neg e1, if_neg e2, if_neg e3, if_neg e4, if_neg e5]
 have g2 : doS s n = { s with no := s.no ++ [(decW n.data).name] } := by unfold doS; rw [if_neg hde, if_neg hnu]; unfold workS; rw [if_neg e1, if_neg e2, if_neg e3, if_neg e4, if_neg e5]
 have g3 : doR s n = [] := by unfold doR; rw [if_neg hde, if_neg hnu]; unfold workR; rw [if_neg e5]
 rw [g1, g2, g3]
 exact ⟨_, _, [], rfl, ⟨ps, pp, pd, _, _, _, _, _, _, _, _, _, _, _, F1, _, F2, rfl, hS, hR, hP, hF2, hD, hF, hE, (by rw [List.length_append]; exact ho2), (hO.snoc (by omega) hk145)⟩, Bs_nil _, rfl⟩
end Go.Proofs.YtkamlondepceiaaGreat

set_option linter.unusedVariables false
set_option linter.unusedSimpArgs false
set_option maxHeartbeats 4000000
namespace Go.Proofs.YtkamlondepceiaaGreat
open Go.SL
theorem rcopy_tells (e : BitVec 32) (v : Value) (ks : List Kp) (H : List Ck) (hv : KV v ks H) (hl : ks.length ≤ 1000) (hb : ∀ k ∈ ks, k.asked.length ≤ 1000000 ∧ k.reply.length ≤ 1000000) : Tells Tryz.prog 108 [.agg #[.int .u32 e.toNat, v]] H fun r H' => ∃ w D, r = .agg #[.int .u32 e.toNat, w] ∧ FAt 5 118 w ks D ∧ H' = D ++ H := by
 refine Tells.enter Tryz.func108 rfl Tryz.ntmps108 rfl ?_
 intro w0 R
 obtain ⟨cs, hr, hk⟩ := hv
 obtain ⟨ao, c, rfl, hc⟩ := hr.form
 refine sr_ (WL.h rfl (Hd.boxA rfl fun b1 => ⟨_, rfl, ?_⟩))
 refine WL.h rfl (Hd.alloc (zs := [.int .u32 0, .slice none 0 0]) kr_ fun b2 => ⟨_, rfl, ?_⟩)
 refine ntsr_ (a_ rfl rfl (nt_ (WC.seq (sr_ (a_ rfl rfl (nt_ (WC.block ?_)))))))
 refine WC.loopS (fun z : Nat × Value × List Value × List Ck × List Ck => z.1 ≤ ks.length ∧ Own z.2.1 z.1 z.2.2.1 118 6 z.2.2.2.1 ∧ Kts 5 z.2.2.1 (ks.take z.1) z.2.2.2.2) (fun z : Nat × Value × List Value × List Ck × List Ck => [(4, .int .i64 (z.1 : Int)), (3, z.2.1)]) (fun z : Nat × Value × List Value × List Ck × List Ck => z.2.2.2.1 ++ (z.2.2.2.2 ++ (row b2 [.int .u32 0, .slice none 0 0] 82 :: row b1 [.int .u32 e.toNat, .slice ao ks.length c] 82 :: H))) (fun z : Nat × Value × List Value × List Ck × List Ck => ks.length - z.1) (⟨0, .slice none 0 0, [], [], []⟩) (show 0 ≤ ks.length ∧ Own (.slice none 0 0) 0 [] 118 6 [] ∧ Kts 5 [] (ks.take 0) [] from ⟨Nat.zero_le _, Own.nil _ _, by rw [List.take_zero]; exact .nil⟩) (Sx.put rfl (Sx.put rfl (sx_))) sp_ ?_
 rintro ⟨i, vl, cl, Cl, Dl⟩ hI
 replace hI : i ≤ ks.length ∧ Own vl i cl 118 6 Cl ∧ Kts 5 cl (ks.take i) Dl := hI
 obtain ⟨hi, hOl, hKt⟩ := hI
 change WC _ _ _ _ _ _ ([(4, .int .i64 (i : Int)), (3, vl)] ++ _) (Cl ++ (Dl ++ (row b2 [.int .u32 0, .slice none 0 0] 82 :: row b1 [.int .u32 e.toNat, .slice ao ks.length c] 82 :: H)))
 obtain ⟨lo, lc, rfl, hlc⟩ := hOl.form
 refine WC.seq (sr_ (m_ rfl rfl (f_ 1 kr_ rfl rfl ?_)))
 refine d_ kr_ rfl mem_ (by rfl) rfl ?_
 refine WL.y rfl (Yd.len (e := 118) kr_ rfl) ?_
 refine WL.y rfl (Yd.lss rfl rfl) (nt_ (WC.ite rfl (fun h10 => ?_) (fun h10 => ?_)))
 have hlt : i < ks.length := by omega
 obtain ⟨va, vr, hg, hva, hvr⟩ := hk.at i hlt
 have hrt := hb _ (List.getElem_mem hlt)
 obtain ⟨ao1, ac1, rfl, _⟩ := hva.form
 obtain ⟨ro1, rc1, rfl, _⟩ := hvr.form
 refine WC.skip (ts_ (WC.block (sr_ (f_ 1 kr_ rfl rfl ?_))))
 refine d_ kr_ rfl mem_ (by rfl) rfl ?_
 refine m_ rfl rfl (WL.elemA (e := 118) (s := 6) kr_ kr_ kr_ rfl rfl (rfl) (hr.mono gr_) (hg) (by rfl) (by omega) (hlt) rfl rfl ?_)
 intro p16
 refine WL.h rfl (Hd.alloc (zs := [.int .u32 0, .int .i64 0, .bool false, .slice none 0 0, .int .i64 0, .slice none 0 0]) kr_ fun b5 => ⟨_, rfl, ?_⟩)
 refine WL.s (Hd.storeAll (n := 6) kr_ rfl rfl (by rfl) (kc_one rfl rfl) fr_ (by rfl) ⟨rfl, ?_⟩)
 refine ntsr_ (f_ 3 kr_ rfl rfl ?_)
 refine d_ kr_ rfl mem_ (by rfl) rfl ?_
 refine WL.c rfl (Ent.func Tryz.call40 rfl) (copy_spec _ ks[i].asked H hva hrt.1) (Sp.p sp_) ?_
 rintro x1 H1 ⟨C1, hC1, rfl⟩
 obtain ⟨o1, c1, rfl, hc1⟩ := hC1.form
 refine f_ 3 kr_ rfl rfl ?_
 refine WL.s (Hd.store1s kr_ rfl rfl (by rfl) fr_ (by rfl) (by first | (simp only [List.set_cons_zero, List.set_cons_succ, Nat.zero_add, Nat.add_zero, Nat.reduceAdd]; rfl) | rfl) ⟨rfl, ?_⟩)
 refine ntsr_ (f_ 5 kr_ rfl rfl ?_)
 refine d_ kr_ rfl mem_ (by rfl) rfl ?_
 refine WL.c rfl (Ent.func Tryz.call40 rfl) (copy_spec _ ks[i].reply H hvr hrt.2) (Sp.p sp_) ?_
 rintro x2 H2 ⟨C2, hC2, rfl⟩
 obtain ⟨o2, c2, rfl, hc2⟩ := hC2.form
 refine f_ 5 kr_ rfl rfl ?_
 refine WL.s (Hd.store1s kr_ rfl rfl (by rfl) fr_ (by rfl) (by first | (simp only [List.set_cons_zero, List.set_cons_succ, Nat.zero_add, Nat.add_zero, Nat.reduceAdd]; rfl) | rfl) ⟨rfl, ?_⟩)
 refine ntr_ (m_ rfl rfl (WL.h rfl (Hd.loadAll (n := 6) kr_ rfl mem_ (by rfl) ⟨_, rfl, ?_⟩)))
 refine WL.h rfl (Hd.buildA (e := 118) (sz := 6) (zs := [.int .u32 0, .int .i64 0, .bool false, .slice none 0 0, .int .i64 0, .slice none 0 0]) kr_ kr_ kr_ rfl rfl (by rfl) kr_ fun b28 => ⟨_, rfl, ?_⟩)
 refine WL.h rfl (Hd.appendRow (e := 118) (sz := 6) (bytes := 80) (zs := [.int .u32 0, .int .i64 0, .bool false, .slice none 0 0, .int .i64 0, .slice none 0 0]) kr_ kr_ rfl (by omega) rfl rfl (hOl) sp_ mem_ (by rfl) (kc_one (by rfl) (by rfl)) (by simp only [maxLen]; omega) (by omega) fun v2 C3 h2 => ⟨_, rfl, ?_⟩)
 refine a_ rfl rfl (WL.nil (DN.block_normal (DN.then_normal (WC.region (m_ rfl rfl (WL.y rfl (Yd.add rfl rfl (by omega) (by omega)) ?_))))))
 refine a_ rfl rfl (WL.nil ?_)
 exact DN.againS (⟨i + 1, v2, cl ++ kc ks[i] (.slice o1 ks[i].asked.length c1) (.slice o2 ks[i].reply.length c2), C3, Dl ++ (C1 ++ C2)⟩) (show (i + 1) ≤ ks.length ∧ Own v2 (i + 1) (cl ++ kc ks[i] (.slice o1 ks[i].asked.length c1) (.slice o2 ks[i].reply.length c2)) 118 6 C3 ∧ Kts 5 (cl ++ kc ks[i] (.slice o1 ks[i].asked.length c1) (.slice o2 ks[i].reply.length c2)) (ks.take (i + 1)) (Dl ++ (C1 ++ C2)) from ⟨by omega, h2, by rw [List.take_succ_eq_append_getElem hlt]; exact hKt.append (Kts.one' hC1 hC2)⟩) (show ks.length - (i + 1) < ks.length - i by omega) (Sx.put rfl (Sx.put rfl (sx_))) sp_
 obtain rfl : i = ks.length := by omega
 rw [List.take_length] at hKt
 refine WC.exit (DN.then_exit (DN.then_exit (DN.block_exit (ts_ (WC.region (f_ 0 kr_ rfl rfl ?_))))))
 refine d_ kr_ rfl mem_ (by rfl) rfl ?_
 refine m_ rfl rfl (WL.y rfl (Yd.buildL (pl := [(0, 1), (1, 1)]) (zs := [.int .u32 0, .slice none 0 0]) (parts := [(0, .tmp 31), (1, .tmp 32)]) (vs := [(0, _), (1, _)]) (cells := [_, _]) kr_ kr_ rfl rfl) ?_)
 refine WL.s (Hd.storeAll (n := 2) kr_ rfl rfl (by rfl) one_ fr_ (by rfl) ⟨rfl, ?_⟩)
 refine nt_ (WC.ret (DN.retCS (s := 2) (Cl ++ (Dl ++ H)) Tryz.results108 kr_ rfl mem_ (by rfl) sp_ ?_))
 exact ⟨_, Cl ++ Dl, rfl, ⟨cl, Cl, Dl, hOl, hKt, rfl⟩, by rw [List.append_assoc]⟩
theorem rless_reads (a b : Kp) (va vr wa wr : Value) (h1 : va.oneCell' = true) (h2 : vr.oneCell' = true) (h3 : wa.oneCell' = true) (h4 : wr.oneCell' = true) (H : List Ck) : Reads Tryz.prog 115 [.agg (kc a va vr).toArray, .agg (kc b wa wr).toArray] H (.bool (lessK a b)) := by
 refine Tells.enter Tryz.func115 rfl Tryz.ntmps115 rfl ?_
 intro w0 R
 refine sr_ (WL.h rfl (Hd.boxA rfl fun b2 => ⟨_, rfl, ?_⟩))
 refine WL.h rfl (Hd.boxA rfl fun b3 => ⟨_, rfl, ?_⟩)
 refine a_ rfl rfl (nt_ (WC.seq (WC.block (sr_ (f_ 0 kr_ rfl rfl ?_)))))
 refine d_ kr_ rfl mem_ (by rfl) rfl ?_
 refine f_ 0 kr_ rfl rfl ?_
 refine d_ kr_ rfl mem_ (by rfl) rfl ?_
 refine WL.y rfl (Yd.neq32 _ _ rfl rfl rfl rfl) (a_ rfl rfl (nt_ (WC.ite rfl (fun h5 => ?_) (fun h5 => ?_))))
 refine sr_ (f_ 0 kr_ rfl rfl ?_)
 refine d_ kr_ rfl mem_ (by rfl) rfl ?_
 refine f_ 0 kr_ rfl rfl ?_
 refine d_ kr_ rfl mem_ (by rfl) rfl ?_
 refine WL.y rfl (Yd.lss rfl rfl) (a_ rfl rfl (nt_ (WC.ret (DN.block_ret (DN.then_ret (DN.fit (C := H) sp_ ?_))))))
 refine DN.ret1 Tryz.results115 rfl ?_
 exact ⟨congrArg Value.bool (by unfold lessK; simp [*]), rfl⟩
 refine sr_ (f_ 1 kr_ rfl rfl ?_)
 refine d_ kr_ rfl mem_ (by rfl) rfl ?_
 refine f_ 1 kr_ rfl rfl ?_
 refine d_ kr_ rfl mem_ (by rfl) rfl ?_
 refine WL.y rfl (Yd.neq rfl rfl) (a_ rfl rfl (nt_ (WC.ite rfl (fun h16 => ?_) (fun h16 => ?_))))
 refine sr_ (f_ 1 kr_ rfl rfl ?_)
 refine d_ kr_ rfl mem_ (by rfl) rfl ?_
 refine f_ 1 kr_ rfl rfl ?_
 refine d_ kr_ rfl mem_ (by rfl) rfl ?_
 refine WL.y rfl (Yd.lss rfl rfl) (a_ rfl rfl (nt_ (WC.ret (DN.block_ret (DN.then_ret (DN.fit (C := H) sp_ ?_))))))
 refine DN.ret1 Tryz.results115 rfl ?_
 exact ⟨congrArg Value.bool (by unfold lessK; simp [*]), rfl⟩
 refine WC.skip (DN.block_normal (ts_ (WC.region (f_ 2 kr_ rfl rfl ?_))))
 refine d_ kr_ rfl mem_ (by rfl) rfl ?_
 refine WL.y rfl (Yd.notB rfl) (m_ rfl rfl (WL.part (t := 30) rfl (fun hg30 => ?_) (fun hg30 => ?_)))
 refine gy_ 30 rfl rfl rfl (Yd.fieldAddr (k := 2) kr_ rfl) ?_
 refine WL.gh (dj := 30) rfl rfl rfl (Hd.load1 kr_ rfl mem_ (by rfl) ⟨_, rfl, ?_⟩)
 refine WL.y rfl (Yd.pickT rfl rfl) (a_ rfl rfl (nt_ (WC.ret (DN.fit (C := H) sp_ ?_))))
 refine DN.ret1 Tryz.results115 rfl ?_
 exact ⟨congrArg Value.bool (by unfold lessK; simp [*]), rfl⟩
 refine gn_ 30 rfl rfl rfl rfl (gn_ 30 rfl rfl rfl rfl (WL.y rfl (Yd.pickF rfl rfl) (a_ rfl rfl (nt_ (WC.ret (DN.fit (C := H) sp_ ?_))))))
 refine DN.ret1 Tryz.results115 rfl ?_
 exact ⟨congrArg Value.bool (by unfold lessK; simp [*]), rfl⟩
theorem rfcheck_reads (e : BitVec 32) (v : Value) (ks : List Kp) (H : List Ck) (hv : KV v ks H) (hl : ks.length ≤ 9223372036854775807) : Reads Tryz.prog 105 [.agg #[.int .u32 e.toNat, v]] H (.int .i64 (if chk ks then 0 else 2)) := by
 refine Tells.enter Tryz.func105 rfl Tryz.ntmps105 rfl ?_
 intro w0 R
 obtain ⟨cs, hr, hk⟩ := hv
 obtain ⟨ao, c, rfl, hc⟩ := hr.form
 refine sr_ (WL.h rfl (Hd.boxA rfl fun b1 => ⟨_, rfl, ?_⟩))
 refine a_ rfl rfl (nt_ (WC.seq (sr_ (f_ 1 kr_ rfl rfl ?_))))
 refine d_ kr_ rfl mem_ (by rfl) rfl ?_
 refine WL.y rfl (Yd.len (e := 118) kr_ rfl) ?_
 refine WL.y rfl (Yd.gtr rfl rfl) (nt_ (WC.ite rfl (fun h8 => ?_) (fun h8 => ?_)))
 refine sr_ (a_ rfl rfl (nt_ (WC.ret (DN.then_ret (DN.fit (C := H) sp_ ?_)))))
 refine DN.ret1 Tryz.results105 rfl ?_
 first
   | exact ⟨by rw [if_pos hck], rfl⟩
   | exact ⟨by rw [if_neg hbad], rfl⟩
   | exact ⟨by rw [if_neg (fun h9 => by have := h9.1; omega)], rfl⟩
 refine WC.skip (ts_ (sr_ (a_ rfl rfl (nt_ (WC.block (WC.loopS (fun z : Nat => z ≤ ks.length ∧ chk (ks.take z)) (fun z : Nat => [(3, .int .i64 (z : Int))]) (fun z : Nat => row b1 [.int .u32 e.toNat, .slice ao ks.length c] 82 :: H) (fun z : Nat => ks.length - z) (0) (show 0 ≤ ks.length ∧ chk (ks.take 0) from ⟨Nat.zero_le _, chk_take0 ks⟩) (Sx.put rfl (sx_)) sp_ ?_))))))
 rintro i hI
 replace hI : i ≤ ks.length ∧ chk (ks.take i) := hI
 obtain ⟨hi, hck⟩ := hI
 change WC _ _ _ _ _ _ ([(3, .int .i64 (i : Int))] ++ _) (row b1 [.int .u32 e.toNat, .slice ao ks.length c] 82 :: H)
 refine WC.seq (sr_ (m_ rfl rfl (f_ 1 kr_ rfl rfl ?_)))
 refine d_ kr_ rfl mem_ (by rfl) rfl ?_
 refine WL.y rfl (Yd.len (e := 118) kr_ rfl) ?_
 refine WL.y rfl (Yd.lss rfl rfl) (nt_ (WC.ite rfl (fun h13 => ?_) (fun h13 => ?_)))
 have hlt : i < ks.length := by omega
 obtain ⟨va, vr, hg, hva, hvr⟩ := hk.at i hlt
 obtain ⟨ao1, ac1, rfl, _⟩ := hva.form
 obtain ⟨ro1, rc1, rfl, _⟩ := hvr.form
 refine WC.skip (ts_ (WC.block (sr_ (f_ 1 kr_ rfl rfl ?_))))
 refine d_ kr_ rfl mem_ (by rfl) rfl ?_
 refine m_ rfl rfl (WL.elemA (e := 118) (s := 6) kr_ kr_ kr_ rfl rfl (rfl) (hr.mono gr_) (hg) (by rfl) (by omega) (hlt) rfl rfl ?_)
 intro p19
 refine WL.h rfl (Hd.alloc (zs := [.int .u32 0, .int .i64 0, .bool false, .slice none 0 0, .int .i64 0, .slice none 0 0]) kr_ fun b4 => ⟨_, rfl, ?_⟩)
 refine WL.s (Hd.storeAll (n := 6) kr_ rfl rfl (by rfl) (kc_one rfl rfl) fr_ (by rfl) ⟨rfl, ?_⟩)
 refine nt_ (WC.seq (WC.cutK (fun z : Bool => z = !decide (rightP ks[i])) (fun z : Bool => [(55, .bool z)]) (fun z : Bool => row b4 (kc ks[i] (.slice ao1 ks[i].asked.length ac1) (.slice ro1 ks[i].reply.length rc1)) 118 :: (row b1 [.int .u32 e.toNat, .slice ao ks.length c] 82 :: H)) ?_ ?_))
 refine WC.region (f_ 0 kr_ rfl rfl ?_)
 refine d_ kr_ rfl mem_ (by rfl) rfl ?_
 refine WL.y rfl (Yd.lss rfl rfl) (m_ rfl rfl (WL.partP (t := 24) rfl (fun hg24 => ?_) (fun hg24 => ?_)))
 iterate 3 refine gn_ 24 rfl rfl rfl rfl ?_
 refine WL.y rfl (Yd.pickT rfl rfl) (m_ rfl rfl ?_)
 iterate 3 refine gn_ 29 rfl rfl rfl rfl ?_
 refine WL.y rfl (Yd.pickT rfl rfl) (m_ rfl rfl ?_)
 iterate 4 refine gn_ 34 rfl rfl rfl rfl ?_
 refine WL.y rfl (Yd.pickT rfl rfl) (m_ rfl rfl ?_)
 iterate 4 refine gn_ 40 rfl rfl rfl rfl ?_
 refine WL.y rfl (Yd.pickT rfl rfl) (m_ rfl rfl ?_)
 iterate 3 refine gn_ 46 rfl rfl rfl rfl ?_
 refine WL.y rfl (Yd.pickT rfl rfl) (m_ rfl rfl ?_)
 iterate 3 refine gn_ 51 rfl rfl rfl rfl ?_
 refine WL.y rfl (Yd.pickT rfl rfl) (WL.nil ?_)
 exact DN.reachK (_) (right_z (by unfold rightP; simp only [decide_eq_true_eq, eq_self, true_iff, Bool.false_eq_true, false_iff]; omega)) (Sx.put rfl (sx_)) (Sp.all sp_)
 refine gy_ 24 rfl rfl rfl (Yd.fieldAddr (k := 1) kr_ rfl) ?_
 refine WL.gh (dj := 24) rfl rfl rfl (Hd.load1 kr_ rfl mem_ (by rfl) ⟨_, rfl, ?_⟩)
 refine gy_ 24 rfl rfl rfl (Yd.lss rfl rfl) (WL.y rfl (Yd.pickF rfl rfl) (m_ rfl rfl (WL.partP (t := 29) rfl (fun hg29 => ?_) (fun hg29 => ?_))))
 iterate 3 refine gn_ 29 rfl rfl rfl rfl ?_
 refine WL.y rfl (Yd.pickT rfl rfl) (m_ rfl rfl ?_)
 iterate 4 refine gn_ 34 rfl rfl rfl rfl ?_
 refine WL.y rfl (Yd.pickT rfl rfl) (m_ rfl rfl ?_)
 iterate 4 refine gn_ 40 rfl rfl rfl rfl ?_
 refine WL.y rfl (Yd.pickT rfl rfl) (m_ rfl rfl ?_)
 iterate 3 refine gn_ 46 rfl rfl rfl rfl ?_
 refine WL.y rfl (Yd.pickT rfl rfl) (m_ rfl rfl ?_)
 iterate 3 refine gn_ 51 rfl rfl rfl rfl ?_
 refine WL.y rfl (Yd.pickT rfl rfl) (WL.nil ?_)
 exact DN.reachK (_) (right_z (by unfold rightP; simp only [decide_eq_true_eq, eq_self, true_iff, Bool.false_eq_true, false_iff]; omega)) (Sx.put rfl (sx_)) (Sp.all sp_)
 refine gy_ 29 rfl rfl rfl (Yd.fieldAddr (k := 1) kr_ rfl) ?_
 refine WL.gh (dj := 29) rfl rfl rfl (Hd.load1 kr_ rfl mem_ (by rfl) ⟨_, rfl, ?_⟩)
 refine gy_ 29 rfl rfl rfl (Yd.gtr rfl rfl) (WL.y rfl (Yd.pickF rfl rfl) (m_ rfl rfl (WL.partP (t := 34) rfl (fun hg34 => ?_) (fun hg34 => ?_))))
 iterate 4 refine gn_ 34 rfl rfl rfl rfl ?_
 refine WL.y rfl (Yd.pickT rfl rfl) (m_ rfl rfl ?_)
 iterate 4 refine gn_ 40 rfl rfl rfl rfl ?_
 refine WL.y rfl (Yd.pickT rfl rfl) (m_ rfl rfl ?_)
 iterate 3 refine gn_ 46 rfl rfl rfl rfl ?_
 refine WL.y rfl (Yd.pickT rfl rfl) (m_ rfl rfl ?_)
 iterate 3 refine gn_ 51 rfl rfl rfl rfl ?_
 refine WL.y rfl (Yd.pickT rfl rfl) (WL.nil ?_)
 exact DN.reachK (_) (right_z (by unfold rightP; simp only [decide_eq_true_eq, eq_self, true_iff, Bool.false_eq_true, false_iff]; omega)) (Sx.put rfl (sx_)) (Sp.all sp_)
 refine gy_ 34 rfl rfl rfl (Yd.fieldAddr (k := 3) kr_ rfl) ?_
 refine WL.gh (dj := 34) rfl rfl rfl (Hd.load1 kr_ rfl mem_ (by rfl) ⟨_, rfl, ?_⟩)
 refine gy_ 34 rfl rfl rfl (Yd.len (e := 5) kr_ rfl) ?_
 refine gy_ 34 rfl rfl rfl (Yd.gtr rfl rfl) (WL.y rfl (Yd.pickF rfl rfl) (m_ rfl rfl (WL.partP (t := 40) rfl (fun hg40 => ?_) (fun hg40 => ?_))))
 iterate 4 refine gn_ 40 rfl rfl rfl rfl ?_
 refine WL.y rfl (Yd.pickT rfl rfl) (m_ rfl rfl ?_)
 iterate 3 refine gn_ 46 rfl rfl rfl rfl ?_
 refine WL.y rfl (Yd.pickT rfl rfl) (m_ rfl rfl ?_)
 iterate 3 refine gn_ 51 rfl rfl rfl rfl ?_
 refine WL.y rfl (Yd.pickT rfl rfl) (WL.nil ?_)
 exact DN.reachK (_) (right_z (by unfold rightP; simp only [decide_eq_true_eq, eq_self, true_iff, Bool.false_eq_true, false_iff]; omega)) (Sx.put rfl (sx_)) (Sp.all sp_)
 refine gy_ 40 rfl rfl rfl (Yd.fieldAddr (k := 5) kr_ rfl) ?_
 refine WL.gh (dj := 40) rfl rfl rfl (Hd.load1 kr_ rfl mem_ (by rfl) ⟨_, rfl, ?_⟩)
 refine gy_ 40 rfl rfl rfl (Yd.len (e := 5) kr_ rfl) ?_
 refine gy_ 40 rfl rfl rfl (Yd.gtr rfl rfl) (WL.y rfl (Yd.pickF rfl rfl) (m_ rfl rfl (WL.partP (t := 46) rfl (fun hg46 => ?_) (fun hg46 => ?_))))
 iterate 3 refine gn_ 46 rfl rfl rfl rfl ?_
 refine WL.y rfl (Yd.pickT rfl rfl) (m_ rfl rfl ?_)
 iterate 3 refine gn_ 51 rfl rfl rfl rfl ?_
 refine WL.y rfl (Yd.pickT rfl rfl) (WL.nil ?_)
 exact DN.reachK (_) (right_z (by unfold rightP; simp only [decide_eq_true_eq, eq_self, true_iff, Bool.false_eq_true, false_iff]; omega)) (Sx.put rfl (sx_)) (Sp.all sp_)
 refine gy_ 46 rfl rfl rfl (Yd.fieldAddr (k := 4) kr_ rfl) ?_
 refine WL.gh (dj := 46) rfl rfl rfl (Hd.load1 kr_ rfl mem_ (by rfl) ⟨_, rfl, ?_⟩)
 refine gy_ 46 rfl rfl rfl (Yd.lss rfl rfl) (WL.y rfl (Yd.pickF rfl rfl) (m_ rfl rfl (WL.partP (t := 51) rfl (fun hg51 => ?_) (fun hg51 => ?_))))
 iterate 3 refine gn_ 51 rfl rfl rfl rfl ?_
 refine WL.y rfl (Yd.pickT rfl rfl) (WL.nil ?_)
 exact DN.reachK (_) (right_z (by unfold rightP; simp only [decide_eq_true_eq, eq_self, true_iff, Bool.false_eq_true, false_iff]; omega)) (Sx.put rfl (sx_)) (Sp.all sp_)
 refine gy_ 51 rfl rfl rfl (Yd.fieldAddr (k := 4) kr_ rfl) ?_
 refine WL.gh (dj := 51) rfl rfl rfl (Hd.load1 kr_ rfl mem_ (by rfl) ⟨_, rfl, ?_⟩)
 refine gy_ 51 rfl rfl rfl (Yd.gtr rfl rfl) (WL.y rfl (Yd.pickF rfl rfl) (WL.nil ?_))
 exact DN.reachK (_) (right_z (by unfold rightP; simp only [decide_eq_true_eq, eq_self, true_iff, Bool.false_eq_true, false_iff]; omega)) (Sx.put rfl (sx_)) (Sp.all sp_)
 intro z55 hz55
 refine WC.cond rfl (fun h55 => ?_) (fun h55 => ?_)
 have hbad : ¬ chk ks := fun h => by have := chk_right h hlt; rw [hz55] at h55; simp [this] at h55
 refine sr_ (a_ rfl rfl (nt_ (WC.ret (DN.then_ret (DN.block_ret (DN.then_ret (DN.then_ret (DN.block_ret (DN.then_ret (DN.fit (C := H) sp_ ?_))))))))))
 refine DN.ret1 Tryz.results105 rfl ?_
 first
   | exact ⟨by rw [if_pos hck], rfl⟩
   | exact ⟨by rw [if_neg hbad], rfl⟩
   | exact ⟨by rw [if_neg (fun h9 => by have := h9.1; omega)], rfl⟩
 have hr1 : rightP ks[i] := by rw [hz55] at h55; simpa using h55
 refine WC.skip (DN.then_normal (WC.cutK (fun z : Bool => (z = true → ¬ chk ks) ∧ (z = true ∨ chk (ks.take (i + 1)))) (fun z : Bool => [(68, .bool z)]) (fun z : Bool => row b4 (kc ks[i] (.slice ao1 ks[i].asked.length ac1) (.slice ro1 ks[i].reply.length rc1)) 118 :: (row b1 [.int .u32 e.toNat, .slice ao ks.length c] 82 :: H)) ?_ ?_))
 refine WC.draw 13 kr_ rfl ?_
 refine WAG.start (N := 13) rfl (wy_ 0 [] rfl (Yd.move rfl) kr_ ?_)
 refine wy_ 1 [0] rfl (Yd.gtr rfl rfl) kr_ ?_
 refine wy_ 2 [1] rfl (Yd.move rfl) kr_ ?_
 refine WAG.partP (fun hg58 => ?_) (fun hg58 => ?_)
 refine wg_ 3 [2] 58 rfl rfl (Yd.fieldAddr (k := 1) kr_ rfl) kr_ ?_
 refine wq_ (wf_ (i := 4) [3, 2] rfl (QAt.rd (Wt.yes (dj := 58) rfl rfl) (Rd.load1 kr_ rfl mem_ (by rfl))) kr_) kr_ ?_
 refine wg_ 5 [2] 58 rfl rfl (Yd.move rfl) kr_ ?_
 refine wg_ 6 [5, 2] 58 rfl rfl (Yd.sub rfl rfl (by omega) (by omega)) kr_ ?_
 obtain ⟨lb, lf, lcs, lT, lfr, lex, elo, _, hlm, hlcs⟩ := hr.lies (by omega)
 obtain ⟨va0, vr0, hg0, hva0, hvr0⟩ := hk.at (i - 1) (by omega)
 have hr0 : rightP (ks[i - 1]'(by omega)) := hck.2.1 _ (List.mem_take_iff_getElem.2 ⟨i - 1, by omega, rfl⟩)
 refine wg_ 7 [6, 4, 2] 58 rfl rfl (Yd.indexAddr (e := 118) (s := 6) (b := lb) (o := lf) (n := ks.length) (c := c) kr_ kr_ (congrArg (fun q => some (Value.slice q ks.length c)) elo) rfl (by omega) (by omega)) kr_ ?_
 refine wq_ (wf_ (i := 8) [7, 2] rfl (QAt.rd (Wt.yes (dj := 58) rfl rfl) (Rd.loadA (n := 6) (b := lb) (o := lf + ((i : Int) - 1).toNat * 6) (cs := lcs) (vs := kc (ks[i - 1]'(by omega)) va0 vr0) kr_ rfl (Gr.get gr_ hlm) rfl (by rw [show ((i : Int) - 1).toNat = ((i - 1 : Nat) : Int).toNat by omega]; exact rs_cell hlcs (by rw [hk.len]; omega) hg0))) kr_) kr_ ?_
 refine wq_ (wf_ (i := 9) [2] rfl (QAt.rd (Wt.yes (dj := 58) rfl rfl) (Rd.loadAll (n := 6) kr_ rfl mem_ (by rfl))) kr_) kr_ ?_
 refine wq_ (wf_ (i := 10) [9, 8, 2] rfl (QAt.rf (Wt.yes (dj := 58) rfl rfl) (Ent.func Tryz.call115 rfl) (rless_reads (ks[i - 1]'(by omega)) ks[i] va0 vr0 _ _ (IsSl.of hva0).one (IsSl.of hvr0).one rfl rfl _) Sp.sn) kr_) kr_ ?_
 refine wg_ 11 [10, 2] 58 rfl rfl (Yd.notB rfl) kr_ ?_
 refine wy_ 12 [11, 2] rfl (Yd.pickT rfl rfl) kr_ ?_
 refine wd_ [_, _, _, _, _, _, _, _, _, _, _, _, _] rfl kr_ ?_
 exact DN.reachK (_) (⟨fun h => by
     first
     | (intro hc9; have h8 := chk_adj hc9 (by omega) hlt; rw [lessK_num hr0 hr1] at h; simp only [Bool.not_eq_true', decide_eq_false_iff_not] at h; omega)
     | (cases h; done), by
     first
     | exact .inr (chk_step hck (by omega) hlt hr1 (.inl (by omega)))
     | (by_cases h9 : (ks[i - 1]'(by omega)).num < ks[i].num
        · exact .inr (chk_step hck (by omega) hlt hr1 (.inr h9))
        exact .inl (by rw [lessK_num hr0 hr1]; simp only [Bool.not_eq_true', decide_eq_false_iff_not]; omega))⟩) (Sx.put rfl (sx_)) (Sp.all sp_)
 refine wn_ 3 [2] 58 rfl rfl kr_ ?_
 refine wn_ 4 [3, 2] 58 rfl rfl kr_ ?_
 refine wn_ 5 [2] 58 rfl rfl kr_ ?_
 refine wn_ 6 [5, 2] 58 rfl rfl kr_ ?_
 refine wn_ 7 [6, 4, 2] 58 rfl rfl kr_ ?_
 refine wn_ 8 [7, 2] 58 rfl rfl kr_ ?_
 refine wn_ 9 [2] 58 rfl rfl kr_ ?_
 refine wn_ 10 [9, 8, 2] 58 rfl rfl kr_ ?_
 refine wn_ 11 [10, 2] 58 rfl rfl kr_ ?_
 refine wy_ 12 [11, 2] rfl (Yd.pickF rfl rfl) kr_ ?_
 refine wd_ [_, _, _, _, _, _, _, _, _, _, _, _, _] rfl kr_ ?_
 exact DN.reachK (_) (⟨fun h => by
     first
     | (intro hc9; have h8 := chk_adj hc9 (by omega) hlt; rw [lessK_num hr0 hr1] at h; simp only [Bool.not_eq_true', decide_eq_false_iff_not] at h; omega)
     | (cases h; done), by
     first
     | exact .inr (chk_step hck (by omega) hlt hr1 (.inl (by omega)))
     | (by_cases h9 : (ks[i - 1]'(by omega)).num < ks[i].num
        · exact .inr (chk_step hck (by omega) hlt hr1 (.inr h9))
        exact .inl (by rw [lessK_num hr0 hr1]; simp only [Bool.not_eq_true', decide_eq_false_iff_not]; omega))⟩) (Sx.put rfl (sx_)) (Sp.all sp_)
 intro z68 hz68
 refine WC.cond rfl (fun h68 => ?_) (fun h68 => ?_)
 have hbad : ¬ chk ks := hz68.1 h68
 refine sr_ (a_ rfl rfl (nt_ (WC.ret (DN.block_ret (DN.then_ret (DN.then_ret (DN.block_ret (DN.then_ret (DN.fit (C := H) sp_ ?_)))))))))
 refine DN.ret1 Tryz.results105 rfl ?_
 first
   | exact ⟨by rw [if_pos hck], rfl⟩
   | exact ⟨by rw [if_neg hbad], rfl⟩
   | exact ⟨by rw [if_neg (fun h9 => by have := h9.1; omega)], rfl⟩
 have hnext : chk (ks.take (i + 1)) := by
   rcases hz68.2 with h | h
   · rw [h] at h68; cases h68
   exact h
 refine WC.skip (DN.block_normal (DN.then_normal (WC.region (m_ rfl rfl (WL.y rfl (Yd.add rfl rfl (by omega) (by omega)) ?_)))))
 exact a_ rfl rfl (WL.nil (DN.againS (i + 1) (show (i + 1) ≤ ks.length ∧ chk (ks.take (i + 1)) from ⟨by omega, hnext⟩) (show ks.length - (i + 1) < ks.length - i by omega) (Sx.put rfl (sx_)) sp_))
 obtain rfl : i = ks.length := by omega
 rw [List.take_length] at hck
 refine WC.exit (DN.then_exit (DN.then_exit (DN.block_exit (ts_ (WC.region (a_ rfl rfl (nt_ (WC.ret (DN.fit (C := H) sp_ ?_)))))))))
 refine DN.ret1 Tryz.results105 rfl ?_
 first
   | exact ⟨by rw [if_pos hck], rfl⟩
   | exact ⟨by rw [if_neg hbad], rfl⟩
   | exact ⟨by rw [if_neg (fun h9 => by have := h9.1; omega)], rfl⟩
end Go.Proofs.YtkamlondepceiaaGreat

set_option linter.unusedVariables false
set_option linter.unusedSimpArgs false
set_option maxHeartbeats 4000000
namespace Go.Proofs.YtkamlondepceiaaGreat
open Go.SL
theorem part_ret {l m : List Value} {p q : Bool} (h1 : l = m) (h : p = q) : Value.tuple #[.agg l.toArray, .bool p] = .tuple #[.agg m.toArray, .bool q] := by rw [h1, h]
theorem rnames_reads (k : Int) (H : List Ck) : Reads Tryz.prog 135 [.int .i64 k] H (.string (nmS k)) := by
 refine Tells.enter Tryz.func135 rfl Tryz.ntmps135 rfl ?_
 intro w0 R
 refine sr_ (a_ rfl rfl (ntsr_ (WL.h rfl (Hd.buildSlice (e := 9) (sz := 1) (zs := [.string ⟨#[]⟩]) (parts := [(0, .const (.string ⟨#[]⟩)), (1, .const (.string ⟨#[69, 80, 76, 68]⟩)), (2, .const (.string ⟨#[69, 76]⟩)), (3, .const (.string ⟨#[69, 76]⟩)), (4, .const (.string ⟨#[69, 67]⟩)), (5, .const (.string ⟨#[69, 84, 67]⟩)), (6, .const (.string ⟨#[69, 67]⟩)), (7, .const (.string ⟨#[69, 79, 83, 85, 68]⟩)), (8, .const (.string ⟨#[69, 79, 83, 85, 67, 68]⟩)), (9, .const (.string ⟨#[69, 79, 83, 85]⟩)), (10, .const (.string ⟨#[75, 68]⟩)), (11, .const (.string ⟨#[75]⟩)), (12, .const (.string ⟨#[75]⟩)), (13, .const (.string ⟨#[79, 67, 75, 68]⟩))]) (vs := [(0, .string ⟨#[]⟩), (1, .string ⟨#[69, 80, 76, 68]⟩), (2, .string ⟨#[69, 76]⟩), (3, .string ⟨#[69, 76]⟩), (4, .string ⟨#[69, 67]⟩), (5, .string ⟨#[69, 84, 67]⟩), (6, .string ⟨#[69, 67]⟩), (7, .string ⟨#[69, 79, 83, 85, 68]⟩), (8, .string ⟨#[69, 79, 83, 85, 67, 68]⟩), (9, .string ⟨#[69, 79, 83, 85]⟩), (10, .string ⟨#[75, 68]⟩), (11, .string ⟨#[75]⟩), (12, .string ⟨#[75]⟩), (13, .string ⟨#[79, 67, 75, 68]⟩)]) (cells := [.string ⟨#[]⟩, .string ⟨#[69, 80, 76, 68]⟩, .string ⟨#[69, 76]⟩, .string ⟨#[69, 76]⟩, .string ⟨#[69, 67]⟩, .string ⟨#[69, 84, 67]⟩, .string ⟨#[69, 67]⟩, .string ⟨#[69, 79, 83, 85, 68]⟩, .string ⟨#[69, 79, 83, 85, 67, 68]⟩, .string ⟨#[69, 79, 83, 85]⟩, .string ⟨#[75, 68]⟩, .string ⟨#[75]⟩, .string ⟨#[75]⟩, .string ⟨#[79, 67, 75, 68]⟩]) kr_ kr_ kr_ rfl kr_ kr_ fun b4 => ⟨_, rfl, ?_⟩))))
 refine a_ rfl rfl (nt_ (WC.seq (sr_ (m_ rfl rfl (WL.y rfl (Yd.lss rfl rfl) (m_ rfl rfl (WL.partP (t := 7) rfl (fun hg7 => ?_) (fun hg7 => ?_))))))))
 refine gn_ 7 rfl rfl rfl rfl (gn_ 7 rfl rfl rfl rfl (WL.y rfl (Yd.pickT rfl rfl) (nt_ (WC.yes rfl (sr_ (a_ rfl rfl (nt_ (WC.ret (DN.then_ret (DN.fit (C := H) sp_ ?_))))))))))
 refine DN.ret1 Tryz.results135 rfl ?_
 first
 | exact ⟨rfl, rfl⟩
 | exact ⟨congrArg Value.string (names_no (by first | omega | (simp only [decide_eq_true_eq] at *; omega))).symm, rfl⟩
 refine gy_ 7 rfl rfl rfl (Yd.move rfl) (gy_ 7 rfl rfl rfl (Yd.gtr rfl rfl) (WL.y rfl (Yd.pickF rfl rfl) (nt_ (WC.ite rfl (fun h10 => ?_) (fun h10 => ?_)))))
 refine sr_ (a_ rfl rfl (nt_ (WC.ret (DN.then_ret (DN.fit (C := H) sp_ ?_)))))
 refine DN.ret1 Tryz.results135 rfl ?_
 first
 | exact ⟨rfl, rfl⟩
 | exact ⟨congrArg Value.string (names_no (by first | omega | (simp only [decide_eq_true_eq] at *; omega))).symm, rfl⟩
 refine WC.skip (ts_ (WC.region ?_))
 have h0 : 1 ≤ k := by omega
 have h1 : k ≤ 13 := by omega
 refine m_ rfl rfl (m_ rfl rfl (WL.elem (e := 9) kr_ kr_ kr_ rfl rfl (by omega) (.inr ⟨b4, 0, 14, [.string ⟨#[]⟩, .string ⟨#[69, 80, 76, 68]⟩, .string ⟨#[69, 76]⟩, .string ⟨#[69, 76]⟩, .string ⟨#[69, 67]⟩, .string ⟨#[69, 84, 67]⟩, .string ⟨#[69, 67]⟩, .string ⟨#[69, 79, 83, 85, 68]⟩, .string ⟨#[69, 79, 83, 85, 67, 68]⟩, .string ⟨#[69, 79, 83, 85]⟩, .string ⟨#[75, 68]⟩, .string ⟨#[75]⟩, .string ⟨#[75]⟩, .string ⟨#[79, 67, 75, 68]⟩], 9, (0, 0), true, rfl, Nat.le_refl _, mem_, rfl⟩) (names_cell h0 h1) (by omega) rfl rfl ?_))
 intro _
 refine a_ rfl rfl (nt_ (WC.ret (DN.fit (C := H) sp_ ?_)))
 refine DN.ret1 Tryz.results135 rfl ?_
 first
 | exact ⟨rfl, rfl⟩
 | exact ⟨congrArg Value.string (names_no (by first | omega | (simp only [decide_eq_true_eq] at *; omega))).symm, rfl⟩
theorem rhas_reads (k : Int) (b : BitVec 8) (H : List Ck) : Reads Tryz.prog 137 [.int .i64 k, .int .u8 b.toNat] H (.bool (decide (b ∈ nb k))) := by
 refine Tells.enter Tryz.func137 rfl Tryz.ntmps137 rfl ?_
 intro w0 R
 have hsz : (str (nb k)).size = (nb k).length := by simp [str, ByteArray.size]
 have hnl : (nb k).length ≤ 6 := nb_len k
 refine sr_ (a_ rfl rfl (ntsr_ (m_ rfl rfl (WL.r rfl (Ent.func Tryz.call135 rfl) (rnames_reads k _) (WL.renamed (t := 8) (v := .string (str (nb k))) rfl (congrArg Value.string (nmS_str k)) (a_ rfl rfl (nt_ (WC.seq (sr_ (a_ rfl rfl (nt_ (WC.block (WC.loopS (fun z : Nat => z ≤ (nb k).length ∧ b ∉ (nb k).take z) (fun z : Nat => [(6, .int .i64 (z : Int))]) (fun z : Nat => H) (fun z : Nat => (nb k).length - z) (0) (show 0 ≤ (nb k).length ∧ b ∉ (nb k).take 0 from ⟨Nat.zero_le _, by simp⟩) (Sx.put rfl (sx_)) sp_ ?_)))))))))))))
 rintro i hI
 replace hI : i ≤ (nb k).length ∧ b ∉ (nb k).take i := hI
 obtain ⟨hi, hno⟩ := hI
 change WC _ _ _ _ _ _ ([(6, .int .i64 (i : Int))] ++ _) (H)
 refine WC.seq (sr_ (m_ rfl rfl (m_ rfl rfl (WL.y rfl (Yd.lenS Tryz.underlying9 rfl) (WL.y rfl (Yd.lss rfl rfl) (nt_ (WC.ite rfl (fun h12 => ?_) (fun h12 => ?_))))))))
 have hlt : i < (nb k).length := by omega
 refine WC.skip (ts_ (WC.block (sr_ (m_ rfl rfl (m_ rfl rfl (WL.y rfl (Yd.indexS (i := i) (b := (nb k)[i]) Tryz.underlying9 rfl rfl rfl (str_get hlt)) (m_ rfl rfl (WL.y rfl (Yd.eql8 _ _ rfl rfl rfl rfl) (nt_ (WC.ite rfl (fun h19 => ?_) (fun h19 => ?_)))))))))))
 refine sr_ (a_ rfl rfl (nt_ (WC.ret (DN.block_ret (DN.then_ret (DN.then_ret (DN.block_ret (DN.then_ret (DN.ret1 Tryz.results137 rfl ?_)))))))))
 first
 | (rw [decide_eq_false hno]; exact ⟨rfl, rfl⟩)
 | (rw [decide_eq_true (show b ∈ nb k by rw [← h19]; exact List.getElem_mem hlt)]; exact ⟨rfl, rfl⟩)
 refine WC.skip (DN.block_normal (DN.then_normal (WC.region (m_ rfl rfl (WL.y rfl (Yd.add rfl rfl (by omega) (by omega)) ?_)))))
 refine a_ rfl rfl (WL.nil ?_)
 exact DN.againS (i + 1) (show (i + 1) ≤ (nb k).length ∧ b ∉ (nb k).take (i + 1) from ⟨by omega, by rw [List.take_succ_eq_append_getElem hlt]; intro h; rcases List.mem_append.1 h with h | h; exact hno h; exact h19 (List.mem_singleton.1 h).symm⟩) (show (nb k).length - (i + 1) < (nb k).length - i by omega) (Sx.put rfl (sx_)) sp_
 obtain rfl : i = (nb k).length := by omega
 rw [List.take_length] at hno
 refine WC.exit (DN.then_exit (DN.then_exit (DN.block_exit (ts_ (WC.region (a_ rfl rfl (nt_ (WC.ret (DN.ret1 Tryz.results137 rfl ?_)))))))))
 first
 | (rw [decide_eq_false hno]; exact ⟨rfl, rfl⟩)
 | (rw [decide_eq_true (show b ∈ nb k by rw [← h19]; exact List.getElem_mem hlt)]; exact ⟨rfl, rfl⟩)
theorem rpart_reads (n : Nt) (vk vd : Value) (hk : IsSl vk n.key.length) (hd : IsSl vd n.data.length) (b : BitVec 8) (H : List Ck) : Reads Tryz.prog 136 [.agg (ntc n vk vd).toArray, .int .u8 b.toNat] H (.tuple #[.agg (partV n vk vd b).toArray, .bool (zeroN n b)]) := by
 refine Tells.enter Tryz.func136 rfl Tryz.ntmps136 rfl ?_
 intro w0 R
 obtain ⟨ko, kc, rfl⟩ := hk
 obtain ⟨do_, dc, rfl⟩ := hd
 refine sr_ (WL.h rfl (Hd.boxA rfl fun b2 => ⟨_, rfl, ?_⟩))
 refine WL.h rfl (Hd.alloc (zs := [.int .i64 0, .int .u64 0, .slice none 0 0]) kr_ fun b4 => ⟨_, rfl, ?_⟩)
 refine a_ rfl rfl (nt_ (WC.seq (sr_ (m_ rfl rfl (nt_ (WC.block (sr_ (WL.y rfl (Yd.eql8 _ (69#8) rfl rfl rfl rfl) (a_ rfl rfl (nt_ (WC.ite rfl (fun h7 => ?_) (fun h7 => ?_))))))))))))
 refine WC.seq (WC.draw 9 kr_ rfl ?_)
 refine WAG.start (N := 9) rfl (wy_ 0 [] rfl (Yd.fieldAddr (k := 1) kr_ rfl) kr_ ?_)
 refine wq_ (wf_ (i := 1) [0] rfl (QAt.rd Wt.none (Rd.load1 kr_ rfl mem_ (by rfl))) kr_) kr_ ?_
 refine wy_ 2 [1] rfl (Yd.conv32_64 _ kr_ kr_ rfl rfl) kr_ ?_
 refine wy_ 3 [2] rfl (Yd.buildL (pl := [(0, 1), (1, 1), (2, 1)]) (zs := [.int .i64 0, .int .u64 0, .slice none 0 0]) (parts := [(0, .const (.int .i64 4)), (1, .tmp 11)]) (vs := [(0, _), (1, _)]) (cells := [_, _, .slice none 0 0]) kr_ kr_ rfl rfl) kr_ ?_
 refine wy_ 4 [] rfl (Yd.fieldAddr (k := 1) kr_ rfl) kr_ ?_
 refine wq_ (wf_ (i := 5) [4] rfl (QAt.rd Wt.none (Rd.load1 kr_ rfl mem_ (by rfl))) kr_) kr_ ?_
 refine wy_ 6 [5] rfl (Yd.eql32 _ (0#32) rfl rfl rfl rfl) kr_ ?_
 refine ws_ [(7, [3, 2, 1, 0])] kr_ (all_c ?_ (all_n))
 refine so_ (j := 7) [_, _, _, _] rfl (SO.s rfl Wt.none (Hd.storeAll (n := 3) kr_ rfl rfl (by rfl) one_ fr_ (by rfl) ⟨rfl, ?_⟩))
 refine wk_ [_, _, _] (([_, _, _, _] ++ _)) rfl rfl (all_c (wf_ [4] rfl (QAt.rd Wt.none (Rd.load1 kr_ rfl mem_ (by rfl))) kr_) all_n) ?_
 refine ws_ [(8, [6, 5, 4])] kr_ (all_c ?_ (all_n))
 refine so_ (j := 8) [_, _, _] rfl (SO.y rfl Wt.none rfl (Yd.assign rfl) (wk_ [] (_ :: ([_, _, _] ++ _)) rfl rfl all_n (wd_ [] rfl kr_ ?_)))
 refine DN.then_normal (WC.ret (DN.block_ret (DN.then_ret (DN.retCT (s := 3) H Tryz.results136 kr_ rfl rfl mem_ (by rfl) sp_ ?_))))
 exact ⟨part_ret (by simp [partV, *]) (by simp [zeroN, *]), rfl⟩
 refine sr_ (WL.y rfl (Yd.eql8 _ (80#8) rfl rfl rfl rfl) (a_ rfl rfl (nt_ (WC.ite rfl (fun h16 => ?_) (fun h16 => ?_)))))
 refine WC.seq (WC.draw 9 kr_ rfl ?_)
 refine WAG.start (N := 9) rfl (wy_ 0 [] rfl (Yd.fieldAddr (k := 2) kr_ rfl) kr_ ?_)
 refine wq_ (wf_ (i := 1) [0] rfl (QAt.rd Wt.none (Rd.load1 kr_ rfl mem_ (by rfl))) kr_) kr_ ?_
 refine wy_ 2 [1] rfl (Yd.conv32_64 _ kr_ kr_ rfl rfl) kr_ ?_
 refine wy_ 3 [2] rfl (Yd.buildL (pl := [(0, 1), (1, 1), (2, 1)]) (zs := [.int .i64 0, .int .u64 0, .slice none 0 0]) (parts := [(0, .const (.int .i64 4)), (1, .tmp 20)]) (vs := [(0, _), (1, _)]) (cells := [_, _, .slice none 0 0]) kr_ kr_ rfl rfl) kr_ ?_
 refine wy_ 4 [] rfl (Yd.fieldAddr (k := 2) kr_ rfl) kr_ ?_
 refine wq_ (wf_ (i := 5) [4] rfl (QAt.rd Wt.none (Rd.load1 kr_ rfl mem_ (by rfl))) kr_) kr_ ?_
 refine wy_ 6 [5] rfl (Yd.eql32 _ (0#32) rfl rfl rfl rfl) kr_ ?_
 refine ws_ [(7, [3, 2, 1, 0])] kr_ (all_c ?_ (all_n))
 refine so_ (j := 7) [_, _, _, _] rfl (SO.s rfl Wt.none (Hd.storeAll (n := 3) kr_ rfl rfl (by rfl) one_ fr_ (by rfl) ⟨rfl, ?_⟩))
 refine wk_ [_, _, _] (([_, _, _, _] ++ _)) rfl rfl (all_c (wf_ [4] rfl (QAt.rd Wt.none (Rd.load1 kr_ rfl mem_ (by rfl))) kr_) all_n) ?_
 refine ws_ [(8, [6, 5, 4])] kr_ (all_c ?_ (all_n))
 refine so_ (j := 8) [_, _, _] rfl (SO.y rfl Wt.none rfl (Yd.assign rfl) (wk_ [] (_ :: ([_, _, _] ++ _)) rfl rfl all_n (wd_ [] rfl kr_ ?_)))
 refine DN.then_normal (WC.ret (DN.block_ret (DN.then_ret (DN.retCT (s := 3) H Tryz.results136 kr_ rfl rfl mem_ (by rfl) sp_ ?_))))
 exact ⟨part_ret (by simp [partV, *]) (by simp [zeroN, *]), rfl⟩
 refine sr_ (WL.y rfl (Yd.eql8 _ (76#8) rfl rfl rfl rfl) (a_ rfl rfl (nt_ (WC.ite rfl (fun h25 => ?_) (fun h25 => ?_)))))
 refine WC.seq (WC.draw 8 kr_ rfl ?_)
 refine WAG.start (N := 8) rfl (wy_ 0 [] rfl (Yd.fieldAddr (k := 3) kr_ rfl) kr_ ?_)
 refine wq_ (wf_ (i := 1) [0] rfl (QAt.rd Wt.none (Rd.load1 kr_ rfl mem_ (by rfl))) kr_) kr_ ?_
 refine wy_ 2 [1] rfl (Yd.buildL (pl := [(0, 1), (1, 1), (2, 1)]) (zs := [.int .i64 0, .int .u64 0, .slice none 0 0]) (parts := [(0, .const (.int .i64 8)), (1, .tmp 28)]) (vs := [(0, _), (1, _)]) (cells := [_, _, .slice none 0 0]) kr_ kr_ rfl rfl) kr_ ?_
 refine wy_ 3 [] rfl (Yd.fieldAddr (k := 3) kr_ rfl) kr_ ?_
 refine wq_ (wf_ (i := 4) [3] rfl (QAt.rd Wt.none (Rd.load1 kr_ rfl mem_ (by rfl))) kr_) kr_ ?_
 refine wy_ 5 [4] rfl (Yd.eql64 _ (0#64) rfl rfl rfl rfl) kr_ ?_
 refine ws_ [(6, [2, 1, 0])] kr_ (all_c ?_ (all_n))
 refine so_ (j := 6) [_, _, _] rfl (SO.s rfl Wt.none (Hd.storeAll (n := 3) kr_ rfl rfl (by rfl) one_ fr_ (by rfl) ⟨rfl, ?_⟩))
 refine wk_ [_, _, _] (([_, _, _] ++ _)) rfl rfl (all_c (wf_ [3] rfl (QAt.rd Wt.none (Rd.load1 kr_ rfl mem_ (by rfl))) kr_) all_n) ?_
 refine ws_ [(7, [5, 4, 3])] kr_ (all_c ?_ (all_n))
 refine so_ (j := 7) [_, _, _] rfl (SO.y rfl Wt.none rfl (Yd.assign rfl) (wk_ [] (_ :: ([_, _, _] ++ _)) rfl rfl all_n (wd_ [] rfl kr_ ?_)))
 refine DN.then_normal (WC.ret (DN.block_ret (DN.then_ret (DN.retCT (s := 3) H Tryz.results136 kr_ rfl rfl mem_ (by rfl) sp_ ?_))))
 exact ⟨part_ret (by simp [partV, *]) (by simp [zeroN, *]), rfl⟩
 refine sr_ (WL.y rfl (Yd.eql8 _ (84#8) rfl rfl rfl rfl) (a_ rfl rfl (nt_ (WC.ite rfl (fun h33 => ?_) (fun h33 => ?_)))))
 refine WC.seq (WC.draw 8 kr_ rfl ?_)
 refine WAG.start (N := 8) rfl (wy_ 0 [] rfl (Yd.fieldAddr (k := 4) kr_ rfl) kr_ ?_)
 refine wq_ (wf_ (i := 1) [0] rfl (QAt.rd Wt.none (Rd.load1 kr_ rfl mem_ (by rfl))) kr_) kr_ ?_
 refine wy_ 2 [1] rfl (Yd.buildL (pl := [(0, 1), (1, 1), (2, 1)]) (zs := [.int .i64 0, .int .u64 0, .slice none 0 0]) (parts := [(0, .const (.int .i64 8)), (1, .tmp 36)]) (vs := [(0, _), (1, _)]) (cells := [_, _, .slice none 0 0]) kr_ kr_ rfl rfl) kr_ ?_
 refine wy_ 3 [] rfl (Yd.fieldAddr (k := 4) kr_ rfl) kr_ ?_
 refine wq_ (wf_ (i := 4) [3] rfl (QAt.rd Wt.none (Rd.load1 kr_ rfl mem_ (by rfl))) kr_) kr_ ?_
 refine wy_ 5 [4] rfl (Yd.eql64 _ (0#64) rfl rfl rfl rfl) kr_ ?_
 refine ws_ [(6, [2, 1, 0])] kr_ (all_c ?_ (all_n))
 refine so_ (j := 6) [_, _, _] rfl (SO.s rfl Wt.none (Hd.storeAll (n := 3) kr_ rfl rfl (by rfl) one_ fr_ (by rfl) ⟨rfl, ?_⟩))
 refine wk_ [_, _, _] (([_, _, _] ++ _)) rfl rfl (all_c (wf_ [3] rfl (QAt.rd Wt.none (Rd.load1 kr_ rfl mem_ (by rfl))) kr_) all_n) ?_
 refine ws_ [(7, [5, 4, 3])] kr_ (all_c ?_ (all_n))
 refine so_ (j := 7) [_, _, _] rfl (SO.y rfl Wt.none rfl (Yd.assign rfl) (wk_ [] (_ :: ([_, _, _] ++ _)) rfl rfl all_n (wd_ [] rfl kr_ ?_)))
 refine DN.then_normal (WC.ret (DN.block_ret (DN.then_ret (DN.retCT (s := 3) H Tryz.results136 kr_ rfl rfl mem_ (by rfl) sp_ ?_))))
 exact ⟨part_ret (by simp [partV, *]) (by simp [zeroN, *]), rfl⟩
 refine sr_ (WL.y rfl (Yd.eql8 _ (79#8) rfl rfl rfl rfl) (a_ rfl rfl (nt_ (WC.ite rfl (fun h41 => ?_) (fun h41 => ?_)))))
 refine WC.seq (WC.draw 9 kr_ rfl ?_)
 refine WAG.start (N := 9) rfl (wy_ 0 [] rfl (Yd.fieldAddr (k := 5) kr_ rfl) kr_ ?_)
 refine wq_ (wf_ (i := 1) [0] rfl (QAt.rd Wt.none (Rd.load1 kr_ rfl mem_ (by rfl))) kr_) kr_ ?_
 refine wy_ 2 [1] rfl (Yd.conv32_64 _ kr_ kr_ rfl rfl) kr_ ?_
 refine wy_ 3 [2] rfl (Yd.buildL (pl := [(0, 1), (1, 1), (2, 1)]) (zs := [.int .i64 0, .int .u64 0, .slice none 0 0]) (parts := [(0, .const (.int .i64 4)), (1, .tmp 45)]) (vs := [(0, _), (1, _)]) (cells := [_, _, .slice none 0 0]) kr_ kr_ rfl rfl) kr_ ?_
 refine wy_ 4 [] rfl (Yd.fieldAddr (k := 5) kr_ rfl) kr_ ?_
 refine wq_ (wf_ (i := 5) [4] rfl (QAt.rd Wt.none (Rd.load1 kr_ rfl mem_ (by rfl))) kr_) kr_ ?_
 refine wy_ 6 [5] rfl (Yd.eql32 _ (0#32) rfl rfl rfl rfl) kr_ ?_
 refine ws_ [(7, [3, 2, 1, 0])] kr_ (all_c ?_ (all_n))
 refine so_ (j := 7) [_, _, _, _] rfl (SO.s rfl Wt.none (Hd.storeAll (n := 3) kr_ rfl rfl (by rfl) one_ fr_ (by rfl) ⟨rfl, ?_⟩))
 refine wk_ [_, _, _] (([_, _, _, _] ++ _)) rfl rfl (all_c (wf_ [4] rfl (QAt.rd Wt.none (Rd.load1 kr_ rfl mem_ (by rfl))) kr_) all_n) ?_
 refine ws_ [(8, [6, 5, 4])] kr_ (all_c ?_ (all_n))
 refine so_ (j := 8) [_, _, _] rfl (SO.y rfl Wt.none rfl (Yd.assign rfl) (wk_ [] (_ :: ([_, _, _] ++ _)) rfl rfl all_n (wd_ [] rfl kr_ ?_)))
 refine DN.then_normal (WC.ret (DN.block_ret (DN.then_ret (DN.retCT (s := 3) H Tryz.results136 kr_ rfl rfl mem_ (by rfl) sp_ ?_))))
 exact ⟨part_ret (by simp [partV, *]) (by simp [zeroN, *]), rfl⟩
 refine sr_ (WL.y rfl (Yd.eql8 _ (83#8) rfl rfl rfl rfl) (a_ rfl rfl (nt_ (WC.ite rfl (fun h50 => ?_) (fun h50 => ?_)))))
 refine WC.seq (WC.draw 9 kr_ rfl ?_)
 refine WAG.start (N := 9) rfl (wy_ 0 [] rfl (Yd.fieldAddr (k := 6) kr_ rfl) kr_ ?_)
 refine wq_ (wf_ (i := 1) [0] rfl (QAt.rd Wt.none (Rd.load1 kr_ rfl mem_ (by rfl))) kr_) kr_ ?_
 refine wy_ 2 [1] rfl (Yd.to64 _ kr_ kr_ rfl rfl) kr_ ?_
 refine wy_ 3 [2] rfl (Yd.buildL (pl := [(0, 1), (1, 1), (2, 1)]) (zs := [.int .i64 0, .int .u64 0, .slice none 0 0]) (parts := [(0, .const (.int .i64 1)), (1, .tmp 54)]) (vs := [(0, _), (1, _)]) (cells := [_, _, .slice none 0 0]) kr_ kr_ rfl rfl) kr_ ?_
 refine wy_ 4 [] rfl (Yd.fieldAddr (k := 6) kr_ rfl) kr_ ?_
 refine wq_ (wf_ (i := 5) [4] rfl (QAt.rd Wt.none (Rd.load1 kr_ rfl mem_ (by rfl))) kr_) kr_ ?_
 refine wy_ 6 [5] rfl (Yd.eql rfl rfl) kr_ ?_
 refine ws_ [(7, [3, 2, 1, 0])] kr_ (all_c ?_ (all_n))
 refine so_ (j := 7) [_, _, _, _] rfl (SO.s rfl Wt.none (Hd.storeAll (n := 3) kr_ rfl rfl (by rfl) one_ fr_ (by rfl) ⟨rfl, ?_⟩))
 refine wk_ [_, _, _] (([_, _, _, _] ++ _)) rfl rfl (all_c (wf_ [4] rfl (QAt.rd Wt.none (Rd.load1 kr_ rfl mem_ (by rfl))) kr_) all_n) ?_
 refine ws_ [(8, [6, 5, 4])] kr_ (all_c ?_ (all_n))
 refine so_ (j := 8) [_, _, _] rfl (SO.y rfl Wt.none rfl (Yd.assign rfl) (wk_ [] (_ :: ([_, _, _] ++ _)) rfl rfl all_n (wd_ [] rfl kr_ ?_)))
 refine DN.then_normal (WC.ret (DN.block_ret (DN.then_ret (DN.retCT (s := 3) H Tryz.results136 kr_ rfl rfl mem_ (by rfl) sp_ ?_))))
 exact ⟨part_ret (by simp [partV, *]) (by simp [zeroN, *]), rfl⟩
 refine sr_ (WL.y rfl (Yd.eql8 _ (85#8) rfl rfl rfl rfl) (a_ rfl rfl (nt_ (WC.ite rfl (fun h59 => ?_) (fun h59 => ?_)))))
 refine WC.seq (sr_ (f_ 7 kr_ rfl rfl ?_))
 refine d_ kr_ rfl mem_ (by rfl) rfl ?_
 refine nt_ (WC.cond rfl (fun h62 => ?_) (fun h62 => ?_))
 refine sr_ (WL.y rfl (Yd.buildL (pl := [(0, 1), (1, 1), (2, 1)]) (zs := [.int .i64 0, .int .u64 0, .slice none 0 0]) (parts := [(0, .const (.int .i64 1)), (1, .const (.int .u64 1))]) (vs := [(0, _), (1, _)]) (cells := [_, _, .slice none 0 0]) kr_ kr_ rfl rfl) ?_)
 refine WL.s (Hd.storeAll (n := 3) kr_ rfl rfl (by rfl) one_ fr_ (by rfl) ⟨rfl, ?_⟩)
 refine a_ rfl rfl (nt_ (WC.ret (DN.then_ret (DN.block_ret (DN.then_ret (DN.retCT (s := 3) H Tryz.results136 kr_ rfl rfl mem_ (by rfl) sp_ ?_))))))
 exact ⟨part_ret (by simp [partV, *]) (by simp [zeroN, *]), rfl⟩
 refine WC.skip (ts_ (WC.region (WL.y rfl (Yd.buildL (pl := [(0, 1), (1, 1), (2, 1)]) (zs := [.int .i64 0, .int .u64 0, .slice none 0 0]) (parts := [(0, .const (.int .i64 1))]) (vs := [(0, _)]) (cells := [_, .int .u64 0, .slice none 0 0]) kr_ kr_ rfl rfl) ?_)))
 refine WL.s (Hd.storeAll (n := 3) kr_ rfl rfl (by rfl) one_ fr_ (by rfl) ⟨rfl, ?_⟩)
 refine a_ rfl rfl (nt_ (WC.ret (DN.block_ret (DN.then_ret (DN.retCT (s := 3) H Tryz.results136 kr_ rfl rfl mem_ (by rfl) sp_ ?_)))))
 exact ⟨part_ret (by simp [partV, *]) (by simp [zeroN, *]), rfl⟩
 refine sr_ (WL.y rfl (Yd.eql8 _ (67#8) rfl rfl rfl rfl) (a_ rfl rfl (nt_ (WC.ite rfl (fun h65 => ?_) (fun h65 => ?_)))))
 refine WC.seq (WC.draw 9 kr_ rfl ?_)
 refine WAG.start (N := 9) rfl (wy_ 0 [] rfl (Yd.fieldAddr (k := 8) kr_ rfl) kr_ ?_)
 refine wq_ (wf_ (i := 1) [0] rfl (QAt.rd Wt.none (Rd.load1 kr_ rfl mem_ (by rfl))) kr_) kr_ ?_
 refine wy_ 2 [1] rfl (Yd.to64 _ kr_ kr_ rfl rfl) kr_ ?_
 refine wy_ 3 [2] rfl (Yd.buildL (pl := [(0, 1), (1, 1), (2, 1)]) (zs := [.int .i64 0, .int .u64 0, .slice none 0 0]) (parts := [(0, .const (.int .i64 1)), (1, .tmp 69)]) (vs := [(0, _), (1, _)]) (cells := [_, _, .slice none 0 0]) kr_ kr_ rfl rfl) kr_ ?_
 refine wy_ 4 [] rfl (Yd.fieldAddr (k := 8) kr_ rfl) kr_ ?_
 refine wq_ (wf_ (i := 5) [4] rfl (QAt.rd Wt.none (Rd.load1 kr_ rfl mem_ (by rfl))) kr_) kr_ ?_
 refine wy_ 6 [5] rfl (Yd.eql rfl rfl) kr_ ?_
 refine ws_ [(7, [3, 2, 1, 0])] kr_ (all_c ?_ (all_n))
 refine so_ (j := 7) [_, _, _, _] rfl (SO.s rfl Wt.none (Hd.storeAll (n := 3) kr_ rfl rfl (by rfl) one_ fr_ (by rfl) ⟨rfl, ?_⟩))
 refine wk_ [_, _, _] (([_, _, _, _] ++ _)) rfl rfl (all_c (wf_ [4] rfl (QAt.rd Wt.none (Rd.load1 kr_ rfl mem_ (by rfl))) kr_) all_n) ?_
 refine ws_ [(8, [6, 5, 4])] kr_ (all_c ?_ (all_n))
 refine so_ (j := 8) [_, _, _] rfl (SO.y rfl Wt.none rfl (Yd.assign rfl) (wk_ [] (_ :: ([_, _, _] ++ _)) rfl rfl all_n (wd_ [] rfl kr_ ?_)))
 refine DN.then_normal (WC.ret (DN.block_ret (DN.then_ret (DN.retCT (s := 3) H Tryz.results136 kr_ rfl rfl mem_ (by rfl) sp_ ?_))))
 exact ⟨part_ret (by simp [partV, *]) (by simp [zeroN, *]), rfl⟩
 refine sr_ (WL.y rfl (Yd.eql8 _ (75#8) rfl rfl rfl rfl) (a_ rfl rfl (nt_ (WC.ite rfl (fun h74 => ?_) (fun h74 => ?_)))))
 refine WC.seq (WC.draw 9 kr_ rfl ?_)
 refine WAG.start (N := 9) rfl (wy_ 0 [] rfl (Yd.fieldAddr (k := 9) kr_ rfl) kr_ ?_)
 refine wq_ (wf_ (i := 1) [0] rfl (QAt.rd Wt.none (Rd.load1 kr_ rfl mem_ (by rfl))) kr_) kr_ ?_
 refine wy_ 2 [1] rfl (Yd.buildL (pl := [(0, 1), (1, 1), (2, 1)]) (zs := [.int .i64 0, .int .u64 0, .slice none 0 0]) (parts := [(2, .tmp 77)]) (vs := [(2, _)]) (cells := [.int .i64 0, .int .u64 0, _]) kr_ kr_ rfl rfl) kr_ ?_
 refine wy_ 3 [] rfl (Yd.fieldAddr (k := 9) kr_ rfl) kr_ ?_
 refine wq_ (wf_ (i := 4) [3] rfl (QAt.rd Wt.none (Rd.load1 kr_ rfl mem_ (by rfl))) kr_) kr_ ?_
 refine wy_ 5 [4] rfl (Yd.len (e := 5) kr_ rfl) kr_ ?_
 refine wy_ 6 [5] rfl (Yd.eql rfl rfl) kr_ ?_
 refine ws_ [(7, [2, 1, 0])] kr_ (all_c ?_ (all_n))
 refine so_ (j := 7) [_, _, _] rfl (SO.s rfl Wt.none (Hd.storeAll (n := 3) kr_ rfl rfl (by rfl) one_ fr_ (by rfl) ⟨rfl, ?_⟩))
 refine wk_ [_, _, _, _] (([_, _, _] ++ _)) rfl rfl (all_c (wf_ [3] rfl (QAt.rd Wt.none (Rd.load1 kr_ rfl mem_ (by rfl))) kr_) all_n) ?_
 refine ws_ [(8, [6, 5, 4, 3])] kr_ (all_c ?_ (all_n))
 refine so_ (j := 8) [_, _, _, _] rfl (SO.y rfl Wt.none rfl (Yd.assign rfl) (wk_ [] (_ :: ([_, _, _, _] ++ _)) rfl rfl all_n (wd_ [] rfl kr_ ?_)))
 refine DN.then_normal (WC.ret (DN.block_ret (DN.then_ret (DN.retCT (s := 3) H Tryz.results136 kr_ rfl rfl mem_ (by rfl) sp_ ?_))))
 exact ⟨part_ret (by simp [partV, *]) (by simp [zeroN, *]), rfl⟩
 refine WC.skip (DN.block_normal (ts_ (WC.draw 9 kr_ rfl ?_)))
 refine WAG.start (N := 9) rfl (wy_ 0 [] rfl (Yd.fieldAddr (k := 10) kr_ rfl) kr_ ?_)
 refine wq_ (wf_ (i := 1) [0] rfl (QAt.rd Wt.none (Rd.load1 kr_ rfl mem_ (by rfl))) kr_) kr_ ?_
 refine wy_ 2 [1] rfl (Yd.buildL (pl := [(0, 1), (1, 1), (2, 1)]) (zs := [.int .i64 0, .int .u64 0, .slice none 0 0]) (parts := [(2, .tmp 84)]) (vs := [(2, _)]) (cells := [.int .i64 0, .int .u64 0, _]) kr_ kr_ rfl rfl) kr_ ?_
 refine wy_ 3 [] rfl (Yd.fieldAddr (k := 10) kr_ rfl) kr_ ?_
 refine wq_ (wf_ (i := 4) [3] rfl (QAt.rd Wt.none (Rd.load1 kr_ rfl mem_ (by rfl))) kr_) kr_ ?_
 refine wy_ 5 [4] rfl (Yd.len (e := 5) kr_ rfl) kr_ ?_
 refine wy_ 6 [5] rfl (Yd.eql rfl rfl) kr_ ?_
 refine ws_ [(7, [2, 1, 0])] kr_ (all_c ?_ (all_n))
 refine so_ (j := 7) [_, _, _] rfl (SO.s rfl Wt.none (Hd.storeAll (n := 3) kr_ rfl rfl (by rfl) one_ fr_ (by rfl) ⟨rfl, ?_⟩))
 refine wk_ [_, _, _, _] (([_, _, _] ++ _)) rfl rfl (all_c (wf_ [3] rfl (QAt.rd Wt.none (Rd.load1 kr_ rfl mem_ (by rfl))) kr_) all_n) ?_
 refine ws_ [(8, [6, 5, 4, 3])] kr_ (all_c ?_ (all_n))
 refine so_ (j := 8) [_, _, _, _] rfl (SO.y rfl Wt.none rfl (Yd.assign rfl) (wk_ [] (_ :: ([_, _, _, _] ++ _)) rfl rfl all_n (wd_ [] rfl kr_ ?_)))
 refine DN.then_normal (WC.ret (DN.retCT (s := 3) H Tryz.results136 kr_ rfl rfl mem_ (by rfl) sp_ ?_))
 exact ⟨part_ret (by simp [partV, *]) (by simp [zeroN, *]), rfl⟩
theorem rcheck_reads (n : Nt) (vk vd : Value) (hk : IsSl vk n.key.length) (hd : IsSl vd n.data.length) (H : List Ck) : Reads Tryz.prog 106 [.agg (ntc n vk vd).toArray] H (.int .i64 (if noteBad n then 50 else 0)) := by
 refine Tells.enter Tryz.func106 rfl Tryz.ntmps106 rfl ?_
 intro w0 R
 obtain ⟨ko, kc, rfl⟩ := hk
 obtain ⟨do_, dc, rfl⟩ := hd
 have hal : allP.length = 10 := rfl
 refine sr_ (WL.h rfl (Hd.boxA rfl fun b1 => ⟨_, rfl, ?_⟩))
 refine a_ rfl rfl (ntsr_ (f_ 0 kr_ rfl rfl ?_))
 refine d_ kr_ rfl mem_ (by rfl) rfl ?_
 refine WL.r rfl (Ent.func Tryz.call135 rfl) (rnames_reads n.kind _) (a_ rfl rfl (nt_ (WC.seq (WC.cutK (fun z : Bool => z = (decide (nm n.kind = []) || farB n)) (fun z : Bool => [(45, .bool z)]) (fun z : Bool => row b1 (ntc n (.slice ko n.key.length kc) (.slice do_ n.data.length dc)) 52 :: H) ?_ ?_))))
 refine WC.region (m_ rfl rfl (WL.y rfl (Yd.eqlS rfl rfl) (m_ rfl rfl (WL.partP (t := 14) rfl (fun hg14 => ?_) (fun hg14 => ?_)))))
 iterate 3 refine gn_ 14 rfl rfl rfl rfl ?_
 refine WL.y rfl (Yd.pickT rfl rfl) (m_ rfl rfl ?_)
 iterate 3 refine gn_ 19 rfl rfl rfl rfl ?_
 refine WL.y rfl (Yd.pickT rfl rfl) (m_ rfl rfl ?_)
 iterate 3 refine gn_ 24 rfl rfl rfl rfl ?_
 refine WL.y rfl (Yd.pickT rfl rfl) (m_ rfl rfl ?_)
 iterate 3 refine gn_ 29 rfl rfl rfl rfl ?_
 refine WL.y rfl (Yd.pickT rfl rfl) (m_ rfl rfl ?_)
 iterate 4 refine gn_ 34 rfl rfl rfl rfl ?_
 refine WL.y rfl (Yd.pickT rfl rfl) (m_ rfl rfl ?_)
 iterate 4 refine gn_ 40 rfl rfl rfl rfl ?_
 refine WL.y rfl (Yd.pickT rfl rfl) (WL.nil ?_)
 exact DN.reachK (_) (by rw [Bool.eq_iff_iff]; simp only [farB, Bool.or_eq_true, decide_eq_true_eq, true_iff, ← nmS_empty]; first | omega | exact .inl hg14 | (simp only [hg14, false_or]; omega)) (Sx.put rfl (sx_)) (Sp.all sp_)
 refine gy_ 14 rfl rfl rfl (Yd.fieldAddr (k := 6) kr_ rfl) ?_
 refine WL.gh (dj := 14) rfl rfl rfl (Hd.load1 kr_ rfl mem_ (by rfl) ⟨_, rfl, ?_⟩)
 refine gy_ 14 rfl rfl rfl (Yd.lss rfl rfl) (WL.y rfl (Yd.pickF rfl rfl) (m_ rfl rfl (WL.partP (t := 19) rfl (fun hg19 => ?_) (fun hg19 => ?_))))
 iterate 3 refine gn_ 19 rfl rfl rfl rfl ?_
 refine WL.y rfl (Yd.pickT rfl rfl) (m_ rfl rfl ?_)
 iterate 3 refine gn_ 24 rfl rfl rfl rfl ?_
 refine WL.y rfl (Yd.pickT rfl rfl) (m_ rfl rfl ?_)
 iterate 3 refine gn_ 29 rfl rfl rfl rfl ?_
 refine WL.y rfl (Yd.pickT rfl rfl) (m_ rfl rfl ?_)
 iterate 4 refine gn_ 34 rfl rfl rfl rfl ?_
 refine WL.y rfl (Yd.pickT rfl rfl) (m_ rfl rfl ?_)
 iterate 4 refine gn_ 40 rfl rfl rfl rfl ?_
 refine WL.y rfl (Yd.pickT rfl rfl) (WL.nil ?_)
 exact DN.reachK (_) (by rw [Bool.eq_iff_iff]; simp only [farB, Bool.or_eq_true, decide_eq_true_eq, true_iff, ← nmS_empty]; first | omega | exact .inl hg14 | (simp only [hg14, false_or]; omega)) (Sx.put rfl (sx_)) (Sp.all sp_)
 refine gy_ 19 rfl rfl rfl (Yd.fieldAddr (k := 6) kr_ rfl) ?_
 refine WL.gh (dj := 19) rfl rfl rfl (Hd.load1 kr_ rfl mem_ (by rfl) ⟨_, rfl, ?_⟩)
 refine gy_ 19 rfl rfl rfl (Yd.gtr rfl rfl) (WL.y rfl (Yd.pickF rfl rfl) (m_ rfl rfl (WL.partP (t := 24) rfl (fun hg24 => ?_) (fun hg24 => ?_))))
 iterate 3 refine gn_ 24 rfl rfl rfl rfl ?_
 refine WL.y rfl (Yd.pickT rfl rfl) (m_ rfl rfl ?_)
 iterate 3 refine gn_ 29 rfl rfl rfl rfl ?_
 refine WL.y rfl (Yd.pickT rfl rfl) (m_ rfl rfl ?_)
 iterate 4 refine gn_ 34 rfl rfl rfl rfl ?_
 refine WL.y rfl (Yd.pickT rfl rfl) (m_ rfl rfl ?_)
 iterate 4 refine gn_ 40 rfl rfl rfl rfl ?_
 refine WL.y rfl (Yd.pickT rfl rfl) (WL.nil ?_)
 exact DN.reachK (_) (by rw [Bool.eq_iff_iff]; simp only [farB, Bool.or_eq_true, decide_eq_true_eq, true_iff, ← nmS_empty]; first | omega | exact .inl hg14 | (simp only [hg14, false_or]; omega)) (Sx.put rfl (sx_)) (Sp.all sp_)
 refine gy_ 24 rfl rfl rfl (Yd.fieldAddr (k := 8) kr_ rfl) ?_
 refine WL.gh (dj := 24) rfl rfl rfl (Hd.load1 kr_ rfl mem_ (by rfl) ⟨_, rfl, ?_⟩)
 refine gy_ 24 rfl rfl rfl (Yd.lss rfl rfl) (WL.y rfl (Yd.pickF rfl rfl) (m_ rfl rfl (WL.partP (t := 29) rfl (fun hg29 => ?_) (fun hg29 => ?_))))
 iterate 3 refine gn_ 29 rfl rfl rfl rfl ?_
 refine WL.y rfl (Yd.pickT rfl rfl) (m_ rfl rfl ?_)
 iterate 4 refine gn_ 34 rfl rfl rfl rfl ?_
 refine WL.y rfl (Yd.pickT rfl rfl) (m_ rfl rfl ?_)
 iterate 4 refine gn_ 40 rfl rfl rfl rfl ?_
 refine WL.y rfl (Yd.pickT rfl rfl) (WL.nil ?_)
 exact DN.reachK (_) (by rw [Bool.eq_iff_iff]; simp only [farB, Bool.or_eq_true, decide_eq_true_eq, true_iff, ← nmS_empty]; first | omega | exact .inl hg14 | (simp only [hg14, false_or]; omega)) (Sx.put rfl (sx_)) (Sp.all sp_)
 refine gy_ 29 rfl rfl rfl (Yd.fieldAddr (k := 8) kr_ rfl) ?_
 refine WL.gh (dj := 29) rfl rfl rfl (Hd.load1 kr_ rfl mem_ (by rfl) ⟨_, rfl, ?_⟩)
 refine gy_ 29 rfl rfl rfl (Yd.gtr rfl rfl) (WL.y rfl (Yd.pickF rfl rfl) (m_ rfl rfl (WL.partP (t := 34) rfl (fun hg34 => ?_) (fun hg34 => ?_))))
 iterate 4 refine gn_ 34 rfl rfl rfl rfl ?_
 refine WL.y rfl (Yd.pickT rfl rfl) (m_ rfl rfl ?_)
 iterate 4 refine gn_ 40 rfl rfl rfl rfl ?_
 refine WL.y rfl (Yd.pickT rfl rfl) (WL.nil ?_)
 exact DN.reachK (_) (by rw [Bool.eq_iff_iff]; simp only [farB, Bool.or_eq_true, decide_eq_true_eq, true_iff, ← nmS_empty]; first | omega | exact .inl hg14 | (simp only [hg14, false_or]; omega)) (Sx.put rfl (sx_)) (Sp.all sp_)
 refine gy_ 34 rfl rfl rfl (Yd.fieldAddr (k := 9) kr_ rfl) ?_
 refine WL.gh (dj := 34) rfl rfl rfl (Hd.load1 kr_ rfl mem_ (by rfl) ⟨_, rfl, ?_⟩)
 refine gy_ 34 rfl rfl rfl (Yd.len (e := 5) kr_ rfl) ?_
 refine gy_ 34 rfl rfl rfl (Yd.gtr rfl rfl) (WL.y rfl (Yd.pickF rfl rfl) (m_ rfl rfl (WL.partP (t := 40) rfl (fun hg40 => ?_) (fun hg40 => ?_))))
 iterate 4 refine gn_ 40 rfl rfl rfl rfl ?_
 refine WL.y rfl (Yd.pickT rfl rfl) (WL.nil ?_)
 exact DN.reachK (_) (by rw [Bool.eq_iff_iff]; simp only [farB, Bool.or_eq_true, decide_eq_true_eq, true_iff, ← nmS_empty]; first | omega | exact .inl hg14 | (simp only [hg14, false_or]; omega)) (Sx.put rfl (sx_)) (Sp.all sp_)
 refine gy_ 40 rfl rfl rfl (Yd.fieldAddr (k := 10) kr_ rfl) ?_
 refine WL.gh (dj := 40) rfl rfl rfl (Hd.load1 kr_ rfl mem_ (by rfl) ⟨_, rfl, ?_⟩)
 refine gy_ 40 rfl rfl rfl (Yd.len (e := 5) kr_ rfl) ?_
 refine gy_ 40 rfl rfl rfl (Yd.gtr rfl rfl) (WL.y rfl (Yd.pickF rfl rfl) (WL.nil ?_))
 exact DN.reachK (_) (by rw [Bool.eq_iff_iff]; simp only [farB, Bool.or_eq_true, decide_eq_true_eq, true_iff, ← nmS_empty]; first | omega | exact .inl hg14 | (simp only [hg14, false_or]; omega)) (Sx.put rfl (sx_)) (Sp.all sp_)
 intro z hz
 refine WC.cond rfl (fun h45 => ?_) (fun h45 => ?_)
 refine sr_ (a_ rfl rfl (nt_ (WC.ret (DN.then_ret (DN.fit (C := H) sp_ ?_)))))
 refine DN.ret1 Tryz.results106 rfl ?_
 rotate_left
 refine WC.skip (ts_ (WC.region (a_ rfl rfl (nt_ (WC.seq (sr_ (a_ rfl rfl (nt_ (WC.block (WC.loopS (fun z : Nat => z ≤ allP.length ∧ ∀ b ∈ allP.take z, zeroN n b = true ∨ b ∈ nb n.kind) (fun z : Nat => [(5, .int .i64 (z : Int))]) (fun z : Nat => row b1 (ntc n (.slice ko n.key.length kc) (.slice do_ n.data.length dc)) 52 :: H) (fun z : Nat => allP.length - z) (0) (show 0 ≤ allP.length ∧ ∀ b ∈ allP.take 0, zeroN n b = true ∨ b ∈ nb n.kind from ⟨Nat.zero_le _, by simp⟩) (Sx.put rfl (sx_)) sp_ ?_))))))))))
 rintro i hI
 replace hI : i ≤ allP.length ∧ ∀ b ∈ allP.take i, zeroN n b = true ∨ b ∈ nb n.kind := hI
 obtain ⟨hi, hall⟩ := hI
 change WC _ _ _ _ _ _ ([(5, .int .i64 (i : Int))] ++ _) (row b1 (ntc n (.slice ko n.key.length kc) (.slice do_ n.data.length dc)) 52 :: H)
 refine WC.seq (sr_ (m_ rfl rfl (m_ rfl rfl (WL.y rfl (Yd.lenS Tryz.underlying9 rfl) (WL.y rfl (Yd.lss rfl rfl) (nt_ (WC.ite rfl (fun h49 => ?_) (fun h49 => ?_))))))))
 replace h49 : (i : Int) < 10 := h49
 have hlt : i < allP.length := by rw [hal]; omega
 refine WC.skip (ts_ (WC.block (WC.seq (WC.draw 11 kr_ rfl ?_))))
 refine WAG.start (N := 11) rfl (wq_ (wf_ (i := 0) [] rfl (QAt.rd Wt.none (Rd.loadAll (n := 11) kr_ rfl mem_ (by rfl))) kr_) kr_ ?_)
 refine wy_ 1 [] rfl (Yd.move rfl) kr_ ?_
 refine wy_ 2 [] rfl (Yd.move rfl) kr_ ?_
 refine wy_ 3 [2, 1] rfl (Yd.indexS (i := i) (b := allP[i]) Tryz.underlying9 rfl rfl rfl (str_get hlt)) kr_ ?_
 refine wq_ (wf_ (i := 4) [3, 0] rfl (QAt.rf Wt.none (Ent.func Tryz.call136 rfl) (rpart_reads n (.slice ko n.key.length kc) (.slice do_ n.data.length dc) ⟨_, _, rfl⟩ ⟨_, _, rfl⟩ allP[i] _) sp_) kr_) kr_ ?_
 refine wy_ 5 [4] rfl (Yd.move rfl) kr_ ?_
 refine wy_ 6 [5] rfl (Yd.extract rfl rfl) kr_ ?_
 refine wy_ 7 [5] rfl (Yd.extract rfl rfl) kr_ ?_
 refine ws_ [(8, [])] kr_ (all_c ?_ (all_n))
 refine so_ (j := 8) [] rfl (SO.h rfl Wt.none rfl (Hd.alloc (zs := [.int .i64 0, .int .u64 0, .slice none 0 0]) kr_ fun b6 => ⟨_, rfl, ?_⟩))
 refine wk_ [_, _, _, _, _, _, _, _] (_ :: ([] ++ _)) rfl rfl (all_c (wf_ [3, 0] rfl (QAt.rf Wt.none (Ent.func Tryz.call136 rfl) (rpart_reads n (.slice ko n.key.length kc) (.slice do_ n.data.length dc) ⟨_, _, rfl⟩ ⟨_, _, rfl⟩ allP[i] _) sp_) kr_) (all_c (wf_ [] rfl (QAt.rd Wt.none (Rd.loadAll (n := 11) kr_ rfl mem_ (by rfl))) kr_) all_n)) ?_
 refine ws_ [(9, [6, 5, 4, 3, 2, 1, 0])] kr_ (all_c ?_ (all_n))
 refine so_ (j := 9) [_, _, _, _, _, _, _] rfl (SO.s rfl Wt.none (Hd.storeAll (n := 3) kr_ rfl rfl (partV_len _ _ _ _) (partV_one _ _ _ _ rfl rfl) fr_ (by rfl) ⟨rfl, ?_⟩))
 refine wk_ [_] (([_, _, _, _, _, _, _] ++ _)) rfl rfl all_n (wy_ 10 [7] rfl (Yd.assign rfl) kr_ ?_)
 refine wd_ [_, _] rfl kr_ ?_
 refine ts_ (WC.draw 7 kr_ rfl ?_)
 refine WAG.start (N := 7) rfl (wy_ 0 [] rfl (Yd.fieldAddr (k := 0) kr_ rfl) kr_ ?_)
 refine wq_ (wf_ (i := 1) [0] rfl (QAt.rd Wt.none (Rd.load1 kr_ rfl mem_ (by rfl))) kr_) kr_ ?_
 refine wy_ 2 [] rfl (Yd.move rfl) kr_ ?_
 refine wy_ 3 [] rfl (Yd.move rfl) kr_ ?_
 refine wy_ 4 [3, 2] rfl (Yd.indexS (i := i) (b := allP[i]) Tryz.underlying9 rfl rfl rfl (str_get hlt)) kr_ ?_
 refine wq_ (wf_ (i := 5) [4, 1] rfl (QAt.rf Wt.none (Ent.func Tryz.call137 rfl) (rhas_reads n.kind allP[i] _) sp_) kr_) kr_ ?_
 refine wy_ 6 [5, 4, 3, 2, 1, 0] rfl (Yd.assign rfl) kr_ ?_
 refine wd_ [_, _, _, _, _, _, _] rfl kr_ ?_
 refine ts_ (WC.region (m_ rfl rfl (WL.y rfl (Yd.notB rfl) (m_ rfl rfl (WL.part (t := 68) rfl (fun hg68 => ?_) (fun hg68 => ?_))))))
 refine gy_ 68 rfl rfl rfl (Yd.move rfl) (gy_ 68 rfl rfl rfl (Yd.notB rfl) (WL.y rfl (Yd.pickT rfl rfl) (nt_ (WC.cond rfl (fun h71 => ?_) (fun h71 => ?_)))))
 refine sr_ (a_ rfl rfl (nt_ (WC.ret (DN.block_ret (DN.then_ret (DN.then_ret (DN.block_ret (DN.then_ret (DN.fit (C := H) sp_ ?_)))))))))
 refine DN.ret1 Tryz.results106 rfl ?_
 rotate_left
 refine WC.skip (DN.block_normal (DN.then_normal (WC.region (m_ rfl rfl (WL.y rfl (Yd.add rfl rfl (by omega) (by omega)) ?_)))))
 exact a_ rfl rfl (WL.nil (DN.againS (i + 1) (show (i + 1) ≤ allP.length ∧ ∀ b ∈ allP.take (i + 1), zeroN n b = true ∨ b ∈ nb n.kind from ⟨by omega, rtake hlt hall (by first | exact .inl (by simpa using hg68) | exact .inr (by simpa using h71))⟩) (show allP.length - (i + 1) < allP.length - i by omega) (Sx.put rfl (sx_)) sp_))
 refine gn_ 68 rfl rfl rfl rfl (gn_ 68 rfl rfl rfl rfl (WL.y rfl (Yd.pickF rfl rfl) (nt_ (WC.no rfl (WC.skip (DN.block_normal (DN.then_normal (WC.region (m_ rfl rfl (WL.y rfl (Yd.add rfl rfl (by omega) (by omega)) ?_))))))))))
 exact a_ rfl rfl (WL.nil (DN.againS (i + 1) (show (i + 1) ≤ allP.length ∧ ∀ b ∈ allP.take (i + 1), zeroN n b = true ∨ b ∈ nb n.kind from ⟨by omega, rtake hlt hall (by first | exact .inl (by simpa using hg68) | exact .inr (by simpa using h71))⟩) (show allP.length - (i + 1) < allP.length - i by omega) (Sx.put rfl (sx_)) sp_))
 replace h49 : ¬ (i : Int) < 10 := h49
 obtain rfl : i = allP.length := by omega
 rw [List.take_length] at hall
 refine WC.exit (DN.then_exit (DN.then_exit (DN.block_exit (ts_ (WC.cutK (fun z : Bool => z = (decide (10 ≤ n.kind) && (decide (n.kind ≤ 12) && decide ((n.key.length : Int) = 0)))) (fun z : Bool => [(90, .bool z)]) (fun z : Bool => row b1 (ntc n (.slice ko n.key.length kc) (.slice do_ n.data.length dc)) 52 :: H) ?_ ?_)))))
 refine WC.region (f_ 9 kr_ rfl rfl ?_)
 refine d_ kr_ rfl mem_ (by rfl) rfl ?_
 refine WL.y rfl (Yd.len (e := 5) kr_ rfl) ?_
 refine WL.y rfl (Yd.eql rfl rfl) (m_ rfl rfl (WL.partP (t := 76) rfl (fun hg76 => ?_) (fun hg76 => ?_)))
 refine gy_ 76 rfl rfl rfl (Yd.fieldAddr (k := 0) kr_ rfl) ?_
 refine WL.gh (dj := 76) rfl rfl rfl (Hd.load1 kr_ rfl mem_ (by rfl) ⟨_, rfl, ?_⟩)
 refine gy_ 76 rfl rfl rfl (Yd.eql rfl rfl) (gy_ 76 rfl rfl rfl (Yd.move rfl) (WL.partP (t := 80) rfl (fun hg80 => ?_) (fun hg80 => ?_)))
 iterate 3 refine gn_ 80 rfl rfl rfl rfl ?_
 refine gy_ 76 rfl rfl rfl (Yd.pickT rfl rfl) (gy_ 76 rfl rfl rfl (Yd.move rfl) ?_)
 iterate 3 refine gn_ 85 rfl rfl rfl rfl ?_
 refine gy_ 76 rfl rfl rfl (Yd.pickT rfl rfl) (WL.y rfl (Yd.pickT rfl rfl) (WL.nil ?_))
 exact DN.reachK (_) (by rw [Bool.eq_iff_iff]; simp only [Bool.and_eq_true, decide_eq_true_eq, true_iff, Bool.false_eq_true, false_iff]; omega) (Sx.put rfl (sx_)) (Sp.all sp_)
 refine gy_ 80 rfl rfl rfl (Yd.fieldAddr (k := 0) kr_ rfl) ?_
 refine WL.gh (dj := 80) rfl rfl rfl (Hd.load1 kr_ rfl mem_ (by rfl) ⟨_, rfl, ?_⟩)
 refine gy_ 80 rfl rfl rfl (Yd.eql rfl rfl) (gy_ 76 rfl rfl rfl (Yd.pickF rfl rfl) (gy_ 76 rfl rfl rfl (Yd.move rfl) (WL.partP (t := 85) rfl (fun hg85 => ?_) (fun hg85 => ?_))))
 iterate 3 refine gn_ 85 rfl rfl rfl rfl ?_
 refine gy_ 76 rfl rfl rfl (Yd.pickT rfl rfl) (WL.y rfl (Yd.pickT rfl rfl) (WL.nil ?_))
 exact DN.reachK (_) (by rw [Bool.eq_iff_iff]; simp only [Bool.and_eq_true, decide_eq_true_eq, true_iff, Bool.false_eq_true, false_iff]; omega) (Sx.put rfl (sx_)) (Sp.all sp_)
 refine gy_ 85 rfl rfl rfl (Yd.fieldAddr (k := 0) kr_ rfl) ?_
 refine WL.gh (dj := 85) rfl rfl rfl (Hd.load1 kr_ rfl mem_ (by rfl) ⟨_, rfl, ?_⟩)
 refine gy_ 85 rfl rfl rfl (Yd.eql rfl rfl) (gy_ 76 rfl rfl rfl (Yd.pickF rfl rfl) (WL.y rfl (Yd.pickT rfl rfl) (WL.nil ?_)))
 exact DN.reachK (_) (by rw [Bool.eq_iff_iff]; simp only [Bool.and_eq_true, decide_eq_true_eq, true_iff, Bool.false_eq_true, false_iff]; omega) (Sx.put rfl (sx_)) (Sp.all sp_)
 iterate 4 refine gn_ 76 rfl rfl rfl rfl ?_
 iterate 3 refine gu_ 80 rfl rfl rfl ?_
 refine gn_ 76 rfl rfl rfl rfl (gn_ 76 rfl rfl rfl rfl ?_)
 iterate 3 refine gu_ 85 rfl rfl rfl ?_
 refine gn_ 76 rfl rfl rfl rfl (WL.y rfl (Yd.pickF rfl rfl) (WL.nil ?_))
 exact DN.reachK (_) (by rw [Bool.eq_iff_iff]; simp only [Bool.and_eq_true, decide_eq_true_eq, true_iff, Bool.false_eq_true, false_iff]; omega) (Sx.put rfl (sx_)) (Sp.all sp_)
 intro z9 hz9
 refine WC.cond rfl (fun h90 => ?_) (fun h90 => ?_)
 refine sr_ (a_ rfl rfl (nt_ (WC.ret (DN.then_ret (DN.fit (C := H) sp_ ?_)))))
 refine DN.ret1 Tryz.results106 rfl ?_
 rotate_left
 refine WC.skip (ts_ (WC.region (a_ rfl rfl (nt_ (WC.ret (DN.fit (C := H) sp_ ?_))))))
 refine DN.ret1 Tryz.results106 rfl ?_
 rotate_left
 all_goals
  first
  | (rw [← refBad_eq, if_pos (ref_bad1 (hz.symm.trans h45))]; exact ⟨rfl, rfl⟩)
  | (rw [← refBad_eq, if_pos (ref_bad2 (List.getElem_mem hlt) (by simpa using hg68) (by simpa using h71))]; exact ⟨rfl, rfl⟩)
  | (rw [← refBad_eq, if_pos (ref_bad3 (hz9.symm.trans h90))]; exact ⟨rfl, rfl⟩)
  | (rw [← refBad_eq, if_neg (ref_ok (hz.symm.trans h45) hall (hz9.symm.trans h90))]; exact ⟨rfl, rfl⟩)
end Go.Proofs.YtkamlondepceiaaGreat

set_option linter.unusedVariables false
set_option linter.unusedSimpArgs false
set_option maxHeartbeats 4000000
namespace Go.Proofs.YtkamlondepceiaaGreat
open Go.SL
theorem rsee_tells (e : BitVec 32) (v : Value) (ks : List Kp) (H : List Ck) (hv : KV v ks H) (hl : ks.length ≤ 1000) (hb : ∀ k ∈ ks, k.asked.length ≤ 1000000 ∧ k.reply.length ≤ 1000000) (x : BitVec 32) : Tells Tryz.prog 71 [.agg #[.int .u32 e.toNat, v], .int .u32 x.toNat] H fun r H' => ∃ w D, r = .tuple #[.agg #[.int .u32 (seeK e ks x).1.toNat, w], .int .i64 (seeK e ks x).2.2] ∧ FAt 5 118 w (seeK e ks x).2.1 D ∧ H' = D ++ H := by
 refine Tells.enter Tryz.func71 rfl Tryz.ntmps71 rfl ?_
 intro w0 R
 obtain ⟨ao, c, rfl, hc⟩ := hv.form
 refine sr_ (WL.h rfl (Hd.boxA rfl fun b2 => ⟨_, rfl, ?_⟩))
 refine WL.h rfl (Hd.alloc (zs := [.int .u32 0, .slice none 0 0]) kr_ fun b4 => ⟨_, rfl, ?_⟩)
 refine a_ rfl rfl (ntsr_ (WL.h rfl (Hd.loadAll (n := 2) kr_ rfl mem_ (by rfl) ⟨_, rfl, ?_⟩)))
 refine WL.r rfl (Ent.func Tryz.call105 rfl) (rfcheck_reads e _ ks _ (hv.mono gr_) (by omega)) ?_
 refine a_ rfl rfl (nt_ (WC.seq (WC.block (sr_ (m_ rfl rfl (WL.y rfl (Yd.neq rfl rfl) (a_ rfl rfl (nt_ (WC.ite rfl (fun h9 => ?_) (fun h9 => ?_))))))))))
 have hn : ¬ chk ks := fun h => by rw [if_pos h] at h9; exact h9 rfl
 refine sr_ (WL.y rfl (Yd.buildL (pl := [(0, 1), (1, 1)]) (zs := [.int .u32 0, .slice none 0 0]) (parts := []) (vs := []) (cells := [.int .u32 0, .slice none 0 0]) kr_ kr_ rfl rfl) ?_)
 refine WL.s (Hd.storeAll (n := 2) kr_ rfl rfl (by rfl) one_ fr_ (by rfl) ⟨rfl, ?_⟩)
 refine a_ rfl rfl (nt_ (WC.ret (DN.block_ret (DN.then_ret (DN.retCT (s := 2) H Tryz.results71 kr_ rfl rfl mem_ (by rfl) sp_ ?_)))))
 rw [show seeK e ks x = (0#32, [], 2) from if_pos hn]
 exact ⟨_, [], rfl, FAt.nil _ _, rfl⟩
 have hy : chk ks := Classical.byContradiction fun h => by rw [if_neg h] at h9; exact h9 (by decide)
 refine sr_ (m_ rfl rfl (f_ 0 kr_ rfl rfl ?_))
 refine d_ kr_ rfl mem_ (by rfl) rfl ?_
 refine WL.y rfl (Yd.lss rfl rfl) (a_ rfl rfl (nt_ (WC.ite rfl (fun h14 => ?_) (fun h14 => ?_))))
 refine sr_ (WL.y rfl (Yd.buildL (pl := [(0, 1), (1, 1)]) (zs := [.int .u32 0, .slice none 0 0]) (parts := []) (vs := []) (cells := [.int .u32 0, .slice none 0 0]) kr_ kr_ rfl rfl) ?_)
 refine WL.s (Hd.storeAll (n := 2) kr_ rfl rfl (by rfl) one_ fr_ (by rfl) ⟨rfl, ?_⟩)
 refine a_ rfl rfl (nt_ (WC.ret (DN.block_ret (DN.then_ret (DN.retCT (s := 2) H Tryz.results71 kr_ rfl rfl mem_ (by rfl) sp_ ?_)))))
 rw [show seeK e ks x = (0#32, [], 72) by unfold seeK; rw [if_neg (not_not_intro hy), if_pos (by omega)]]
 exact ⟨_, [], rfl, FAt.nil _ _, rfl⟩
 refine WC.skip (DN.block_normal (ts_ (WC.region (WL.h rfl (Hd.loadAll (n := 2) kr_ rfl mem_ (by rfl) ⟨_, rfl, ?_⟩)))))
 refine WL.c rfl (Ent.func Tryz.call108 rfl) (rcopy_tells e _ ks H hv hl hb) (Sp.p sp_) ?_
 rintro r2 H1 ⟨w, D, rfl, hF, rfl⟩
 obtain ⟨wo, wc, rfl⟩ := hF.form
 refine WL.h rfl (Hd.alloc (zs := [.int .u32 0, .slice none 0 0]) kr_ fun b7 => ⟨_, rfl, ?_⟩)
 refine WL.s (Hd.storeAll (n := 2) kr_ rfl rfl (by rfl) one_ fr_ (by rfl) ⟨rfl, ?_⟩)
 refine ntsr_ (m_ rfl rfl (f_ 0 kr_ rfl rfl ?_))
 refine WL.s (Hd.store1s kr_ rfl rfl (by rfl) fr_ (by rfl) (by first | (simp only [List.set_cons_zero, List.set_cons_succ, Nat.zero_add, Nat.add_zero, Nat.reduceAdd]; rfl) | rfl) ⟨rfl, ?_⟩)
 refine ntsr_ (WL.h rfl (Hd.loadAll (n := 2) kr_ rfl mem_ (by rfl) ⟨_, rfl, ?_⟩))
 refine WL.s (Hd.storeAll (n := 2) kr_ rfl rfl (by rfl) one_ fr_ (by rfl) ⟨rfl, ?_⟩)
 refine a_ rfl rfl (nt_ (WC.ret (DN.retCT (s := 2) (D ++ H) Tryz.results71 kr_ rfl rfl mem_ (by rfl) sp_ ?_)))
 rw [show seeK e ks x = (x, ks, 0) by unfold seeK; rw [if_neg (not_not_intro hy), if_neg (by omega)]]
 exact ⟨_, D, rfl, hF, rfl⟩
theorem rfind_tells (e : BitVec 32) (v : Value) (ks : List Kp) (H : List Ck) (hv : KV v ks H) (hl : ks.length ≤ 1000) (o : BitVec 32) (s : Int) (u : Bool) : Tells Tryz.prog 107 [.agg #[.int .u32 e.toNat, v], .int .u32 o.toNat, .int .i64 s, .bool u] H fun r H' => ∃ wa wr, r = .tuple #[.agg (kc ((findF ks o s u).getD Kp.z) wa wr).toArray, .bool (findF ks o s u).isSome] ∧ Bs wa ((findF ks o s u).getD Kp.z).asked H ∧ Bs wr ((findF ks o s u).getD Kp.z).reply H ∧ H' = H := by
 refine Tells.enter Tryz.func107 rfl Tryz.ntmps107 rfl ?_
 intro w0 R
 have hv9 := hv
 obtain ⟨cs, hr, hk⟩ := hv9
 obtain ⟨ao, c, rfl, hc⟩ := hr.form
 refine sr_ (WL.h rfl (Hd.boxA rfl fun b4 => ⟨_, rfl, ?_⟩))
 refine WL.h rfl (Hd.alloc (zs := [.int .u32 0, .int .i64 0, .bool false, .slice none 0 0, .int .i64 0, .slice none 0 0]) kr_ fun b8 => ⟨_, rfl, ?_⟩)
 refine a_ rfl rfl (ntsr_ (WL.h rfl (Hd.loadAll (n := 2) kr_ rfl mem_ (by rfl) ⟨_, rfl, ?_⟩)))
 refine WL.r rfl (Ent.func Tryz.call105 rfl) (rfcheck_reads e _ ks _ (hv.mono gr_) (by omega)) ?_
 refine a_ rfl rfl (nt_ (WC.seq (sr_ (a_ rfl rfl (nt_ (WC.block (WC.loopS (fun z : Nat => z ≤ ks.length ∧ ∀ k ∈ ks.take z, ¬ (k.order = o ∧ k.step = s ∧ k.undo = u)) (fun z : Nat => [(11, .int .i64 (z : Int))]) (fun z : Nat => row b8 (kc Kp.z (.slice none 0 0) (.slice none 0 0)) 118 :: row b4 [.int .u32 e.toNat, .slice ao ks.length c] 82 :: H) (fun z : Nat => ks.length - z) (0) (show 0 ≤ ks.length ∧ ∀ k ∈ ks.take 0, ¬ (k.order = o ∧ k.step = s ∧ k.undo = u) from ⟨Nat.zero_le _, by simp⟩) (Sx.put rfl (sx_)) sp_ ?_)))))))
 rintro i hI
 replace hI : i ≤ ks.length ∧ ∀ k ∈ ks.take i, ¬ (k.order = o ∧ k.step = s ∧ k.undo = u) := hI
 obtain ⟨hi, hno⟩ := hI
 change WC _ _ _ _ _ _ ([(11, .int .i64 (i : Int))] ++ _) (row b8 (kc Kp.z (.slice none 0 0) (.slice none 0 0)) 118 :: row b4 [.int .u32 e.toNat, .slice ao ks.length c] 82 :: H)
 refine WC.seq (sr_ (m_ rfl rfl (f_ 1 kr_ rfl rfl ?_)))
 refine d_ kr_ rfl mem_ (by rfl) rfl ?_
 refine WL.y rfl (Yd.len (e := 118) kr_ rfl) ?_
 refine WL.y rfl (Yd.lss rfl rfl) (m_ rfl rfl (WL.partP (t := 20) rfl (fun hg20 => ?_) (fun hg20 => ?_)))
 refine gy_ 20 rfl rfl rfl (Yd.move rfl) (gy_ 20 rfl rfl rfl (Yd.eql rfl rfl) (WL.y rfl (Yd.pickT rfl rfl) (nt_ (WC.ite rfl (fun h23 => ?_) (fun h23 => ?_)))))
 have hck : chk ks := Classical.byContradiction fun h => by rw [if_neg h] at h23; exact absurd h23 (by decide)
 have hlt : i < ks.length := by omega
 obtain ⟨va, vr, hg, hva, hvr⟩ := hk.at i hlt
 obtain ⟨ao1, ac1, rfl, _⟩ := hva.form
 obtain ⟨ro1, rc1, rfl, _⟩ := hvr.form
 refine WC.skip (ts_ (WC.block (sr_ (f_ 1 kr_ rfl rfl ?_))))
 refine d_ kr_ rfl mem_ (by rfl) rfl ?_
 refine m_ rfl rfl (WL.elemA (e := 118) (s := 6) kr_ kr_ kr_ rfl rfl (rfl) (hr.mono gr_) (hg) (by rfl) (by omega) (hlt) rfl rfl ?_)
 intro p29
 refine WL.h rfl (Hd.alloc (zs := [.int .u32 0, .int .i64 0, .bool false, .slice none 0 0, .int .i64 0, .slice none 0 0]) kr_ fun b12 => ⟨_, rfl, ?_⟩)
 refine WL.s (Hd.storeAll (n := 6) kr_ rfl rfl (by rfl) (kc_one rfl rfl) fr_ (by rfl) ⟨rfl, ?_⟩)
 refine ntsr_ (f_ 0 kr_ rfl rfl ?_)
 refine d_ kr_ rfl mem_ (by rfl) rfl ?_
 refine m_ rfl rfl (WL.y rfl (Yd.eql32 _ _ rfl rfl rfl rfl) (m_ rfl rfl (WL.partP (t := 35) rfl (fun hg35 => ?_) (fun hg35 => ?_))))
 refine gy_ 35 rfl rfl rfl (Yd.fieldAddr (k := 1) kr_ rfl) ?_
 refine WL.gh (dj := 35) rfl rfl rfl (Hd.load1 kr_ rfl mem_ (by rfl) ⟨_, rfl, ?_⟩)
 refine gy_ 35 rfl rfl rfl (Yd.move rfl) (gy_ 35 rfl rfl rfl (Yd.eql rfl rfl) (WL.y rfl (Yd.pickT rfl rfl) (m_ rfl rfl (WL.partP (t := 41) rfl (fun hg41 => ?_) (fun hg41 => ?_)))))
 refine gy_ 41 rfl rfl rfl (Yd.fieldAddr (k := 2) kr_ rfl) ?_
 refine WL.gh (dj := 41) rfl rfl rfl (Hd.load1 kr_ rfl mem_ (by rfl) ⟨_, rfl, ?_⟩)
 refine gy_ 41 rfl rfl rfl (Yd.move rfl) (gy_ 41 rfl rfl rfl (Yd.eqlB Tryz.underlying4 rfl rfl) (WL.y rfl (Yd.pickT rfl rfl) (nt_ (WC.cond rfl (fun h46 => ?_) (fun h46 => ?_)))))
 refine sr_ (WL.h rfl (Hd.loadAll (n := 6) kr_ rfl mem_ (by rfl) ⟨_, rfl, ?_⟩))
 refine WL.s (Hd.storeAll (n := 6) kr_ rfl rfl (by rfl) (kc_one rfl rfl) fr_ (by rfl) ⟨rfl, ?_⟩)
 refine a_ rfl rfl (nt_ (WC.ret (DN.block_ret (DN.then_ret (DN.then_ret (DN.block_ret (DN.then_ret (DN.retCT (s := 6) H Tryz.results107 kr_ rfl rfl mem_ (by rfl) sp_ ?_))))))))
 rotate_left
 refine WC.skip (DN.block_normal (DN.then_normal (WC.region (m_ rfl rfl (WL.y rfl (Yd.add rfl rfl (by omega) (by omega)) ?_)))))
 exact a_ rfl rfl (WL.nil (DN.againS (i + 1) (show (i + 1) ≤ ks.length ∧ ∀ k ∈ ks.take (i + 1), ¬ (k.order = o ∧ k.step = s ∧ k.undo = u) from ⟨by omega, find_next hlt hno (by first | exact fun h => hg35 h.1 | exact fun h => hg41 h.2.1 | exact fun h => absurd h.2.2 (by simpa using h46))⟩) (show ks.length - (i + 1) < ks.length - i by omega) (Sx.put rfl (sx_)) sp_))
 iterate 4 refine gn_ 41 rfl rfl rfl rfl ?_
 refine WL.y rfl (Yd.pickF rfl rfl) (nt_ (WC.no rfl (WC.skip (DN.block_normal (DN.then_normal (WC.region (m_ rfl rfl (WL.y rfl (Yd.add rfl rfl (by omega) (by omega)) ?_))))))))
 exact a_ rfl rfl (WL.nil (DN.againS (i + 1) (show (i + 1) ≤ ks.length ∧ ∀ k ∈ ks.take (i + 1), ¬ (k.order = o ∧ k.step = s ∧ k.undo = u) from ⟨by omega, find_next hlt hno (by first | exact fun h => hg35 h.1 | exact fun h => hg41 h.2.1 | exact fun h => absurd h.2.2 (by simpa using h46))⟩) (show ks.length - (i + 1) < ks.length - i by omega) (Sx.put rfl (sx_)) sp_))
 iterate 4 refine gn_ 35 rfl rfl rfl rfl ?_
 refine WL.y rfl (Yd.pickF rfl rfl) (m_ rfl rfl ?_)
 iterate 4 refine gn_ 41 rfl rfl rfl rfl ?_
 refine WL.y rfl (Yd.pickF rfl rfl) (nt_ (WC.no rfl (WC.skip (DN.block_normal (DN.then_normal (WC.region (m_ rfl rfl (WL.y rfl (Yd.add rfl rfl (by omega) (by omega)) ?_))))))))
 exact a_ rfl rfl (WL.nil (DN.againS (i + 1) (show (i + 1) ≤ ks.length ∧ ∀ k ∈ ks.take (i + 1), ¬ (k.order = o ∧ k.step = s ∧ k.undo = u) from ⟨by omega, find_next hlt hno (by first | exact fun h => hg35 h.1 | exact fun h => hg41 h.2.1 | exact fun h => absurd h.2.2 (by simpa using h46))⟩) (show ks.length - (i + 1) < ks.length - i by omega) (Sx.put rfl (sx_)) sp_))
 have hnc : ¬ chk ks := fun h => by rw [if_pos h] at h23; exact h23 rfl
 refine WC.exit (DN.then_exit (DN.then_exit (DN.block_exit (ts_ (WC.region (WL.y rfl (Yd.buildL (pl := [(0, 1), (1, 1), (2, 1), (3, 1), (4, 1), (5, 1)]) (zs := [.int .u32 0, .int .i64 0, .bool false, .slice none 0 0, .int .i64 0, .slice none 0 0]) (parts := []) (vs := []) (cells := [.int .u32 0, .int .i64 0, .bool false, .slice none 0 0, .int .i64 0, .slice none 0 0]) kr_ kr_ rfl rfl) ?_))))))
 refine WL.s (Hd.storeAll (n := 6) kr_ rfl rfl (by rfl) one_ fr_ (by rfl) ⟨rfl, ?_⟩)
 refine a_ rfl rfl (nt_ (WC.ret (DN.retCT (s := 6) H Tryz.results107 kr_ rfl rfl mem_ (by rfl) sp_ ?_)))
 rotate_left
 refine gn_ 20 rfl rfl rfl rfl (gn_ 20 rfl rfl rfl rfl (WL.y rfl (Yd.pickF rfl rfl) (nt_ (WC.no rfl (WC.exit (DN.then_exit (DN.then_exit (DN.block_exit (ts_ (WC.region (WL.y rfl (Yd.buildL (pl := [(0, 1), (1, 1), (2, 1), (3, 1), (4, 1), (5, 1)]) (zs := [.int .u32 0, .int .i64 0, .bool false, .slice none 0 0, .int .i64 0, .slice none 0 0]) (parts := []) (vs := []) (cells := [.int .u32 0, .int .i64 0, .bool false, .slice none 0 0, .int .i64 0, .slice none 0 0]) kr_ kr_ rfl rfl) ?_)))))))))))
 refine WL.s (Hd.storeAll (n := 6) kr_ rfl rfl (by rfl) one_ fr_ (by rfl) ⟨rfl, ?_⟩)
 refine a_ rfl rfl (nt_ (WC.ret (DN.retCT (s := 6) H Tryz.results107 kr_ rfl rfl mem_ (by rfl) sp_ ?_)))
 rotate_left
 all_goals
  first
  | (rw [findF_some hck hlt hg35 hg41 (by simpa using h46)]; exact ⟨_, _, rfl, hva, hvr, rfl⟩)
  | (rw [findF_nokey (fun h => absurd h hnc)]; exact ⟨_, _, rfl, Bs_nil _, Bs_nil _, rfl⟩)
  | (obtain rfl : i = ks.length := by omega
     rw [List.take_length] at hno
     rw [findF_nokey (fun _ => hno)]; exact ⟨_, _, rfl, Bs_nil _, Bs_nil _, rfl⟩)
theorem rask_tells (e : BitVec 32) (v : Value) (ks : List Kp) (H : List Ck) (hv : KV v ks H) (hl : ks.length ≤ 1000) (n : Nt) (vk vd : Value) (hvk : Bs vk n.key H) (hvd : Bs vd n.data H) : Tells Tryz.prog 69 [.agg #[.int .u32 e.toNat, v], .agg (ntc n vk vd).toArray] H fun r H' => ∃ wa wr, r = .tuple #[.int .i64 (askK e ks n).1, .agg (kc (askK e ks n).2.1 wa wr).toArray, .int .i64 (askK e ks n).2.2] ∧ Bs wa (askK e ks n).2.1.asked H ∧ Bs wr (askK e ks n).2.1.reply H ∧ H' = H := by
 refine Tells.enter Tryz.func69 rfl Tryz.ntmps69 rfl ?_
 intro w0 R
 obtain ⟨ao, c, rfl, hc⟩ := hv.form
 obtain ⟨ko, kcap, rfl, hkc⟩ := hvk.form
 obtain ⟨do_, dc, rfl, hdc⟩ := hvd.form
 refine sr_ (WL.h rfl (Hd.boxA rfl fun b2 => ⟨_, rfl, ?_⟩))
 refine WL.h rfl (Hd.boxA rfl fun b3 => ⟨_, rfl, ?_⟩)
 refine a_ rfl rfl (WL.h rfl (Hd.alloc (zs := [.int .u32 0, .int .i64 0, .bool false, .slice none 0 0, .int .i64 0, .slice none 0 0]) kr_ fun b5 => ⟨_, rfl, ?_⟩))
 refine a_ rfl rfl (ntsr_ (WL.h rfl (Hd.loadAll (n := 2) kr_ rfl mem_ (by rfl) ⟨_, rfl, ?_⟩)))
 refine WL.r rfl (Ent.func Tryz.call105 rfl) (rfcheck_reads e _ ks _ (hv.mono gr_) (by omega)) ?_
 refine a_ rfl rfl (ntsr_ (WL.h rfl (Hd.loadAll (n := 11) kr_ rfl mem_ (by rfl) ⟨_, rfl, ?_⟩)))
 refine WL.r rfl (Ent.func Tryz.call106 rfl) (rcheck_reads n (.slice ko _ kcap) (.slice do_ _ dc) ⟨_, _, rfl⟩ ⟨_, _, rfl⟩ _) (a_ rfl rfl (nt_ (WC.seq (WC.block (WC.cutK (fun z : Bool => z = decide (askBad ks n)) (fun z : Bool => [(17, .bool z), (7, .int .i64 (if chk ks then 0 else 2))]) (fun z : Bool => row b5 (kc Kp.z (.slice none 0 0) (.slice none 0 0)) 118 :: row b3 (ntc n (.slice ko n.key.length kcap) (.slice do_ n.data.length dc)) 52 :: row b2 [.int .u32 e.toNat, .slice ao ks.length c] 82 :: H) ?_ ?_)))))
 refine WC.region (m_ rfl rfl (WL.y rfl (Yd.neq rfl rfl) ?_))
 refine WL.renamed (t := 19) (v := .bool (!decide (chk ks))) rfl (congrArg Value.bool (by by_cases h : chk ks <;> simp [h])) ?_
 refine m_ rfl rfl (WL.part (t := 20) rfl (fun hg20 => ?_) (fun hg20 => ?_))
 refine gn_ 20 rfl rfl rfl rfl (gn_ 20 rfl rfl rfl rfl (WL.y rfl (Yd.pickT rfl rfl) (m_ rfl rfl ?_)))
 iterate 3 refine gn_ 24 rfl rfl rfl rfl ?_
 refine WL.y rfl (Yd.pickT rfl rfl) (m_ rfl rfl ?_)
 iterate 3 refine gn_ 29 rfl rfl rfl rfl ?_
 refine WL.y rfl (Yd.pickT rfl rfl) (m_ rfl rfl ?_)
 iterate 3 refine gn_ 34 rfl rfl rfl rfl ?_
 refine WL.y rfl (Yd.pickT rfl rfl) (a_ rfl rfl (WL.nil ?_))
 exact DN.reachK (_) (ask_z (by
     unfold askBad
     first
     | exact ⟨fun _ => .inl (by simpa using hg20), fun _ => rfl⟩
     | exact ⟨fun _ => .inr (.inr (.inl hg24)), fun _ => rfl⟩
     | exact ⟨fun _ => .inr (.inl hg29), fun _ => rfl⟩
     | exact ⟨fun _ => .inr (.inr (.inr (.inl hg34))), fun _ => rfl⟩
     | (rw [decide_eq_true_eq]
        refine ⟨fun h => .inr (.inr (.inr (.inr h))), fun h => ?_⟩
        rcases h with h | h | h | h | h
        · simp [h] at hg20
        · exact absurd h hg29
        · rw [h] at hg24; cases hg24
        · exact absurd h hg34
        exact h))) (Sx.put rfl (Sx.put rfl (sx_))) (Sp.all sp_)
 refine gy_ 20 rfl rfl rfl (Yd.move rfl) (gy_ 20 rfl rfl rfl (Yd.neq rfl rfl) ?_)
 refine WL.renamed (t := 22) (v := .bool (noteBad n)) rfl (congrArg Value.bool (by cases noteBad n <;> rfl)) ?_
 refine WL.y rfl (Yd.pickF rfl rfl) (m_ rfl rfl (WL.part (t := 24) rfl (fun hg24 => ?_) (fun hg24 => ?_)))
 iterate 3 refine gn_ 24 rfl rfl rfl rfl ?_
 refine WL.y rfl (Yd.pickT rfl rfl) (m_ rfl rfl ?_)
 iterate 3 refine gn_ 29 rfl rfl rfl rfl ?_
 refine WL.y rfl (Yd.pickT rfl rfl) (m_ rfl rfl ?_)
 iterate 3 refine gn_ 34 rfl rfl rfl rfl ?_
 refine WL.y rfl (Yd.pickT rfl rfl) (a_ rfl rfl (WL.nil ?_))
 exact DN.reachK (_) (ask_z (by
     unfold askBad
     first
     | exact ⟨fun _ => .inl (by simpa using hg20), fun _ => rfl⟩
     | exact ⟨fun _ => .inr (.inr (.inl hg24)), fun _ => rfl⟩
     | exact ⟨fun _ => .inr (.inl hg29), fun _ => rfl⟩
     | exact ⟨fun _ => .inr (.inr (.inr (.inl hg34))), fun _ => rfl⟩
     | (rw [decide_eq_true_eq]
        refine ⟨fun h => .inr (.inr (.inr (.inr h))), fun h => ?_⟩
        rcases h with h | h | h | h | h
        · simp [h] at hg20
        · exact absurd h hg29
        · rw [h] at hg24; cases hg24
        · exact absurd h hg34
        exact h))) (Sx.put rfl (Sx.put rfl (sx_))) (Sp.all sp_)
 refine gy_ 24 rfl rfl rfl (Yd.fieldAddr (k := 0) kr_ rfl) ?_
 refine WL.gh (dj := 24) rfl rfl rfl (Hd.load1 kr_ rfl mem_ (by rfl) ⟨_, rfl, ?_⟩)
 refine gy_ 24 rfl rfl rfl (Yd.neq rfl rfl) (WL.y rfl (Yd.pickF rfl rfl) (m_ rfl rfl (WL.partP (t := 29) rfl (fun hg29 => ?_) (fun hg29 => ?_))))
 iterate 3 refine gn_ 29 rfl rfl rfl rfl ?_
 refine WL.y rfl (Yd.pickT rfl rfl) (m_ rfl rfl ?_)
 iterate 3 refine gn_ 34 rfl rfl rfl rfl ?_
 refine WL.y rfl (Yd.pickT rfl rfl) (a_ rfl rfl (WL.nil ?_))
 exact DN.reachK (_) (ask_z (by
     unfold askBad
     first
     | exact ⟨fun _ => .inl (by simpa using hg20), fun _ => rfl⟩
     | exact ⟨fun _ => .inr (.inr (.inl hg24)), fun _ => rfl⟩
     | exact ⟨fun _ => .inr (.inl hg29), fun _ => rfl⟩
     | exact ⟨fun _ => .inr (.inr (.inr (.inl hg34))), fun _ => rfl⟩
     | (rw [decide_eq_true_eq]
        refine ⟨fun h => .inr (.inr (.inr (.inr h))), fun h => ?_⟩
        rcases h with h | h | h | h | h
        · simp [h] at hg20
        · exact absurd h hg29
        · rw [h] at hg24; cases hg24
        · exact absurd h hg34
        exact h))) (Sx.put rfl (Sx.put rfl (sx_))) (Sp.all sp_)
 refine gy_ 29 rfl rfl rfl (Yd.fieldAddr (k := 1) kr_ rfl) ?_
 refine WL.gh (dj := 29) rfl rfl rfl (Hd.load1 kr_ rfl mem_ (by rfl) ⟨_, rfl, ?_⟩)
 refine gy_ 29 rfl rfl rfl (Yd.eql32 _ (0#32) rfl rfl rfl rfl) (WL.y rfl (Yd.pickF rfl rfl) (m_ rfl rfl (WL.partP (t := 34) rfl (fun hg34 => ?_) (fun hg34 => ?_))))
 iterate 3 refine gn_ 34 rfl rfl rfl rfl ?_
 refine WL.y rfl (Yd.pickT rfl rfl) (a_ rfl rfl (WL.nil ?_))
 exact DN.reachK (_) (ask_z (by
     unfold askBad
     first
     | exact ⟨fun _ => .inl (by simpa using hg20), fun _ => rfl⟩
     | exact ⟨fun _ => .inr (.inr (.inl hg24)), fun _ => rfl⟩
     | exact ⟨fun _ => .inr (.inl hg29), fun _ => rfl⟩
     | exact ⟨fun _ => .inr (.inr (.inr (.inl hg34))), fun _ => rfl⟩
     | (rw [decide_eq_true_eq]
        refine ⟨fun h => .inr (.inr (.inr (.inr h))), fun h => ?_⟩
        rcases h with h | h | h | h | h
        · simp [h] at hg20
        · exact absurd h hg29
        · rw [h] at hg24; cases hg24
        · exact absurd h hg34
        exact h))) (Sx.put rfl (Sx.put rfl (sx_))) (Sp.all sp_)
 refine gy_ 34 rfl rfl rfl (Yd.fieldAddr (k := 5) kr_ rfl) ?_
 refine WL.gh (dj := 34) rfl rfl rfl (Hd.load1 kr_ rfl mem_ (by rfl) ⟨_, rfl, ?_⟩)
 refine gy_ 34 rfl rfl rfl (Yd.eql32 _ (0#32) rfl rfl rfl rfl) (WL.y rfl (Yd.pickF rfl rfl) (a_ rfl rfl (WL.nil ?_)))
 exact DN.reachK (_) (ask_z (by
     unfold askBad
     first
     | exact ⟨fun _ => .inl (by simpa using hg20), fun _ => rfl⟩
     | exact ⟨fun _ => .inr (.inr (.inl hg24)), fun _ => rfl⟩
     | exact ⟨fun _ => .inr (.inl hg29), fun _ => rfl⟩
     | exact ⟨fun _ => .inr (.inr (.inr (.inl hg34))), fun _ => rfl⟩
     | (rw [decide_eq_true_eq]
        refine ⟨fun h => .inr (.inr (.inr (.inr h))), fun h => ?_⟩
        rcases h with h | h | h | h | h
        · simp [h] at hg20
        · exact absurd h hg29
        · rw [h] at hg24; cases hg24
        · exact absurd h hg34
        exact h))) (Sx.put rfl (Sx.put rfl (sx_))) (Sp.all sp_)
 intro z hz
 refine WC.cond rfl (fun h17 => ?_) (fun h17 => ?_)
 have hbad : askBad ks n := of_decide_eq_true (hz.symm.trans h17)
 refine sr_ (WL.y rfl (Yd.buildL (pl := [(0, 1), (1, 1), (2, 1), (3, 1), (4, 1), (5, 1)]) (zs := [.int .u32 0, .int .i64 0, .bool false, .slice none 0 0, .int .i64 0, .slice none 0 0]) (parts := []) (vs := []) (cells := [.int .u32 0, .int .i64 0, .bool false, .slice none 0 0, .int .i64 0, .slice none 0 0]) kr_ kr_ rfl rfl) ?_)
 refine a_ rfl rfl (WL.s (Hd.storeAll (n := 6) kr_ rfl rfl (by rfl) one_ fr_ (by rfl) ⟨rfl, ?_⟩))
 refine a_ rfl rfl (nt_ (WC.ret (DN.block_ret (DN.then_ret (DN.retTCT (s := 6) (H) Tryz.results69 kr_ rfl rfl rfl mem_ (by rfl) sp_ ?_)))))
 rotate_left
 have hgood : ¬ askBad ks n := of_decide_eq_false (hz.symm.trans h17)
 have hck : chk ks := good_chk hgood
 have hst := noteBad_step (n := n) (by
   cases e9 : noteBad n
   · rfl
   exact absurd (.inr (.inr (.inl e9))) hgood)
 refine sr_ (f_ 1 kr_ rfl rfl ?_)
 refine d_ kr_ rfl mem_ (by rfl) rfl ?_
 refine f_ 0 kr_ rfl rfl ?_
 refine d_ kr_ rfl mem_ (by rfl) rfl ?_
 refine WL.y rfl (Yd.lss rfl rfl) (a_ rfl rfl (nt_ (WC.ite rfl (fun h40 => ?_) (fun h40 => ?_))))
 refine sr_ (WL.y rfl (Yd.buildL (pl := [(0, 1), (1, 1), (2, 1), (3, 1), (4, 1), (5, 1)]) (zs := [.int .u32 0, .int .i64 0, .bool false, .slice none 0 0, .int .i64 0, .slice none 0 0]) (parts := []) (vs := []) (cells := [.int .u32 0, .int .i64 0, .bool false, .slice none 0 0, .int .i64 0, .slice none 0 0]) kr_ kr_ rfl rfl) ?_)
 refine a_ rfl rfl (WL.s (Hd.storeAll (n := 6) kr_ rfl rfl (by rfl) one_ fr_ (by rfl) ⟨rfl, ?_⟩))
 refine a_ rfl rfl (nt_ (WC.ret (DN.block_ret (DN.then_ret (DN.retTCT (s := 6) (H) Tryz.results69 kr_ rfl rfl rfl mem_ (by rfl) sp_ ?_)))))
 rotate_left
 refine WC.skip (DN.block_normal (ts_ (WC.region (WL.h rfl (Hd.loadAll (n := 2) kr_ rfl mem_ (by rfl) ⟨_, rfl, ?_⟩)))))
 refine f_ 5 kr_ rfl rfl ?_
 refine d_ kr_ rfl mem_ (by rfl) rfl ?_
 refine f_ 6 kr_ rfl rfl ?_
 refine d_ kr_ rfl mem_ (by rfl) rfl ?_
 refine f_ 7 kr_ rfl rfl ?_
 refine d_ kr_ rfl mem_ (by rfl) rfl ?_
 refine WL.c rfl (Ent.func Tryz.call107 rfl) (rfind_tells e _ ks H hv hl n.order n.step n.undo) (Sp.p sp_) ?_
 rintro x H9 ⟨wa, wr, rfl, hA, hB, hH9⟩
 rw [hH9]
 clear hH9 H9
 obtain ⟨fk, hfk⟩ : ∃ q, q = findF ks n.order n.step n.undo := ⟨_, rfl⟩
 rw [← hfk] at hA hB ⊢
 rw [findF_ok hck hst.1 hst.2.1] at hfk
 obtain ⟨oa, ca, rfl, _⟩ := hA.form
 obtain ⟨or, cr, rfl, _⟩ := hB.form
 refine m_ rfl rfl (x_ rfl rfl rfl (x_ rfl rfl rfl (WL.h rfl (Hd.alloc (zs := [.int .u32 0, .int .i64 0, .bool false, .slice none 0 0, .int .i64 0, .slice none 0 0]) kr_ fun b9 => ⟨_, rfl, ?_⟩))))
 refine WL.s (Hd.storeAll (n := 6) kr_ rfl rfl (by rfl) (kc_one rfl rfl) fr_ (by rfl) ⟨rfl, ?_⟩)
 refine a_ rfl rfl (ntsr_ (WL.h rfl (Hd.loadAll (n := 2) kr_ rfl mem_ (by rfl) ⟨_, rfl, ?_⟩)))
 refine f_ 5 kr_ rfl rfl ?_
 refine d_ kr_ rfl mem_ (by rfl) rfl ?_
 refine f_ 6 kr_ rfl rfl ?_
 refine d_ kr_ rfl mem_ (by rfl) rfl ?_
 refine f_ 7 kr_ rfl rfl ?_
 refine d_ kr_ rfl mem_ (by rfl) rfl ?_
 refine WL.y rfl (Yd.notB rfl) (WL.c rfl (Ent.func Tryz.call107 rfl) (rfind_tells e _ ks H hv hl n.order n.step (!n.undo)) (Sp.p sp_) ?_)
 rintro x H9 ⟨wa2, wr2, rfl, hA2, hB2, hH9⟩
 rw [hH9]
 clear hH9 H9
 obtain ⟨gk, hgk⟩ : ∃ q, q = findF ks n.order n.step (!n.undo) := ⟨_, rfl⟩
 rw [← hgk] at hA2 hB2 ⊢
 rw [findF_ok hck hst.1 hst.2.1] at hgk
 obtain ⟨oa2, ca2, rfl, _⟩ := hA2.form
 obtain ⟨or2, cr2, rfl, _⟩ := hB2.form
 refine m_ rfl rfl (x_ rfl rfl rfl (x_ rfl rfl rfl (WL.h rfl (Hd.alloc (zs := [.int .u32 0, .int .i64 0, .bool false, .slice none 0 0, .int .i64 0, .slice none 0 0]) kr_ fun b11 => ⟨_, rfl, ?_⟩))))
 refine WL.s (Hd.storeAll (n := 6) kr_ rfl rfl (by rfl) one_ fr_ (by rfl) ⟨rfl, ?_⟩)
 refine a_ rfl rfl (nt_ (WC.seq (WC.block (sr_ (m_ rfl rfl (m_ rfl rfl (WL.part (t := 72) rfl (fun hg72 => ?_) (fun hg72 => ?_))))))))
 refine gy_ 72 rfl rfl rfl (Yd.fieldAddr (k := 3) kr_ rfl) ?_
 refine WL.gh (dj := 72) rfl rfl rfl (Hd.load1 kr_ rfl mem_ (by rfl) ⟨_, rfl, ?_⟩)
 refine WL.gh (dj := 72) rfl rfl rfl (Hd.toStr (e := 5) (bs := (fk.getD Kp.z).asked) kr_ kr_ Tryz.underlying9 rfl (hA.mono gr_) ⟨_, rfl, ?_⟩)
 refine gy_ 72 rfl rfl rfl (Yd.fieldAddr (k := 10) kr_ rfl) ?_
 refine WL.gh (dj := 72) rfl rfl rfl (Hd.load1 kr_ rfl mem_ (by rfl) ⟨_, rfl, ?_⟩)
 refine WL.gh (dj := 72) rfl rfl rfl (Hd.toStr (e := 5) (bs := n.data) kr_ kr_ Tryz.underlying9 rfl (hvd.mono gr_) ⟨_, rfl, ?_⟩)
 refine gy_ 72 rfl rfl rfl (Yd.neqS rfl rfl) (WL.y rfl (Yd.pickT rfl rfl) (a_ rfl rfl (nt_ (WC.ite rfl (fun h70 => ?_) (fun h70 => ?_)))))
 refine sr_ (WL.y rfl (Yd.buildL (pl := [(0, 1), (1, 1), (2, 1), (3, 1), (4, 1), (5, 1)]) (zs := [.int .u32 0, .int .i64 0, .bool false, .slice none 0 0, .int .i64 0, .slice none 0 0]) (parts := []) (vs := []) (cells := [.int .u32 0, .int .i64 0, .bool false, .slice none 0 0, .int .i64 0, .slice none 0 0]) kr_ kr_ rfl rfl) ?_)
 refine a_ rfl rfl (WL.s (Hd.storeAll (n := 6) kr_ rfl rfl (by rfl) one_ fr_ (by rfl) ⟨rfl, ?_⟩))
 refine a_ rfl rfl (nt_ (WC.ret (DN.block_ret (DN.then_ret (DN.retTCT (s := 6) (H) Tryz.results69 kr_ rfl rfl rfl mem_ (by rfl) sp_ ?_)))))
 rotate_left
 refine sr_ (m_ rfl rfl (a_ rfl rfl (nt_ (WC.cond rfl (fun h82 => ?_) (fun h82 => ?_)))))
 refine WC.seq (WC.draw 4 kr_ rfl ?_)
 refine WAG.start (N := 4) rfl (wq_ (wf_ (i := 0) [] rfl (QAt.rd Wt.none (Rd.loadAll (n := 6) kr_ rfl mem_ (by rfl))) kr_) kr_ ?_)
 refine ws_ [(1, [])] kr_ (all_c ?_ (all_n))
 refine so_ (j := 1) [] rfl (SO.y rfl Wt.none rfl (Yd.assign rfl) (wk_ [_] (_ :: ([] ++ _)) rfl rfl (all_c (wf_ [] rfl (QAt.rd Wt.none (Rd.loadAll (n := 6) kr_ rfl mem_ (by rfl))) kr_) all_n) ?_))
 refine ws_ [(2, [0])] kr_ (all_c ?_ (all_n))
 refine so_ (j := 2) [_] rfl (SO.s rfl Wt.none (Hd.storeAll (n := 6) kr_ rfl rfl (by rfl) (kc_one rfl rfl) fr_ (by rfl) ⟨rfl, ?_⟩))
 refine wk_ [] (([_] ++ _)) rfl rfl all_n (ws_ [(3, [])] kr_ (all_c ?_ (all_n)))
 refine so_ (j := 3) [] rfl (SO.y rfl Wt.none rfl (Yd.assign rfl) (wk_ [] (_ :: ([] ++ _)) rfl rfl all_n (wd_ [] rfl kr_ ?_)))
 refine DN.then_normal (WC.ret (DN.block_ret (DN.then_ret (DN.retTCT (s := 6) (H) Tryz.results69 kr_ rfl rfl rfl mem_ (by rfl) sp_ ?_))))
 rotate_left
 refine sr_ (f_ 7 kr_ rfl rfl ?_)
 refine d_ kr_ rfl mem_ (by rfl) rfl ?_
 refine WL.y rfl (Yd.notB rfl) (m_ rfl rfl (WL.part (t := 89) rfl (fun hg89 => ?_) (fun hg89 => ?_)))
 refine gy_ 89 rfl rfl rfl (Yd.move rfl) (WL.y rfl (Yd.pickT rfl rfl) (a_ rfl rfl (nt_ (WC.cond rfl (fun h85 => ?_) (fun h85 => ?_)))))
 refine sr_ (WL.y rfl (Yd.buildL (pl := [(0, 1), (1, 1), (2, 1), (3, 1), (4, 1), (5, 1)]) (zs := [.int .u32 0, .int .i64 0, .bool false, .slice none 0 0, .int .i64 0, .slice none 0 0]) (parts := []) (vs := []) (cells := [.int .u32 0, .int .i64 0, .bool false, .slice none 0 0, .int .i64 0, .slice none 0 0]) kr_ kr_ rfl rfl) ?_)
 refine a_ rfl rfl (WL.s (Hd.storeAll (n := 6) kr_ rfl rfl (by rfl) one_ fr_ (by rfl) ⟨rfl, ?_⟩))
 refine a_ rfl rfl (nt_ (WC.ret (DN.block_ret (DN.then_ret (DN.retTCT (s := 6) (H) Tryz.results69 kr_ rfl rfl rfl mem_ (by rfl) sp_ ?_)))))
 rotate_left
 refine sr_ (f_ 7 kr_ rfl rfl ?_)
 refine d_ kr_ rfl mem_ (by rfl) rfl ?_
 refine m_ rfl rfl (WL.part (t := 96) rfl (fun hg96 => ?_) (fun hg96 => ?_))
 refine gy_ 96 rfl rfl rfl (Yd.move rfl) (gy_ 96 rfl rfl rfl (Yd.notB rfl) (WL.y rfl (Yd.pickT rfl rfl) (a_ rfl rfl (nt_ (WC.cond rfl (fun h93 => ?_) (fun h93 => ?_))))))
 refine sr_ (WL.y rfl (Yd.buildL (pl := [(0, 1), (1, 1), (2, 1), (3, 1), (4, 1), (5, 1)]) (zs := [.int .u32 0, .int .i64 0, .bool false, .slice none 0 0, .int .i64 0, .slice none 0 0]) (parts := []) (vs := []) (cells := [.int .u32 0, .int .i64 0, .bool false, .slice none 0 0, .int .i64 0, .slice none 0 0]) kr_ kr_ rfl rfl) ?_)
 refine a_ rfl rfl (WL.s (Hd.storeAll (n := 6) kr_ rfl rfl (by rfl) one_ fr_ (by rfl) ⟨rfl, ?_⟩))
 refine a_ rfl rfl (nt_ (WC.ret (DN.block_ret (DN.then_ret (DN.retTCT (s := 6) (H) Tryz.results69 kr_ rfl rfl rfl mem_ (by rfl) sp_ ?_)))))
 rotate_left
 refine sr_ (f_ 7 kr_ rfl rfl ?_)
 refine d_ kr_ rfl mem_ (by rfl) rfl ?_
 refine m_ rfl rfl (WL.part (t := 104) rfl (fun hg104 => ?_) (fun hg104 => ?_))
 refine gy_ 104 rfl rfl rfl (Yd.fieldAddr (k := 4) kr_ rfl) ?_
 refine WL.gh (dj := 104) rfl rfl rfl (Hd.load1 kr_ rfl mem_ (by rfl) ⟨_, rfl, ?_⟩)
 refine gy_ 104 rfl rfl rfl (Yd.eql rfl rfl) (WL.y rfl (Yd.pickT rfl rfl) (a_ rfl rfl (nt_ (WC.ite rfl (fun h101 => ?_) (fun h101 => ?_)))))
 refine sr_ (WL.y rfl (Yd.buildL (pl := [(0, 1), (1, 1), (2, 1), (3, 1), (4, 1), (5, 1)]) (zs := [.int .u32 0, .int .i64 0, .bool false, .slice none 0 0, .int .i64 0, .slice none 0 0]) (parts := []) (vs := []) (cells := [.int .u32 0, .int .i64 0, .bool false, .slice none 0 0, .int .i64 0, .slice none 0 0]) kr_ kr_ rfl rfl) ?_)
 refine a_ rfl rfl (WL.s (Hd.storeAll (n := 6) kr_ rfl rfl (by rfl) one_ fr_ (by rfl) ⟨rfl, ?_⟩))
 refine a_ rfl rfl (nt_ (WC.ret (DN.block_ret (DN.then_ret (DN.retTCT (s := 6) (H) Tryz.results69 kr_ rfl rfl rfl mem_ (by rfl) sp_ ?_)))))
 rotate_left
 refine WC.skip (DN.block_normal (ts_ (WC.region (WL.y rfl (Yd.buildL (pl := [(0, 1), (1, 1), (2, 1), (3, 1), (4, 1), (5, 1)]) (zs := [.int .u32 0, .int .i64 0, .bool false, .slice none 0 0, .int .i64 0, .slice none 0 0]) (parts := []) (vs := []) (cells := [.int .u32 0, .int .i64 0, .bool false, .slice none 0 0, .int .i64 0, .slice none 0 0]) kr_ kr_ rfl rfl) ?_))))
 refine a_ rfl rfl (WL.s (Hd.storeAll (n := 6) kr_ rfl rfl (by rfl) one_ fr_ (by rfl) ⟨rfl, ?_⟩))
 refine a_ rfl rfl (nt_ (WC.ret (DN.retTCT (s := 6) (H) Tryz.results69 kr_ rfl rfl rfl mem_ (by rfl) sp_ ?_)))
 rotate_left
 iterate 3 refine gn_ 104 rfl rfl rfl rfl ?_
 refine WL.y rfl (Yd.pickF rfl rfl) (a_ rfl rfl (nt_ (WC.no rfl (WC.skip (DN.block_normal (ts_ (WC.region (WL.y rfl (Yd.buildL (pl := [(0, 1), (1, 1), (2, 1), (3, 1), (4, 1), (5, 1)]) (zs := [.int .u32 0, .int .i64 0, .bool false, .slice none 0 0, .int .i64 0, .slice none 0 0]) (parts := []) (vs := []) (cells := [.int .u32 0, .int .i64 0, .bool false, .slice none 0 0, .int .i64 0, .slice none 0 0]) kr_ kr_ rfl rfl) ?_))))))))
 refine a_ rfl rfl (WL.s (Hd.storeAll (n := 6) kr_ rfl rfl (by rfl) one_ fr_ (by rfl) ⟨rfl, ?_⟩))
 refine a_ rfl rfl (nt_ (WC.ret (DN.retTCT (s := 6) (H) Tryz.results69 kr_ rfl rfl rfl mem_ (by rfl) sp_ ?_)))
 rotate_left
 refine gn_ 96 rfl rfl rfl rfl (gn_ 96 rfl rfl rfl rfl (WL.y rfl (Yd.pickF rfl rfl) (a_ rfl rfl (nt_ (WC.no rfl (sr_ (f_ 7 kr_ rfl rfl ?_)))))))
 refine d_ kr_ rfl mem_ (by rfl) rfl ?_
 refine m_ rfl rfl (WL.part (t := 104) rfl (fun hg104 => ?_) (fun hg104 => ?_))
 refine gy_ 104 rfl rfl rfl (Yd.fieldAddr (k := 4) kr_ rfl) ?_
 refine WL.gh (dj := 104) rfl rfl rfl (Hd.load1 kr_ rfl mem_ (by rfl) ⟨_, rfl, ?_⟩)
 refine gy_ 104 rfl rfl rfl (Yd.eql rfl rfl) (WL.y rfl (Yd.pickT rfl rfl) (a_ rfl rfl (nt_ (WC.ite rfl (fun h101 => ?_) (fun h101 => ?_)))))
 refine sr_ (WL.y rfl (Yd.buildL (pl := [(0, 1), (1, 1), (2, 1), (3, 1), (4, 1), (5, 1)]) (zs := [.int .u32 0, .int .i64 0, .bool false, .slice none 0 0, .int .i64 0, .slice none 0 0]) (parts := []) (vs := []) (cells := [.int .u32 0, .int .i64 0, .bool false, .slice none 0 0, .int .i64 0, .slice none 0 0]) kr_ kr_ rfl rfl) ?_)
 refine a_ rfl rfl (WL.s (Hd.storeAll (n := 6) kr_ rfl rfl (by rfl) one_ fr_ (by rfl) ⟨rfl, ?_⟩))
 refine a_ rfl rfl (nt_ (WC.ret (DN.block_ret (DN.then_ret (DN.retTCT (s := 6) (H) Tryz.results69 kr_ rfl rfl rfl mem_ (by rfl) sp_ ?_)))))
 rotate_left
 refine WC.skip (DN.block_normal (ts_ (WC.region (WL.y rfl (Yd.buildL (pl := [(0, 1), (1, 1), (2, 1), (3, 1), (4, 1), (5, 1)]) (zs := [.int .u32 0, .int .i64 0, .bool false, .slice none 0 0, .int .i64 0, .slice none 0 0]) (parts := []) (vs := []) (cells := [.int .u32 0, .int .i64 0, .bool false, .slice none 0 0, .int .i64 0, .slice none 0 0]) kr_ kr_ rfl rfl) ?_))))
 refine a_ rfl rfl (WL.s (Hd.storeAll (n := 6) kr_ rfl rfl (by rfl) one_ fr_ (by rfl) ⟨rfl, ?_⟩))
 refine a_ rfl rfl (nt_ (WC.ret (DN.retTCT (s := 6) (H) Tryz.results69 kr_ rfl rfl rfl mem_ (by rfl) sp_ ?_)))
 rotate_left
 iterate 3 refine gn_ 104 rfl rfl rfl rfl ?_
 refine WL.y rfl (Yd.pickF rfl rfl) (a_ rfl rfl (nt_ (WC.no rfl (WC.skip (DN.block_normal (ts_ (WC.region (WL.y rfl (Yd.buildL (pl := [(0, 1), (1, 1), (2, 1), (3, 1), (4, 1), (5, 1)]) (zs := [.int .u32 0, .int .i64 0, .bool false, .slice none 0 0, .int .i64 0, .slice none 0 0]) (parts := []) (vs := []) (cells := [.int .u32 0, .int .i64 0, .bool false, .slice none 0 0, .int .i64 0, .slice none 0 0]) kr_ kr_ rfl rfl) ?_))))))))
 refine a_ rfl rfl (WL.s (Hd.storeAll (n := 6) kr_ rfl rfl (by rfl) one_ fr_ (by rfl) ⟨rfl, ?_⟩))
 refine a_ rfl rfl (nt_ (WC.ret (DN.retTCT (s := 6) (H) Tryz.results69 kr_ rfl rfl rfl mem_ (by rfl) sp_ ?_)))
 rotate_left
 refine gn_ 89 rfl rfl rfl rfl (WL.y rfl (Yd.pickF rfl rfl) (a_ rfl rfl (nt_ (WC.no rfl (sr_ (f_ 7 kr_ rfl rfl ?_))))))
 refine d_ kr_ rfl mem_ (by rfl) rfl ?_
 refine m_ rfl rfl (WL.part (t := 96) rfl (fun hg96 => ?_) (fun hg96 => ?_))
 refine gy_ 96 rfl rfl rfl (Yd.move rfl) (gy_ 96 rfl rfl rfl (Yd.notB rfl) (WL.y rfl (Yd.pickT rfl rfl) (a_ rfl rfl (nt_ (WC.cond rfl (fun h93 => ?_) (fun h93 => ?_))))))
 refine sr_ (WL.y rfl (Yd.buildL (pl := [(0, 1), (1, 1), (2, 1), (3, 1), (4, 1), (5, 1)]) (zs := [.int .u32 0, .int .i64 0, .bool false, .slice none 0 0, .int .i64 0, .slice none 0 0]) (parts := []) (vs := []) (cells := [.int .u32 0, .int .i64 0, .bool false, .slice none 0 0, .int .i64 0, .slice none 0 0]) kr_ kr_ rfl rfl) ?_)
 refine a_ rfl rfl (WL.s (Hd.storeAll (n := 6) kr_ rfl rfl (by rfl) one_ fr_ (by rfl) ⟨rfl, ?_⟩))
 refine a_ rfl rfl (nt_ (WC.ret (DN.block_ret (DN.then_ret (DN.retTCT (s := 6) (H) Tryz.results69 kr_ rfl rfl rfl mem_ (by rfl) sp_ ?_)))))
 rotate_left
 refine sr_ (f_ 7 kr_ rfl rfl ?_)
 refine d_ kr_ rfl mem_ (by rfl) rfl ?_
 refine m_ rfl rfl (WL.part (t := 104) rfl (fun hg104 => ?_) (fun hg104 => ?_))
 refine gy_ 104 rfl rfl rfl (Yd.fieldAddr (k := 4) kr_ rfl) ?_
 refine WL.gh (dj := 104) rfl rfl rfl (Hd.load1 kr_ rfl mem_ (by rfl) ⟨_, rfl, ?_⟩)
 refine gy_ 104 rfl rfl rfl (Yd.eql rfl rfl) (WL.y rfl (Yd.pickT rfl rfl) (a_ rfl rfl (nt_ (WC.ite rfl (fun h101 => ?_) (fun h101 => ?_)))))
 refine sr_ (WL.y rfl (Yd.buildL (pl := [(0, 1), (1, 1), (2, 1), (3, 1), (4, 1), (5, 1)]) (zs := [.int .u32 0, .int .i64 0, .bool false, .slice none 0 0, .int .i64 0, .slice none 0 0]) (parts := []) (vs := []) (cells := [.int .u32 0, .int .i64 0, .bool false, .slice none 0 0, .int .i64 0, .slice none 0 0]) kr_ kr_ rfl rfl) ?_)
 refine a_ rfl rfl (WL.s (Hd.storeAll (n := 6) kr_ rfl rfl (by rfl) one_ fr_ (by rfl) ⟨rfl, ?_⟩))
 refine a_ rfl rfl (nt_ (WC.ret (DN.block_ret (DN.then_ret (DN.retTCT (s := 6) (H) Tryz.results69 kr_ rfl rfl rfl mem_ (by rfl) sp_ ?_)))))
 rotate_left
 refine WC.skip (DN.block_normal (ts_ (WC.region (WL.y rfl (Yd.buildL (pl := [(0, 1), (1, 1), (2, 1), (3, 1), (4, 1), (5, 1)]) (zs := [.int .u32 0, .int .i64 0, .bool false, .slice none 0 0, .int .i64 0, .slice none 0 0]) (parts := []) (vs := []) (cells := [.int .u32 0, .int .i64 0, .bool false, .slice none 0 0, .int .i64 0, .slice none 0 0]) kr_ kr_ rfl rfl) ?_))))
 refine a_ rfl rfl (WL.s (Hd.storeAll (n := 6) kr_ rfl rfl (by rfl) one_ fr_ (by rfl) ⟨rfl, ?_⟩))
 refine a_ rfl rfl (nt_ (WC.ret (DN.retTCT (s := 6) (H) Tryz.results69 kr_ rfl rfl rfl mem_ (by rfl) sp_ ?_)))
 rotate_left
 iterate 3 refine gn_ 104 rfl rfl rfl rfl ?_
 refine WL.y rfl (Yd.pickF rfl rfl) (a_ rfl rfl (nt_ (WC.no rfl (WC.skip (DN.block_normal (ts_ (WC.region (WL.y rfl (Yd.buildL (pl := [(0, 1), (1, 1), (2, 1), (3, 1), (4, 1), (5, 1)]) (zs := [.int .u32 0, .int .i64 0, .bool false, .slice none 0 0, .int .i64 0, .slice none 0 0]) (parts := []) (vs := []) (cells := [.int .u32 0, .int .i64 0, .bool false, .slice none 0 0, .int .i64 0, .slice none 0 0]) kr_ kr_ rfl rfl) ?_))))))))
 refine a_ rfl rfl (WL.s (Hd.storeAll (n := 6) kr_ rfl rfl (by rfl) one_ fr_ (by rfl) ⟨rfl, ?_⟩))
 refine a_ rfl rfl (nt_ (WC.ret (DN.retTCT (s := 6) (H) Tryz.results69 kr_ rfl rfl rfl mem_ (by rfl) sp_ ?_)))
 rotate_left
 refine gn_ 96 rfl rfl rfl rfl (gn_ 96 rfl rfl rfl rfl (WL.y rfl (Yd.pickF rfl rfl) (a_ rfl rfl (nt_ (WC.no rfl (sr_ (f_ 7 kr_ rfl rfl ?_)))))))
 refine d_ kr_ rfl mem_ (by rfl) rfl ?_
 refine m_ rfl rfl (WL.part (t := 104) rfl (fun hg104 => ?_) (fun hg104 => ?_))
 refine gy_ 104 rfl rfl rfl (Yd.fieldAddr (k := 4) kr_ rfl) ?_
 refine WL.gh (dj := 104) rfl rfl rfl (Hd.load1 kr_ rfl mem_ (by rfl) ⟨_, rfl, ?_⟩)
 refine gy_ 104 rfl rfl rfl (Yd.eql rfl rfl) (WL.y rfl (Yd.pickT rfl rfl) (a_ rfl rfl (nt_ (WC.ite rfl (fun h101 => ?_) (fun h101 => ?_)))))
 refine sr_ (WL.y rfl (Yd.buildL (pl := [(0, 1), (1, 1), (2, 1), (3, 1), (4, 1), (5, 1)]) (zs := [.int .u32 0, .int .i64 0, .bool false, .slice none 0 0, .int .i64 0, .slice none 0 0]) (parts := []) (vs := []) (cells := [.int .u32 0, .int .i64 0, .bool false, .slice none 0 0, .int .i64 0, .slice none 0 0]) kr_ kr_ rfl rfl) ?_)
 refine a_ rfl rfl (WL.s (Hd.storeAll (n := 6) kr_ rfl rfl (by rfl) one_ fr_ (by rfl) ⟨rfl, ?_⟩))
 refine a_ rfl rfl (nt_ (WC.ret (DN.block_ret (DN.then_ret (DN.retTCT (s := 6) (H) Tryz.results69 kr_ rfl rfl rfl mem_ (by rfl) sp_ ?_)))))
 rotate_left
 refine WC.skip (DN.block_normal (ts_ (WC.region (WL.y rfl (Yd.buildL (pl := [(0, 1), (1, 1), (2, 1), (3, 1), (4, 1), (5, 1)]) (zs := [.int .u32 0, .int .i64 0, .bool false, .slice none 0 0, .int .i64 0, .slice none 0 0]) (parts := []) (vs := []) (cells := [.int .u32 0, .int .i64 0, .bool false, .slice none 0 0, .int .i64 0, .slice none 0 0]) kr_ kr_ rfl rfl) ?_))))
 refine a_ rfl rfl (WL.s (Hd.storeAll (n := 6) kr_ rfl rfl (by rfl) one_ fr_ (by rfl) ⟨rfl, ?_⟩))
 refine a_ rfl rfl (nt_ (WC.ret (DN.retTCT (s := 6) (H) Tryz.results69 kr_ rfl rfl rfl mem_ (by rfl) sp_ ?_)))
 rotate_left
 iterate 3 refine gn_ 104 rfl rfl rfl rfl ?_
 refine WL.y rfl (Yd.pickF rfl rfl) (a_ rfl rfl (nt_ (WC.no rfl (WC.skip (DN.block_normal (ts_ (WC.region (WL.y rfl (Yd.buildL (pl := [(0, 1), (1, 1), (2, 1), (3, 1), (4, 1), (5, 1)]) (zs := [.int .u32 0, .int .i64 0, .bool false, .slice none 0 0, .int .i64 0, .slice none 0 0]) (parts := []) (vs := []) (cells := [.int .u32 0, .int .i64 0, .bool false, .slice none 0 0, .int .i64 0, .slice none 0 0]) kr_ kr_ rfl rfl) ?_))))))))
 refine a_ rfl rfl (WL.s (Hd.storeAll (n := 6) kr_ rfl rfl (by rfl) one_ fr_ (by rfl) ⟨rfl, ?_⟩))
 refine a_ rfl rfl (nt_ (WC.ret (DN.retTCT (s := 6) (H) Tryz.results69 kr_ rfl rfl rfl mem_ (by rfl) sp_ ?_)))
 rotate_left
 iterate 7 refine gn_ 72 rfl rfl rfl rfl ?_
 refine WL.y rfl (Yd.pickF rfl rfl) (a_ rfl rfl (nt_ (WC.no rfl (sr_ (m_ rfl rfl (a_ rfl rfl (nt_ (WC.cond rfl (fun h82 => ?_) (fun h82 => ?_)))))))))
 refine WC.seq (WC.draw 4 kr_ rfl ?_)
 refine WAG.start (N := 4) rfl (wq_ (wf_ (i := 0) [] rfl (QAt.rd Wt.none (Rd.loadAll (n := 6) kr_ rfl mem_ (by rfl))) kr_) kr_ ?_)
 refine ws_ [(1, [])] kr_ (all_c ?_ (all_n))
 refine so_ (j := 1) [] rfl (SO.y rfl Wt.none rfl (Yd.assign rfl) (wk_ [_] (_ :: ([] ++ _)) rfl rfl (all_c (wf_ [] rfl (QAt.rd Wt.none (Rd.loadAll (n := 6) kr_ rfl mem_ (by rfl))) kr_) all_n) ?_))
 refine ws_ [(2, [0])] kr_ (all_c ?_ (all_n))
 refine so_ (j := 2) [_] rfl (SO.s rfl Wt.none (Hd.storeAll (n := 6) kr_ rfl rfl (by rfl) (kc_one rfl rfl) fr_ (by rfl) ⟨rfl, ?_⟩))
 refine wk_ [] (([_] ++ _)) rfl rfl all_n (ws_ [(3, [])] kr_ (all_c ?_ (all_n)))
 refine so_ (j := 3) [] rfl (SO.y rfl Wt.none rfl (Yd.assign rfl) (wk_ [] (_ :: ([] ++ _)) rfl rfl all_n (wd_ [] rfl kr_ ?_)))
 refine DN.then_normal (WC.ret (DN.block_ret (DN.then_ret (DN.retTCT (s := 6) (H) Tryz.results69 kr_ rfl rfl rfl mem_ (by rfl) sp_ ?_))))
 rotate_left
 refine sr_ (f_ 7 kr_ rfl rfl ?_)
 refine d_ kr_ rfl mem_ (by rfl) rfl ?_
 refine WL.y rfl (Yd.notB rfl) (m_ rfl rfl (WL.part (t := 89) rfl (fun hg89 => ?_) (fun hg89 => ?_)))
 refine gy_ 89 rfl rfl rfl (Yd.move rfl) (WL.y rfl (Yd.pickT rfl rfl) (a_ rfl rfl (nt_ (WC.cond rfl (fun h85 => ?_) (fun h85 => ?_)))))
 refine sr_ (WL.y rfl (Yd.buildL (pl := [(0, 1), (1, 1), (2, 1), (3, 1), (4, 1), (5, 1)]) (zs := [.int .u32 0, .int .i64 0, .bool false, .slice none 0 0, .int .i64 0, .slice none 0 0]) (parts := []) (vs := []) (cells := [.int .u32 0, .int .i64 0, .bool false, .slice none 0 0, .int .i64 0, .slice none 0 0]) kr_ kr_ rfl rfl) ?_)
 refine a_ rfl rfl (WL.s (Hd.storeAll (n := 6) kr_ rfl rfl (by rfl) one_ fr_ (by rfl) ⟨rfl, ?_⟩))
 refine a_ rfl rfl (nt_ (WC.ret (DN.block_ret (DN.then_ret (DN.retTCT (s := 6) (H) Tryz.results69 kr_ rfl rfl rfl mem_ (by rfl) sp_ ?_)))))
 rotate_left
 refine sr_ (f_ 7 kr_ rfl rfl ?_)
 refine d_ kr_ rfl mem_ (by rfl) rfl ?_
 refine m_ rfl rfl (WL.part (t := 96) rfl (fun hg96 => ?_) (fun hg96 => ?_))
 refine gy_ 96 rfl rfl rfl (Yd.move rfl) (gy_ 96 rfl rfl rfl (Yd.notB rfl) (WL.y rfl (Yd.pickT rfl rfl) (a_ rfl rfl (nt_ (WC.cond rfl (fun h93 => ?_) (fun h93 => ?_))))))
 refine sr_ (WL.y rfl (Yd.buildL (pl := [(0, 1), (1, 1), (2, 1), (3, 1), (4, 1), (5, 1)]) (zs := [.int .u32 0, .int .i64 0, .bool false, .slice none 0 0, .int .i64 0, .slice none 0 0]) (parts := []) (vs := []) (cells := [.int .u32 0, .int .i64 0, .bool false, .slice none 0 0, .int .i64 0, .slice none 0 0]) kr_ kr_ rfl rfl) ?_)
 refine a_ rfl rfl (WL.s (Hd.storeAll (n := 6) kr_ rfl rfl (by rfl) one_ fr_ (by rfl) ⟨rfl, ?_⟩))
 refine a_ rfl rfl (nt_ (WC.ret (DN.block_ret (DN.then_ret (DN.retTCT (s := 6) (H) Tryz.results69 kr_ rfl rfl rfl mem_ (by rfl) sp_ ?_)))))
 rotate_left
 refine sr_ (f_ 7 kr_ rfl rfl ?_)
 refine d_ kr_ rfl mem_ (by rfl) rfl ?_
 refine m_ rfl rfl (WL.part (t := 104) rfl (fun hg104 => ?_) (fun hg104 => ?_))
 refine gy_ 104 rfl rfl rfl (Yd.fieldAddr (k := 4) kr_ rfl) ?_
 refine WL.gh (dj := 104) rfl rfl rfl (Hd.load1 kr_ rfl mem_ (by rfl) ⟨_, rfl, ?_⟩)
 refine gy_ 104 rfl rfl rfl (Yd.eql rfl rfl) (WL.y rfl (Yd.pickT rfl rfl) (a_ rfl rfl (nt_ (WC.ite rfl (fun h101 => ?_) (fun h101 => ?_)))))
 refine sr_ (WL.y rfl (Yd.buildL (pl := [(0, 1), (1, 1), (2, 1), (3, 1), (4, 1), (5, 1)]) (zs := [.int .u32 0, .int .i64 0, .bool false, .slice none 0 0, .int .i64 0, .slice none 0 0]) (parts := []) (vs := []) (cells := [.int .u32 0, .int .i64 0, .bool false, .slice none 0 0, .int .i64 0, .slice none 0 0]) kr_ kr_ rfl rfl) ?_)
 refine a_ rfl rfl (WL.s (Hd.storeAll (n := 6) kr_ rfl rfl (by rfl) one_ fr_ (by rfl) ⟨rfl, ?_⟩))
 refine a_ rfl rfl (nt_ (WC.ret (DN.block_ret (DN.then_ret (DN.retTCT (s := 6) (H) Tryz.results69 kr_ rfl rfl rfl mem_ (by rfl) sp_ ?_)))))
 rotate_left
 refine WC.skip (DN.block_normal (ts_ (WC.region (WL.y rfl (Yd.buildL (pl := [(0, 1), (1, 1), (2, 1), (3, 1), (4, 1), (5, 1)]) (zs := [.int .u32 0, .int .i64 0, .bool false, .slice none 0 0, .int .i64 0, .slice none 0 0]) (parts := []) (vs := []) (cells := [.int .u32 0, .int .i64 0, .bool false, .slice none 0 0, .int .i64 0, .slice none 0 0]) kr_ kr_ rfl rfl) ?_))))
 refine a_ rfl rfl (WL.s (Hd.storeAll (n := 6) kr_ rfl rfl (by rfl) one_ fr_ (by rfl) ⟨rfl, ?_⟩))
 refine a_ rfl rfl (nt_ (WC.ret (DN.retTCT (s := 6) (H) Tryz.results69 kr_ rfl rfl rfl mem_ (by rfl) sp_ ?_)))
 rotate_left
 iterate 3 refine gn_ 104 rfl rfl rfl rfl ?_
 refine WL.y rfl (Yd.pickF rfl rfl) (a_ rfl rfl (nt_ (WC.no rfl (WC.skip (DN.block_normal (ts_ (WC.region (WL.y rfl (Yd.buildL (pl := [(0, 1), (1, 1), (2, 1), (3, 1), (4, 1), (5, 1)]) (zs := [.int .u32 0, .int .i64 0, .bool false, .slice none 0 0, .int .i64 0, .slice none 0 0]) (parts := []) (vs := []) (cells := [.int .u32 0, .int .i64 0, .bool false, .slice none 0 0, .int .i64 0, .slice none 0 0]) kr_ kr_ rfl rfl) ?_))))))))
 refine a_ rfl rfl (WL.s (Hd.storeAll (n := 6) kr_ rfl rfl (by rfl) one_ fr_ (by rfl) ⟨rfl, ?_⟩))
 refine a_ rfl rfl (nt_ (WC.ret (DN.retTCT (s := 6) (H) Tryz.results69 kr_ rfl rfl rfl mem_ (by rfl) sp_ ?_)))
 rotate_left
 refine gn_ 96 rfl rfl rfl rfl (gn_ 96 rfl rfl rfl rfl (WL.y rfl (Yd.pickF rfl rfl) (a_ rfl rfl (nt_ (WC.no rfl (sr_ (f_ 7 kr_ rfl rfl ?_)))))))
 refine d_ kr_ rfl mem_ (by rfl) rfl ?_
 refine m_ rfl rfl (WL.part (t := 104) rfl (fun hg104 => ?_) (fun hg104 => ?_))
 refine gy_ 104 rfl rfl rfl (Yd.fieldAddr (k := 4) kr_ rfl) ?_
 refine WL.gh (dj := 104) rfl rfl rfl (Hd.load1 kr_ rfl mem_ (by rfl) ⟨_, rfl, ?_⟩)
 refine gy_ 104 rfl rfl rfl (Yd.eql rfl rfl) (WL.y rfl (Yd.pickT rfl rfl) (a_ rfl rfl (nt_ (WC.ite rfl (fun h101 => ?_) (fun h101 => ?_)))))
 refine sr_ (WL.y rfl (Yd.buildL (pl := [(0, 1), (1, 1), (2, 1), (3, 1), (4, 1), (5, 1)]) (zs := [.int .u32 0, .int .i64 0, .bool false, .slice none 0 0, .int .i64 0, .slice none 0 0]) (parts := []) (vs := []) (cells := [.int .u32 0, .int .i64 0, .bool false, .slice none 0 0, .int .i64 0, .slice none 0 0]) kr_ kr_ rfl rfl) ?_)
 refine a_ rfl rfl (WL.s (Hd.storeAll (n := 6) kr_ rfl rfl (by rfl) one_ fr_ (by rfl) ⟨rfl, ?_⟩))
 refine a_ rfl rfl (nt_ (WC.ret (DN.block_ret (DN.then_ret (DN.retTCT (s := 6) (H) Tryz.results69 kr_ rfl rfl rfl mem_ (by rfl) sp_ ?_)))))
 rotate_left
 refine WC.skip (DN.block_normal (ts_ (WC.region (WL.y rfl (Yd.buildL (pl := [(0, 1), (1, 1), (2, 1), (3, 1), (4, 1), (5, 1)]) (zs := [.int .u32 0, .int .i64 0, .bool false, .slice none 0 0, .int .i64 0, .slice none 0 0]) (parts := []) (vs := []) (cells := [.int .u32 0, .int .i64 0, .bool false, .slice none 0 0, .int .i64 0, .slice none 0 0]) kr_ kr_ rfl rfl) ?_))))
 refine a_ rfl rfl (WL.s (Hd.storeAll (n := 6) kr_ rfl rfl (by rfl) one_ fr_ (by rfl) ⟨rfl, ?_⟩))
 refine a_ rfl rfl (nt_ (WC.ret (DN.retTCT (s := 6) (H) Tryz.results69 kr_ rfl rfl rfl mem_ (by rfl) sp_ ?_)))
 rotate_left
 iterate 3 refine gn_ 104 rfl rfl rfl rfl ?_
 refine WL.y rfl (Yd.pickF rfl rfl) (a_ rfl rfl (nt_ (WC.no rfl (WC.skip (DN.block_normal (ts_ (WC.region (WL.y rfl (Yd.buildL (pl := [(0, 1), (1, 1), (2, 1), (3, 1), (4, 1), (5, 1)]) (zs := [.int .u32 0, .int .i64 0, .bool false, .slice none 0 0, .int .i64 0, .slice none 0 0]) (parts := []) (vs := []) (cells := [.int .u32 0, .int .i64 0, .bool false, .slice none 0 0, .int .i64 0, .slice none 0 0]) kr_ kr_ rfl rfl) ?_))))))))
 refine a_ rfl rfl (WL.s (Hd.storeAll (n := 6) kr_ rfl rfl (by rfl) one_ fr_ (by rfl) ⟨rfl, ?_⟩))
 refine a_ rfl rfl (nt_ (WC.ret (DN.retTCT (s := 6) (H) Tryz.results69 kr_ rfl rfl rfl mem_ (by rfl) sp_ ?_)))
 rotate_left
 refine gn_ 89 rfl rfl rfl rfl (WL.y rfl (Yd.pickF rfl rfl) (a_ rfl rfl (nt_ (WC.no rfl (sr_ (f_ 7 kr_ rfl rfl ?_))))))
 refine d_ kr_ rfl mem_ (by rfl) rfl ?_
 refine m_ rfl rfl (WL.part (t := 96) rfl (fun hg96 => ?_) (fun hg96 => ?_))
 refine gy_ 96 rfl rfl rfl (Yd.move rfl) (gy_ 96 rfl rfl rfl (Yd.notB rfl) (WL.y rfl (Yd.pickT rfl rfl) (a_ rfl rfl (nt_ (WC.cond rfl (fun h93 => ?_) (fun h93 => ?_))))))
 refine sr_ (WL.y rfl (Yd.buildL (pl := [(0, 1), (1, 1), (2, 1), (3, 1), (4, 1), (5, 1)]) (zs := [.int .u32 0, .int .i64 0, .bool false, .slice none 0 0, .int .i64 0, .slice none 0 0]) (parts := []) (vs := []) (cells := [.int .u32 0, .int .i64 0, .bool false, .slice none 0 0, .int .i64 0, .slice none 0 0]) kr_ kr_ rfl rfl) ?_)
 refine a_ rfl rfl (WL.s (Hd.storeAll (n := 6) kr_ rfl rfl (by rfl) one_ fr_ (by rfl) ⟨rfl, ?_⟩))
 refine a_ rfl rfl (nt_ (WC.ret (DN.block_ret (DN.then_ret (DN.retTCT (s := 6) (H) Tryz.results69 kr_ rfl rfl rfl mem_ (by rfl) sp_ ?_)))))
 rotate_left
 refine sr_ (f_ 7 kr_ rfl rfl ?_)
 refine d_ kr_ rfl mem_ (by rfl) rfl ?_
 refine m_ rfl rfl (WL.part (t := 104) rfl (fun hg104 => ?_) (fun hg104 => ?_))
 refine gy_ 104 rfl rfl rfl (Yd.fieldAddr (k := 4) kr_ rfl) ?_
 refine WL.gh (dj := 104) rfl rfl rfl (Hd.load1 kr_ rfl mem_ (by rfl) ⟨_, rfl, ?_⟩)
 refine gy_ 104 rfl rfl rfl (Yd.eql rfl rfl) (WL.y rfl (Yd.pickT rfl rfl) (a_ rfl rfl (nt_ (WC.ite rfl (fun h101 => ?_) (fun h101 => ?_)))))
 refine sr_ (WL.y rfl (Yd.buildL (pl := [(0, 1), (1, 1), (2, 1), (3, 1), (4, 1), (5, 1)]) (zs := [.int .u32 0, .int .i64 0, .bool false, .slice none 0 0, .int .i64 0, .slice none 0 0]) (parts := []) (vs := []) (cells := [.int .u32 0, .int .i64 0, .bool false, .slice none 0 0, .int .i64 0, .slice none 0 0]) kr_ kr_ rfl rfl) ?_)
 refine a_ rfl rfl (WL.s (Hd.storeAll (n := 6) kr_ rfl rfl (by rfl) one_ fr_ (by rfl) ⟨rfl, ?_⟩))
 refine a_ rfl rfl (nt_ (WC.ret (DN.block_ret (DN.then_ret (DN.retTCT (s := 6) (H) Tryz.results69 kr_ rfl rfl rfl mem_ (by rfl) sp_ ?_)))))
 rotate_left
 refine WC.skip (DN.block_normal (ts_ (WC.region (WL.y rfl (Yd.buildL (pl := [(0, 1), (1, 1), (2, 1), (3, 1), (4, 1), (5, 1)]) (zs := [.int .u32 0, .int .i64 0, .bool false, .slice none 0 0, .int .i64 0, .slice none 0 0]) (parts := []) (vs := []) (cells := [.int .u32 0, .int .i64 0, .bool false, .slice none 0 0, .int .i64 0, .slice none 0 0]) kr_ kr_ rfl rfl) ?_))))
 refine a_ rfl rfl (WL.s (Hd.storeAll (n := 6) kr_ rfl rfl (by rfl) one_ fr_ (by rfl) ⟨rfl, ?_⟩))
 refine a_ rfl rfl (nt_ (WC.ret (DN.retTCT (s := 6) (H) Tryz.results69 kr_ rfl rfl rfl mem_ (by rfl) sp_ ?_)))
 rotate_left
 iterate 3 refine gn_ 104 rfl rfl rfl rfl ?_
 refine WL.y rfl (Yd.pickF rfl rfl) (a_ rfl rfl (nt_ (WC.no rfl (WC.skip (DN.block_normal (ts_ (WC.region (WL.y rfl (Yd.buildL (pl := [(0, 1), (1, 1), (2, 1), (3, 1), (4, 1), (5, 1)]) (zs := [.int .u32 0, .int .i64 0, .bool false, .slice none 0 0, .int .i64 0, .slice none 0 0]) (parts := []) (vs := []) (cells := [.int .u32 0, .int .i64 0, .bool false, .slice none 0 0, .int .i64 0, .slice none 0 0]) kr_ kr_ rfl rfl) ?_))))))))
 refine a_ rfl rfl (WL.s (Hd.storeAll (n := 6) kr_ rfl rfl (by rfl) one_ fr_ (by rfl) ⟨rfl, ?_⟩))
 refine a_ rfl rfl (nt_ (WC.ret (DN.retTCT (s := 6) (H) Tryz.results69 kr_ rfl rfl rfl mem_ (by rfl) sp_ ?_)))
 rotate_left
 refine gn_ 96 rfl rfl rfl rfl (gn_ 96 rfl rfl rfl rfl (WL.y rfl (Yd.pickF rfl rfl) (a_ rfl rfl (nt_ (WC.no rfl (sr_ (f_ 7 kr_ rfl rfl ?_)))))))
 refine d_ kr_ rfl mem_ (by rfl) rfl ?_
 refine m_ rfl rfl (WL.part (t := 104) rfl (fun hg104 => ?_) (fun hg104 => ?_))
 refine gy_ 104 rfl rfl rfl (Yd.fieldAddr (k := 4) kr_ rfl) ?_
 refine WL.gh (dj := 104) rfl rfl rfl (Hd.load1 kr_ rfl mem_ (by rfl) ⟨_, rfl, ?_⟩)
 refine gy_ 104 rfl rfl rfl (Yd.eql rfl rfl) (WL.y rfl (Yd.pickT rfl rfl) (a_ rfl rfl (nt_ (WC.ite rfl (fun h101 => ?_) (fun h101 => ?_)))))
 refine sr_ (WL.y rfl (Yd.buildL (pl := [(0, 1), (1, 1), (2, 1), (3, 1), (4, 1), (5, 1)]) (zs := [.int .u32 0, .int .i64 0, .bool false, .slice none 0 0, .int .i64 0, .slice none 0 0]) (parts := []) (vs := []) (cells := [.int .u32 0, .int .i64 0, .bool false, .slice none 0 0, .int .i64 0, .slice none 0 0]) kr_ kr_ rfl rfl) ?_)
 refine a_ rfl rfl (WL.s (Hd.storeAll (n := 6) kr_ rfl rfl (by rfl) one_ fr_ (by rfl) ⟨rfl, ?_⟩))
 refine a_ rfl rfl (nt_ (WC.ret (DN.block_ret (DN.then_ret (DN.retTCT (s := 6) (H) Tryz.results69 kr_ rfl rfl rfl mem_ (by rfl) sp_ ?_)))))
 rotate_left
 refine WC.skip (DN.block_normal (ts_ (WC.region (WL.y rfl (Yd.buildL (pl := [(0, 1), (1, 1), (2, 1), (3, 1), (4, 1), (5, 1)]) (zs := [.int .u32 0, .int .i64 0, .bool false, .slice none 0 0, .int .i64 0, .slice none 0 0]) (parts := []) (vs := []) (cells := [.int .u32 0, .int .i64 0, .bool false, .slice none 0 0, .int .i64 0, .slice none 0 0]) kr_ kr_ rfl rfl) ?_))))
 refine a_ rfl rfl (WL.s (Hd.storeAll (n := 6) kr_ rfl rfl (by rfl) one_ fr_ (by rfl) ⟨rfl, ?_⟩))
 refine a_ rfl rfl (nt_ (WC.ret (DN.retTCT (s := 6) (H) Tryz.results69 kr_ rfl rfl rfl mem_ (by rfl) sp_ ?_)))
 rotate_left
 iterate 3 refine gn_ 104 rfl rfl rfl rfl ?_
 refine WL.y rfl (Yd.pickF rfl rfl) (a_ rfl rfl (nt_ (WC.no rfl (WC.skip (DN.block_normal (ts_ (WC.region (WL.y rfl (Yd.buildL (pl := [(0, 1), (1, 1), (2, 1), (3, 1), (4, 1), (5, 1)]) (zs := [.int .u32 0, .int .i64 0, .bool false, .slice none 0 0, .int .i64 0, .slice none 0 0]) (parts := []) (vs := []) (cells := [.int .u32 0, .int .i64 0, .bool false, .slice none 0 0, .int .i64 0, .slice none 0 0]) kr_ kr_ rfl rfl) ?_))))))))
 refine a_ rfl rfl (WL.s (Hd.storeAll (n := 6) kr_ rfl rfl (by rfl) one_ fr_ (by rfl) ⟨rfl, ?_⟩))
 refine a_ rfl rfl (nt_ (WC.ret (DN.retTCT (s := 6) (H) Tryz.results69 kr_ rfl rfl rfl mem_ (by rfl) sp_ ?_)))
 rotate_left
 all_goals
  first
  | (rw [askK_arg hbad]; exact ⟨_, _, rfl, Bs_nil _, Bs_nil _, rfl⟩)
  | (rw [askK_old hgood (by omega)]; exact ⟨_, _, rfl, Bs_nil _, Bs_nil _, rfl⟩)
  | exact absurd (hg72.symm.trans h82) (by decide)
  | exact absurd (hg96.symm.trans hg104) (by decide)
  | (obtain ⟨k1, rfl⟩ := Option.isSome_iff_exists.1 hg72
     first
     | (rw [askK_clash hgood (by omega) hfk.symm (fun h => h70 (congrArg str h))]; exact ⟨_, _, rfl, Bs_nil _, Bs_nil _, rfl⟩)
     | (rw [askK_again hgood (by omega) hfk.symm (Classical.byContradiction fun h => h70 fun h9 => h (str_inj.1 h9))]; exact ⟨_, _, rfl, hA, hB, rfl⟩))
  | (obtain rfl : fk = none := by simpa using hg72
     have e9 := askK_two (e := e) hgood (by omega) hfk.symm hgk
     first
     | (rw [if_pos ⟨by simpa using hg89, h85⟩] at e9; rw [e9]; exact ⟨_, _, rfl, Bs_nil _, Bs_nil _, rfl⟩)
     | (have h9 : ¬ (n.undo = false ∧ gk.isSome = true) := by
          rintro ⟨h1, h2⟩
          first
          | (rw [h2] at h85; cases h85; done)
          | (rw [h1] at hg89; cases hg89; done)
        rw [if_neg h9] at e9
        first
        | (rw [if_pos ⟨hg96, .inl (by simpa using h93)⟩] at e9; rw [e9]; exact ⟨_, _, rfl, Bs_nil _, Bs_nil _, rfl⟩)
        | (rw [if_pos ⟨hg104, .inr h101⟩] at e9; rw [e9]; exact ⟨_, _, rfl, Bs_nil _, Bs_nil _, rfl⟩)
        | (rw [if_neg (by
            rintro ⟨h1, h2⟩
            first
            | (rw [h1] at hg96; cases hg96; done)
            | (rw [h1] at hg104; cases hg104; done)
            | (rcases h2 with h2 | h2
               · rw [h2] at h93; cases h93
               exact h101 h2))] at e9; rw [e9]; exact ⟨_, _, rfl, Bs_nil _, Bs_nil _, rfl⟩)))
end Go.Proofs.YtkamlondepceiaaGreat
