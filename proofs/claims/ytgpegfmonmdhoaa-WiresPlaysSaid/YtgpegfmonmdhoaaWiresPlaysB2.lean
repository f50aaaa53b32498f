/-
  Lemmas and walks that WiresPlays stands on (part 2); no condition.
-/
import Derived.Orders
import Derived.Tactics
import Derived.Scope
import Derived.Below
import Derived.WalkKit
import Derived.KernelRfl
import Derived.Laws.RangeString
import Derived.Laws.StructEq
import Derived.Lib.AppendZerosOnto
import Derived.Laws.CopyRow
import Derived.Lib.Overlaps
import Derived.Laws.IdiomStrings
import Derived.Deep.Quiet
import Derived.ProofKit
import Derived.OpenShut
import Derived.ShutString
import Derived.ChangeOld
import Derived.Lib.Bytealg
import Derived.Shelf.SlSortCmp.NoneTotal
import Derived.Test.YtgpegfmonmdhoaaRows
import Derived.Test.YtgpegfmonmdhoaaWiresPlaysB1

set_option linter.unusedVariables false
set_option linter.unusedSimpArgs false
set_option maxHeartbeats 4000000
namespace Go.Proofs.Ytgpegfmonmdhoaa
open Go.SL
theorem part_ret {l m : List Value} {p q : Bool} (h1 : l = m) (h : p = q) : Value.tuple #[.agg l.toArray, .bool p] = .tuple #[.agg m.toArray, .bool q] := by rw [h1, h]
theorem rnames_reads (k : Int) (H : List Ck) : Reads Try.prog 53 [.int .i64 k] H (.string (nmS k)) := by
 refine Tells.enter Try.func53 rfl Try.ntmps53 rfl ?_
 intro w0 R
 refine sr_ ?_
 refine a_ rfl rfl ?_
 refine ntsr_ ?_
 refine WL.h rfl (Hd.buildSlice (e := 9) (sz := 1) (zs := [.string ⟨#[]⟩]) (parts := [(0, .const (.string ⟨#[]⟩)), (1, .const (.string ⟨#[69, 80, 76, 68]⟩)), (2, .const (.string ⟨#[69, 76]⟩)), (3, .const (.string ⟨#[69, 76]⟩)), (4, .const (.string ⟨#[69, 67]⟩)), (5, .const (.string ⟨#[69, 84, 67]⟩)), (6, .const (.string ⟨#[69, 67]⟩)), (7, .const (.string ⟨#[69, 79, 83, 85, 68]⟩)), (8, .const (.string ⟨#[69, 79, 83, 85, 67, 68]⟩)), (9, .const (.string ⟨#[69, 79, 83, 85]⟩)), (10, .const (.string ⟨#[75, 68]⟩)), (11, .const (.string ⟨#[75]⟩)), (12, .const (.string ⟨#[75]⟩)), (13, .const (.string ⟨#[79, 67, 75, 68]⟩))]) (vs := [(0, .string ⟨#[]⟩), (1, .string ⟨#[69, 80, 76, 68]⟩), (2, .string ⟨#[69, 76]⟩), (3, .string ⟨#[69, 76]⟩), (4, .string ⟨#[69, 67]⟩), (5, .string ⟨#[69, 84, 67]⟩), (6, .string ⟨#[69, 67]⟩), (7, .string ⟨#[69, 79, 83, 85, 68]⟩), (8, .string ⟨#[69, 79, 83, 85, 67, 68]⟩), (9, .string ⟨#[69, 79, 83, 85]⟩), (10, .string ⟨#[75, 68]⟩), (11, .string ⟨#[75]⟩), (12, .string ⟨#[75]⟩), (13, .string ⟨#[79, 67, 75, 68]⟩)]) (cells := [.string ⟨#[]⟩, .string ⟨#[69, 80, 76, 68]⟩, .string ⟨#[69, 76]⟩, .string ⟨#[69, 76]⟩, .string ⟨#[69, 67]⟩, .string ⟨#[69, 84, 67]⟩, .string ⟨#[69, 67]⟩, .string ⟨#[69, 79, 83, 85, 68]⟩, .string ⟨#[69, 79, 83, 85, 67, 68]⟩, .string ⟨#[69, 79, 83, 85]⟩, .string ⟨#[75, 68]⟩, .string ⟨#[75]⟩, .string ⟨#[75]⟩, .string ⟨#[79, 67, 75, 68]⟩]) kr_ kr_ kr_ rfl kr_ kr_ fun b4 => ⟨_, rfl, ?_⟩)
 refine a_ rfl rfl ?_
 refine nt_ ?_
 refine WC.seq ?_
 refine sr_ ?_
 refine m_ rfl rfl ?_
 refine WL.y rfl (Yd.lss rfl rfl) ?_
 refine m_ rfl rfl ?_
 refine WL.partP (t := 7) rfl (fun hg7 => ?_) (fun hg7 => ?_)
 ·refine gn_ 7 rfl rfl rfl rfl ?_
  refine gn_ 7 rfl rfl rfl rfl ?_
  refine WL.y rfl (Yd.pickT rfl rfl) ?_
  refine nt_ ?_
  refine WC.yes rfl ?_
  refine sr_ ?_
  refine a_ rfl rfl ?_
  refine nt_ ?_
  refine WC.ret ?_
  refine DN.then_ret ?_
  refine DN.fit (C := H) sp_ ?_
  refine DN.ret1 Try.results53 rfl ?_
  first
  | exact ⟨rfl, rfl⟩
  | exact ⟨congrArg Value.string (names_no (by first | omega | (simp only [decide_eq_true_eq] at *; omega))).symm, rfl⟩
 ·refine gy_ 7 rfl rfl rfl (Yd.move rfl) ?_
  refine gy_ 7 rfl rfl rfl (Yd.gtr rfl rfl) ?_
  refine WL.y rfl (Yd.pickF rfl rfl) ?_
  refine nt_ ?_
  refine WC.ite rfl (fun h10 => ?_) (fun h10 => ?_)
  ·refine sr_ ?_
   refine a_ rfl rfl ?_
   refine nt_ ?_
   refine WC.ret ?_
   refine DN.then_ret ?_
   refine DN.fit (C := H) sp_ ?_
   refine DN.ret1 Try.results53 rfl ?_
   first
   | exact ⟨rfl, rfl⟩
   | exact ⟨congrArg Value.string (names_no (by first | omega | (simp only [decide_eq_true_eq] at *; omega))).symm, rfl⟩
  ·refine WC.skip ?_
   refine ts_ ?_
   refine WC.region ?_
   have h0 : 1 ≤ k := by omega
   have h1 : k ≤ 13 := by omega
   refine m_ rfl rfl ?_
   refine m_ rfl rfl ?_
   refine WL.elem (e := 9) kr_ kr_ kr_ rfl rfl (by omega) (.inr ⟨b4, 0, 14, [.string ⟨#[]⟩, .string ⟨#[69, 80, 76, 68]⟩, .string ⟨#[69, 76]⟩, .string ⟨#[69, 76]⟩, .string ⟨#[69, 67]⟩, .string ⟨#[69, 84, 67]⟩, .string ⟨#[69, 67]⟩, .string ⟨#[69, 79, 83, 85, 68]⟩, .string ⟨#[69, 79, 83, 85, 67, 68]⟩, .string ⟨#[69, 79, 83, 85]⟩, .string ⟨#[75, 68]⟩, .string ⟨#[75]⟩, .string ⟨#[75]⟩, .string ⟨#[79, 67, 75, 68]⟩], 9, (0, 0), true, rfl, Nat.le_refl _, mem_, rfl⟩) (names_cell h0 h1) (by omega) rfl rfl ?_
   intro _
   refine a_ rfl rfl ?_
   refine nt_ ?_
   refine WC.ret ?_
   refine DN.fit (C := H) sp_ ?_
   refine DN.ret1 Try.results53 rfl ?_
   first
   | exact ⟨rfl, rfl⟩
   | exact ⟨congrArg Value.string (names_no (by first | omega | (simp only [decide_eq_true_eq] at *; omega))).symm, rfl⟩
theorem rhas_reads (k : Int) (b : BitVec 8) (H : List Ck) : Reads Try.prog 55 [.int .i64 k, .int .u8 b.toNat] H (.bool (decide (b ∈ nb k))) := by
 refine Tells.enter Try.func55 rfl Try.ntmps55 rfl ?_
 intro w0 R
 have hsz : (str (nb k)).size = (nb k).length := by simp [str, ByteArray.size]
 have hnl : (nb k).length ≤ 6 := nb_len k
 refine sr_ ?_
 refine a_ rfl rfl ?_
 refine ntsr_ ?_
 refine m_ rfl rfl ?_
 refine WL.r rfl (Ent.func Try.call53 rfl) (rnames_reads k _) ?_
 refine WL.renamed (t := 8) (v := .string (str (nb k))) rfl (congrArg Value.string (nmS_str k)) ?_
 refine a_ rfl rfl ?_
 refine nt_ ?_
 refine WC.seq ?_
 refine sr_ ?_
 refine a_ rfl rfl ?_
 refine nt_ ?_
 refine WC.block ?_
 refine WC.loopS (fun z : Nat => z ≤ (nb k).length ∧ b ∉ (nb k).take z) (fun z : Nat => [(6, .int .i64 (z : Int))]) (fun z : Nat => H) (fun z : Nat => (nb k).length - z) (0) (show 0 ≤ (nb k).length ∧ b ∉ (nb k).take 0 from ⟨Nat.zero_le _, by simp⟩) (Sx.put rfl (sx_)) sp_ ?_
 rintro i hI
 replace hI : i ≤ (nb k).length ∧ b ∉ (nb k).take i := hI
 obtain ⟨hi, hno⟩ := hI
 change WC _ _ _ _ _ _ ([(6, .int .i64 (i : Int))] ++ _) (H)
 refine WC.seq ?_
 refine sr_ ?_
 refine m_ rfl rfl ?_
 refine m_ rfl rfl ?_
 refine WL.y rfl (Yd.lenS Try.underlying9 rfl) ?_
 refine WL.y rfl (Yd.lss rfl rfl) ?_
 refine nt_ ?_
 refine WC.ite rfl (fun h12 => ?_) (fun h12 => ?_)
 ·have hlt : i < (nb k).length := by omega
  refine WC.skip ?_
  refine ts_ ?_
  refine WC.block ?_
  refine sr_ ?_
  refine m_ rfl rfl ?_
  refine m_ rfl rfl ?_
  refine WL.y rfl (Yd.indexS (i := i) (b := (nb k)[i]) Try.underlying9 rfl rfl rfl (str_get hlt)) ?_
  refine m_ rfl rfl ?_
  refine WL.y rfl (Yd.eql8 _ _ rfl rfl rfl rfl) ?_
  refine nt_ ?_
  refine WC.ite rfl (fun h19 => ?_) (fun h19 => ?_)
  ·refine sr_ ?_
   refine a_ rfl rfl ?_
   refine nt_ ?_
   refine WC.ret ?_
   refine DN.block_ret ?_
   refine DN.then_ret ?_
   refine DN.then_ret ?_
   refine DN.block_ret ?_
   refine DN.then_ret ?_
   refine DN.ret1 Try.results55 rfl ?_
   first
   | (rw [decide_eq_false hno]; exact ⟨rfl, rfl⟩)
   | (rw [decide_eq_true (show b ∈ nb k by rw [← h19]; exact List.getElem_mem hlt)]; exact ⟨rfl, rfl⟩)
  ·refine WC.skip ?_
   refine DN.block_normal ?_
   refine DN.then_normal ?_
   refine WC.region ?_
   refine m_ rfl rfl ?_
   refine WL.y rfl (Yd.add rfl rfl (by omega) (by omega)) ?_
   refine a_ rfl rfl ?_
   refine WL.nil ?_
   exact DN.againS (i + 1) (show (i + 1) ≤ (nb k).length ∧ b ∉ (nb k).take (i + 1) from ⟨by omega, by rw [List.take_succ_eq_append_getElem hlt]; intro h; rcases List.mem_append.1 h with h | h; exact hno h; exact h19 (List.mem_singleton.1 h).symm⟩) (show (nb k).length - (i + 1) < (nb k).length - i by omega) (Sx.put rfl (sx_)) sp_
 ·obtain rfl : i = (nb k).length := by omega
  rw [List.take_length] at hno
  refine WC.exit ?_
  refine DN.then_exit ?_
  refine DN.then_exit ?_
  refine DN.block_exit ?_
  refine ts_ ?_
  refine WC.region ?_
  refine a_ rfl rfl ?_
  refine nt_ ?_
  refine WC.ret ?_
  refine DN.ret1 Try.results55 rfl ?_
  first
  | (rw [decide_eq_false hno]; exact ⟨rfl, rfl⟩)
  | (rw [decide_eq_true (show b ∈ nb k by rw [← h19]; exact List.getElem_mem hlt)]; exact ⟨rfl, rfl⟩)
theorem rpart_reads (n : Nt) (vk vd : Value) (hk : IsSl vk n.key.length) (hd : IsSl vd n.data.length) (b : BitVec 8) (H : List Ck) : Reads Try.prog 54 [.agg (ntc n vk vd).toArray, .int .u8 b.toNat] H (.tuple #[.agg (partV n vk vd b).toArray, .bool (zeroN n b)]) := by
 refine Tells.enter Try.func54 rfl Try.ntmps54 rfl ?_
 intro w0 R
 obtain ⟨ko, kc, rfl⟩ := hk
 obtain ⟨do_, dc, rfl⟩ := hd
 refine sr_ ?_
 refine WL.h rfl (Hd.boxA rfl fun b2 => ⟨_, rfl, ?_⟩)
 refine WL.h rfl (Hd.alloc (zs := [.int .i64 0, .int .u64 0, .slice none 0 0]) kr_ fun b4 => ⟨_, rfl, ?_⟩)
 refine a_ rfl rfl ?_
 refine nt_ ?_
 refine WC.seq ?_
 refine sr_ ?_
 refine m_ rfl rfl ?_
 refine nt_ ?_
 refine WC.block ?_
 refine sr_ ?_
 refine WL.y rfl (Yd.eql8 _ (69#8) rfl rfl rfl rfl) ?_
 refine a_ rfl rfl ?_
 refine nt_ ?_
 refine WC.ite rfl (fun h7 => ?_) (fun h7 => ?_)
 ·refine WC.seq ?_
  refine WC.draw 9 kr_ rfl ?_
  refine WA.y (i := 0) (NoPanic.then (NoPanic.block (NoPanic.then (NoPanic.body)))) rfl kr_ kr_ kr_ rfl (Yd.fieldAddr (k := 1) kr_ rfl) ?_
  refine WA.y (i := 4) (NoPanic.then (NoPanic.block (NoPanic.then (NoPanic.body)))) rfl kr_ kr_ kr_ rfl (Yd.fieldAddr (k := 1) kr_ rfl) ?_
  refine WA.two (i := 1) (j := 5) kr_ ?_ ?_
  ·refine WO.h rfl Wt.none rfl (Hd.load1 kr_ rfl mem_ (by rfl) ⟨_, rfl, ?_⟩)
   refine WA.y (i := 2) (NoPanic.then (NoPanic.block (NoPanic.then (NoPanic.body)))) rfl kr_ kr_ kr_ rfl (Yd.conv32_64 _ kr_ kr_ rfl rfl) ?_
   refine WA.y (i := 3) (NoPanic.then (NoPanic.block (NoPanic.then (NoPanic.body)))) rfl kr_ kr_ kr_ rfl (Yd.buildL (pl := [(0, 1), (1, 1), (2, 1)]) (zs := [.int .i64 0, .int .u64 0, .slice none 0 0]) (parts := [(0, .const (.int .i64 4)), (1, .tmp 11)]) (vs := [(0, _), (1, _)]) (cells := [_, _, .slice none 0 0]) kr_ kr_ rfl rfl) ?_
   refine WA.two (i := 5) (j := 7) kr_ ?_ ?_
   ·refine WO.h rfl Wt.none rfl (Hd.load1 kr_ rfl mem_ (by rfl) ⟨_, rfl, ?_⟩)
    refine WA.y (i := 6) (NoPanic.then (NoPanic.block (NoPanic.then (NoPanic.body)))) rfl kr_ kr_ kr_ rfl (Yd.eql32 _ (0#32) rfl rfl rfl rfl) ?_
    refine WA.one (i := 7) kr_ ?_
    refine WO.s rfl Wt.none (Hd.storeAll (n := 3) kr_ rfl rfl (by rfl) one_ fr_ (by rfl) ⟨rfl, ?_⟩)
    refine WA.y (i := 8) (NoPanic.then (NoPanic.block (NoPanic.then (NoPanic.body)))) rfl kr_ kr_ kr_ rfl (Yd.assign rfl) ?_
    refine WA.done kr_ ?_
    refine DN.then_normal ?_
    refine WC.ret ?_
    refine DN.block_ret ?_
    refine DN.then_ret ?_
    refine DN.retCT (s := 3) H Try.results54 kr_ rfl rfl mem_ (by rfl) sp_ ?_
    exact ⟨part_ret (by simp [partV, *]) (by simp [zeroN, *]), rfl⟩
   ·refine WO.s rfl Wt.none (Hd.storeAll (n := 3) kr_ rfl rfl (by rfl) one_ fr_ (by rfl) ⟨rfl, ?_⟩)
    refine WA.one (i := 5) kr_ ?_
    refine WO.h rfl Wt.none rfl (Hd.load1 kr_ rfl mem_ (by rfl) ⟨_, rfl, ?_⟩)
    refine WA.y (i := 6) (NoPanic.then (NoPanic.block (NoPanic.then (NoPanic.body)))) rfl kr_ kr_ kr_ rfl (Yd.eql32 _ (0#32) rfl rfl rfl rfl) ?_
    refine WA.y (i := 8) (NoPanic.then (NoPanic.block (NoPanic.then (NoPanic.body)))) rfl kr_ kr_ kr_ rfl (Yd.assign rfl) ?_
    refine WA.done kr_ ?_
    refine DN.then_normal ?_
    refine WC.ret ?_
    refine DN.block_ret ?_
    refine DN.then_ret ?_
    refine DN.retCT (s := 3) H Try.results54 kr_ rfl rfl mem_ (by rfl) sp_ ?_
    exact ⟨part_ret (by simp [partV, *]) (by simp [zeroN, *]), rfl⟩
  ·refine WO.h rfl Wt.none rfl (Hd.load1 kr_ rfl mem_ (by rfl) ⟨_, rfl, ?_⟩)
   refine WA.y (i := 6) (NoPanic.then (NoPanic.block (NoPanic.then (NoPanic.body)))) rfl kr_ kr_ kr_ rfl (Yd.eql32 _ (0#32) rfl rfl rfl rfl) ?_
   refine WA.one (i := 1) kr_ ?_
   refine WO.h rfl Wt.none rfl (Hd.load1 kr_ rfl mem_ (by rfl) ⟨_, rfl, ?_⟩)
   refine WA.y (i := 2) (NoPanic.then (NoPanic.block (NoPanic.then (NoPanic.body)))) rfl kr_ kr_ kr_ rfl (Yd.conv32_64 _ kr_ kr_ rfl rfl) ?_
   refine WA.y (i := 3) (NoPanic.then (NoPanic.block (NoPanic.then (NoPanic.body)))) rfl kr_ kr_ kr_ rfl (Yd.buildL (pl := [(0, 1), (1, 1), (2, 1)]) (zs := [.int .i64 0, .int .u64 0, .slice none 0 0]) (parts := [(0, .const (.int .i64 4)), (1, .tmp 11)]) (vs := [(0, _), (1, _)]) (cells := [_, _, .slice none 0 0]) kr_ kr_ rfl rfl) ?_
   refine WA.one (i := 7) kr_ ?_
   refine WO.s rfl Wt.none (Hd.storeAll (n := 3) kr_ rfl rfl (by rfl) one_ fr_ (by rfl) ⟨rfl, ?_⟩)
   refine WA.y (i := 8) (NoPanic.then (NoPanic.block (NoPanic.then (NoPanic.body)))) rfl kr_ kr_ kr_ rfl (Yd.assign rfl) ?_
   refine WA.done kr_ ?_
   refine DN.then_normal ?_
   refine WC.ret ?_
   refine DN.block_ret ?_
   refine DN.then_ret ?_
   refine DN.retCT (s := 3) H Try.results54 kr_ rfl rfl mem_ (by rfl) sp_ ?_
   exact ⟨part_ret (by simp [partV, *]) (by simp [zeroN, *]), rfl⟩
 ·refine sr_ ?_
  refine WL.y rfl (Yd.eql8 _ (80#8) rfl rfl rfl rfl) ?_
  refine a_ rfl rfl ?_
  refine nt_ ?_
  refine WC.ite rfl (fun h16 => ?_) (fun h16 => ?_)
  ·refine WC.seq ?_
   refine WC.draw 9 kr_ rfl ?_
   refine WA.y (i := 0) (NoPanic.then (NoPanic.block (NoPanic.then (NoPanic.body)))) rfl kr_ kr_ kr_ rfl (Yd.fieldAddr (k := 2) kr_ rfl) ?_
   refine WA.y (i := 4) (NoPanic.then (NoPanic.block (NoPanic.then (NoPanic.body)))) rfl kr_ kr_ kr_ rfl (Yd.fieldAddr (k := 2) kr_ rfl) ?_
   refine WA.two (i := 1) (j := 5) kr_ ?_ ?_
   ·refine WO.h rfl Wt.none rfl (Hd.load1 kr_ rfl mem_ (by rfl) ⟨_, rfl, ?_⟩)
    refine WA.y (i := 2) (NoPanic.then (NoPanic.block (NoPanic.then (NoPanic.body)))) rfl kr_ kr_ kr_ rfl (Yd.conv32_64 _ kr_ kr_ rfl rfl) ?_
    refine WA.y (i := 3) (NoPanic.then (NoPanic.block (NoPanic.then (NoPanic.body)))) rfl kr_ kr_ kr_ rfl (Yd.buildL (pl := [(0, 1), (1, 1), (2, 1)]) (zs := [.int .i64 0, .int .u64 0, .slice none 0 0]) (parts := [(0, .const (.int .i64 4)), (1, .tmp 20)]) (vs := [(0, _), (1, _)]) (cells := [_, _, .slice none 0 0]) kr_ kr_ rfl rfl) ?_
    refine WA.two (i := 5) (j := 7) kr_ ?_ ?_
    ·refine WO.h rfl Wt.none rfl (Hd.load1 kr_ rfl mem_ (by rfl) ⟨_, rfl, ?_⟩)
     refine WA.y (i := 6) (NoPanic.then (NoPanic.block (NoPanic.then (NoPanic.body)))) rfl kr_ kr_ kr_ rfl (Yd.eql32 _ (0#32) rfl rfl rfl rfl) ?_
     refine WA.one (i := 7) kr_ ?_
     refine WO.s rfl Wt.none (Hd.storeAll (n := 3) kr_ rfl rfl (by rfl) one_ fr_ (by rfl) ⟨rfl, ?_⟩)
     refine WA.y (i := 8) (NoPanic.then (NoPanic.block (NoPanic.then (NoPanic.body)))) rfl kr_ kr_ kr_ rfl (Yd.assign rfl) ?_
     refine WA.done kr_ ?_
     refine DN.then_normal ?_
     refine WC.ret ?_
     refine DN.block_ret ?_
     refine DN.then_ret ?_
     refine DN.retCT (s := 3) H Try.results54 kr_ rfl rfl mem_ (by rfl) sp_ ?_
     exact ⟨part_ret (by simp [partV, *]) (by simp [zeroN, *]), rfl⟩
    ·refine WO.s rfl Wt.none (Hd.storeAll (n := 3) kr_ rfl rfl (by rfl) one_ fr_ (by rfl) ⟨rfl, ?_⟩)
     refine WA.one (i := 5) kr_ ?_
     refine WO.h rfl Wt.none rfl (Hd.load1 kr_ rfl mem_ (by rfl) ⟨_, rfl, ?_⟩)
     refine WA.y (i := 6) (NoPanic.then (NoPanic.block (NoPanic.then (NoPanic.body)))) rfl kr_ kr_ kr_ rfl (Yd.eql32 _ (0#32) rfl rfl rfl rfl) ?_
     refine WA.y (i := 8) (NoPanic.then (NoPanic.block (NoPanic.then (NoPanic.body)))) rfl kr_ kr_ kr_ rfl (Yd.assign rfl) ?_
     refine WA.done kr_ ?_
     refine DN.then_normal ?_
     refine WC.ret ?_
     refine DN.block_ret ?_
     refine DN.then_ret ?_
     refine DN.retCT (s := 3) H Try.results54 kr_ rfl rfl mem_ (by rfl) sp_ ?_
     exact ⟨part_ret (by simp [partV, *]) (by simp [zeroN, *]), rfl⟩
   ·refine WO.h rfl Wt.none rfl (Hd.load1 kr_ rfl mem_ (by rfl) ⟨_, rfl, ?_⟩)
    refine WA.y (i := 6) (NoPanic.then (NoPanic.block (NoPanic.then (NoPanic.body)))) rfl kr_ kr_ kr_ rfl (Yd.eql32 _ (0#32) rfl rfl rfl rfl) ?_
    refine WA.one (i := 1) kr_ ?_
    refine WO.h rfl Wt.none rfl (Hd.load1 kr_ rfl mem_ (by rfl) ⟨_, rfl, ?_⟩)
    refine WA.y (i := 2) (NoPanic.then (NoPanic.block (NoPanic.then (NoPanic.body)))) rfl kr_ kr_ kr_ rfl (Yd.conv32_64 _ kr_ kr_ rfl rfl) ?_
    refine WA.y (i := 3) (NoPanic.then (NoPanic.block (NoPanic.then (NoPanic.body)))) rfl kr_ kr_ kr_ rfl (Yd.buildL (pl := [(0, 1), (1, 1), (2, 1)]) (zs := [.int .i64 0, .int .u64 0, .slice none 0 0]) (parts := [(0, .const (.int .i64 4)), (1, .tmp 20)]) (vs := [(0, _), (1, _)]) (cells := [_, _, .slice none 0 0]) kr_ kr_ rfl rfl) ?_
    refine WA.one (i := 7) kr_ ?_
    refine WO.s rfl Wt.none (Hd.storeAll (n := 3) kr_ rfl rfl (by rfl) one_ fr_ (by rfl) ⟨rfl, ?_⟩)
    refine WA.y (i := 8) (NoPanic.then (NoPanic.block (NoPanic.then (NoPanic.body)))) rfl kr_ kr_ kr_ rfl (Yd.assign rfl) ?_
    refine WA.done kr_ ?_
    refine DN.then_normal ?_
    refine WC.ret ?_
    refine DN.block_ret ?_
    refine DN.then_ret ?_
    refine DN.retCT (s := 3) H Try.results54 kr_ rfl rfl mem_ (by rfl) sp_ ?_
    exact ⟨part_ret (by simp [partV, *]) (by simp [zeroN, *]), rfl⟩
  ·refine sr_ ?_
   refine WL.y rfl (Yd.eql8 _ (76#8) rfl rfl rfl rfl) ?_
   refine a_ rfl rfl ?_
   refine nt_ ?_
   refine WC.ite rfl (fun h25 => ?_) (fun h25 => ?_)
   ·refine WC.seq ?_
    refine WC.draw 8 kr_ rfl ?_
    refine WA.y (i := 0) (NoPanic.then (NoPanic.block (NoPanic.then (NoPanic.body)))) rfl kr_ kr_ kr_ rfl (Yd.fieldAddr (k := 3) kr_ rfl) ?_
    refine WA.y (i := 3) (NoPanic.then (NoPanic.block (NoPanic.then (NoPanic.body)))) rfl kr_ kr_ kr_ rfl (Yd.fieldAddr (k := 3) kr_ rfl) ?_
    refine WA.two (i := 1) (j := 4) kr_ ?_ ?_
    ·refine WO.h rfl Wt.none rfl (Hd.load1 kr_ rfl mem_ (by rfl) ⟨_, rfl, ?_⟩)
     refine WA.y (i := 2) (NoPanic.then (NoPanic.block (NoPanic.then (NoPanic.body)))) rfl kr_ kr_ kr_ rfl (Yd.buildL (pl := [(0, 1), (1, 1), (2, 1)]) (zs := [.int .i64 0, .int .u64 0, .slice none 0 0]) (parts := [(0, .const (.int .i64 8)), (1, .tmp 28)]) (vs := [(0, _), (1, _)]) (cells := [_, _, .slice none 0 0]) kr_ kr_ rfl rfl) ?_
     refine WA.two (i := 4) (j := 6) kr_ ?_ ?_
     ·refine WO.h rfl Wt.none rfl (Hd.load1 kr_ rfl mem_ (by rfl) ⟨_, rfl, ?_⟩)
      refine WA.y (i := 5) (NoPanic.then (NoPanic.block (NoPanic.then (NoPanic.body)))) rfl kr_ kr_ kr_ rfl (Yd.eql64 _ (0#64) rfl rfl rfl rfl) ?_
      refine WA.one (i := 6) kr_ ?_
      refine WO.s rfl Wt.none (Hd.storeAll (n := 3) kr_ rfl rfl (by rfl) one_ fr_ (by rfl) ⟨rfl, ?_⟩)
      refine WA.y (i := 7) (NoPanic.then (NoPanic.block (NoPanic.then (NoPanic.body)))) rfl kr_ kr_ kr_ rfl (Yd.assign rfl) ?_
      refine WA.done kr_ ?_
      refine DN.then_normal ?_
      refine WC.ret ?_
      refine DN.block_ret ?_
      refine DN.then_ret ?_
      refine DN.retCT (s := 3) H Try.results54 kr_ rfl rfl mem_ (by rfl) sp_ ?_
      exact ⟨part_ret (by simp [partV, *]) (by simp [zeroN, *]), rfl⟩
     ·refine WO.s rfl Wt.none (Hd.storeAll (n := 3) kr_ rfl rfl (by rfl) one_ fr_ (by rfl) ⟨rfl, ?_⟩)
      refine WA.one (i := 4) kr_ ?_
      refine WO.h rfl Wt.none rfl (Hd.load1 kr_ rfl mem_ (by rfl) ⟨_, rfl, ?_⟩)
      refine WA.y (i := 5) (NoPanic.then (NoPanic.block (NoPanic.then (NoPanic.body)))) rfl kr_ kr_ kr_ rfl (Yd.eql64 _ (0#64) rfl rfl rfl rfl) ?_
      refine WA.y (i := 7) (NoPanic.then (NoPanic.block (NoPanic.then (NoPanic.body)))) rfl kr_ kr_ kr_ rfl (Yd.assign rfl) ?_
      refine WA.done kr_ ?_
      refine DN.then_normal ?_
      refine WC.ret ?_
      refine DN.block_ret ?_
      refine DN.then_ret ?_
      refine DN.retCT (s := 3) H Try.results54 kr_ rfl rfl mem_ (by rfl) sp_ ?_
      exact ⟨part_ret (by simp [partV, *]) (by simp [zeroN, *]), rfl⟩
    ·refine WO.h rfl Wt.none rfl (Hd.load1 kr_ rfl mem_ (by rfl) ⟨_, rfl, ?_⟩)
     refine WA.y (i := 5) (NoPanic.then (NoPanic.block (NoPanic.then (NoPanic.body)))) rfl kr_ kr_ kr_ rfl (Yd.eql64 _ (0#64) rfl rfl rfl rfl) ?_
     refine WA.one (i := 1) kr_ ?_
     refine WO.h rfl Wt.none rfl (Hd.load1 kr_ rfl mem_ (by rfl) ⟨_, rfl, ?_⟩)
     refine WA.y (i := 2) (NoPanic.then (NoPanic.block (NoPanic.then (NoPanic.body)))) rfl kr_ kr_ kr_ rfl (Yd.buildL (pl := [(0, 1), (1, 1), (2, 1)]) (zs := [.int .i64 0, .int .u64 0, .slice none 0 0]) (parts := [(0, .const (.int .i64 8)), (1, .tmp 28)]) (vs := [(0, _), (1, _)]) (cells := [_, _, .slice none 0 0]) kr_ kr_ rfl rfl) ?_
     refine WA.one (i := 6) kr_ ?_
     refine WO.s rfl Wt.none (Hd.storeAll (n := 3) kr_ rfl rfl (by rfl) one_ fr_ (by rfl) ⟨rfl, ?_⟩)
     refine WA.y (i := 7) (NoPanic.then (NoPanic.block (NoPanic.then (NoPanic.body)))) rfl kr_ kr_ kr_ rfl (Yd.assign rfl) ?_
     refine WA.done kr_ ?_
     refine DN.then_normal ?_
     refine WC.ret ?_
     refine DN.block_ret ?_
     refine DN.then_ret ?_
     refine DN.retCT (s := 3) H Try.results54 kr_ rfl rfl mem_ (by rfl) sp_ ?_
     exact ⟨part_ret (by simp [partV, *]) (by simp [zeroN, *]), rfl⟩
   ·refine sr_ ?_
    refine WL.y rfl (Yd.eql8 _ (84#8) rfl rfl rfl rfl) ?_
    refine a_ rfl rfl ?_
    refine nt_ ?_
    refine WC.ite rfl (fun h33 => ?_) (fun h33 => ?_)
    ·refine WC.seq ?_
     refine WC.draw 8 kr_ rfl ?_
     refine WA.y (i := 0) (NoPanic.then (NoPanic.block (NoPanic.then (NoPanic.body)))) rfl kr_ kr_ kr_ rfl (Yd.fieldAddr (k := 4) kr_ rfl) ?_
     refine WA.y (i := 3) (NoPanic.then (NoPanic.block (NoPanic.then (NoPanic.body)))) rfl kr_ kr_ kr_ rfl (Yd.fieldAddr (k := 4) kr_ rfl) ?_
     refine WA.two (i := 1) (j := 4) kr_ ?_ ?_
     ·refine WO.h rfl Wt.none rfl (Hd.load1 kr_ rfl mem_ (by rfl) ⟨_, rfl, ?_⟩)
      refine WA.y (i := 2) (NoPanic.then (NoPanic.block (NoPanic.then (NoPanic.body)))) rfl kr_ kr_ kr_ rfl (Yd.buildL (pl := [(0, 1), (1, 1), (2, 1)]) (zs := [.int .i64 0, .int .u64 0, .slice none 0 0]) (parts := [(0, .const (.int .i64 8)), (1, .tmp 36)]) (vs := [(0, _), (1, _)]) (cells := [_, _, .slice none 0 0]) kr_ kr_ rfl rfl) ?_
      refine WA.two (i := 4) (j := 6) kr_ ?_ ?_
      ·refine WO.h rfl Wt.none rfl (Hd.load1 kr_ rfl mem_ (by rfl) ⟨_, rfl, ?_⟩)
       refine WA.y (i := 5) (NoPanic.then (NoPanic.block (NoPanic.then (NoPanic.body)))) rfl kr_ kr_ kr_ rfl (Yd.eql64 _ (0#64) rfl rfl rfl rfl) ?_
       refine WA.one (i := 6) kr_ ?_
       refine WO.s rfl Wt.none (Hd.storeAll (n := 3) kr_ rfl rfl (by rfl) one_ fr_ (by rfl) ⟨rfl, ?_⟩)
       refine WA.y (i := 7) (NoPanic.then (NoPanic.block (NoPanic.then (NoPanic.body)))) rfl kr_ kr_ kr_ rfl (Yd.assign rfl) ?_
       refine WA.done kr_ ?_
       refine DN.then_normal ?_
       refine WC.ret ?_
       refine DN.block_ret ?_
       refine DN.then_ret ?_
       refine DN.retCT (s := 3) H Try.results54 kr_ rfl rfl mem_ (by rfl) sp_ ?_
       exact ⟨part_ret (by simp [partV, *]) (by simp [zeroN, *]), rfl⟩
      ·refine WO.s rfl Wt.none (Hd.storeAll (n := 3) kr_ rfl rfl (by rfl) one_ fr_ (by rfl) ⟨rfl, ?_⟩)
       refine WA.one (i := 4) kr_ ?_
       refine WO.h rfl Wt.none rfl (Hd.load1 kr_ rfl mem_ (by rfl) ⟨_, rfl, ?_⟩)
       refine WA.y (i := 5) (NoPanic.then (NoPanic.block (NoPanic.then (NoPanic.body)))) rfl kr_ kr_ kr_ rfl (Yd.eql64 _ (0#64) rfl rfl rfl rfl) ?_
       refine WA.y (i := 7) (NoPanic.then (NoPanic.block (NoPanic.then (NoPanic.body)))) rfl kr_ kr_ kr_ rfl (Yd.assign rfl) ?_
       refine WA.done kr_ ?_
       refine DN.then_normal ?_
       refine WC.ret ?_
       refine DN.block_ret ?_
       refine DN.then_ret ?_
       refine DN.retCT (s := 3) H Try.results54 kr_ rfl rfl mem_ (by rfl) sp_ ?_
       exact ⟨part_ret (by simp [partV, *]) (by simp [zeroN, *]), rfl⟩
     ·refine WO.h rfl Wt.none rfl (Hd.load1 kr_ rfl mem_ (by rfl) ⟨_, rfl, ?_⟩)
      refine WA.y (i := 5) (NoPanic.then (NoPanic.block (NoPanic.then (NoPanic.body)))) rfl kr_ kr_ kr_ rfl (Yd.eql64 _ (0#64) rfl rfl rfl rfl) ?_
      refine WA.one (i := 1) kr_ ?_
      refine WO.h rfl Wt.none rfl (Hd.load1 kr_ rfl mem_ (by rfl) ⟨_, rfl, ?_⟩)
      refine WA.y (i := 2) (NoPanic.then (NoPanic.block (NoPanic.then (NoPanic.body)))) rfl kr_ kr_ kr_ rfl (Yd.buildL (pl := [(0, 1), (1, 1), (2, 1)]) (zs := [.int .i64 0, .int .u64 0, .slice none 0 0]) (parts := [(0, .const (.int .i64 8)), (1, .tmp 36)]) (vs := [(0, _), (1, _)]) (cells := [_, _, .slice none 0 0]) kr_ kr_ rfl rfl) ?_
      refine WA.one (i := 6) kr_ ?_
      refine WO.s rfl Wt.none (Hd.storeAll (n := 3) kr_ rfl rfl (by rfl) one_ fr_ (by rfl) ⟨rfl, ?_⟩)
      refine WA.y (i := 7) (NoPanic.then (NoPanic.block (NoPanic.then (NoPanic.body)))) rfl kr_ kr_ kr_ rfl (Yd.assign rfl) ?_
      refine WA.done kr_ ?_
      refine DN.then_normal ?_
      refine WC.ret ?_
      refine DN.block_ret ?_
      refine DN.then_ret ?_
      refine DN.retCT (s := 3) H Try.results54 kr_ rfl rfl mem_ (by rfl) sp_ ?_
      exact ⟨part_ret (by simp [partV, *]) (by simp [zeroN, *]), rfl⟩
    ·refine sr_ ?_
     refine WL.y rfl (Yd.eql8 _ (79#8) rfl rfl rfl rfl) ?_
     refine a_ rfl rfl ?_
     refine nt_ ?_
     refine WC.ite rfl (fun h41 => ?_) (fun h41 => ?_)
     ·refine WC.seq ?_
      refine WC.draw 9 kr_ rfl ?_
      refine WA.y (i := 0) (NoPanic.then (NoPanic.block (NoPanic.then (NoPanic.body)))) rfl kr_ kr_ kr_ rfl (Yd.fieldAddr (k := 5) kr_ rfl) ?_
      refine WA.y (i := 4) (NoPanic.then (NoPanic.block (NoPanic.then (NoPanic.body)))) rfl kr_ kr_ kr_ rfl (Yd.fieldAddr (k := 5) kr_ rfl) ?_
      refine WA.two (i := 1) (j := 5) kr_ ?_ ?_
      ·refine WO.h rfl Wt.none rfl (Hd.load1 kr_ rfl mem_ (by rfl) ⟨_, rfl, ?_⟩)
       refine WA.y (i := 2) (NoPanic.then (NoPanic.block (NoPanic.then (NoPanic.body)))) rfl kr_ kr_ kr_ rfl (Yd.conv32_64 _ kr_ kr_ rfl rfl) ?_
       refine WA.y (i := 3) (NoPanic.then (NoPanic.block (NoPanic.then (NoPanic.body)))) rfl kr_ kr_ kr_ rfl (Yd.buildL (pl := [(0, 1), (1, 1), (2, 1)]) (zs := [.int .i64 0, .int .u64 0, .slice none 0 0]) (parts := [(0, .const (.int .i64 4)), (1, .tmp 45)]) (vs := [(0, _), (1, _)]) (cells := [_, _, .slice none 0 0]) kr_ kr_ rfl rfl) ?_
       refine WA.two (i := 5) (j := 7) kr_ ?_ ?_
       ·refine WO.h rfl Wt.none rfl (Hd.load1 kr_ rfl mem_ (by rfl) ⟨_, rfl, ?_⟩)
        refine WA.y (i := 6) (NoPanic.then (NoPanic.block (NoPanic.then (NoPanic.body)))) rfl kr_ kr_ kr_ rfl (Yd.eql32 _ (0#32) rfl rfl rfl rfl) ?_
        refine WA.one (i := 7) kr_ ?_
        refine WO.s rfl Wt.none (Hd.storeAll (n := 3) kr_ rfl rfl (by rfl) one_ fr_ (by rfl) ⟨rfl, ?_⟩)
        refine WA.y (i := 8) (NoPanic.then (NoPanic.block (NoPanic.then (NoPanic.body)))) rfl kr_ kr_ kr_ rfl (Yd.assign rfl) ?_
        refine WA.done kr_ ?_
        refine DN.then_normal ?_
        refine WC.ret ?_
        refine DN.block_ret ?_
        refine DN.then_ret ?_
        refine DN.retCT (s := 3) H Try.results54 kr_ rfl rfl mem_ (by rfl) sp_ ?_
        exact ⟨part_ret (by simp [partV, *]) (by simp [zeroN, *]), rfl⟩
       ·refine WO.s rfl Wt.none (Hd.storeAll (n := 3) kr_ rfl rfl (by rfl) one_ fr_ (by rfl) ⟨rfl, ?_⟩)
        refine WA.one (i := 5) kr_ ?_
        refine WO.h rfl Wt.none rfl (Hd.load1 kr_ rfl mem_ (by rfl) ⟨_, rfl, ?_⟩)
        refine WA.y (i := 6) (NoPanic.then (NoPanic.block (NoPanic.then (NoPanic.body)))) rfl kr_ kr_ kr_ rfl (Yd.eql32 _ (0#32) rfl rfl rfl rfl) ?_
        refine WA.y (i := 8) (NoPanic.then (NoPanic.block (NoPanic.then (NoPanic.body)))) rfl kr_ kr_ kr_ rfl (Yd.assign rfl) ?_
        refine WA.done kr_ ?_
        refine DN.then_normal ?_
        refine WC.ret ?_
        refine DN.block_ret ?_
        refine DN.then_ret ?_
        refine DN.retCT (s := 3) H Try.results54 kr_ rfl rfl mem_ (by rfl) sp_ ?_
        exact ⟨part_ret (by simp [partV, *]) (by simp [zeroN, *]), rfl⟩
      ·refine WO.h rfl Wt.none rfl (Hd.load1 kr_ rfl mem_ (by rfl) ⟨_, rfl, ?_⟩)
       refine WA.y (i := 6) (NoPanic.then (NoPanic.block (NoPanic.then (NoPanic.body)))) rfl kr_ kr_ kr_ rfl (Yd.eql32 _ (0#32) rfl rfl rfl rfl) ?_
       refine WA.one (i := 1) kr_ ?_
       refine WO.h rfl Wt.none rfl (Hd.load1 kr_ rfl mem_ (by rfl) ⟨_, rfl, ?_⟩)
       refine WA.y (i := 2) (NoPanic.then (NoPanic.block (NoPanic.then (NoPanic.body)))) rfl kr_ kr_ kr_ rfl (Yd.conv32_64 _ kr_ kr_ rfl rfl) ?_
       refine WA.y (i := 3) (NoPanic.then (NoPanic.block (NoPanic.then (NoPanic.body)))) rfl kr_ kr_ kr_ rfl (Yd.buildL (pl := [(0, 1), (1, 1), (2, 1)]) (zs := [.int .i64 0, .int .u64 0, .slice none 0 0]) (parts := [(0, .const (.int .i64 4)), (1, .tmp 45)]) (vs := [(0, _), (1, _)]) (cells := [_, _, .slice none 0 0]) kr_ kr_ rfl rfl) ?_
       refine WA.one (i := 7) kr_ ?_
       refine WO.s rfl Wt.none (Hd.storeAll (n := 3) kr_ rfl rfl (by rfl) one_ fr_ (by rfl) ⟨rfl, ?_⟩)
       refine WA.y (i := 8) (NoPanic.then (NoPanic.block (NoPanic.then (NoPanic.body)))) rfl kr_ kr_ kr_ rfl (Yd.assign rfl) ?_
       refine WA.done kr_ ?_
       refine DN.then_normal ?_
       refine WC.ret ?_
       refine DN.block_ret ?_
       refine DN.then_ret ?_
       refine DN.retCT (s := 3) H Try.results54 kr_ rfl rfl mem_ (by rfl) sp_ ?_
       exact ⟨part_ret (by simp [partV, *]) (by simp [zeroN, *]), rfl⟩
     ·refine sr_ ?_
      refine WL.y rfl (Yd.eql8 _ (83#8) rfl rfl rfl rfl) ?_
      refine a_ rfl rfl ?_
      refine nt_ ?_
      refine WC.ite rfl (fun h50 => ?_) (fun h50 => ?_)
      ·refine WC.seq ?_
       refine WC.draw 9 kr_ rfl ?_
       refine WA.y (i := 0) (NoPanic.then (NoPanic.block (NoPanic.then (NoPanic.body)))) rfl kr_ kr_ kr_ rfl (Yd.fieldAddr (k := 6) kr_ rfl) ?_
       refine WA.y (i := 4) (NoPanic.then (NoPanic.block (NoPanic.then (NoPanic.body)))) rfl kr_ kr_ kr_ rfl (Yd.fieldAddr (k := 6) kr_ rfl) ?_
       refine WA.two (i := 1) (j := 5) kr_ ?_ ?_
       ·refine WO.h rfl Wt.none rfl (Hd.load1 kr_ rfl mem_ (by rfl) ⟨_, rfl, ?_⟩)
        refine WA.y (i := 2) (NoPanic.then (NoPanic.block (NoPanic.then (NoPanic.body)))) rfl kr_ kr_ kr_ rfl (Yd.to64 _ kr_ kr_ rfl rfl) ?_
        refine WA.y (i := 3) (NoPanic.then (NoPanic.block (NoPanic.then (NoPanic.body)))) rfl kr_ kr_ kr_ rfl (Yd.buildL (pl := [(0, 1), (1, 1), (2, 1)]) (zs := [.int .i64 0, .int .u64 0, .slice none 0 0]) (parts := [(0, .const (.int .i64 1)), (1, .tmp 54)]) (vs := [(0, _), (1, _)]) (cells := [_, _, .slice none 0 0]) kr_ kr_ rfl rfl) ?_
        refine WA.two (i := 5) (j := 7) kr_ ?_ ?_
        ·refine WO.h rfl Wt.none rfl (Hd.load1 kr_ rfl mem_ (by rfl) ⟨_, rfl, ?_⟩)
         refine WA.y (i := 6) (NoPanic.then (NoPanic.block (NoPanic.then (NoPanic.body)))) rfl kr_ kr_ kr_ rfl (Yd.eql rfl rfl) ?_
         refine WA.one (i := 7) kr_ ?_
         refine WO.s rfl Wt.none (Hd.storeAll (n := 3) kr_ rfl rfl (by rfl) one_ fr_ (by rfl) ⟨rfl, ?_⟩)
         refine WA.y (i := 8) (NoPanic.then (NoPanic.block (NoPanic.then (NoPanic.body)))) rfl kr_ kr_ kr_ rfl (Yd.assign rfl) ?_
         refine WA.done kr_ ?_
         refine DN.then_normal ?_
         refine WC.ret ?_
         refine DN.block_ret ?_
         refine DN.then_ret ?_
         refine DN.retCT (s := 3) H Try.results54 kr_ rfl rfl mem_ (by rfl) sp_ ?_
         exact ⟨part_ret (by simp [partV, *]) (by simp [zeroN, *]), rfl⟩
        ·refine WO.s rfl Wt.none (Hd.storeAll (n := 3) kr_ rfl rfl (by rfl) one_ fr_ (by rfl) ⟨rfl, ?_⟩)
         refine WA.one (i := 5) kr_ ?_
         refine WO.h rfl Wt.none rfl (Hd.load1 kr_ rfl mem_ (by rfl) ⟨_, rfl, ?_⟩)
         refine WA.y (i := 6) (NoPanic.then (NoPanic.block (NoPanic.then (NoPanic.body)))) rfl kr_ kr_ kr_ rfl (Yd.eql rfl rfl) ?_
         refine WA.y (i := 8) (NoPanic.then (NoPanic.block (NoPanic.then (NoPanic.body)))) rfl kr_ kr_ kr_ rfl (Yd.assign rfl) ?_
         refine WA.done kr_ ?_
         refine DN.then_normal ?_
         refine WC.ret ?_
         refine DN.block_ret ?_
         refine DN.then_ret ?_
         refine DN.retCT (s := 3) H Try.results54 kr_ rfl rfl mem_ (by rfl) sp_ ?_
         exact ⟨part_ret (by simp [partV, *]) (by simp [zeroN, *]), rfl⟩
       ·refine WO.h rfl Wt.none rfl (Hd.load1 kr_ rfl mem_ (by rfl) ⟨_, rfl, ?_⟩)
        refine WA.y (i := 6) (NoPanic.then (NoPanic.block (NoPanic.then (NoPanic.body)))) rfl kr_ kr_ kr_ rfl (Yd.eql rfl rfl) ?_
        refine WA.one (i := 1) kr_ ?_
        refine WO.h rfl Wt.none rfl (Hd.load1 kr_ rfl mem_ (by rfl) ⟨_, rfl, ?_⟩)
        refine WA.y (i := 2) (NoPanic.then (NoPanic.block (NoPanic.then (NoPanic.body)))) rfl kr_ kr_ kr_ rfl (Yd.to64 _ kr_ kr_ rfl rfl) ?_
        refine WA.y (i := 3) (NoPanic.then (NoPanic.block (NoPanic.then (NoPanic.body)))) rfl kr_ kr_ kr_ rfl (Yd.buildL (pl := [(0, 1), (1, 1), (2, 1)]) (zs := [.int .i64 0, .int .u64 0, .slice none 0 0]) (parts := [(0, .const (.int .i64 1)), (1, .tmp 54)]) (vs := [(0, _), (1, _)]) (cells := [_, _, .slice none 0 0]) kr_ kr_ rfl rfl) ?_
        refine WA.one (i := 7) kr_ ?_
        refine WO.s rfl Wt.none (Hd.storeAll (n := 3) kr_ rfl rfl (by rfl) one_ fr_ (by rfl) ⟨rfl, ?_⟩)
        refine WA.y (i := 8) (NoPanic.then (NoPanic.block (NoPanic.then (NoPanic.body)))) rfl kr_ kr_ kr_ rfl (Yd.assign rfl) ?_
        refine WA.done kr_ ?_
        refine DN.then_normal ?_
        refine WC.ret ?_
        refine DN.block_ret ?_
        refine DN.then_ret ?_
        refine DN.retCT (s := 3) H Try.results54 kr_ rfl rfl mem_ (by rfl) sp_ ?_
        exact ⟨part_ret (by simp [partV, *]) (by simp [zeroN, *]), rfl⟩
      ·refine sr_ ?_
       refine WL.y rfl (Yd.eql8 _ (85#8) rfl rfl rfl rfl) ?_
       refine a_ rfl rfl ?_
       refine nt_ ?_
       refine WC.ite rfl (fun h59 => ?_) (fun h59 => ?_)
       ·refine WC.seq ?_
        refine sr_ ?_
        refine f_ 7 kr_ rfl rfl ?_
        refine d_ kr_ rfl mem_ (by rfl) rfl ?_
        refine nt_ ?_
        refine WC.cond rfl (fun h62 => ?_) (fun h62 => ?_)
        ·refine sr_ ?_
         refine WL.y rfl (Yd.buildL (pl := [(0, 1), (1, 1), (2, 1)]) (zs := [.int .i64 0, .int .u64 0, .slice none 0 0]) (parts := [(0, .const (.int .i64 1)), (1, .const (.int .u64 1))]) (vs := [(0, _), (1, _)]) (cells := [_, _, .slice none 0 0]) kr_ kr_ rfl rfl) ?_
         refine WL.s (Hd.storeAll (n := 3) kr_ rfl rfl (by rfl) one_ fr_ (by rfl) ⟨rfl, ?_⟩)
         refine a_ rfl rfl ?_
         refine nt_ ?_
         refine WC.ret ?_
         refine DN.then_ret ?_
         refine DN.block_ret ?_
         refine DN.then_ret ?_
         refine DN.retCT (s := 3) H Try.results54 kr_ rfl rfl mem_ (by rfl) sp_ ?_
         exact ⟨part_ret (by simp [partV, *]) (by simp [zeroN, *]), rfl⟩
        ·refine WC.skip ?_
         refine ts_ ?_
         refine WC.region ?_
         refine WL.y rfl (Yd.buildL (pl := [(0, 1), (1, 1), (2, 1)]) (zs := [.int .i64 0, .int .u64 0, .slice none 0 0]) (parts := [(0, .const (.int .i64 1))]) (vs := [(0, _)]) (cells := [_, .int .u64 0, .slice none 0 0]) kr_ kr_ rfl rfl) ?_
         refine WL.s (Hd.storeAll (n := 3) kr_ rfl rfl (by rfl) one_ fr_ (by rfl) ⟨rfl, ?_⟩)
         refine a_ rfl rfl ?_
         refine nt_ ?_
         refine WC.ret ?_
         refine DN.block_ret ?_
         refine DN.then_ret ?_
         refine DN.retCT (s := 3) H Try.results54 kr_ rfl rfl mem_ (by rfl) sp_ ?_
         exact ⟨part_ret (by simp [partV, *]) (by simp [zeroN, *]), rfl⟩
       ·refine sr_ ?_
        refine WL.y rfl (Yd.eql8 _ (67#8) rfl rfl rfl rfl) ?_
        refine a_ rfl rfl ?_
        refine nt_ ?_
        refine WC.ite rfl (fun h65 => ?_) (fun h65 => ?_)
        ·refine WC.seq ?_
         refine WC.draw 9 kr_ rfl ?_
         refine WA.y (i := 0) (NoPanic.then (NoPanic.block (NoPanic.then (NoPanic.body)))) rfl kr_ kr_ kr_ rfl (Yd.fieldAddr (k := 8) kr_ rfl) ?_
         refine WA.y (i := 4) (NoPanic.then (NoPanic.block (NoPanic.then (NoPanic.body)))) rfl kr_ kr_ kr_ rfl (Yd.fieldAddr (k := 8) kr_ rfl) ?_
         refine WA.two (i := 1) (j := 5) kr_ ?_ ?_
         ·refine WO.h rfl Wt.none rfl (Hd.load1 kr_ rfl mem_ (by rfl) ⟨_, rfl, ?_⟩)
          refine WA.y (i := 2) (NoPanic.then (NoPanic.block (NoPanic.then (NoPanic.body)))) rfl kr_ kr_ kr_ rfl (Yd.to64 _ kr_ kr_ rfl rfl) ?_
          refine WA.y (i := 3) (NoPanic.then (NoPanic.block (NoPanic.then (NoPanic.body)))) rfl kr_ kr_ kr_ rfl (Yd.buildL (pl := [(0, 1), (1, 1), (2, 1)]) (zs := [.int .i64 0, .int .u64 0, .slice none 0 0]) (parts := [(0, .const (.int .i64 1)), (1, .tmp 69)]) (vs := [(0, _), (1, _)]) (cells := [_, _, .slice none 0 0]) kr_ kr_ rfl rfl) ?_
          refine WA.two (i := 5) (j := 7) kr_ ?_ ?_
          ·refine WO.h rfl Wt.none rfl (Hd.load1 kr_ rfl mem_ (by rfl) ⟨_, rfl, ?_⟩)
           refine WA.y (i := 6) (NoPanic.then (NoPanic.block (NoPanic.then (NoPanic.body)))) rfl kr_ kr_ kr_ rfl (Yd.eql rfl rfl) ?_
           refine WA.one (i := 7) kr_ ?_
           refine WO.s rfl Wt.none (Hd.storeAll (n := 3) kr_ rfl rfl (by rfl) one_ fr_ (by rfl) ⟨rfl, ?_⟩)
           refine WA.y (i := 8) (NoPanic.then (NoPanic.block (NoPanic.then (NoPanic.body)))) rfl kr_ kr_ kr_ rfl (Yd.assign rfl) ?_
           refine WA.done kr_ ?_
           refine DN.then_normal ?_
           refine WC.ret ?_
           refine DN.block_ret ?_
           refine DN.then_ret ?_
           refine DN.retCT (s := 3) H Try.results54 kr_ rfl rfl mem_ (by rfl) sp_ ?_
           exact ⟨part_ret (by simp [partV, *]) (by simp [zeroN, *]), rfl⟩
          ·refine WO.s rfl Wt.none (Hd.storeAll (n := 3) kr_ rfl rfl (by rfl) one_ fr_ (by rfl) ⟨rfl, ?_⟩)
           refine WA.one (i := 5) kr_ ?_
           refine WO.h rfl Wt.none rfl (Hd.load1 kr_ rfl mem_ (by rfl) ⟨_, rfl, ?_⟩)
           refine WA.y (i := 6) (NoPanic.then (NoPanic.block (NoPanic.then (NoPanic.body)))) rfl kr_ kr_ kr_ rfl (Yd.eql rfl rfl) ?_
           refine WA.y (i := 8) (NoPanic.then (NoPanic.block (NoPanic.then (NoPanic.body)))) rfl kr_ kr_ kr_ rfl (Yd.assign rfl) ?_
           refine WA.done kr_ ?_
           refine DN.then_normal ?_
           refine WC.ret ?_
           refine DN.block_ret ?_
           refine DN.then_ret ?_
           refine DN.retCT (s := 3) H Try.results54 kr_ rfl rfl mem_ (by rfl) sp_ ?_
           exact ⟨part_ret (by simp [partV, *]) (by simp [zeroN, *]), rfl⟩
         ·refine WO.h rfl Wt.none rfl (Hd.load1 kr_ rfl mem_ (by rfl) ⟨_, rfl, ?_⟩)
          refine WA.y (i := 6) (NoPanic.then (NoPanic.block (NoPanic.then (NoPanic.body)))) rfl kr_ kr_ kr_ rfl (Yd.eql rfl rfl) ?_
          refine WA.one (i := 1) kr_ ?_
          refine WO.h rfl Wt.none rfl (Hd.load1 kr_ rfl mem_ (by rfl) ⟨_, rfl, ?_⟩)
          refine WA.y (i := 2) (NoPanic.then (NoPanic.block (NoPanic.then (NoPanic.body)))) rfl kr_ kr_ kr_ rfl (Yd.to64 _ kr_ kr_ rfl rfl) ?_
          refine WA.y (i := 3) (NoPanic.then (NoPanic.block (NoPanic.then (NoPanic.body)))) rfl kr_ kr_ kr_ rfl (Yd.buildL (pl := [(0, 1), (1, 1), (2, 1)]) (zs := [.int .i64 0, .int .u64 0, .slice none 0 0]) (parts := [(0, .const (.int .i64 1)), (1, .tmp 69)]) (vs := [(0, _), (1, _)]) (cells := [_, _, .slice none 0 0]) kr_ kr_ rfl rfl) ?_
          refine WA.one (i := 7) kr_ ?_
          refine WO.s rfl Wt.none (Hd.storeAll (n := 3) kr_ rfl rfl (by rfl) one_ fr_ (by rfl) ⟨rfl, ?_⟩)
          refine WA.y (i := 8) (NoPanic.then (NoPanic.block (NoPanic.then (NoPanic.body)))) rfl kr_ kr_ kr_ rfl (Yd.assign rfl) ?_
          refine WA.done kr_ ?_
          refine DN.then_normal ?_
          refine WC.ret ?_
          refine DN.block_ret ?_
          refine DN.then_ret ?_
          refine DN.retCT (s := 3) H Try.results54 kr_ rfl rfl mem_ (by rfl) sp_ ?_
          exact ⟨part_ret (by simp [partV, *]) (by simp [zeroN, *]), rfl⟩
        ·refine sr_ ?_
         refine WL.y rfl (Yd.eql8 _ (75#8) rfl rfl rfl rfl) ?_
         refine a_ rfl rfl ?_
         refine nt_ ?_
         refine WC.ite rfl (fun h74 => ?_) (fun h74 => ?_)
         ·refine WC.seq ?_
          refine WC.draw 9 kr_ rfl ?_
          refine WA.y (i := 0) (NoPanic.then (NoPanic.block (NoPanic.then (NoPanic.body)))) rfl kr_ kr_ kr_ rfl (Yd.fieldAddr (k := 9) kr_ rfl) ?_
          refine WA.y (i := 3) (NoPanic.then (NoPanic.block (NoPanic.then (NoPanic.body)))) rfl kr_ kr_ kr_ rfl (Yd.fieldAddr (k := 9) kr_ rfl) ?_
          refine WA.two (i := 1) (j := 4) kr_ ?_ ?_
          ·refine WO.h rfl Wt.none rfl (Hd.load1 kr_ rfl mem_ (by rfl) ⟨_, rfl, ?_⟩)
           refine WA.y (i := 2) (NoPanic.then (NoPanic.block (NoPanic.then (NoPanic.body)))) rfl kr_ kr_ kr_ rfl (Yd.buildL (pl := [(0, 1), (1, 1), (2, 1)]) (zs := [.int .i64 0, .int .u64 0, .slice none 0 0]) (parts := [(2, .tmp 77)]) (vs := [(2, _)]) (cells := [.int .i64 0, .int .u64 0, _]) kr_ kr_ rfl rfl) ?_
           refine WA.two (i := 4) (j := 7) kr_ ?_ ?_
           ·refine WO.h rfl Wt.none rfl (Hd.load1 kr_ rfl mem_ (by rfl) ⟨_, rfl, ?_⟩)
            refine WA.y (i := 5) (NoPanic.then (NoPanic.block (NoPanic.then (NoPanic.body)))) rfl kr_ kr_ kr_ rfl (Yd.len (e := 5) kr_ rfl) ?_
            refine WA.y (i := 6) (NoPanic.then (NoPanic.block (NoPanic.then (NoPanic.body)))) rfl kr_ kr_ kr_ rfl (Yd.eql rfl rfl) ?_
            refine WA.one (i := 7) kr_ ?_
            refine WO.s rfl Wt.none (Hd.storeAll (n := 3) kr_ rfl rfl (by rfl) one_ fr_ (by rfl) ⟨rfl, ?_⟩)
            refine WA.y (i := 8) (NoPanic.then (NoPanic.block (NoPanic.then (NoPanic.body)))) rfl kr_ kr_ kr_ rfl (Yd.assign rfl) ?_
            refine WA.done kr_ ?_
            refine DN.then_normal ?_
            refine WC.ret ?_
            refine DN.block_ret ?_
            refine DN.then_ret ?_
            refine DN.retCT (s := 3) H Try.results54 kr_ rfl rfl mem_ (by rfl) sp_ ?_
            exact ⟨part_ret (by simp [partV, *]) (by simp [zeroN, *]), rfl⟩
           ·refine WO.s rfl Wt.none (Hd.storeAll (n := 3) kr_ rfl rfl (by rfl) one_ fr_ (by rfl) ⟨rfl, ?_⟩)
            refine WA.one (i := 4) kr_ ?_
            refine WO.h rfl Wt.none rfl (Hd.load1 kr_ rfl mem_ (by rfl) ⟨_, rfl, ?_⟩)
            refine WA.y (i := 5) (NoPanic.then (NoPanic.block (NoPanic.then (NoPanic.body)))) rfl kr_ kr_ kr_ rfl (Yd.len (e := 5) kr_ rfl) ?_
            refine WA.y (i := 6) (NoPanic.then (NoPanic.block (NoPanic.then (NoPanic.body)))) rfl kr_ kr_ kr_ rfl (Yd.eql rfl rfl) ?_
            refine WA.y (i := 8) (NoPanic.then (NoPanic.block (NoPanic.then (NoPanic.body)))) rfl kr_ kr_ kr_ rfl (Yd.assign rfl) ?_
            refine WA.done kr_ ?_
            refine DN.then_normal ?_
            refine WC.ret ?_
            refine DN.block_ret ?_
            refine DN.then_ret ?_
            refine DN.retCT (s := 3) H Try.results54 kr_ rfl rfl mem_ (by rfl) sp_ ?_
            exact ⟨part_ret (by simp [partV, *]) (by simp [zeroN, *]), rfl⟩
          ·refine WO.h rfl Wt.none rfl (Hd.load1 kr_ rfl mem_ (by rfl) ⟨_, rfl, ?_⟩)
           refine WA.y (i := 5) (NoPanic.then (NoPanic.block (NoPanic.then (NoPanic.body)))) rfl kr_ kr_ kr_ rfl (Yd.len (e := 5) kr_ rfl) ?_
           refine WA.y (i := 6) (NoPanic.then (NoPanic.block (NoPanic.then (NoPanic.body)))) rfl kr_ kr_ kr_ rfl (Yd.eql rfl rfl) ?_
           refine WA.one (i := 1) kr_ ?_
           refine WO.h rfl Wt.none rfl (Hd.load1 kr_ rfl mem_ (by rfl) ⟨_, rfl, ?_⟩)
           refine WA.y (i := 2) (NoPanic.then (NoPanic.block (NoPanic.then (NoPanic.body)))) rfl kr_ kr_ kr_ rfl (Yd.buildL (pl := [(0, 1), (1, 1), (2, 1)]) (zs := [.int .i64 0, .int .u64 0, .slice none 0 0]) (parts := [(2, .tmp 77)]) (vs := [(2, _)]) (cells := [.int .i64 0, .int .u64 0, _]) kr_ kr_ rfl rfl) ?_
           refine WA.one (i := 7) kr_ ?_
           refine WO.s rfl Wt.none (Hd.storeAll (n := 3) kr_ rfl rfl (by rfl) one_ fr_ (by rfl) ⟨rfl, ?_⟩)
           refine WA.y (i := 8) (NoPanic.then (NoPanic.block (NoPanic.then (NoPanic.body)))) rfl kr_ kr_ kr_ rfl (Yd.assign rfl) ?_
           refine WA.done kr_ ?_
           refine DN.then_normal ?_
           refine WC.ret ?_
           refine DN.block_ret ?_
           refine DN.then_ret ?_
           refine DN.retCT (s := 3) H Try.results54 kr_ rfl rfl mem_ (by rfl) sp_ ?_
           exact ⟨part_ret (by simp [partV, *]) (by simp [zeroN, *]), rfl⟩
         ·refine WC.skip ?_
          refine DN.block_normal ?_
          refine ts_ ?_
          refine WC.draw 9 kr_ rfl ?_
          refine WA.y (i := 0) (NoPanic.then (NoPanic.body)) rfl kr_ kr_ kr_ rfl (Yd.fieldAddr (k := 10) kr_ rfl) ?_
          refine WA.y (i := 3) (NoPanic.then (NoPanic.body)) rfl kr_ kr_ kr_ rfl (Yd.fieldAddr (k := 10) kr_ rfl) ?_
          refine WA.two (i := 1) (j := 4) kr_ ?_ ?_
          ·refine WO.h rfl Wt.none rfl (Hd.load1 kr_ rfl mem_ (by rfl) ⟨_, rfl, ?_⟩)
           refine WA.y (i := 2) (NoPanic.then (NoPanic.body)) rfl kr_ kr_ kr_ rfl (Yd.buildL (pl := [(0, 1), (1, 1), (2, 1)]) (zs := [.int .i64 0, .int .u64 0, .slice none 0 0]) (parts := [(2, .tmp 84)]) (vs := [(2, _)]) (cells := [.int .i64 0, .int .u64 0, _]) kr_ kr_ rfl rfl) ?_
           refine WA.two (i := 4) (j := 7) kr_ ?_ ?_
           ·refine WO.h rfl Wt.none rfl (Hd.load1 kr_ rfl mem_ (by rfl) ⟨_, rfl, ?_⟩)
            refine WA.y (i := 5) (NoPanic.then (NoPanic.body)) rfl kr_ kr_ kr_ rfl (Yd.len (e := 5) kr_ rfl) ?_
            refine WA.y (i := 6) (NoPanic.then (NoPanic.body)) rfl kr_ kr_ kr_ rfl (Yd.eql rfl rfl) ?_
            refine WA.one (i := 7) kr_ ?_
            refine WO.s rfl Wt.none (Hd.storeAll (n := 3) kr_ rfl rfl (by rfl) one_ fr_ (by rfl) ⟨rfl, ?_⟩)
            refine WA.y (i := 8) (NoPanic.then (NoPanic.body)) rfl kr_ kr_ kr_ rfl (Yd.assign rfl) ?_
            refine WA.done kr_ ?_
            refine DN.then_normal ?_
            refine WC.ret ?_
            refine DN.retCT (s := 3) H Try.results54 kr_ rfl rfl mem_ (by rfl) sp_ ?_
            exact ⟨part_ret (by simp [partV, *]) (by simp [zeroN, *]), rfl⟩
           ·refine WO.s rfl Wt.none (Hd.storeAll (n := 3) kr_ rfl rfl (by rfl) one_ fr_ (by rfl) ⟨rfl, ?_⟩)
            refine WA.one (i := 4) kr_ ?_
            refine WO.h rfl Wt.none rfl (Hd.load1 kr_ rfl mem_ (by rfl) ⟨_, rfl, ?_⟩)
            refine WA.y (i := 5) (NoPanic.then (NoPanic.body)) rfl kr_ kr_ kr_ rfl (Yd.len (e := 5) kr_ rfl) ?_
            refine WA.y (i := 6) (NoPanic.then (NoPanic.body)) rfl kr_ kr_ kr_ rfl (Yd.eql rfl rfl) ?_
            refine WA.y (i := 8) (NoPanic.then (NoPanic.body)) rfl kr_ kr_ kr_ rfl (Yd.assign rfl) ?_
            refine WA.done kr_ ?_
            refine DN.then_normal ?_
            refine WC.ret ?_
            refine DN.retCT (s := 3) H Try.results54 kr_ rfl rfl mem_ (by rfl) sp_ ?_
            exact ⟨part_ret (by simp [partV, *]) (by simp [zeroN, *]), rfl⟩
          ·refine WO.h rfl Wt.none rfl (Hd.load1 kr_ rfl mem_ (by rfl) ⟨_, rfl, ?_⟩)
           refine WA.y (i := 5) (NoPanic.then (NoPanic.body)) rfl kr_ kr_ kr_ rfl (Yd.len (e := 5) kr_ rfl) ?_
           refine WA.y (i := 6) (NoPanic.then (NoPanic.body)) rfl kr_ kr_ kr_ rfl (Yd.eql rfl rfl) ?_
           refine WA.one (i := 1) kr_ ?_
           refine WO.h rfl Wt.none rfl (Hd.load1 kr_ rfl mem_ (by rfl) ⟨_, rfl, ?_⟩)
           refine WA.y (i := 2) (NoPanic.then (NoPanic.body)) rfl kr_ kr_ kr_ rfl (Yd.buildL (pl := [(0, 1), (1, 1), (2, 1)]) (zs := [.int .i64 0, .int .u64 0, .slice none 0 0]) (parts := [(2, .tmp 84)]) (vs := [(2, _)]) (cells := [.int .i64 0, .int .u64 0, _]) kr_ kr_ rfl rfl) ?_
           refine WA.one (i := 7) kr_ ?_
           refine WO.s rfl Wt.none (Hd.storeAll (n := 3) kr_ rfl rfl (by rfl) one_ fr_ (by rfl) ⟨rfl, ?_⟩)
           refine WA.y (i := 8) (NoPanic.then (NoPanic.body)) rfl kr_ kr_ kr_ rfl (Yd.assign rfl) ?_
           refine WA.done kr_ ?_
           refine DN.then_normal ?_
           refine WC.ret ?_
           refine DN.retCT (s := 3) H Try.results54 kr_ rfl rfl mem_ (by rfl) sp_ ?_
           exact ⟨part_ret (by simp [partV, *]) (by simp [zeroN, *]), rfl⟩
theorem rcheck_reads (n : Nt) (vk vd : Value) (hk : IsSl vk n.key.length) (hd : IsSl vd n.data.length) (H : List Ck) : Reads Try.prog 50 [.agg (ntc n vk vd).toArray] H (.int .i64 (if noteBad n then 50 else 0)) := by
 refine Tells.enter Try.func50 rfl Try.ntmps50 rfl ?_
 intro w0 R
 obtain ⟨ko, kc, rfl⟩ := hk
 obtain ⟨do_, dc, rfl⟩ := hd
 have hal : allP.length = 10 := rfl
 refine sr_ ?_
 refine WL.h rfl (Hd.boxA rfl fun b1 => ⟨_, rfl, ?_⟩)
 refine a_ rfl rfl ?_
 refine ntsr_ ?_
 refine f_ 0 kr_ rfl rfl ?_
 refine d_ kr_ rfl mem_ (by rfl) rfl ?_
 refine WL.r rfl (Ent.func Try.call53 rfl) (rnames_reads n.kind _) ?_
 refine a_ rfl rfl ?_
 refine nt_ ?_
 refine WC.seq ?_
 refine WC.cutK (fun z : Bool => z = (decide (nm n.kind = []) || farB n)) (fun z : Bool => [(45, .bool z)]) (fun z : Bool => row b1 (ntc n (.slice ko n.key.length kc) (.slice do_ n.data.length dc)) 32 :: H) ?_ ?_
 ·refine WC.region ?_
  refine m_ rfl rfl ?_
  refine WL.y rfl (Yd.eqlS rfl rfl) ?_
  refine m_ rfl rfl ?_
  refine WL.partP (t := 14) rfl (fun hg14 => ?_) (fun hg14 => ?_)
  ·iterate 3 refine gn_ 14 rfl rfl rfl rfl ?_
   refine WL.y rfl (Yd.pickT rfl rfl) ?_
   refine m_ rfl rfl ?_
   iterate 3 refine gn_ 19 rfl rfl rfl rfl ?_
   refine WL.y rfl (Yd.pickT rfl rfl) ?_
   refine m_ rfl rfl ?_
   iterate 3 refine gn_ 24 rfl rfl rfl rfl ?_
   refine WL.y rfl (Yd.pickT rfl rfl) ?_
   refine m_ rfl rfl ?_
   iterate 3 refine gn_ 29 rfl rfl rfl rfl ?_
   refine WL.y rfl (Yd.pickT rfl rfl) ?_
   refine m_ rfl rfl ?_
   iterate 4 refine gn_ 34 rfl rfl rfl rfl ?_
   refine WL.y rfl (Yd.pickT rfl rfl) ?_
   refine m_ rfl rfl ?_
   iterate 4 refine gn_ 40 rfl rfl rfl rfl ?_
   refine WL.y rfl (Yd.pickT rfl rfl) ?_
   refine WL.nil ?_
   exact DN.reachK (_) (by rw [Bool.eq_iff_iff]; simp only [farB, Bool.or_eq_true, decide_eq_true_eq, true_iff, ← nmS_empty]; first | omega | exact .inl hg14 | (simp only [hg14, false_or]; omega)) (Sx.put rfl (sx_)) (Sp.all sp_)
  ·refine gy_ 14 rfl rfl rfl (Yd.fieldAddr (k := 6) kr_ rfl) ?_
   refine WL.gh (dj := 14) rfl rfl rfl (Hd.load1 kr_ rfl mem_ (by rfl) ⟨_, rfl, ?_⟩)
   refine gy_ 14 rfl rfl rfl (Yd.lss rfl rfl) ?_
   refine WL.y rfl (Yd.pickF rfl rfl) ?_
   refine m_ rfl rfl ?_
   refine WL.partP (t := 19) rfl (fun hg19 => ?_) (fun hg19 => ?_)
   ·iterate 3 refine gn_ 19 rfl rfl rfl rfl ?_
    refine WL.y rfl (Yd.pickT rfl rfl) ?_
    refine m_ rfl rfl ?_
    iterate 3 refine gn_ 24 rfl rfl rfl rfl ?_
    refine WL.y rfl (Yd.pickT rfl rfl) ?_
    refine m_ rfl rfl ?_
    iterate 3 refine gn_ 29 rfl rfl rfl rfl ?_
    refine WL.y rfl (Yd.pickT rfl rfl) ?_
    refine m_ rfl rfl ?_
    iterate 4 refine gn_ 34 rfl rfl rfl rfl ?_
    refine WL.y rfl (Yd.pickT rfl rfl) ?_
    refine m_ rfl rfl ?_
    iterate 4 refine gn_ 40 rfl rfl rfl rfl ?_
    refine WL.y rfl (Yd.pickT rfl rfl) ?_
    refine WL.nil ?_
    exact DN.reachK (_) (by rw [Bool.eq_iff_iff]; simp only [farB, Bool.or_eq_true, decide_eq_true_eq, true_iff, ← nmS_empty]; first | omega | exact .inl hg14 | (simp only [hg14, false_or]; omega)) (Sx.put rfl (sx_)) (Sp.all sp_)
   ·refine gy_ 19 rfl rfl rfl (Yd.fieldAddr (k := 6) kr_ rfl) ?_
    refine WL.gh (dj := 19) rfl rfl rfl (Hd.load1 kr_ rfl mem_ (by rfl) ⟨_, rfl, ?_⟩)
    refine gy_ 19 rfl rfl rfl (Yd.gtr rfl rfl) ?_
    refine WL.y rfl (Yd.pickF rfl rfl) ?_
    refine m_ rfl rfl ?_
    refine WL.partP (t := 24) rfl (fun hg24 => ?_) (fun hg24 => ?_)
    ·iterate 3 refine gn_ 24 rfl rfl rfl rfl ?_
     refine WL.y rfl (Yd.pickT rfl rfl) ?_
     refine m_ rfl rfl ?_
     iterate 3 refine gn_ 29 rfl rfl rfl rfl ?_
     refine WL.y rfl (Yd.pickT rfl rfl) ?_
     refine m_ rfl rfl ?_
     iterate 4 refine gn_ 34 rfl rfl rfl rfl ?_
     refine WL.y rfl (Yd.pickT rfl rfl) ?_
     refine m_ rfl rfl ?_
     iterate 4 refine gn_ 40 rfl rfl rfl rfl ?_
     refine WL.y rfl (Yd.pickT rfl rfl) ?_
     refine WL.nil ?_
     exact DN.reachK (_) (by rw [Bool.eq_iff_iff]; simp only [farB, Bool.or_eq_true, decide_eq_true_eq, true_iff, ← nmS_empty]; first | omega | exact .inl hg14 | (simp only [hg14, false_or]; omega)) (Sx.put rfl (sx_)) (Sp.all sp_)
    ·refine gy_ 24 rfl rfl rfl (Yd.fieldAddr (k := 8) kr_ rfl) ?_
     refine WL.gh (dj := 24) rfl rfl rfl (Hd.load1 kr_ rfl mem_ (by rfl) ⟨_, rfl, ?_⟩)
     refine gy_ 24 rfl rfl rfl (Yd.lss rfl rfl) ?_
     refine WL.y rfl (Yd.pickF rfl rfl) ?_
     refine m_ rfl rfl ?_
     refine WL.partP (t := 29) rfl (fun hg29 => ?_) (fun hg29 => ?_)
     ·iterate 3 refine gn_ 29 rfl rfl rfl rfl ?_
      refine WL.y rfl (Yd.pickT rfl rfl) ?_
      refine m_ rfl rfl ?_
      iterate 4 refine gn_ 34 rfl rfl rfl rfl ?_
      refine WL.y rfl (Yd.pickT rfl rfl) ?_
      refine m_ rfl rfl ?_
      iterate 4 refine gn_ 40 rfl rfl rfl rfl ?_
      refine WL.y rfl (Yd.pickT rfl rfl) ?_
      refine WL.nil ?_
      exact DN.reachK (_) (by rw [Bool.eq_iff_iff]; simp only [farB, Bool.or_eq_true, decide_eq_true_eq, true_iff, ← nmS_empty]; first | omega | exact .inl hg14 | (simp only [hg14, false_or]; omega)) (Sx.put rfl (sx_)) (Sp.all sp_)
     ·refine gy_ 29 rfl rfl rfl (Yd.fieldAddr (k := 8) kr_ rfl) ?_
      refine WL.gh (dj := 29) rfl rfl rfl (Hd.load1 kr_ rfl mem_ (by rfl) ⟨_, rfl, ?_⟩)
      refine gy_ 29 rfl rfl rfl (Yd.gtr rfl rfl) ?_
      refine WL.y rfl (Yd.pickF rfl rfl) ?_
      refine m_ rfl rfl ?_
      refine WL.partP (t := 34) rfl (fun hg34 => ?_) (fun hg34 => ?_)
      ·iterate 4 refine gn_ 34 rfl rfl rfl rfl ?_
       refine WL.y rfl (Yd.pickT rfl rfl) ?_
       refine m_ rfl rfl ?_
       iterate 4 refine gn_ 40 rfl rfl rfl rfl ?_
       refine WL.y rfl (Yd.pickT rfl rfl) ?_
       refine WL.nil ?_
       exact DN.reachK (_) (by rw [Bool.eq_iff_iff]; simp only [farB, Bool.or_eq_true, decide_eq_true_eq, true_iff, ← nmS_empty]; first | omega | exact .inl hg14 | (simp only [hg14, false_or]; omega)) (Sx.put rfl (sx_)) (Sp.all sp_)
      ·refine gy_ 34 rfl rfl rfl (Yd.fieldAddr (k := 9) kr_ rfl) ?_
       refine WL.gh (dj := 34) rfl rfl rfl (Hd.load1 kr_ rfl mem_ (by rfl) ⟨_, rfl, ?_⟩)
       refine gy_ 34 rfl rfl rfl (Yd.len (e := 5) kr_ rfl) ?_
       refine gy_ 34 rfl rfl rfl (Yd.gtr rfl rfl) ?_
       refine WL.y rfl (Yd.pickF rfl rfl) ?_
       refine m_ rfl rfl ?_
       refine WL.partP (t := 40) rfl (fun hg40 => ?_) (fun hg40 => ?_)
       ·iterate 4 refine gn_ 40 rfl rfl rfl rfl ?_
        refine WL.y rfl (Yd.pickT rfl rfl) ?_
        refine WL.nil ?_
        exact DN.reachK (_) (by rw [Bool.eq_iff_iff]; simp only [farB, Bool.or_eq_true, decide_eq_true_eq, true_iff, ← nmS_empty]; first | omega | exact .inl hg14 | (simp only [hg14, false_or]; omega)) (Sx.put rfl (sx_)) (Sp.all sp_)
       ·refine gy_ 40 rfl rfl rfl (Yd.fieldAddr (k := 10) kr_ rfl) ?_
        refine WL.gh (dj := 40) rfl rfl rfl (Hd.load1 kr_ rfl mem_ (by rfl) ⟨_, rfl, ?_⟩)
        refine gy_ 40 rfl rfl rfl (Yd.len (e := 5) kr_ rfl) ?_
        refine gy_ 40 rfl rfl rfl (Yd.gtr rfl rfl) ?_
        refine WL.y rfl (Yd.pickF rfl rfl) ?_
        refine WL.nil ?_
        exact DN.reachK (_) (by rw [Bool.eq_iff_iff]; simp only [farB, Bool.or_eq_true, decide_eq_true_eq, true_iff, ← nmS_empty]; first | omega | exact .inl hg14 | (simp only [hg14, false_or]; omega)) (Sx.put rfl (sx_)) (Sp.all sp_)
 ·intro z hz
  refine WC.cond rfl (fun h45 => ?_) (fun h45 => ?_)
  ·refine sr_ ?_
   refine a_ rfl rfl ?_
   refine nt_ ?_
   refine WC.ret ?_
   refine DN.then_ret ?_
   refine DN.fit (C := H) sp_ ?_
   refine DN.ret1 Try.results50 rfl ?_
   first
   | (rw [← refBad_eq, if_pos (ref_bad1 (hz.symm.trans h45))]; exact ⟨rfl, rfl⟩)
   | (rw [← refBad_eq, if_pos (ref_bad2 (List.getElem_mem hlt) (by simpa using hg68) (by simpa using h71))]; exact ⟨rfl, rfl⟩)
   | (rw [← refBad_eq, if_pos (ref_bad3 (hz9.symm.trans h90))]; exact ⟨rfl, rfl⟩)
   | (rw [← refBad_eq, if_neg (ref_ok (hz.symm.trans h45) hall (hz9.symm.trans h90))]; exact ⟨rfl, rfl⟩)
  ·refine WC.skip ?_
   refine ts_ ?_
   refine WC.region ?_
   refine a_ rfl rfl ?_
   refine nt_ ?_
   refine WC.seq ?_
   refine sr_ ?_
   refine a_ rfl rfl ?_
   refine nt_ ?_
   refine WC.block ?_
   refine WC.loopS (fun z : Nat => z ≤ allP.length ∧ ∀ b ∈ allP.take z, zeroN n b = true ∨ b ∈ nb n.kind) (fun z : Nat => [(5, .int .i64 (z : Int))]) (fun z : Nat => row b1 (ntc n (.slice ko n.key.length kc) (.slice do_ n.data.length dc)) 32 :: H) (fun z : Nat => allP.length - z) (0) (show 0 ≤ allP.length ∧ ∀ b ∈ allP.take 0, zeroN n b = true ∨ b ∈ nb n.kind from ⟨Nat.zero_le _, by simp⟩) (Sx.put rfl (sx_)) sp_ ?_
   rintro i hI
   replace hI : i ≤ allP.length ∧ ∀ b ∈ allP.take i, zeroN n b = true ∨ b ∈ nb n.kind := hI
   obtain ⟨hi, hall⟩ := hI
   change WC _ _ _ _ _ _ ([(5, .int .i64 (i : Int))] ++ _) (row b1 (ntc n (.slice ko n.key.length kc) (.slice do_ n.data.length dc)) 32 :: H)
   refine WC.seq ?_
   refine sr_ ?_
   refine m_ rfl rfl ?_
   refine m_ rfl rfl ?_
   refine WL.y rfl (Yd.lenS Try.underlying9 rfl) ?_
   refine WL.y rfl (Yd.lss rfl rfl) ?_
   refine nt_ ?_
   refine WC.ite rfl (fun h49 => ?_) (fun h49 => ?_)
   ·replace h49 : (i : Int) < 10 := h49
    have hlt : i < allP.length := by rw [hal]; omega
    refine WC.skip ?_
    refine ts_ ?_
    refine WC.block ?_
    refine WC.seq ?_
    refine WC.draw 11 kr_ rfl ?_
    refine WA.y (i := 1) (NoPanic.then (NoPanic.block (NoPanic.then (NoPanic.then (NoPanic.block (NoPanic.then (NoPanic.body))))))) rfl kr_ kr_ kr_ rfl (Yd.move rfl) ?_
    refine WA.y (i := 2) (NoPanic.then (NoPanic.block (NoPanic.then (NoPanic.then (NoPanic.block (NoPanic.then (NoPanic.body))))))) rfl kr_ kr_ kr_ rfl (Yd.move rfl) ?_
    refine WA.y (i := 3) (NoPanic.then (NoPanic.block (NoPanic.then (NoPanic.then (NoPanic.block (NoPanic.then (NoPanic.body))))))) rfl kr_ kr_ kr_ rfl (Yd.indexS (i := i) (b := allP[i]) Try.underlying9 rfl rfl rfl (str_get hlt)) ?_
    refine WA.two (i := 0) (j := 8) kr_ ?_ ?_
    ·refine WO.h rfl Wt.none rfl (Hd.loadAll (n := 11) kr_ rfl mem_ (by rfl) ⟨_, rfl, ?_⟩)
     refine WA.two (i := 4) (j := 8) kr_ ?_ ?_
     ·refine WO.rf rfl Wt.none rfl (Ent.func Try.call54 rfl) (rpart_reads n (.slice ko n.key.length kc) (.slice do_ n.data.length dc) ⟨_, _, rfl⟩ ⟨_, _, rfl⟩ allP[i] _) sp_ ?_
      refine WA.y (i := 5) (NoPanic.then (NoPanic.block (NoPanic.then (NoPanic.then (NoPanic.block (NoPanic.then (NoPanic.body))))))) rfl kr_ kr_ kr_ rfl (Yd.move rfl) ?_
      refine WA.y (i := 6) (NoPanic.then (NoPanic.block (NoPanic.then (NoPanic.then (NoPanic.block (NoPanic.then (NoPanic.body))))))) rfl kr_ kr_ kr_ rfl (Yd.extract rfl rfl) ?_
      refine WA.y (i := 7) (NoPanic.then (NoPanic.block (NoPanic.then (NoPanic.then (NoPanic.block (NoPanic.then (NoPanic.body))))))) rfl kr_ kr_ kr_ rfl (Yd.extract rfl rfl) ?_
      refine WA.one (i := 8) kr_ ?_
      refine WO.h rfl Wt.none rfl (Hd.alloc (zs := [.int .i64 0, .int .u64 0, .slice none 0 0]) kr_ fun b6 => ⟨_, rfl, ?_⟩)
      refine WA.one (i := 9) kr_ ?_
      refine WO.s rfl Wt.none (Hd.storeAll (n := 3) kr_ rfl rfl (partV_len _ _ _ _) (partV_one _ _ _ _ rfl rfl) fr_ (by rfl) ⟨rfl, ?_⟩)
      refine WA.y (i := 10) (NoPanic.then (NoPanic.block (NoPanic.then (NoPanic.then (NoPanic.block (NoPanic.then (NoPanic.body))))))) rfl kr_ kr_ kr_ rfl (Yd.assign rfl) ?_
      refine WA.done kr_ ?_
      refine ts_ ?_
      refine WC.draw 7 kr_ rfl ?_
      refine WA.quiet 7 0 rfl rfl kr_ kr_ kr_ rfl ?_
      refine WQ.y rfl (Yd.fieldAddr (k := 0) kr_ rfl) ?_
      refine WQ.rd rfl Wt.none (Rd.load1 kr_ rfl mem_ (by rfl)) ?_
      refine WQ.y rfl (Yd.move rfl) ?_
      refine WQ.y rfl (Yd.move rfl) ?_
      refine WQ.y rfl (Yd.indexS (i := i) (b := allP[i]) Try.underlying9 rfl rfl rfl (str_get hlt)) ?_
      refine WQ.rf rfl Wt.none (Ent.func Try.call55 rfl) (rhas_reads n.kind allP[i] _) sp_ ?_
      refine WQ.y rfl (Yd.assign rfl) ?_
      refine WQ.nil ?_
      refine WA.done kr_ ?_
      refine ts_ ?_
      refine WC.region ?_
      refine m_ rfl rfl ?_
      refine WL.y rfl (Yd.notB rfl) ?_
      refine m_ rfl rfl ?_
      refine WL.part (t := 68) rfl (fun hg68 => ?_) (fun hg68 => ?_)
      ·refine gy_ 68 rfl rfl rfl (Yd.move rfl) ?_
       refine gy_ 68 rfl rfl rfl (Yd.notB rfl) ?_
       refine WL.y rfl (Yd.pickT rfl rfl) ?_
       refine nt_ ?_
       refine WC.cond rfl (fun h71 => ?_) (fun h71 => ?_)
       ·refine sr_ ?_
        refine a_ rfl rfl ?_
        refine nt_ ?_
        refine WC.ret ?_
        refine DN.block_ret ?_
        refine DN.then_ret ?_
        refine DN.then_ret ?_
        refine DN.block_ret ?_
        refine DN.then_ret ?_
        refine DN.fit (C := H) sp_ ?_
        refine DN.ret1 Try.results50 rfl ?_
        first
        | (rw [← refBad_eq, if_pos (ref_bad1 (hz.symm.trans h45))]; exact ⟨rfl, rfl⟩)
        | (rw [← refBad_eq, if_pos (ref_bad2 (List.getElem_mem hlt) (by simpa using hg68) (by simpa using h71))]; exact ⟨rfl, rfl⟩)
        | (rw [← refBad_eq, if_pos (ref_bad3 (hz9.symm.trans h90))]; exact ⟨rfl, rfl⟩)
        | (rw [← refBad_eq, if_neg (ref_ok (hz.symm.trans h45) hall (hz9.symm.trans h90))]; exact ⟨rfl, rfl⟩)
       ·refine WC.skip ?_
        refine DN.block_normal ?_
        refine DN.then_normal ?_
        refine WC.region ?_
        refine m_ rfl rfl ?_
        refine WL.y rfl (Yd.add rfl rfl (by omega) (by omega)) ?_
        refine a_ rfl rfl ?_
        refine WL.nil ?_
        exact DN.againS (i + 1) (show (i + 1) ≤ allP.length ∧ ∀ b ∈ allP.take (i + 1), zeroN n b = true ∨ b ∈ nb n.kind from ⟨by omega, rtake hlt hall (by first | exact .inl (by simpa using hg68) | exact .inr (by simpa using h71))⟩) (show allP.length - (i + 1) < allP.length - i by omega) (Sx.put rfl (sx_)) sp_
      ·refine gn_ 68 rfl rfl rfl rfl ?_
       refine gn_ 68 rfl rfl rfl rfl ?_
       refine WL.y rfl (Yd.pickF rfl rfl) ?_
       refine nt_ ?_
       refine WC.no rfl ?_
       refine WC.skip ?_
       refine DN.block_normal ?_
       refine DN.then_normal ?_
       refine WC.region ?_
       refine m_ rfl rfl ?_
       refine WL.y rfl (Yd.add rfl rfl (by omega) (by omega)) ?_
       refine a_ rfl rfl ?_
       refine WL.nil ?_
       exact DN.againS (i + 1) (show (i + 1) ≤ allP.length ∧ ∀ b ∈ allP.take (i + 1), zeroN n b = true ∨ b ∈ nb n.kind from ⟨by omega, rtake hlt hall (by first | exact .inl (by simpa using hg68) | exact .inr (by simpa using h71))⟩) (show allP.length - (i + 1) < allP.length - i by omega) (Sx.put rfl (sx_)) sp_
     ·refine WO.h rfl Wt.none rfl (Hd.alloc (zs := [.int .i64 0, .int .u64 0, .slice none 0 0]) kr_ fun b6 => ⟨_, rfl, ?_⟩)
      refine WA.one (i := 4) kr_ ?_
      refine WO.rf rfl Wt.none rfl (Ent.func Try.call54 rfl) (rpart_reads n (.slice ko n.key.length kc) (.slice do_ n.data.length dc) ⟨_, _, rfl⟩ ⟨_, _, rfl⟩ allP[i] _) sp_ ?_
      refine WA.y (i := 5) (NoPanic.then (NoPanic.block (NoPanic.then (NoPanic.then (NoPanic.block (NoPanic.then (NoPanic.body))))))) rfl kr_ kr_ kr_ rfl (Yd.move rfl) ?_
      refine WA.y (i := 6) (NoPanic.then (NoPanic.block (NoPanic.then (NoPanic.then (NoPanic.block (NoPanic.then (NoPanic.body))))))) rfl kr_ kr_ kr_ rfl (Yd.extract rfl rfl) ?_
      refine WA.y (i := 7) (NoPanic.then (NoPanic.block (NoPanic.then (NoPanic.then (NoPanic.block (NoPanic.then (NoPanic.body))))))) rfl kr_ kr_ kr_ rfl (Yd.extract rfl rfl) ?_
      refine WA.one (i := 9) kr_ ?_
      refine WO.s rfl Wt.none (Hd.storeAll (n := 3) kr_ rfl rfl (partV_len _ _ _ _) (partV_one _ _ _ _ rfl rfl) fr_ (by rfl) ⟨rfl, ?_⟩)
      refine WA.y (i := 10) (NoPanic.then (NoPanic.block (NoPanic.then (NoPanic.then (NoPanic.block (NoPanic.then (NoPanic.body))))))) rfl kr_ kr_ kr_ rfl (Yd.assign rfl) ?_
      refine WA.done kr_ ?_
      refine ts_ ?_
      refine WC.draw 7 kr_ rfl ?_
      refine WA.quiet 7 0 rfl rfl kr_ kr_ kr_ rfl ?_
      refine WQ.y rfl (Yd.fieldAddr (k := 0) kr_ rfl) ?_
      refine WQ.rd rfl Wt.none (Rd.load1 kr_ rfl mem_ (by rfl)) ?_
      refine WQ.y rfl (Yd.move rfl) ?_
      refine WQ.y rfl (Yd.move rfl) ?_
      refine WQ.y rfl (Yd.indexS (i := i) (b := allP[i]) Try.underlying9 rfl rfl rfl (str_get hlt)) ?_
      refine WQ.rf rfl Wt.none (Ent.func Try.call55 rfl) (rhas_reads n.kind allP[i] _) sp_ ?_
      refine WQ.y rfl (Yd.assign rfl) ?_
      refine WQ.nil ?_
      refine WA.done kr_ ?_
      refine ts_ ?_
      refine WC.region ?_
      refine m_ rfl rfl ?_
      refine WL.y rfl (Yd.notB rfl) ?_
      refine m_ rfl rfl ?_
      refine WL.part (t := 68) rfl (fun hg68 => ?_) (fun hg68 => ?_)
      ·refine gy_ 68 rfl rfl rfl (Yd.move rfl) ?_
       refine gy_ 68 rfl rfl rfl (Yd.notB rfl) ?_
       refine WL.y rfl (Yd.pickT rfl rfl) ?_
       refine nt_ ?_
       refine WC.cond rfl (fun h71 => ?_) (fun h71 => ?_)
       ·refine sr_ ?_
        refine a_ rfl rfl ?_
        refine nt_ ?_
        refine WC.ret ?_
        refine DN.block_ret ?_
        refine DN.then_ret ?_
        refine DN.then_ret ?_
        refine DN.block_ret ?_
        refine DN.then_ret ?_
        refine DN.fit (C := H) sp_ ?_
        refine DN.ret1 Try.results50 rfl ?_
        first
        | (rw [← refBad_eq, if_pos (ref_bad1 (hz.symm.trans h45))]; exact ⟨rfl, rfl⟩)
        | (rw [← refBad_eq, if_pos (ref_bad2 (List.getElem_mem hlt) (by simpa using hg68) (by simpa using h71))]; exact ⟨rfl, rfl⟩)
        | (rw [← refBad_eq, if_pos (ref_bad3 (hz9.symm.trans h90))]; exact ⟨rfl, rfl⟩)
        | (rw [← refBad_eq, if_neg (ref_ok (hz.symm.trans h45) hall (hz9.symm.trans h90))]; exact ⟨rfl, rfl⟩)
       ·refine WC.skip ?_
        refine DN.block_normal ?_
        refine DN.then_normal ?_
        refine WC.region ?_
        refine m_ rfl rfl ?_
        refine WL.y rfl (Yd.add rfl rfl (by omega) (by omega)) ?_
        refine a_ rfl rfl ?_
        refine WL.nil ?_
        exact DN.againS (i + 1) (show (i + 1) ≤ allP.length ∧ ∀ b ∈ allP.take (i + 1), zeroN n b = true ∨ b ∈ nb n.kind from ⟨by omega, rtake hlt hall (by first | exact .inl (by simpa using hg68) | exact .inr (by simpa using h71))⟩) (show allP.length - (i + 1) < allP.length - i by omega) (Sx.put rfl (sx_)) sp_
      ·refine gn_ 68 rfl rfl rfl rfl ?_
       refine gn_ 68 rfl rfl rfl rfl ?_
       refine WL.y rfl (Yd.pickF rfl rfl) ?_
       refine nt_ ?_
       refine WC.no rfl ?_
       refine WC.skip ?_
       refine DN.block_normal ?_
       refine DN.then_normal ?_
       refine WC.region ?_
       refine m_ rfl rfl ?_
       refine WL.y rfl (Yd.add rfl rfl (by omega) (by omega)) ?_
       refine a_ rfl rfl ?_
       refine WL.nil ?_
       exact DN.againS (i + 1) (show (i + 1) ≤ allP.length ∧ ∀ b ∈ allP.take (i + 1), zeroN n b = true ∨ b ∈ nb n.kind from ⟨by omega, rtake hlt hall (by first | exact .inl (by simpa using hg68) | exact .inr (by simpa using h71))⟩) (show allP.length - (i + 1) < allP.length - i by omega) (Sx.put rfl (sx_)) sp_
    ·refine WO.h rfl Wt.none rfl (Hd.alloc (zs := [.int .i64 0, .int .u64 0, .slice none 0 0]) kr_ fun b6 => ⟨_, rfl, ?_⟩)
     refine WA.one (i := 0) kr_ ?_
     refine WO.h rfl Wt.none rfl (Hd.loadAll (n := 11) kr_ rfl mem_ (by rfl) ⟨_, rfl, ?_⟩)
     refine WA.one (i := 4) kr_ ?_
     refine WO.rf rfl Wt.none rfl (Ent.func Try.call54 rfl) (rpart_reads n (.slice ko n.key.length kc) (.slice do_ n.data.length dc) ⟨_, _, rfl⟩ ⟨_, _, rfl⟩ allP[i] _) sp_ ?_
     refine WA.y (i := 5) (NoPanic.then (NoPanic.block (NoPanic.then (NoPanic.then (NoPanic.block (NoPanic.then (NoPanic.body))))))) rfl kr_ kr_ kr_ rfl (Yd.move rfl) ?_
     refine WA.y (i := 6) (NoPanic.then (NoPanic.block (NoPanic.then (NoPanic.then (NoPanic.block (NoPanic.then (NoPanic.body))))))) rfl kr_ kr_ kr_ rfl (Yd.extract rfl rfl) ?_
     refine WA.y (i := 7) (NoPanic.then (NoPanic.block (NoPanic.then (NoPanic.then (NoPanic.block (NoPanic.then (NoPanic.body))))))) rfl kr_ kr_ kr_ rfl (Yd.extract rfl rfl) ?_
     refine WA.one (i := 9) kr_ ?_
     refine WO.s rfl Wt.none (Hd.storeAll (n := 3) kr_ rfl rfl (partV_len _ _ _ _) (partV_one _ _ _ _ rfl rfl) fr_ (by rfl) ⟨rfl, ?_⟩)
     refine WA.y (i := 10) (NoPanic.then (NoPanic.block (NoPanic.then (NoPanic.then (NoPanic.block (NoPanic.then (NoPanic.body))))))) rfl kr_ kr_ kr_ rfl (Yd.assign rfl) ?_
     refine WA.done kr_ ?_
     refine ts_ ?_
     refine WC.draw 7 kr_ rfl ?_
     refine WA.quiet 7 0 rfl rfl kr_ kr_ kr_ rfl ?_
     refine WQ.y rfl (Yd.fieldAddr (k := 0) kr_ rfl) ?_
     refine WQ.rd rfl Wt.none (Rd.load1 kr_ rfl mem_ (by rfl)) ?_
     refine WQ.y rfl (Yd.move rfl) ?_
     refine WQ.y rfl (Yd.move rfl) ?_
     refine WQ.y rfl (Yd.indexS (i := i) (b := allP[i]) Try.underlying9 rfl rfl rfl (str_get hlt)) ?_
     refine WQ.rf rfl Wt.none (Ent.func Try.call55 rfl) (rhas_reads n.kind allP[i] _) sp_ ?_
     refine WQ.y rfl (Yd.assign rfl) ?_
     refine WQ.nil ?_
     refine WA.done kr_ ?_
     refine ts_ ?_
     refine WC.region ?_
     refine m_ rfl rfl ?_
     refine WL.y rfl (Yd.notB rfl) ?_
     refine m_ rfl rfl ?_
     refine WL.part (t := 68) rfl (fun hg68 => ?_) (fun hg68 => ?_)
     ·refine gy_ 68 rfl rfl rfl (Yd.move rfl) ?_
      refine gy_ 68 rfl rfl rfl (Yd.notB rfl) ?_
      refine WL.y rfl (Yd.pickT rfl rfl) ?_
      refine nt_ ?_
      refine WC.cond rfl (fun h71 => ?_) (fun h71 => ?_)
      ·refine sr_ ?_
       refine a_ rfl rfl ?_
       refine nt_ ?_
       refine WC.ret ?_
       refine DN.block_ret ?_
       refine DN.then_ret ?_
       refine DN.then_ret ?_
       refine DN.block_ret ?_
       refine DN.then_ret ?_
       refine DN.fit (C := H) sp_ ?_
       refine DN.ret1 Try.results50 rfl ?_
       first
       | (rw [← refBad_eq, if_pos (ref_bad1 (hz.symm.trans h45))]; exact ⟨rfl, rfl⟩)
       | (rw [← refBad_eq, if_pos (ref_bad2 (List.getElem_mem hlt) (by simpa using hg68) (by simpa using h71))]; exact ⟨rfl, rfl⟩)
       | (rw [← refBad_eq, if_pos (ref_bad3 (hz9.symm.trans h90))]; exact ⟨rfl, rfl⟩)
       | (rw [← refBad_eq, if_neg (ref_ok (hz.symm.trans h45) hall (hz9.symm.trans h90))]; exact ⟨rfl, rfl⟩)
      ·refine WC.skip ?_
       refine DN.block_normal ?_
       refine DN.then_normal ?_
       refine WC.region ?_
       refine m_ rfl rfl ?_
       refine WL.y rfl (Yd.add rfl rfl (by omega) (by omega)) ?_
       refine a_ rfl rfl ?_
       refine WL.nil ?_
       exact DN.againS (i + 1) (show (i + 1) ≤ allP.length ∧ ∀ b ∈ allP.take (i + 1), zeroN n b = true ∨ b ∈ nb n.kind from ⟨by omega, rtake hlt hall (by first | exact .inl (by simpa using hg68) | exact .inr (by simpa using h71))⟩) (show allP.length - (i + 1) < allP.length - i by omega) (Sx.put rfl (sx_)) sp_
     ·refine gn_ 68 rfl rfl rfl rfl ?_
      refine gn_ 68 rfl rfl rfl rfl ?_
      refine WL.y rfl (Yd.pickF rfl rfl) ?_
      refine nt_ ?_
      refine WC.no rfl ?_
      refine WC.skip ?_
      refine DN.block_normal ?_
      refine DN.then_normal ?_
      refine WC.region ?_
      refine m_ rfl rfl ?_
      refine WL.y rfl (Yd.add rfl rfl (by omega) (by omega)) ?_
      refine a_ rfl rfl ?_
      refine WL.nil ?_
      exact DN.againS (i + 1) (show (i + 1) ≤ allP.length ∧ ∀ b ∈ allP.take (i + 1), zeroN n b = true ∨ b ∈ nb n.kind from ⟨by omega, rtake hlt hall (by first | exact .inl (by simpa using hg68) | exact .inr (by simpa using h71))⟩) (show allP.length - (i + 1) < allP.length - i by omega) (Sx.put rfl (sx_)) sp_
   ·replace h49 : ¬ (i : Int) < 10 := h49
    obtain rfl : i = allP.length := by omega
    rw [List.take_length] at hall
    refine WC.exit ?_
    refine DN.then_exit ?_
    refine DN.then_exit ?_
    refine DN.block_exit ?_
    refine ts_ ?_
    refine WC.cutK (fun z : Bool => z = (decide (10 ≤ n.kind) && (decide (n.kind ≤ 12) && decide ((n.key.length : Int) = 0)))) (fun z : Bool => [(90, .bool z)]) (fun z : Bool => row b1 (ntc n (.slice ko n.key.length kc) (.slice do_ n.data.length dc)) 32 :: H) ?_ ?_
    ·refine WC.region ?_
     refine f_ 9 kr_ rfl rfl ?_
     refine d_ kr_ rfl mem_ (by rfl) rfl ?_
     refine WL.y rfl (Yd.len (e := 5) kr_ rfl) ?_
     refine WL.y rfl (Yd.eql rfl rfl) ?_
     refine m_ rfl rfl ?_
     refine WL.partP (t := 76) rfl (fun hg76 => ?_) (fun hg76 => ?_)
     ·refine gy_ 76 rfl rfl rfl (Yd.fieldAddr (k := 0) kr_ rfl) ?_
      refine WL.gh (dj := 76) rfl rfl rfl (Hd.load1 kr_ rfl mem_ (by rfl) ⟨_, rfl, ?_⟩)
      refine gy_ 76 rfl rfl rfl (Yd.eql rfl rfl) ?_
      refine gy_ 76 rfl rfl rfl (Yd.move rfl) ?_
      refine WL.partP (t := 80) rfl (fun hg80 => ?_) (fun hg80 => ?_)
      ·iterate 3 refine gn_ 80 rfl rfl rfl rfl ?_
       refine gy_ 76 rfl rfl rfl (Yd.pickT rfl rfl) ?_
       refine gy_ 76 rfl rfl rfl (Yd.move rfl) ?_
       iterate 3 refine gn_ 85 rfl rfl rfl rfl ?_
       refine gy_ 76 rfl rfl rfl (Yd.pickT rfl rfl) ?_
       refine WL.y rfl (Yd.pickT rfl rfl) ?_
       refine WL.nil ?_
       exact DN.reachK (_) (by rw [Bool.eq_iff_iff]; simp only [Bool.and_eq_true, decide_eq_true_eq, true_iff, Bool.false_eq_true, false_iff]; omega) (Sx.put rfl (sx_)) (Sp.all sp_)
      ·refine gy_ 80 rfl rfl rfl (Yd.fieldAddr (k := 0) kr_ rfl) ?_
       refine WL.gh (dj := 80) rfl rfl rfl (Hd.load1 kr_ rfl mem_ (by rfl) ⟨_, rfl, ?_⟩)
       refine gy_ 80 rfl rfl rfl (Yd.eql rfl rfl) ?_
       refine gy_ 76 rfl rfl rfl (Yd.pickF rfl rfl) ?_
       refine gy_ 76 rfl rfl rfl (Yd.move rfl) ?_
       refine WL.partP (t := 85) rfl (fun hg85 => ?_) (fun hg85 => ?_)
       ·iterate 3 refine gn_ 85 rfl rfl rfl rfl ?_
        refine gy_ 76 rfl rfl rfl (Yd.pickT rfl rfl) ?_
        refine WL.y rfl (Yd.pickT rfl rfl) ?_
        refine WL.nil ?_
        exact DN.reachK (_) (by rw [Bool.eq_iff_iff]; simp only [Bool.and_eq_true, decide_eq_true_eq, true_iff, Bool.false_eq_true, false_iff]; omega) (Sx.put rfl (sx_)) (Sp.all sp_)
       ·refine gy_ 85 rfl rfl rfl (Yd.fieldAddr (k := 0) kr_ rfl) ?_
        refine WL.gh (dj := 85) rfl rfl rfl (Hd.load1 kr_ rfl mem_ (by rfl) ⟨_, rfl, ?_⟩)
        refine gy_ 85 rfl rfl rfl (Yd.eql rfl rfl) ?_
        refine gy_ 76 rfl rfl rfl (Yd.pickF rfl rfl) ?_
        refine WL.y rfl (Yd.pickT rfl rfl) ?_
        refine WL.nil ?_
        exact DN.reachK (_) (by rw [Bool.eq_iff_iff]; simp only [Bool.and_eq_true, decide_eq_true_eq, true_iff, Bool.false_eq_true, false_iff]; omega) (Sx.put rfl (sx_)) (Sp.all sp_)
     ·iterate 4 refine gn_ 76 rfl rfl rfl rfl ?_
      iterate 3 refine gu_ 80 rfl rfl rfl ?_
      refine gn_ 76 rfl rfl rfl rfl ?_
      refine gn_ 76 rfl rfl rfl rfl ?_
      iterate 3 refine gu_ 85 rfl rfl rfl ?_
      refine gn_ 76 rfl rfl rfl rfl ?_
      refine WL.y rfl (Yd.pickF rfl rfl) ?_
      refine WL.nil ?_
      exact DN.reachK (_) (by rw [Bool.eq_iff_iff]; simp only [Bool.and_eq_true, decide_eq_true_eq, true_iff, Bool.false_eq_true, false_iff]; omega) (Sx.put rfl (sx_)) (Sp.all sp_)
    ·intro z9 hz9
     refine WC.cond rfl (fun h90 => ?_) (fun h90 => ?_)
     ·refine sr_ ?_
      refine a_ rfl rfl ?_
      refine nt_ ?_
      refine WC.ret ?_
      refine DN.then_ret ?_
      refine DN.fit (C := H) sp_ ?_
      refine DN.ret1 Try.results50 rfl ?_
      first
      | (rw [← refBad_eq, if_pos (ref_bad1 (hz.symm.trans h45))]; exact ⟨rfl, rfl⟩)
      | (rw [← refBad_eq, if_pos (ref_bad2 (List.getElem_mem hlt) (by simpa using hg68) (by simpa using h71))]; exact ⟨rfl, rfl⟩)
      | (rw [← refBad_eq, if_pos (ref_bad3 (hz9.symm.trans h90))]; exact ⟨rfl, rfl⟩)
      | (rw [← refBad_eq, if_neg (ref_ok (hz.symm.trans h45) hall (hz9.symm.trans h90))]; exact ⟨rfl, rfl⟩)
     ·refine WC.skip ?_
      refine ts_ ?_
      refine WC.region ?_
      refine a_ rfl rfl ?_
      refine nt_ ?_
      refine WC.ret ?_
      refine DN.fit (C := H) sp_ ?_
      refine DN.ret1 Try.results50 rfl ?_
      first
      | (rw [← refBad_eq, if_pos (ref_bad1 (hz.symm.trans h45))]; exact ⟨rfl, rfl⟩)
      | (rw [← refBad_eq, if_pos (ref_bad2 (List.getElem_mem hlt) (by simpa using hg68) (by simpa using h71))]; exact ⟨rfl, rfl⟩)
      | (rw [← refBad_eq, if_pos (ref_bad3 (hz9.symm.trans h90))]; exact ⟨rfl, rfl⟩)
      | (rw [← refBad_eq, if_neg (ref_ok (hz.symm.trans h45) hall (hz9.symm.trans h90))]; exact ⟨rfl, rfl⟩)
end Go.Proofs.Ytgpegfmonmdhoaa

set_option linter.unusedVariables false
set_option linter.unusedSimpArgs false
set_option maxHeartbeats 2000000
namespace Go.Proofs.Ytgpegfmonmdhoaa
open Go.SL
theorem names_reads (k : Int) (H : List Ck) : Reads Try.prog 46 [.int .i64 k] H (.string (nmS k)) := by
 refine Tells.enter Try.func46 rfl Try.ntmps46 rfl ?_
 intro w0 R
 refine sr_ ?_
 refine a_ rfl rfl ?_
 refine nt_ ?_
 refine WC.seq ?_
 refine sr_ ?_
 refine m_ rfl rfl ?_
 refine nt_ ?_
 refine WC.block ?_
 refine sr_ ?_
 refine WL.y rfl (Yd.eql rfl rfl) ?_
 refine a_ rfl rfl ?_
 refine nt_ ?_
 refine WC.ite rfl (fun h4 => ?_) (fun h4 => ?_)
 ·refine sr_ ?_
  refine a_ rfl rfl ?_
  refine nt_ ?_
  refine WC.ret ?_
  refine DN.block_ret ?_
  refine DN.then_ret ?_
  refine DN.ret1 Try.results46 rfl ?_
  first | (exfalso; omega) | exact ⟨by congr 1; simp [nmS, nm, *], rfl⟩
 ·refine WC.seq ?_
  refine sr_ ?_
  refine WL.y rfl (Yd.eql rfl rfl) ?_
  refine a_ rfl rfl ?_
  refine nt_ ?_
  refine WC.ite rfl (fun h6 => ?_) (fun h6 => ?_)
  ·refine WC.skip ?_
   refine DN.then_normal ?_
   refine WC.ite rfl (fun h6 => ?_) (fun h6 => ?_)
   ·refine sr_ ?_
    refine a_ rfl rfl ?_
    refine nt_ ?_
    refine WC.ret ?_
    refine DN.block_ret ?_
    refine DN.then_ret ?_
    refine DN.ret1 Try.results46 rfl ?_
    first | (exfalso; omega) | exact ⟨by congr 1; simp [nmS, nm, *], rfl⟩
   ·refine WC.seq ?_
    refine sr_ ?_
    refine WL.y rfl (Yd.eql rfl rfl) ?_
    refine a_ rfl rfl ?_
    refine nt_ ?_
    refine WC.ite rfl (fun h9 => ?_) (fun h9 => ?_)
    ·refine WC.skip ?_
     refine DN.then_normal ?_
     refine WC.ite rfl (fun h9 => ?_) (fun h9 => ?_)
     ·refine sr_ ?_
      refine a_ rfl rfl ?_
      refine nt_ ?_
      refine WC.ret ?_
      refine DN.block_ret ?_
      refine DN.then_ret ?_
      refine DN.ret1 Try.results46 rfl ?_
      first | (exfalso; omega) | exact ⟨by congr 1; simp [nmS, nm, *], rfl⟩
     ·refine sr_ ?_
      refine WL.y rfl (Yd.eql rfl rfl) ?_
      refine a_ rfl rfl ?_
      refine nt_ ?_
      refine WC.ite rfl (fun h12 => ?_) (fun h12 => ?_)
      ·refine sr_ ?_
       refine a_ rfl rfl ?_
       refine nt_ ?_
       refine WC.ret ?_
       refine DN.block_ret ?_
       refine DN.then_ret ?_
       refine DN.ret1 Try.results46 rfl ?_
       first | (exfalso; omega) | exact ⟨by congr 1; simp [nmS, nm, *], rfl⟩
      ·refine sr_ ?_
       refine WL.y rfl (Yd.eql rfl rfl) ?_
       refine a_ rfl rfl ?_
       refine nt_ ?_
       refine WC.ite rfl (fun h14 => ?_) (fun h14 => ?_)
       ·refine sr_ ?_
        refine a_ rfl rfl ?_
        refine nt_ ?_
        refine WC.ret ?_
        refine DN.block_ret ?_
        refine DN.then_ret ?_
        refine DN.ret1 Try.results46 rfl ?_
        first | (exfalso; omega) | exact ⟨by congr 1; simp [nmS, nm, *], rfl⟩
       ·refine sr_ ?_
        refine WL.y rfl (Yd.eql rfl rfl) ?_
        refine a_ rfl rfl ?_
        refine nt_ ?_
        refine WC.ite rfl (fun h16 => ?_) (fun h16 => ?_)
        ·refine sr_ ?_
         refine a_ rfl rfl ?_
         refine nt_ ?_
         refine WC.ret ?_
         refine DN.block_ret ?_
         refine DN.then_ret ?_
         refine DN.ret1 Try.results46 rfl ?_
         first | (exfalso; omega) | exact ⟨by congr 1; simp [nmS, nm, *], rfl⟩
        ·refine sr_ ?_
         refine WL.y rfl (Yd.eql rfl rfl) ?_
         refine a_ rfl rfl ?_
         refine nt_ ?_
         refine WC.ite rfl (fun h18 => ?_) (fun h18 => ?_)
         ·refine sr_ ?_
          refine a_ rfl rfl ?_
          refine nt_ ?_
          refine WC.ret ?_
          refine DN.block_ret ?_
          refine DN.then_ret ?_
          refine DN.ret1 Try.results46 rfl ?_
          first | (exfalso; omega) | exact ⟨by congr 1; simp [nmS, nm, *], rfl⟩
         ·refine sr_ ?_
          refine WL.y rfl (Yd.eql rfl rfl) ?_
          refine a_ rfl rfl ?_
          refine nt_ ?_
          refine WC.ite rfl (fun h20 => ?_) (fun h20 => ?_)
          ·refine sr_ ?_
           refine a_ rfl rfl ?_
           refine nt_ ?_
           refine WC.ret ?_
           refine DN.block_ret ?_
           refine DN.then_ret ?_
           refine DN.ret1 Try.results46 rfl ?_
           first | (exfalso; omega) | exact ⟨by congr 1; simp [nmS, nm, *], rfl⟩
          ·refine WC.seq ?_
           refine sr_ ?_
           refine WL.y rfl (Yd.eql rfl rfl) ?_
           refine a_ rfl rfl ?_
           refine nt_ ?_
           refine WC.ite rfl (fun h22 => ?_) (fun h22 => ?_)
           ·refine WC.skip ?_
            refine DN.then_normal ?_
            refine WC.ite rfl (fun h22 => ?_) (fun h22 => ?_)
            ·refine sr_ ?_
             refine a_ rfl rfl ?_
             refine nt_ ?_
             refine WC.ret ?_
             refine DN.block_ret ?_
             refine DN.then_ret ?_
             refine DN.ret1 Try.results46 rfl ?_
             first | (exfalso; omega) | exact ⟨by congr 1; simp [nmS, nm, *], rfl⟩
            ·refine sr_ ?_
             refine WL.y rfl (Yd.eql rfl rfl) ?_
             refine a_ rfl rfl ?_
             refine nt_ ?_
             refine WC.ite rfl (fun h25 => ?_) (fun h25 => ?_)
             ·refine sr_ ?_
              refine a_ rfl rfl ?_
              refine nt_ ?_
              refine WC.ret ?_
              refine DN.block_ret ?_
              refine DN.then_ret ?_
              refine DN.ret1 Try.results46 rfl ?_
              first | (exfalso; omega) | exact ⟨by congr 1; simp [nmS, nm, *], rfl⟩
             ·refine WC.skip ?_
              refine DN.block_normal ?_
              refine ts_ ?_
              refine WC.region ?_
              refine a_ rfl rfl ?_
              refine nt_ ?_
              refine WC.ret ?_
              refine DN.ret1 Try.results46 rfl ?_
              first | (exfalso; omega) | exact ⟨by congr 1; simp [nmS, nm, *], rfl⟩
           ·refine WC.region ?_
            refine WL.y rfl (Yd.eql rfl rfl) ?_
            refine a_ rfl rfl ?_
            refine nt_ ?_
            refine WC.ite rfl (fun h22 => ?_) (fun h22 => ?_)
            ·refine sr_ ?_
             refine a_ rfl rfl ?_
             refine nt_ ?_
             refine WC.ret ?_
             refine DN.block_ret ?_
             refine DN.then_ret ?_
             refine DN.ret1 Try.results46 rfl ?_
             first | (exfalso; omega) | exact ⟨by congr 1; simp [nmS, nm, *], rfl⟩
            ·refine sr_ ?_
             refine WL.y rfl (Yd.eql rfl rfl) ?_
             refine a_ rfl rfl ?_
             refine nt_ ?_
             refine WC.ite rfl (fun h25 => ?_) (fun h25 => ?_)
             ·refine sr_ ?_
              refine a_ rfl rfl ?_
              refine nt_ ?_
              refine WC.ret ?_
              refine DN.block_ret ?_
              refine DN.then_ret ?_
              refine DN.ret1 Try.results46 rfl ?_
              first | (exfalso; omega) | exact ⟨by congr 1; simp [nmS, nm, *], rfl⟩
             ·refine WC.skip ?_
              refine DN.block_normal ?_
              refine ts_ ?_
              refine WC.region ?_
              refine a_ rfl rfl ?_
              refine nt_ ?_
              refine WC.ret ?_
              refine DN.ret1 Try.results46 rfl ?_
              first | (exfalso; omega) | exact ⟨by congr 1; simp [nmS, nm, *], rfl⟩
    ·refine WC.region ?_
     refine WL.y rfl (Yd.eql rfl rfl) ?_
     refine a_ rfl rfl ?_
     refine nt_ ?_
     refine WC.ite rfl (fun h9 => ?_) (fun h9 => ?_)
     ·refine sr_ ?_
      refine a_ rfl rfl ?_
      refine nt_ ?_
      refine WC.ret ?_
      refine DN.block_ret ?_
      refine DN.then_ret ?_
      refine DN.ret1 Try.results46 rfl ?_
      first | (exfalso; omega) | exact ⟨by congr 1; simp [nmS, nm, *], rfl⟩
     ·refine sr_ ?_
      refine WL.y rfl (Yd.eql rfl rfl) ?_
      refine a_ rfl rfl ?_
      refine nt_ ?_
      refine WC.ite rfl (fun h12 => ?_) (fun h12 => ?_)
      ·refine sr_ ?_
       refine a_ rfl rfl ?_
       refine nt_ ?_
       refine WC.ret ?_
       refine DN.block_ret ?_
       refine DN.then_ret ?_
       refine DN.ret1 Try.results46 rfl ?_
       first | (exfalso; omega) | exact ⟨by congr 1; simp [nmS, nm, *], rfl⟩
      ·refine sr_ ?_
       refine WL.y rfl (Yd.eql rfl rfl) ?_
       refine a_ rfl rfl ?_
       refine nt_ ?_
       refine WC.ite rfl (fun h14 => ?_) (fun h14 => ?_)
       ·refine sr_ ?_
        refine a_ rfl rfl ?_
        refine nt_ ?_
        refine WC.ret ?_
        refine DN.block_ret ?_
        refine DN.then_ret ?_
        refine DN.ret1 Try.results46 rfl ?_
        first | (exfalso; omega) | exact ⟨by congr 1; simp [nmS, nm, *], rfl⟩
       ·refine sr_ ?_
        refine WL.y rfl (Yd.eql rfl rfl) ?_
        refine a_ rfl rfl ?_
        refine nt_ ?_
        refine WC.ite rfl (fun h16 => ?_) (fun h16 => ?_)
        ·refine sr_ ?_
         refine a_ rfl rfl ?_
         refine nt_ ?_
         refine WC.ret ?_
         refine DN.block_ret ?_
         refine DN.then_ret ?_
         refine DN.ret1 Try.results46 rfl ?_
         first | (exfalso; omega) | exact ⟨by congr 1; simp [nmS, nm, *], rfl⟩
        ·refine sr_ ?_
         refine WL.y rfl (Yd.eql rfl rfl) ?_
         refine a_ rfl rfl ?_
         refine nt_ ?_
         refine WC.ite rfl (fun h18 => ?_) (fun h18 => ?_)
         ·refine sr_ ?_
          refine a_ rfl rfl ?_
          refine nt_ ?_
          refine WC.ret ?_
          refine DN.block_ret ?_
          refine DN.then_ret ?_
          refine DN.ret1 Try.results46 rfl ?_
          first | (exfalso; omega) | exact ⟨by congr 1; simp [nmS, nm, *], rfl⟩
         ·refine sr_ ?_
          refine WL.y rfl (Yd.eql rfl rfl) ?_
          refine a_ rfl rfl ?_
          refine nt_ ?_
          refine WC.ite rfl (fun h20 => ?_) (fun h20 => ?_)
          ·refine sr_ ?_
           refine a_ rfl rfl ?_
           refine nt_ ?_
           refine WC.ret ?_
           refine DN.block_ret ?_
           refine DN.then_ret ?_
           refine DN.ret1 Try.results46 rfl ?_
           first | (exfalso; omega) | exact ⟨by congr 1; simp [nmS, nm, *], rfl⟩
          ·refine WC.seq ?_
           refine sr_ ?_
           refine WL.y rfl (Yd.eql rfl rfl) ?_
           refine a_ rfl rfl ?_
           refine nt_ ?_
           refine WC.ite rfl (fun h22 => ?_) (fun h22 => ?_)
           ·refine WC.skip ?_
            refine DN.then_normal ?_
            refine WC.ite rfl (fun h22 => ?_) (fun h22 => ?_)
            ·refine sr_ ?_
             refine a_ rfl rfl ?_
             refine nt_ ?_
             refine WC.ret ?_
             refine DN.block_ret ?_
             refine DN.then_ret ?_
             refine DN.ret1 Try.results46 rfl ?_
             first | (exfalso; omega) | exact ⟨by congr 1; simp [nmS, nm, *], rfl⟩
            ·refine sr_ ?_
             refine WL.y rfl (Yd.eql rfl rfl) ?_
             refine a_ rfl rfl ?_
             refine nt_ ?_
             refine WC.ite rfl (fun h25 => ?_) (fun h25 => ?_)
             ·refine sr_ ?_
              refine a_ rfl rfl ?_
              refine nt_ ?_
              refine WC.ret ?_
              refine DN.block_ret ?_
              refine DN.then_ret ?_
              refine DN.ret1 Try.results46 rfl ?_
              first | (exfalso; omega) | exact ⟨by congr 1; simp [nmS, nm, *], rfl⟩
             ·refine WC.skip ?_
              refine DN.block_normal ?_
              refine ts_ ?_
              refine WC.region ?_
              refine a_ rfl rfl ?_
              refine nt_ ?_
              refine WC.ret ?_
              refine DN.ret1 Try.results46 rfl ?_
              first | (exfalso; omega) | exact ⟨by congr 1; simp [nmS, nm, *], rfl⟩
           ·refine WC.region ?_
            refine WL.y rfl (Yd.eql rfl rfl) ?_
            refine a_ rfl rfl ?_
            refine nt_ ?_
            refine WC.ite rfl (fun h22 => ?_) (fun h22 => ?_)
            ·refine sr_ ?_
             refine a_ rfl rfl ?_
             refine nt_ ?_
             refine WC.ret ?_
             refine DN.block_ret ?_
             refine DN.then_ret ?_
             refine DN.ret1 Try.results46 rfl ?_
             first | (exfalso; omega) | exact ⟨by congr 1; simp [nmS, nm, *], rfl⟩
            ·refine sr_ ?_
             refine WL.y rfl (Yd.eql rfl rfl) ?_
             refine a_ rfl rfl ?_
             refine nt_ ?_
             refine WC.ite rfl (fun h25 => ?_) (fun h25 => ?_)
             ·refine sr_ ?_
              refine a_ rfl rfl ?_
              refine nt_ ?_
              refine WC.ret ?_
              refine DN.block_ret ?_
              refine DN.then_ret ?_
              refine DN.ret1 Try.results46 rfl ?_
              first | (exfalso; omega) | exact ⟨by congr 1; simp [nmS, nm, *], rfl⟩
             ·refine WC.skip ?_
              refine DN.block_normal ?_
              refine ts_ ?_
              refine WC.region ?_
              refine a_ rfl rfl ?_
              refine nt_ ?_
              refine WC.ret ?_
              refine DN.ret1 Try.results46 rfl ?_
              first | (exfalso; omega) | exact ⟨by congr 1; simp [nmS, nm, *], rfl⟩
  ·refine WC.region ?_
   refine WL.y rfl (Yd.eql rfl rfl) ?_
   refine a_ rfl rfl ?_
   refine nt_ ?_
   refine WC.ite rfl (fun h6 => ?_) (fun h6 => ?_)
   ·refine sr_ ?_
    refine a_ rfl rfl ?_
    refine nt_ ?_
    refine WC.ret ?_
    refine DN.block_ret ?_
    refine DN.then_ret ?_
    refine DN.ret1 Try.results46 rfl ?_
    first | (exfalso; omega) | exact ⟨by congr 1; simp [nmS, nm, *], rfl⟩
   ·refine WC.seq ?_
    refine sr_ ?_
    refine WL.y rfl (Yd.eql rfl rfl) ?_
    refine a_ rfl rfl ?_
    refine nt_ ?_
    refine WC.ite rfl (fun h9 => ?_) (fun h9 => ?_)
    ·refine WC.skip ?_
     refine DN.then_normal ?_
     refine WC.ite rfl (fun h9 => ?_) (fun h9 => ?_)
     ·refine sr_ ?_
      refine a_ rfl rfl ?_
      refine nt_ ?_
      refine WC.ret ?_
      refine DN.block_ret ?_
      refine DN.then_ret ?_
      refine DN.ret1 Try.results46 rfl ?_
      first | (exfalso; omega) | exact ⟨by congr 1; simp [nmS, nm, *], rfl⟩
     ·refine sr_ ?_
      refine WL.y rfl (Yd.eql rfl rfl) ?_
      refine a_ rfl rfl ?_
      refine nt_ ?_
      refine WC.ite rfl (fun h12 => ?_) (fun h12 => ?_)
      ·refine sr_ ?_
       refine a_ rfl rfl ?_
       refine nt_ ?_
       refine WC.ret ?_
       refine DN.block_ret ?_
       refine DN.then_ret ?_
       refine DN.ret1 Try.results46 rfl ?_
       first | (exfalso; omega) | exact ⟨by congr 1; simp [nmS, nm, *], rfl⟩
      ·refine sr_ ?_
       refine WL.y rfl (Yd.eql rfl rfl) ?_
       refine a_ rfl rfl ?_
       refine nt_ ?_
       refine WC.ite rfl (fun h14 => ?_) (fun h14 => ?_)
       ·refine sr_ ?_
        refine a_ rfl rfl ?_
        refine nt_ ?_
        refine WC.ret ?_
        refine DN.block_ret ?_
        refine DN.then_ret ?_
        refine DN.ret1 Try.results46 rfl ?_
        first | (exfalso; omega) | exact ⟨by congr 1; simp [nmS, nm, *], rfl⟩
       ·refine sr_ ?_
        refine WL.y rfl (Yd.eql rfl rfl) ?_
        refine a_ rfl rfl ?_
        refine nt_ ?_
        refine WC.ite rfl (fun h16 => ?_) (fun h16 => ?_)
        ·refine sr_ ?_
         refine a_ rfl rfl ?_
         refine nt_ ?_
         refine WC.ret ?_
         refine DN.block_ret ?_
         refine DN.then_ret ?_
         refine DN.ret1 Try.results46 rfl ?_
         first | (exfalso; omega) | exact ⟨by congr 1; simp [nmS, nm, *], rfl⟩
        ·refine sr_ ?_
         refine WL.y rfl (Yd.eql rfl rfl) ?_
         refine a_ rfl rfl ?_
         refine nt_ ?_
         refine WC.ite rfl (fun h18 => ?_) (fun h18 => ?_)
         ·refine sr_ ?_
          refine a_ rfl rfl ?_
          refine nt_ ?_
          refine WC.ret ?_
          refine DN.block_ret ?_
          refine DN.then_ret ?_
          refine DN.ret1 Try.results46 rfl ?_
          first | (exfalso; omega) | exact ⟨by congr 1; simp [nmS, nm, *], rfl⟩
         ·refine sr_ ?_
          refine WL.y rfl (Yd.eql rfl rfl) ?_
          refine a_ rfl rfl ?_
          refine nt_ ?_
          refine WC.ite rfl (fun h20 => ?_) (fun h20 => ?_)
          ·refine sr_ ?_
           refine a_ rfl rfl ?_
           refine nt_ ?_
           refine WC.ret ?_
           refine DN.block_ret ?_
           refine DN.then_ret ?_
           refine DN.ret1 Try.results46 rfl ?_
           first | (exfalso; omega) | exact ⟨by congr 1; simp [nmS, nm, *], rfl⟩
          ·refine WC.seq ?_
           refine sr_ ?_
           refine WL.y rfl (Yd.eql rfl rfl) ?_
           refine a_ rfl rfl ?_
           refine nt_ ?_
           refine WC.ite rfl (fun h22 => ?_) (fun h22 => ?_)
           ·refine WC.skip ?_
            refine DN.then_normal ?_
            refine WC.ite rfl (fun h22 => ?_) (fun h22 => ?_)
            ·refine sr_ ?_
             refine a_ rfl rfl ?_
             refine nt_ ?_
             refine WC.ret ?_
             refine DN.block_ret ?_
             refine DN.then_ret ?_
             refine DN.ret1 Try.results46 rfl ?_
             first | (exfalso; omega) | exact ⟨by congr 1; simp [nmS, nm, *], rfl⟩
            ·refine sr_ ?_
             refine WL.y rfl (Yd.eql rfl rfl) ?_
             refine a_ rfl rfl ?_
             refine nt_ ?_
             refine WC.ite rfl (fun h25 => ?_) (fun h25 => ?_)
             ·refine sr_ ?_
              refine a_ rfl rfl ?_
              refine nt_ ?_
              refine WC.ret ?_
              refine DN.block_ret ?_
              refine DN.then_ret ?_
              refine DN.ret1 Try.results46 rfl ?_
              first | (exfalso; omega) | exact ⟨by congr 1; simp [nmS, nm, *], rfl⟩
             ·refine WC.skip ?_
              refine DN.block_normal ?_
              refine ts_ ?_
              refine WC.region ?_
              refine a_ rfl rfl ?_
              refine nt_ ?_
              refine WC.ret ?_
              refine DN.ret1 Try.results46 rfl ?_
              first | (exfalso; omega) | exact ⟨by congr 1; simp [nmS, nm, *], rfl⟩
           ·refine WC.region ?_
            refine WL.y rfl (Yd.eql rfl rfl) ?_
            refine a_ rfl rfl ?_
            refine nt_ ?_
            refine WC.ite rfl (fun h22 => ?_) (fun h22 => ?_)
            ·refine sr_ ?_
             refine a_ rfl rfl ?_
             refine nt_ ?_
             refine WC.ret ?_
             refine DN.block_ret ?_
             refine DN.then_ret ?_
             refine DN.ret1 Try.results46 rfl ?_
             first | (exfalso; omega) | exact ⟨by congr 1; simp [nmS, nm, *], rfl⟩
            ·refine sr_ ?_
             refine WL.y rfl (Yd.eql rfl rfl) ?_
             refine a_ rfl rfl ?_
             refine nt_ ?_
             refine WC.ite rfl (fun h25 => ?_) (fun h25 => ?_)
             ·refine sr_ ?_
              refine a_ rfl rfl ?_
              refine nt_ ?_
              refine WC.ret ?_
              refine DN.block_ret ?_
              refine DN.then_ret ?_
              refine DN.ret1 Try.results46 rfl ?_
              first | (exfalso; omega) | exact ⟨by congr 1; simp [nmS, nm, *], rfl⟩
             ·refine WC.skip ?_
              refine DN.block_normal ?_
              refine ts_ ?_
              refine WC.region ?_
              refine a_ rfl rfl ?_
              refine nt_ ?_
              refine WC.ret ?_
              refine DN.ret1 Try.results46 rfl ?_
              first | (exfalso; omega) | exact ⟨by congr 1; simp [nmS, nm, *], rfl⟩
    ·refine WC.region ?_
     refine WL.y rfl (Yd.eql rfl rfl) ?_
     refine a_ rfl rfl ?_
     refine nt_ ?_
     refine WC.ite rfl (fun h9 => ?_) (fun h9 => ?_)
     ·refine sr_ ?_
      refine a_ rfl rfl ?_
      refine nt_ ?_
      refine WC.ret ?_
      refine DN.block_ret ?_
      refine DN.then_ret ?_
      refine DN.ret1 Try.results46 rfl ?_
      first | (exfalso; omega) | exact ⟨by congr 1; simp [nmS, nm, *], rfl⟩
     ·refine sr_ ?_
      refine WL.y rfl (Yd.eql rfl rfl) ?_
      refine a_ rfl rfl ?_
      refine nt_ ?_
      refine WC.ite rfl (fun h12 => ?_) (fun h12 => ?_)
      ·refine sr_ ?_
       refine a_ rfl rfl ?_
       refine nt_ ?_
       refine WC.ret ?_
       refine DN.block_ret ?_
       refine DN.then_ret ?_
       refine DN.ret1 Try.results46 rfl ?_
       first | (exfalso; omega) | exact ⟨by congr 1; simp [nmS, nm, *], rfl⟩
      ·refine sr_ ?_
       refine WL.y rfl (Yd.eql rfl rfl) ?_
       refine a_ rfl rfl ?_
       refine nt_ ?_
       refine WC.ite rfl (fun h14 => ?_) (fun h14 => ?_)
       ·refine sr_ ?_
        refine a_ rfl rfl ?_
        refine nt_ ?_
        refine WC.ret ?_
        refine DN.block_ret ?_
        refine DN.then_ret ?_
        refine DN.ret1 Try.results46 rfl ?_
        first | (exfalso; omega) | exact ⟨by congr 1; simp [nmS, nm, *], rfl⟩
       ·refine sr_ ?_
        refine WL.y rfl (Yd.eql rfl rfl) ?_
        refine a_ rfl rfl ?_
        refine nt_ ?_
        refine WC.ite rfl (fun h16 => ?_) (fun h16 => ?_)
        ·refine sr_ ?_
         refine a_ rfl rfl ?_
         refine nt_ ?_
         refine WC.ret ?_
         refine DN.block_ret ?_
         refine DN.then_ret ?_
         refine DN.ret1 Try.results46 rfl ?_
         first | (exfalso; omega) | exact ⟨by congr 1; simp [nmS, nm, *], rfl⟩
        ·refine sr_ ?_
         refine WL.y rfl (Yd.eql rfl rfl) ?_
         refine a_ rfl rfl ?_
         refine nt_ ?_
         refine WC.ite rfl (fun h18 => ?_) (fun h18 => ?_)
         ·refine sr_ ?_
          refine a_ rfl rfl ?_
          refine nt_ ?_
          refine WC.ret ?_
          refine DN.block_ret ?_
          refine DN.then_ret ?_
          refine DN.ret1 Try.results46 rfl ?_
          first | (exfalso; omega) | exact ⟨by congr 1; simp [nmS, nm, *], rfl⟩
         ·refine sr_ ?_
          refine WL.y rfl (Yd.eql rfl rfl) ?_
          refine a_ rfl rfl ?_
          refine nt_ ?_
          refine WC.ite rfl (fun h20 => ?_) (fun h20 => ?_)
          ·refine sr_ ?_
           refine a_ rfl rfl ?_
           refine nt_ ?_
           refine WC.ret ?_
           refine DN.block_ret ?_
           refine DN.then_ret ?_
           refine DN.ret1 Try.results46 rfl ?_
           first | (exfalso; omega) | exact ⟨by congr 1; simp [nmS, nm, *], rfl⟩
          ·refine WC.seq ?_
           refine sr_ ?_
           refine WL.y rfl (Yd.eql rfl rfl) ?_
           refine a_ rfl rfl ?_
           refine nt_ ?_
           refine WC.ite rfl (fun h22 => ?_) (fun h22 => ?_)
           ·refine WC.skip ?_
            refine DN.then_normal ?_
            refine WC.ite rfl (fun h22 => ?_) (fun h22 => ?_)
            ·refine sr_ ?_
             refine a_ rfl rfl ?_
             refine nt_ ?_
             refine WC.ret ?_
             refine DN.block_ret ?_
             refine DN.then_ret ?_
             refine DN.ret1 Try.results46 rfl ?_
             first | (exfalso; omega) | exact ⟨by congr 1; simp [nmS, nm, *], rfl⟩
            ·refine sr_ ?_
             refine WL.y rfl (Yd.eql rfl rfl) ?_
             refine a_ rfl rfl ?_
             refine nt_ ?_
             refine WC.ite rfl (fun h25 => ?_) (fun h25 => ?_)
             ·refine sr_ ?_
              refine a_ rfl rfl ?_
              refine nt_ ?_
              refine WC.ret ?_
              refine DN.block_ret ?_
              refine DN.then_ret ?_
              refine DN.ret1 Try.results46 rfl ?_
              first | (exfalso; omega) | exact ⟨by congr 1; simp [nmS, nm, *], rfl⟩
             ·refine WC.skip ?_
              refine DN.block_normal ?_
              refine ts_ ?_
              refine WC.region ?_
              refine a_ rfl rfl ?_
              refine nt_ ?_
              refine WC.ret ?_
              refine DN.ret1 Try.results46 rfl ?_
              first | (exfalso; omega) | exact ⟨by congr 1; simp [nmS, nm, *], rfl⟩
           ·refine WC.region ?_
            refine WL.y rfl (Yd.eql rfl rfl) ?_
            refine a_ rfl rfl ?_
            refine nt_ ?_
            refine WC.ite rfl (fun h22 => ?_) (fun h22 => ?_)
            ·refine sr_ ?_
             refine a_ rfl rfl ?_
             refine nt_ ?_
             refine WC.ret ?_
             refine DN.block_ret ?_
             refine DN.then_ret ?_
             refine DN.ret1 Try.results46 rfl ?_
             first | (exfalso; omega) | exact ⟨by congr 1; simp [nmS, nm, *], rfl⟩
            ·refine sr_ ?_
             refine WL.y rfl (Yd.eql rfl rfl) ?_
             refine a_ rfl rfl ?_
             refine nt_ ?_
             refine WC.ite rfl (fun h25 => ?_) (fun h25 => ?_)
             ·refine sr_ ?_
              refine a_ rfl rfl ?_
              refine nt_ ?_
              refine WC.ret ?_
              refine DN.block_ret ?_
              refine DN.then_ret ?_
              refine DN.ret1 Try.results46 rfl ?_
              first | (exfalso; omega) | exact ⟨by congr 1; simp [nmS, nm, *], rfl⟩
             ·refine WC.skip ?_
              refine DN.block_normal ?_
              refine ts_ ?_
              refine WC.region ?_
              refine a_ rfl rfl ?_
              refine nt_ ?_
              refine WC.ret ?_
              refine DN.ret1 Try.results46 rfl ?_
              first | (exfalso; omega) | exact ⟨by congr 1; simp [nmS, nm, *], rfl⟩
theorem without_reads (n : Nt) (vk vd : Value) (c : Int) (h1 : vk.oneCell' = true) (h2 : vd.oneCell' = true) (H : List Ck) : Reads Try.prog 47 [.agg (ntc n vk vd).toArray, .int .i32 c] H (.agg (ntc (wo n c) (woK vk c) (woD vd c)).toArray) := by
 refine Tells.enter Try.func47 rfl Try.ntmps47 rfl ?_
 intro w0 R
 refine sr_ ?_
 refine WL.h rfl (Hd.boxA rfl fun b2 => ⟨_, rfl, ?_⟩)
 refine WL.h rfl (Hd.alloc (zs := [.int .i64 0, .int .u32 0, .int .u32 0, .int .u64 0, .int .u64 0, .int .u32 0, .int .i64 0, .bool false, .int .i64 0, .slice none 0 0, .slice none 0 0]) kr_ fun b4 => ⟨_, rfl, ?_⟩)
 refine nt_ ?_
 refine WC.seq ?_
 refine sr_ ?_
 refine m_ rfl rfl ?_
 refine nt_ ?_
 refine WC.block ?_
 refine sr_ ?_
 refine WL.y rfl (Yd.eql rfl rfl) ?_
 refine a_ rfl rfl ?_
 refine nt_ ?_
 refine WC.ite rfl (fun h6 => ?_) (fun h6 => ?_)
 ·refine WC.region ?_
  refine f_ 1 kr_ rfl rfl ?_
  refine WL.s (Hd.store1s kr_ rfl rfl (by rfl) fr_ (by rfl) (by first | (simp only [List.set_cons_zero, List.set_cons_succ, Nat.zero_add, Nat.add_zero, Nat.reduceAdd]; rfl) | rfl) ⟨rfl, ?_⟩)
  refine WL.nil ?_
  refine DN.block_normal ?_
  refine ts_ ?_
  refine WC.region ?_
  refine WL.h rfl (Hd.loadAll (n := 11) kr_ rfl mem_ (by rfl) ⟨_, rfl, ?_⟩)
  refine WL.s (Hd.storeAll (n := 11) kr_ rfl rfl (by rfl) one_ fr_ (by rfl) ⟨rfl, ?_⟩)
  refine nt_ ?_
  refine WC.ret ?_
  refine DN.retCF (s := 11) H Try.results47 kr_ rfl List.mem_cons_self (by rfl) ((List.sublist_cons_self _ _).trans (List.sublist_cons_self _ _)) ?_
  exact ⟨by simp [wo, woK, woD, ntc, *], rfl⟩
 ·refine sr_ ?_
  refine WL.y rfl (Yd.eql rfl rfl) ?_
  refine a_ rfl rfl ?_
  refine nt_ ?_
  refine WC.ite rfl (fun h9 => ?_) (fun h9 => ?_)
  ·refine WC.region ?_
   refine f_ 2 kr_ rfl rfl ?_
   refine WL.s (Hd.store1s kr_ rfl rfl (by rfl) fr_ (by rfl) (by first | (simp only [List.set_cons_zero, List.set_cons_succ, Nat.zero_add, Nat.add_zero, Nat.reduceAdd]; rfl) | rfl) ⟨rfl, ?_⟩)
   refine WL.nil ?_
   refine DN.block_normal ?_
   refine ts_ ?_
   refine WC.region ?_
   refine WL.h rfl (Hd.loadAll (n := 11) kr_ rfl mem_ (by rfl) ⟨_, rfl, ?_⟩)
   refine WL.s (Hd.storeAll (n := 11) kr_ rfl rfl (by rfl) one_ fr_ (by rfl) ⟨rfl, ?_⟩)
   refine nt_ ?_
   refine WC.ret ?_
   refine DN.retCF (s := 11) H Try.results47 kr_ rfl List.mem_cons_self (by rfl) ((List.sublist_cons_self _ _).trans (List.sublist_cons_self _ _)) ?_
   exact ⟨by simp [wo, woK, woD, ntc, *], rfl⟩
  ·refine sr_ ?_
   refine WL.y rfl (Yd.eql rfl rfl) ?_
   refine a_ rfl rfl ?_
   refine nt_ ?_
   refine WC.ite rfl (fun h12 => ?_) (fun h12 => ?_)
   ·refine WC.region ?_
    refine f_ 3 kr_ rfl rfl ?_
    refine WL.s (Hd.store1s kr_ rfl rfl (by rfl) fr_ (by rfl) (by first | (simp only [List.set_cons_zero, List.set_cons_succ, Nat.zero_add, Nat.add_zero, Nat.reduceAdd]; rfl) | rfl) ⟨rfl, ?_⟩)
    refine WL.nil ?_
    refine DN.block_normal ?_
    refine ts_ ?_
    refine WC.region ?_
    refine WL.h rfl (Hd.loadAll (n := 11) kr_ rfl mem_ (by rfl) ⟨_, rfl, ?_⟩)
    refine WL.s (Hd.storeAll (n := 11) kr_ rfl rfl (by rfl) one_ fr_ (by rfl) ⟨rfl, ?_⟩)
    refine nt_ ?_
    refine WC.ret ?_
    refine DN.retCF (s := 11) H Try.results47 kr_ rfl List.mem_cons_self (by rfl) ((List.sublist_cons_self _ _).trans (List.sublist_cons_self _ _)) ?_
    exact ⟨by simp [wo, woK, woD, ntc, *], rfl⟩
   ·refine sr_ ?_
    refine WL.y rfl (Yd.eql rfl rfl) ?_
    refine a_ rfl rfl ?_
    refine nt_ ?_
    refine WC.ite rfl (fun h15 => ?_) (fun h15 => ?_)
    ·refine WC.region ?_
     refine f_ 4 kr_ rfl rfl ?_
     refine WL.s (Hd.store1s kr_ rfl rfl (by rfl) fr_ (by rfl) (by first | (simp only [List.set_cons_zero, List.set_cons_succ, Nat.zero_add, Nat.add_zero, Nat.reduceAdd]; rfl) | rfl) ⟨rfl, ?_⟩)
     refine WL.nil ?_
     refine DN.block_normal ?_
     refine ts_ ?_
     refine WC.region ?_
     refine WL.h rfl (Hd.loadAll (n := 11) kr_ rfl mem_ (by rfl) ⟨_, rfl, ?_⟩)
     refine WL.s (Hd.storeAll (n := 11) kr_ rfl rfl (by rfl) one_ fr_ (by rfl) ⟨rfl, ?_⟩)
     refine nt_ ?_
     refine WC.ret ?_
     refine DN.retCF (s := 11) H Try.results47 kr_ rfl List.mem_cons_self (by rfl) ((List.sublist_cons_self _ _).trans (List.sublist_cons_self _ _)) ?_
     exact ⟨by simp [wo, woK, woD, ntc, *], rfl⟩
    ·refine sr_ ?_
     refine WL.y rfl (Yd.eql rfl rfl) ?_
     refine a_ rfl rfl ?_
     refine nt_ ?_
     refine WC.ite rfl (fun h18 => ?_) (fun h18 => ?_)
     ·refine WC.region ?_
      refine f_ 5 kr_ rfl rfl ?_
      refine WL.s (Hd.store1s kr_ rfl rfl (by rfl) fr_ (by rfl) (by first | (simp only [List.set_cons_zero, List.set_cons_succ, Nat.zero_add, Nat.add_zero, Nat.reduceAdd]; rfl) | rfl) ⟨rfl, ?_⟩)
      refine WL.nil ?_
      refine DN.block_normal ?_
      refine ts_ ?_
      refine WC.region ?_
      refine WL.h rfl (Hd.loadAll (n := 11) kr_ rfl mem_ (by rfl) ⟨_, rfl, ?_⟩)
      refine WL.s (Hd.storeAll (n := 11) kr_ rfl rfl (by rfl) one_ fr_ (by rfl) ⟨rfl, ?_⟩)
      refine nt_ ?_
      refine WC.ret ?_
      refine DN.retCF (s := 11) H Try.results47 kr_ rfl List.mem_cons_self (by rfl) ((List.sublist_cons_self _ _).trans (List.sublist_cons_self _ _)) ?_
      exact ⟨by simp [wo, woK, woD, ntc, *], rfl⟩
     ·refine sr_ ?_
      refine WL.y rfl (Yd.eql rfl rfl) ?_
      refine a_ rfl rfl ?_
      refine nt_ ?_
      refine WC.ite rfl (fun h21 => ?_) (fun h21 => ?_)
      ·refine WC.region ?_
       refine f_ 6 kr_ rfl rfl ?_
       refine WL.s (Hd.store1s kr_ rfl rfl (by rfl) fr_ (by rfl) (by first | (simp only [List.set_cons_zero, List.set_cons_succ, Nat.zero_add, Nat.add_zero, Nat.reduceAdd]; rfl) | rfl) ⟨rfl, ?_⟩)
       refine WL.nil ?_
       refine DN.block_normal ?_
       refine ts_ ?_
       refine WC.region ?_
       refine WL.h rfl (Hd.loadAll (n := 11) kr_ rfl mem_ (by rfl) ⟨_, rfl, ?_⟩)
       refine WL.s (Hd.storeAll (n := 11) kr_ rfl rfl (by rfl) one_ fr_ (by rfl) ⟨rfl, ?_⟩)
       refine nt_ ?_
       refine WC.ret ?_
       refine DN.retCF (s := 11) H Try.results47 kr_ rfl List.mem_cons_self (by rfl) ((List.sublist_cons_self _ _).trans (List.sublist_cons_self _ _)) ?_
       exact ⟨by simp [wo, woK, woD, ntc, *], rfl⟩
      ·refine sr_ ?_
       refine WL.y rfl (Yd.eql rfl rfl) ?_
       refine a_ rfl rfl ?_
       refine nt_ ?_
       refine WC.ite rfl (fun h24 => ?_) (fun h24 => ?_)
       ·refine WC.region ?_
        refine f_ 7 kr_ rfl rfl ?_
        refine WL.s (Hd.store1s kr_ rfl rfl (by rfl) fr_ (by rfl) (by first | (simp only [List.set_cons_zero, List.set_cons_succ, Nat.zero_add, Nat.add_zero, Nat.reduceAdd]; rfl) | rfl) ⟨rfl, ?_⟩)
        refine WL.nil ?_
        refine DN.block_normal ?_
        refine ts_ ?_
        refine WC.region ?_
        refine WL.h rfl (Hd.loadAll (n := 11) kr_ rfl mem_ (by rfl) ⟨_, rfl, ?_⟩)
        refine WL.s (Hd.storeAll (n := 11) kr_ rfl rfl (by rfl) one_ fr_ (by rfl) ⟨rfl, ?_⟩)
        refine nt_ ?_
        refine WC.ret ?_
        refine DN.retCF (s := 11) H Try.results47 kr_ rfl List.mem_cons_self (by rfl) ((List.sublist_cons_self _ _).trans (List.sublist_cons_self _ _)) ?_
        exact ⟨by simp [wo, woK, woD, ntc, *], rfl⟩
       ·refine sr_ ?_
        refine WL.y rfl (Yd.eql rfl rfl) ?_
        refine a_ rfl rfl ?_
        refine nt_ ?_
        refine WC.ite rfl (fun h27 => ?_) (fun h27 => ?_)
        ·refine WC.region ?_
         refine f_ 8 kr_ rfl rfl ?_
         refine WL.s (Hd.store1s kr_ rfl rfl (by rfl) fr_ (by rfl) (by first | (simp only [List.set_cons_zero, List.set_cons_succ, Nat.zero_add, Nat.add_zero, Nat.reduceAdd]; rfl) | rfl) ⟨rfl, ?_⟩)
         refine WL.nil ?_
         refine DN.block_normal ?_
         refine ts_ ?_
         refine WC.region ?_
         refine WL.h rfl (Hd.loadAll (n := 11) kr_ rfl mem_ (by rfl) ⟨_, rfl, ?_⟩)
         refine WL.s (Hd.storeAll (n := 11) kr_ rfl rfl (by rfl) one_ fr_ (by rfl) ⟨rfl, ?_⟩)
         refine nt_ ?_
         refine WC.ret ?_
         refine DN.retCF (s := 11) H Try.results47 kr_ rfl List.mem_cons_self (by rfl) ((List.sublist_cons_self _ _).trans (List.sublist_cons_self _ _)) ?_
         exact ⟨by simp [wo, woK, woD, ntc, *], rfl⟩
        ·refine sr_ ?_
         refine WL.y rfl (Yd.eql rfl rfl) ?_
         refine a_ rfl rfl ?_
         refine nt_ ?_
         refine WC.ite rfl (fun h30 => ?_) (fun h30 => ?_)
         ·refine WC.region ?_
          refine f_ 9 kr_ rfl rfl ?_
          refine WL.s (Hd.store1s kr_ rfl rfl (by rfl) fr_ (by rfl) (by first | (simp only [List.set_cons_zero, List.set_cons_succ, Nat.zero_add, Nat.add_zero, Nat.reduceAdd]; rfl) | rfl) ⟨rfl, ?_⟩)
          refine WL.nil ?_
          refine DN.block_normal ?_
          refine ts_ ?_
          refine WC.region ?_
          refine WL.h rfl (Hd.loadAll (n := 11) kr_ rfl mem_ (by rfl) ⟨_, rfl, ?_⟩)
          refine WL.s (Hd.storeAll (n := 11) kr_ rfl rfl (by rfl) one_ fr_ (by rfl) ⟨rfl, ?_⟩)
          refine nt_ ?_
          refine WC.ret ?_
          refine DN.retCF (s := 11) H Try.results47 kr_ rfl List.mem_cons_self (by rfl) ((List.sublist_cons_self _ _).trans (List.sublist_cons_self _ _)) ?_
          exact ⟨by simp [wo, woK, woD, ntc, *], rfl⟩
         ·refine sr_ ?_
          refine WL.y rfl (Yd.eql rfl rfl) ?_
          refine a_ rfl rfl ?_
          refine nt_ ?_
          refine WC.ite rfl (fun h33 => ?_) (fun h33 => ?_)
          ·refine WC.region ?_
           refine f_ 10 kr_ rfl rfl ?_
           refine WL.s (Hd.store1s kr_ rfl rfl (by rfl) fr_ (by rfl) (by first | (simp only [List.set_cons_zero, List.set_cons_succ, Nat.zero_add, Nat.add_zero, Nat.reduceAdd]; rfl) | rfl) ⟨rfl, ?_⟩)
           refine WL.nil ?_
           refine DN.block_normal ?_
           refine ts_ ?_
           refine WC.region ?_
           refine WL.h rfl (Hd.loadAll (n := 11) kr_ rfl mem_ (by rfl) ⟨_, rfl, ?_⟩)
           refine WL.s (Hd.storeAll (n := 11) kr_ rfl rfl (by rfl) one_ fr_ (by rfl) ⟨rfl, ?_⟩)
           refine nt_ ?_
           refine WC.ret ?_
           refine DN.retCF (s := 11) H Try.results47 kr_ rfl List.mem_cons_self (by rfl) ((List.sublist_cons_self _ _).trans (List.sublist_cons_self _ _)) ?_
           exact ⟨by simp [wo, woK, woD, ntc, *], rfl⟩
          ·refine WC.skip ?_
           refine DN.block_normal ?_
           refine ts_ ?_
           refine WC.region ?_
           refine WL.h rfl (Hd.loadAll (n := 11) kr_ rfl mem_ (by rfl) ⟨_, rfl, ?_⟩)
           refine WL.s (Hd.storeAll (n := 11) kr_ rfl rfl (by rfl) one_ fr_ (by rfl) ⟨rfl, ?_⟩)
           refine nt_ ?_
           refine WC.ret ?_
           refine DN.retCF (s := 11) H Try.results47 kr_ rfl List.mem_cons_self (by rfl) ((List.sublist_cons_self _ _).trans (List.sublist_cons_self _ _)) ?_
           exact ⟨by simp [wo, woK, woD, ntc, *], rfl⟩
theorem check_reads (n : Nt) (vk vd : Value) (hk : IsSl vk n.key.length) (hd : IsSl vd n.data.length) (H : List Ck) : Reads Try.prog 30 [.agg (ntc n vk vd).toArray] H (.int .i64 (if noteBad n then 50 else 0)) := by
 refine Tells.enter Try.func30 rfl Try.ntmps30 rfl ?_
 intro w0 R
 obtain ⟨ko, kc, rfl⟩ := hk
 obtain ⟨eo, ec, rfl⟩ := hd
 refine sr_ ?_
 refine WL.h rfl (Hd.boxA rfl fun b1 => ⟨_, rfl, ?_⟩)
 refine a_ rfl rfl ?_
 refine ntsr_ ?_
 refine f_ 0 kr_ rfl rfl ?_
 refine d_ kr_ rfl mem_ (by rfl) rfl ?_
 refine WL.r rfl (Ent.func Try.call46 rfl) (names_reads n.kind _) ?_
 refine a_ rfl rfl ?_
 refine ntsr_ ?_
 refine WL.h rfl (Hd.loadAll (n := 11) kr_ rfl mem_ (by rfl) ⟨_, rfl, ?_⟩)
 refine WL.h rfl (Hd.alloc (zs := [.int .i64 0, .int .u32 0, .int .u32 0, .int .u64 0, .int .u64 0, .int .u32 0, .int .i64 0, .bool false, .int .i64 0, .slice none 0 0, .slice none 0 0]) kr_ fun b4 => ⟨_, rfl, ?_⟩)
 refine WL.s (Hd.storeAll (n := 11) kr_ rfl rfl (by rfl) one_ fr_ (by rfl) ⟨rfl, ?_⟩)
 refine nt_ ?_
 refine WC.seq ?_
 refine sr_ ?_
 refine m_ rfl rfl ?_
 refine WL.h rfl (Hd.rangeS kr_ rfl fun b14 => ⟨_, rfl, ?_⟩)
 refine nt_ ?_
 refine WC.block ?_
 refine WC.loopK (fun z : Nat × Value × Value => z.1 ≤ (nm n.kind).length ∧ IsSl z.2.1 (restTo n z.1).key.length ∧ IsSl z.2.2 (restTo n z.1).data.length) (fun z : Nat × Value × Value => []) (fun z : Nat × Value × Value => row b4 (ntc (restTo n z.1) z.2.1 z.2.2) 32 :: ⟨b14, .stringIter (nmS n.kind) z.1, true⟩ :: row b1 (ntc n (.slice ko n.key.length kc) (.slice eo n.data.length ec)) 32 :: H) (fun z : Nat × Value × Value => (nm n.kind).length - z.1) ((0, .slice ko n.key.length kc, .slice eo n.data.length ec)) (⟨Nat.zero_le _, ⟨_, _, rfl⟩, ⟨_, _, rfl⟩⟩) (sx_) (Sp.all sp_) ?_
 rintro ⟨i, vk, vd⟩ ⟨hi, hs1, hs2⟩
 simp only at hi hs1 hs2
 obtain ⟨mo, mc, rfl⟩ := hs1
 obtain ⟨oo, oc, rfl⟩ := hs2
 refine sr_ ?_
 refine WL.h rfl (Hd.nextS rfl fr_ (fun hlt => ⟨nmS_small n.kind i hlt, ⟨_, rfl, ?_⟩⟩) (fun hge => ⟨_, rfl, ?_⟩))
 ·rw [nmS_at _ _ hlt]
  rw [nmS_size] at hlt
  refine x_ rfl rfl rfl ?_
  refine nt_ ?_
  refine WC.seq ?_
  refine WC.yes rfl ?_
  refine WC.skip ?_
  refine DN.then_normal ?_
  refine WC.block ?_
  refine sr_ ?_
  refine x_ rfl rfl rfl ?_
  refine a_ rfl rfl ?_
  refine ntr_ ?_
  refine WL.h rfl (Hd.loadAll (n := 11) kr_ rfl mem_ (by rfl) ⟨_, rfl, ?_⟩)
  refine m_ rfl rfl ?_
  refine WL.r rfl (Ent.func Try.call47 rfl) (without_reads (restTo n i) (.slice mo _ mc) (.slice oo _ oc) _ rfl rfl _) ?_
  refine WL.s (Hd.storeAll (n := 11) kr_ rfl rfl (by rfl) (ntc_one (IsSl.woK (v := .slice mo (restTo n i).key.length mc) (n := restTo n i) ⟨_, _, rfl⟩ _).one (IsSl.woD (v := .slice oo (restTo n i).data.length oc) (n := restTo n i) ⟨_, _, rfl⟩ _).one) fr_ (by rfl) ⟨rfl, ?_⟩)
  refine WL.nil ?_
  refine DN.block_normal ?_
  have en := restTo_next n i hlt
  have hsl1 := IsSl.woK (v := .slice mo (restTo n i).key.length mc) (n := restTo n i) ⟨_, _, rfl⟩ ((nm n.kind).getD i 0 : Nat)
  have hsl2 := IsSl.woD (v := .slice oo (restTo n i).data.length oc) (n := restTo n i) ⟨_, _, rfl⟩ ((nm n.kind).getD i 0 : Nat)
  rw [← en] at hsl1 hsl2 ⊢
  exact DN.againK ((i + 1, _, _)) (⟨by show i + 1 ≤ (nm n.kind).length; omega, hsl1, hsl2⟩) (show (nm n.kind).length - (i + 1) < (nm n.kind).length - i by omega) (sx_) (Sp.all sp_)
 ·rw [nmS_size] at hge
  obtain rfl : i = (nm n.kind).length := by omega
  rw [show restTo n (nm n.kind).length = rest n from rfl]
  refine x_ rfl rfl rfl ?_
  refine nt_ ?_
  refine WC.seq ?_
  refine WC.no rfl ?_
  refine WC.exit ?_
  refine DN.then_exit ?_
  refine DN.then_exit ?_
  refine DN.block_exit ?_
  refine DN.then_normal ?_
  refine WC.cutK (fun z : Bool => z = moreB (rest n)) (fun z : Bool => [(7, .bool z)]) (fun z : Bool => row b4 (ntc (rest n) (.slice mo (rest n).key.length mc) (.slice oo (rest n).data.length oc)) 32 :: ⟨b14, .stringIter (nmS n.kind) (nm n.kind).length, true⟩ :: row b1 (ntc n (.slice ko n.key.length kc) (.slice eo n.data.length ec)) 32 :: H) ?_ ?_
  ·refine WC.region ?_
   refine f_ 1 kr_ rfl rfl ?_
   refine d_ kr_ rfl mem_ (by rfl) rfl ?_
   refine WL.y rfl (Yd.gtr rfl rfl) ?_
   refine m_ rfl rfl ?_
   refine WL.partP (t := 24) rfl (fun hg24 => ?_) (fun hg24 => ?_)
   ·iterate 3 refine gn_ 24 rfl rfl rfl rfl ?_
    refine WL.y rfl (Yd.pickT rfl rfl) ?_
    refine m_ rfl rfl ?_
    iterate 3 refine gn_ 29 rfl rfl rfl rfl ?_
    refine WL.y rfl (Yd.pickT rfl rfl) ?_
    refine m_ rfl rfl ?_
    iterate 3 refine gn_ 34 rfl rfl rfl rfl ?_
    refine WL.y rfl (Yd.pickT rfl rfl) ?_
    refine m_ rfl rfl ?_
    iterate 3 refine gn_ 39 rfl rfl rfl rfl ?_
    refine WL.y rfl (Yd.pickT rfl rfl) ?_
    refine m_ rfl rfl ?_
    iterate 3 refine gn_ 44 rfl rfl rfl rfl ?_
    refine WL.y rfl (Yd.pickT rfl rfl) ?_
    refine m_ rfl rfl ?_
    refine gn_ 49 rfl rfl rfl rfl ?_
    refine gn_ 49 rfl rfl rfl rfl ?_
    refine WL.y rfl (Yd.pickT rfl rfl) ?_
    refine m_ rfl rfl ?_
    iterate 3 refine gn_ 53 rfl rfl rfl rfl ?_
    refine WL.y rfl (Yd.pickT rfl rfl) ?_
    refine m_ rfl rfl ?_
    iterate 4 refine gn_ 58 rfl rfl rfl rfl ?_
    refine WL.y rfl (Yd.pickT rfl rfl) ?_
    refine m_ rfl rfl ?_
    iterate 4 refine gn_ 64 rfl rfl rfl rfl ?_
    refine WL.y rfl (Yd.pickT rfl rfl) ?_
    refine a_ rfl rfl ?_
    refine WL.nil ?_
    exact DN.reachK (_) (by rw [Bool.eq_iff_iff]; simp only [moreB, Bool.or_eq_true, decide_eq_true_eq, true_iff]; first | omega | (simp only [*, Bool.false_eq_true, false_or, true_or, or_true]; omega) | (simp [*]; done) | (simp [*]; omega)) (Sx.put rfl (sx_)) (Sp.all sp_)
   ·refine gy_ 24 rfl rfl rfl (Yd.fieldAddr (k := 2) kr_ rfl) ?_
    refine WL.gh (dj := 24) rfl rfl rfl (Hd.load1 kr_ rfl mem_ (by rfl) ⟨_, rfl, ?_⟩)
    refine gy_ 24 rfl rfl rfl (Yd.gtr rfl rfl) ?_
    refine WL.y rfl (Yd.pickF rfl rfl) ?_
    refine m_ rfl rfl ?_
    refine WL.partP (t := 29) rfl (fun hg29 => ?_) (fun hg29 => ?_)
    ·iterate 3 refine gn_ 29 rfl rfl rfl rfl ?_
     refine WL.y rfl (Yd.pickT rfl rfl) ?_
     refine m_ rfl rfl ?_
     iterate 3 refine gn_ 34 rfl rfl rfl rfl ?_
     refine WL.y rfl (Yd.pickT rfl rfl) ?_
     refine m_ rfl rfl ?_
     iterate 3 refine gn_ 39 rfl rfl rfl rfl ?_
     refine WL.y rfl (Yd.pickT rfl rfl) ?_
     refine m_ rfl rfl ?_
     iterate 3 refine gn_ 44 rfl rfl rfl rfl ?_
     refine WL.y rfl (Yd.pickT rfl rfl) ?_
     refine m_ rfl rfl ?_
     refine gn_ 49 rfl rfl rfl rfl ?_
     refine gn_ 49 rfl rfl rfl rfl ?_
     refine WL.y rfl (Yd.pickT rfl rfl) ?_
     refine m_ rfl rfl ?_
     iterate 3 refine gn_ 53 rfl rfl rfl rfl ?_
     refine WL.y rfl (Yd.pickT rfl rfl) ?_
     refine m_ rfl rfl ?_
     iterate 4 refine gn_ 58 rfl rfl rfl rfl ?_
     refine WL.y rfl (Yd.pickT rfl rfl) ?_
     refine m_ rfl rfl ?_
     iterate 4 refine gn_ 64 rfl rfl rfl rfl ?_
     refine WL.y rfl (Yd.pickT rfl rfl) ?_
     refine a_ rfl rfl ?_
     refine WL.nil ?_
     exact DN.reachK (_) (by rw [Bool.eq_iff_iff]; simp only [moreB, Bool.or_eq_true, decide_eq_true_eq, true_iff]; first | omega | (simp only [*, Bool.false_eq_true, false_or, true_or, or_true]; omega) | (simp [*]; done) | (simp [*]; omega)) (Sx.put rfl (sx_)) (Sp.all sp_)
    ·refine gy_ 29 rfl rfl rfl (Yd.fieldAddr (k := 3) kr_ rfl) ?_
     refine WL.gh (dj := 29) rfl rfl rfl (Hd.load1 kr_ rfl mem_ (by rfl) ⟨_, rfl, ?_⟩)
     refine gy_ 29 rfl rfl rfl (Yd.gtr rfl rfl) ?_
     refine WL.y rfl (Yd.pickF rfl rfl) ?_
     refine m_ rfl rfl ?_
     refine WL.partP (t := 34) rfl (fun hg34 => ?_) (fun hg34 => ?_)
     ·iterate 3 refine gn_ 34 rfl rfl rfl rfl ?_
      refine WL.y rfl (Yd.pickT rfl rfl) ?_
      refine m_ rfl rfl ?_
      iterate 3 refine gn_ 39 rfl rfl rfl rfl ?_
      refine WL.y rfl (Yd.pickT rfl rfl) ?_
      refine m_ rfl rfl ?_
      iterate 3 refine gn_ 44 rfl rfl rfl rfl ?_
      refine WL.y rfl (Yd.pickT rfl rfl) ?_
      refine m_ rfl rfl ?_
      refine gn_ 49 rfl rfl rfl rfl ?_
      refine gn_ 49 rfl rfl rfl rfl ?_
      refine WL.y rfl (Yd.pickT rfl rfl) ?_
      refine m_ rfl rfl ?_
      iterate 3 refine gn_ 53 rfl rfl rfl rfl ?_
      refine WL.y rfl (Yd.pickT rfl rfl) ?_
      refine m_ rfl rfl ?_
      iterate 4 refine gn_ 58 rfl rfl rfl rfl ?_
      refine WL.y rfl (Yd.pickT rfl rfl) ?_
      refine m_ rfl rfl ?_
      iterate 4 refine gn_ 64 rfl rfl rfl rfl ?_
      refine WL.y rfl (Yd.pickT rfl rfl) ?_
      refine a_ rfl rfl ?_
      refine WL.nil ?_
      exact DN.reachK (_) (by rw [Bool.eq_iff_iff]; simp only [moreB, Bool.or_eq_true, decide_eq_true_eq, true_iff]; first | omega | (simp only [*, Bool.false_eq_true, false_or, true_or, or_true]; omega) | (simp [*]; done) | (simp [*]; omega)) (Sx.put rfl (sx_)) (Sp.all sp_)
     ·refine gy_ 34 rfl rfl rfl (Yd.fieldAddr (k := 4) kr_ rfl) ?_
      refine WL.gh (dj := 34) rfl rfl rfl (Hd.load1 kr_ rfl mem_ (by rfl) ⟨_, rfl, ?_⟩)
      refine gy_ 34 rfl rfl rfl (Yd.gtr rfl rfl) ?_
      refine WL.y rfl (Yd.pickF rfl rfl) ?_
      refine m_ rfl rfl ?_
      refine WL.partP (t := 39) rfl (fun hg39 => ?_) (fun hg39 => ?_)
      ·iterate 3 refine gn_ 39 rfl rfl rfl rfl ?_
       refine WL.y rfl (Yd.pickT rfl rfl) ?_
       refine m_ rfl rfl ?_
       iterate 3 refine gn_ 44 rfl rfl rfl rfl ?_
       refine WL.y rfl (Yd.pickT rfl rfl) ?_
       refine m_ rfl rfl ?_
       refine gn_ 49 rfl rfl rfl rfl ?_
       refine gn_ 49 rfl rfl rfl rfl ?_
       refine WL.y rfl (Yd.pickT rfl rfl) ?_
       refine m_ rfl rfl ?_
       iterate 3 refine gn_ 53 rfl rfl rfl rfl ?_
       refine WL.y rfl (Yd.pickT rfl rfl) ?_
       refine m_ rfl rfl ?_
       iterate 4 refine gn_ 58 rfl rfl rfl rfl ?_
       refine WL.y rfl (Yd.pickT rfl rfl) ?_
       refine m_ rfl rfl ?_
       iterate 4 refine gn_ 64 rfl rfl rfl rfl ?_
       refine WL.y rfl (Yd.pickT rfl rfl) ?_
       refine a_ rfl rfl ?_
       refine WL.nil ?_
       exact DN.reachK (_) (by rw [Bool.eq_iff_iff]; simp only [moreB, Bool.or_eq_true, decide_eq_true_eq, true_iff]; first | omega | (simp only [*, Bool.false_eq_true, false_or, true_or, or_true]; omega) | (simp [*]; done) | (simp [*]; omega)) (Sx.put rfl (sx_)) (Sp.all sp_)
      ·refine gy_ 39 rfl rfl rfl (Yd.fieldAddr (k := 5) kr_ rfl) ?_
       refine WL.gh (dj := 39) rfl rfl rfl (Hd.load1 kr_ rfl mem_ (by rfl) ⟨_, rfl, ?_⟩)
       refine gy_ 39 rfl rfl rfl (Yd.gtr rfl rfl) ?_
       refine WL.y rfl (Yd.pickF rfl rfl) ?_
       refine m_ rfl rfl ?_
       refine WL.partP (t := 44) rfl (fun hg44 => ?_) (fun hg44 => ?_)
       ·iterate 3 refine gn_ 44 rfl rfl rfl rfl ?_
        refine WL.y rfl (Yd.pickT rfl rfl) ?_
        refine m_ rfl rfl ?_
        refine gn_ 49 rfl rfl rfl rfl ?_
        refine gn_ 49 rfl rfl rfl rfl ?_
        refine WL.y rfl (Yd.pickT rfl rfl) ?_
        refine m_ rfl rfl ?_
        iterate 3 refine gn_ 53 rfl rfl rfl rfl ?_
        refine WL.y rfl (Yd.pickT rfl rfl) ?_
        refine m_ rfl rfl ?_
        iterate 4 refine gn_ 58 rfl rfl rfl rfl ?_
        refine WL.y rfl (Yd.pickT rfl rfl) ?_
        refine m_ rfl rfl ?_
        iterate 4 refine gn_ 64 rfl rfl rfl rfl ?_
        refine WL.y rfl (Yd.pickT rfl rfl) ?_
        refine a_ rfl rfl ?_
        refine WL.nil ?_
        exact DN.reachK (_) (by rw [Bool.eq_iff_iff]; simp only [moreB, Bool.or_eq_true, decide_eq_true_eq, true_iff]; first | omega | (simp only [*, Bool.false_eq_true, false_or, true_or, or_true]; omega) | (simp [*]; done) | (simp [*]; omega)) (Sx.put rfl (sx_)) (Sp.all sp_)
       ·refine gy_ 44 rfl rfl rfl (Yd.fieldAddr (k := 6) kr_ rfl) ?_
        refine WL.gh (dj := 44) rfl rfl rfl (Hd.load1 kr_ rfl mem_ (by rfl) ⟨_, rfl, ?_⟩)
        refine gy_ 44 rfl rfl rfl (Yd.neq rfl rfl) ?_
        refine WL.y rfl (Yd.pickF rfl rfl) ?_
        refine m_ rfl rfl ?_
        refine WL.partP (t := 49) rfl (fun hg49 => ?_) (fun hg49 => ?_)
        ·refine gn_ 49 rfl rfl rfl rfl ?_
         refine gn_ 49 rfl rfl rfl rfl ?_
         refine WL.y rfl (Yd.pickT rfl rfl) ?_
         refine m_ rfl rfl ?_
         iterate 3 refine gn_ 53 rfl rfl rfl rfl ?_
         refine WL.y rfl (Yd.pickT rfl rfl) ?_
         refine m_ rfl rfl ?_
         iterate 4 refine gn_ 58 rfl rfl rfl rfl ?_
         refine WL.y rfl (Yd.pickT rfl rfl) ?_
         refine m_ rfl rfl ?_
         iterate 4 refine gn_ 64 rfl rfl rfl rfl ?_
         refine WL.y rfl (Yd.pickT rfl rfl) ?_
         refine a_ rfl rfl ?_
         refine WL.nil ?_
         exact DN.reachK (_) (by rw [Bool.eq_iff_iff]; simp only [moreB, Bool.or_eq_true, decide_eq_true_eq, true_iff]; first | omega | (simp only [*, Bool.false_eq_true, false_or, true_or, or_true]; omega) | (simp [*]; done) | (simp [*]; omega)) (Sx.put rfl (sx_)) (Sp.all sp_)
        ·refine gy_ 49 rfl rfl rfl (Yd.fieldAddr (k := 7) kr_ rfl) ?_
         refine WL.gh (dj := 49) rfl rfl rfl (Hd.load1 kr_ rfl mem_ (by rfl) ⟨_, rfl, ?_⟩)
         refine WL.y rfl (Yd.pickF rfl rfl) ?_
         refine m_ rfl rfl ?_
         refine WL.part (t := 53) rfl (fun hg53 => ?_) (fun hg53 => ?_)
         ·iterate 3 refine gn_ 53 rfl rfl rfl rfl ?_
          refine WL.y rfl (Yd.pickT rfl rfl) ?_
          refine m_ rfl rfl ?_
          iterate 4 refine gn_ 58 rfl rfl rfl rfl ?_
          refine WL.y rfl (Yd.pickT rfl rfl) ?_
          refine m_ rfl rfl ?_
          iterate 4 refine gn_ 64 rfl rfl rfl rfl ?_
          refine WL.y rfl (Yd.pickT rfl rfl) ?_
          refine a_ rfl rfl ?_
          refine WL.nil ?_
          exact DN.reachK (_) (by rw [Bool.eq_iff_iff]; simp only [moreB, Bool.or_eq_true, decide_eq_true_eq, true_iff]; first | omega | (simp only [*, Bool.false_eq_true, false_or, true_or, or_true]; omega) | (simp [*]; done) | (simp [*]; omega)) (Sx.put rfl (sx_)) (Sp.all sp_)
         ·refine gy_ 53 rfl rfl rfl (Yd.fieldAddr (k := 8) kr_ rfl) ?_
          refine WL.gh (dj := 53) rfl rfl rfl (Hd.load1 kr_ rfl mem_ (by rfl) ⟨_, rfl, ?_⟩)
          refine gy_ 53 rfl rfl rfl (Yd.neq rfl rfl) ?_
          refine WL.y rfl (Yd.pickF rfl rfl) ?_
          refine m_ rfl rfl ?_
          refine WL.partP (t := 58) rfl (fun hg58 => ?_) (fun hg58 => ?_)
          ·iterate 4 refine gn_ 58 rfl rfl rfl rfl ?_
           refine WL.y rfl (Yd.pickT rfl rfl) ?_
           refine m_ rfl rfl ?_
           iterate 4 refine gn_ 64 rfl rfl rfl rfl ?_
           refine WL.y rfl (Yd.pickT rfl rfl) ?_
           refine a_ rfl rfl ?_
           refine WL.nil ?_
           exact DN.reachK (_) (by rw [Bool.eq_iff_iff]; simp only [moreB, Bool.or_eq_true, decide_eq_true_eq, true_iff]; first | omega | (simp only [*, Bool.false_eq_true, false_or, true_or, or_true]; omega) | (simp [*]; done) | (simp [*]; omega)) (Sx.put rfl (sx_)) (Sp.all sp_)
          ·refine gy_ 58 rfl rfl rfl (Yd.fieldAddr (k := 9) kr_ rfl) ?_
           refine WL.gh (dj := 58) rfl rfl rfl (Hd.load1 kr_ rfl mem_ (by rfl) ⟨_, rfl, ?_⟩)
           refine gy_ 58 rfl rfl rfl (Yd.len (e := 5) kr_ rfl) ?_
           refine gy_ 58 rfl rfl rfl (Yd.gtr rfl rfl) ?_
           refine WL.y rfl (Yd.pickF rfl rfl) ?_
           refine m_ rfl rfl ?_
           refine WL.partP (t := 64) rfl (fun hg64 => ?_) (fun hg64 => ?_)
           ·iterate 4 refine gn_ 64 rfl rfl rfl rfl ?_
            refine WL.y rfl (Yd.pickT rfl rfl) ?_
            refine a_ rfl rfl ?_
            refine WL.nil ?_
            exact DN.reachK (_) (by rw [Bool.eq_iff_iff]; simp only [moreB, Bool.or_eq_true, decide_eq_true_eq, true_iff]; first | omega | (simp only [*, Bool.false_eq_true, false_or, true_or, or_true]; omega) | (simp [*]; done) | (simp [*]; omega)) (Sx.put rfl (sx_)) (Sp.all sp_)
           ·refine gy_ 64 rfl rfl rfl (Yd.fieldAddr (k := 10) kr_ rfl) ?_
            refine WL.gh (dj := 64) rfl rfl rfl (Hd.load1 kr_ rfl mem_ (by rfl) ⟨_, rfl, ?_⟩)
            refine gy_ 64 rfl rfl rfl (Yd.len (e := 5) kr_ rfl) ?_
            refine gy_ 64 rfl rfl rfl (Yd.gtr rfl rfl) ?_
            refine WL.y rfl (Yd.pickF rfl rfl) ?_
            refine a_ rfl rfl ?_
            refine WL.nil ?_
            exact DN.reachK (_) (by rw [Bool.eq_iff_iff]; simp only [moreB, Bool.or_eq_true, decide_eq_true_eq, true_iff]; first | omega | (simp only [*, Bool.false_eq_true, false_or, true_or, or_true]; omega) | (simp [*]; done) | (simp [*]; omega)) (Sx.put rfl (sx_)) (Sp.all sp_)
  ·intro z7 hz7
   refine WC.cutK (fun z : Bool => z = farB n) (fun z : Bool => [(8, .bool z)]) (fun z : Bool => row b4 (ntc (rest n) (.slice mo (rest n).key.length mc) (.slice oo (rest n).data.length oc)) 32 :: ⟨b14, .stringIter (nmS n.kind) (nm n.kind).length, true⟩ :: row b1 (ntc n (.slice ko n.key.length kc) (.slice eo n.data.length ec)) 32 :: H) ?_ ?_
   ·refine WC.region ?_
    refine f_ 6 kr_ rfl rfl ?_
    refine d_ kr_ rfl mem_ (by rfl) rfl ?_
    refine WL.y rfl (Yd.lss rfl rfl) ?_
    refine m_ rfl rfl ?_
    refine WL.partP (t := 73) rfl (fun hg73 => ?_) (fun hg73 => ?_)
    ·iterate 3 refine gn_ 73 rfl rfl rfl rfl ?_
     refine WL.y rfl (Yd.pickT rfl rfl) ?_
     refine m_ rfl rfl ?_
     iterate 3 refine gn_ 78 rfl rfl rfl rfl ?_
     refine WL.y rfl (Yd.pickT rfl rfl) ?_
     refine m_ rfl rfl ?_
     iterate 3 refine gn_ 83 rfl rfl rfl rfl ?_
     refine WL.y rfl (Yd.pickT rfl rfl) ?_
     refine m_ rfl rfl ?_
     iterate 4 refine gn_ 88 rfl rfl rfl rfl ?_
     refine WL.y rfl (Yd.pickT rfl rfl) ?_
     refine m_ rfl rfl ?_
     iterate 4 refine gn_ 94 rfl rfl rfl rfl ?_
     refine WL.y rfl (Yd.pickT rfl rfl) ?_
     refine a_ rfl rfl ?_
     refine WL.nil ?_
     exact DN.reachK (_) (by rw [Bool.eq_iff_iff]; simp only [farB, Bool.or_eq_true, decide_eq_true_eq, true_iff]; omega) (Sx.put rfl (sx_)) (Sp.all sp_)
    ·refine gy_ 73 rfl rfl rfl (Yd.fieldAddr (k := 6) kr_ rfl) ?_
     refine WL.gh (dj := 73) rfl rfl rfl (Hd.load1 kr_ rfl mem_ (by rfl) ⟨_, rfl, ?_⟩)
     refine gy_ 73 rfl rfl rfl (Yd.geq rfl rfl) ?_
     refine WL.y rfl (Yd.pickF rfl rfl) ?_
     refine m_ rfl rfl ?_
     refine WL.partP (t := 78) rfl (fun hg78 => ?_) (fun hg78 => ?_)
     ·iterate 3 refine gn_ 78 rfl rfl rfl rfl ?_
      refine WL.y rfl (Yd.pickT rfl rfl) ?_
      refine m_ rfl rfl ?_
      iterate 3 refine gn_ 83 rfl rfl rfl rfl ?_
      refine WL.y rfl (Yd.pickT rfl rfl) ?_
      refine m_ rfl rfl ?_
      iterate 4 refine gn_ 88 rfl rfl rfl rfl ?_
      refine WL.y rfl (Yd.pickT rfl rfl) ?_
      refine m_ rfl rfl ?_
      iterate 4 refine gn_ 94 rfl rfl rfl rfl ?_
      refine WL.y rfl (Yd.pickT rfl rfl) ?_
      refine a_ rfl rfl ?_
      refine WL.nil ?_
      exact DN.reachK (_) (by rw [Bool.eq_iff_iff]; simp only [farB, Bool.or_eq_true, decide_eq_true_eq, true_iff]; omega) (Sx.put rfl (sx_)) (Sp.all sp_)
     ·refine gy_ 78 rfl rfl rfl (Yd.fieldAddr (k := 8) kr_ rfl) ?_
      refine WL.gh (dj := 78) rfl rfl rfl (Hd.load1 kr_ rfl mem_ (by rfl) ⟨_, rfl, ?_⟩)
      refine gy_ 78 rfl rfl rfl (Yd.lss rfl rfl) ?_
      refine WL.y rfl (Yd.pickF rfl rfl) ?_
      refine m_ rfl rfl ?_
      refine WL.partP (t := 83) rfl (fun hg83 => ?_) (fun hg83 => ?_)
      ·iterate 3 refine gn_ 83 rfl rfl rfl rfl ?_
       refine WL.y rfl (Yd.pickT rfl rfl) ?_
       refine m_ rfl rfl ?_
       iterate 4 refine gn_ 88 rfl rfl rfl rfl ?_
       refine WL.y rfl (Yd.pickT rfl rfl) ?_
       refine m_ rfl rfl ?_
       iterate 4 refine gn_ 94 rfl rfl rfl rfl ?_
       refine WL.y rfl (Yd.pickT rfl rfl) ?_
       refine a_ rfl rfl ?_
       refine WL.nil ?_
       exact DN.reachK (_) (by rw [Bool.eq_iff_iff]; simp only [farB, Bool.or_eq_true, decide_eq_true_eq, true_iff]; omega) (Sx.put rfl (sx_)) (Sp.all sp_)
      ·refine gy_ 83 rfl rfl rfl (Yd.fieldAddr (k := 8) kr_ rfl) ?_
       refine WL.gh (dj := 83) rfl rfl rfl (Hd.load1 kr_ rfl mem_ (by rfl) ⟨_, rfl, ?_⟩)
       refine gy_ 83 rfl rfl rfl (Yd.gtr rfl rfl) ?_
       refine WL.y rfl (Yd.pickF rfl rfl) ?_
       refine m_ rfl rfl ?_
       refine WL.partP (t := 88) rfl (fun hg88 => ?_) (fun hg88 => ?_)
       ·iterate 4 refine gn_ 88 rfl rfl rfl rfl ?_
        refine WL.y rfl (Yd.pickT rfl rfl) ?_
        refine m_ rfl rfl ?_
        iterate 4 refine gn_ 94 rfl rfl rfl rfl ?_
        refine WL.y rfl (Yd.pickT rfl rfl) ?_
        refine a_ rfl rfl ?_
        refine WL.nil ?_
        exact DN.reachK (_) (by rw [Bool.eq_iff_iff]; simp only [farB, Bool.or_eq_true, decide_eq_true_eq, true_iff]; omega) (Sx.put rfl (sx_)) (Sp.all sp_)
       ·refine gy_ 88 rfl rfl rfl (Yd.fieldAddr (k := 9) kr_ rfl) ?_
        refine WL.gh (dj := 88) rfl rfl rfl (Hd.load1 kr_ rfl mem_ (by rfl) ⟨_, rfl, ?_⟩)
        refine gy_ 88 rfl rfl rfl (Yd.len (e := 5) kr_ rfl) ?_
        refine gy_ 88 rfl rfl rfl (Yd.gtr rfl rfl) ?_
        refine WL.y rfl (Yd.pickF rfl rfl) ?_
        refine m_ rfl rfl ?_
        refine WL.partP (t := 94) rfl (fun hg94 => ?_) (fun hg94 => ?_)
        ·iterate 4 refine gn_ 94 rfl rfl rfl rfl ?_
         refine WL.y rfl (Yd.pickT rfl rfl) ?_
         refine a_ rfl rfl ?_
         refine WL.nil ?_
         exact DN.reachK (_) (by rw [Bool.eq_iff_iff]; simp only [farB, Bool.or_eq_true, decide_eq_true_eq, true_iff]; omega) (Sx.put rfl (sx_)) (Sp.all sp_)
        ·refine gy_ 94 rfl rfl rfl (Yd.fieldAddr (k := 10) kr_ rfl) ?_
         refine WL.gh (dj := 94) rfl rfl rfl (Hd.load1 kr_ rfl mem_ (by rfl) ⟨_, rfl, ?_⟩)
         refine gy_ 94 rfl rfl rfl (Yd.len (e := 5) kr_ rfl) ?_
         refine gy_ 94 rfl rfl rfl (Yd.gtr rfl rfl) ?_
         refine WL.y rfl (Yd.pickF rfl rfl) ?_
         refine a_ rfl rfl ?_
         refine WL.nil ?_
         exact DN.reachK (_) (by rw [Bool.eq_iff_iff]; simp only [farB, Bool.or_eq_true, decide_eq_true_eq, true_iff]; omega) (Sx.put rfl (sx_)) (Sp.all sp_)
   ·intro z8 hz8
    refine WC.seq ?_
    refine sr_ ?_
    refine m_ rfl rfl ?_
    refine WL.y rfl (Yd.eqlS rfl rfl) ?_
    refine m_ rfl rfl ?_
    refine WL.partP (t := 102) rfl (fun hg102 => ?_) (fun hg102 => ?_)
    ·refine gn_ 102 rfl rfl rfl rfl ?_
     refine WL.y rfl (Yd.pickT rfl rfl) ?_
     refine m_ rfl rfl ?_
     refine gn_ 105 rfl rfl rfl rfl ?_
     refine WL.y rfl (Yd.pickT rfl rfl) ?_
     refine m_ rfl rfl ?_
     iterate 4 refine gn_ 108 rfl rfl rfl rfl ?_
     iterate 3 refine gu_ 112 rfl rfl rfl ?_
     refine gn_ 108 rfl rfl rfl rfl ?_
     refine gn_ 108 rfl rfl rfl rfl ?_
     iterate 4 refine gu_ 117 rfl rfl rfl ?_
     refine gn_ 108 rfl rfl rfl rfl ?_
     refine WL.y rfl (Yd.pickT rfl rfl) ?_
     refine nt_ ?_
     refine WC.yes rfl ?_
     refine sr_ ?_
     refine a_ rfl rfl ?_
     refine nt_ ?_
     refine WC.ret ?_
     refine DN.then_ret ?_
     refine DN.fit (C := H) sp_ ?_
     refine DN.ret1 Try.results30 rfl ?_
     first
       | (have e : noteBad n = true := by
           simp only [noteBad, Bool.or_eq_true, Bool.and_eq_true, decide_eq_true_eq, ← hz7, ← hz8, ← nmS_empty]
           first | exact .inl hg102 | exact .inr (.inl hg105) | exact .inr (.inr (.inl hg108)) | exact .inr (.inr (.inr ⟨hg112, hg117, h123⟩))
          exact ⟨by rw [e]; rfl, rfl⟩)
       | (have e : noteBad n = false := by
           rw [Bool.eq_false_iff]
           intro h
           simp only [noteBad, Bool.or_eq_true, Bool.and_eq_true, decide_eq_true_eq, ← hz7, ← hz8, ← nmS_empty] at h
           rcases h with h | h | h | ⟨h1, h2, h3⟩
           · exact hg102 h
           · rw [hg105] at h; cases h
           · rw [hg108] at h; cases h
           · omega
          exact ⟨by rw [e]; rfl, rfl⟩)
    ·refine gy_ 102 rfl rfl rfl (Yd.move rfl) ?_
     refine WL.y rfl (Yd.pickF rfl rfl) ?_
     refine m_ rfl rfl ?_
     refine WL.part (t := 105) rfl (fun hg105 => ?_) (fun hg105 => ?_)
     ·refine gn_ 105 rfl rfl rfl rfl ?_
      refine WL.y rfl (Yd.pickT rfl rfl) ?_
      refine m_ rfl rfl ?_
      iterate 4 refine gn_ 108 rfl rfl rfl rfl ?_
      iterate 3 refine gu_ 112 rfl rfl rfl ?_
      refine gn_ 108 rfl rfl rfl rfl ?_
      refine gn_ 108 rfl rfl rfl rfl ?_
      iterate 4 refine gu_ 117 rfl rfl rfl ?_
      refine gn_ 108 rfl rfl rfl rfl ?_
      refine WL.y rfl (Yd.pickT rfl rfl) ?_
      refine nt_ ?_
      refine WC.yes rfl ?_
      refine sr_ ?_
      refine a_ rfl rfl ?_
      refine nt_ ?_
      refine WC.ret ?_
      refine DN.then_ret ?_
      refine DN.fit (C := H) sp_ ?_
      refine DN.ret1 Try.results30 rfl ?_
      first
        | (have e : noteBad n = true := by
            simp only [noteBad, Bool.or_eq_true, Bool.and_eq_true, decide_eq_true_eq, ← hz7, ← hz8, ← nmS_empty]
            first | exact .inl hg102 | exact .inr (.inl hg105) | exact .inr (.inr (.inl hg108)) | exact .inr (.inr (.inr ⟨hg112, hg117, h123⟩))
           exact ⟨by rw [e]; rfl, rfl⟩)
        | (have e : noteBad n = false := by
            rw [Bool.eq_false_iff]
            intro h
            simp only [noteBad, Bool.or_eq_true, Bool.and_eq_true, decide_eq_true_eq, ← hz7, ← hz8, ← nmS_empty] at h
            rcases h with h | h | h | ⟨h1, h2, h3⟩
            · exact hg102 h
            · rw [hg105] at h; cases h
            · rw [hg108] at h; cases h
            · omega
           exact ⟨by rw [e]; rfl, rfl⟩)
     ·refine gy_ 105 rfl rfl rfl (Yd.move rfl) ?_
      refine WL.y rfl (Yd.pickF rfl rfl) ?_
      refine m_ rfl rfl ?_
      refine WL.part (t := 108) rfl (fun hg108 => ?_) (fun hg108 => ?_)
      ·iterate 4 refine gn_ 108 rfl rfl rfl rfl ?_
       iterate 3 refine gu_ 112 rfl rfl rfl ?_
       refine gn_ 108 rfl rfl rfl rfl ?_
       refine gn_ 108 rfl rfl rfl rfl ?_
       iterate 4 refine gu_ 117 rfl rfl rfl ?_
       refine gn_ 108 rfl rfl rfl rfl ?_
       refine WL.y rfl (Yd.pickT rfl rfl) ?_
       refine nt_ ?_
       refine WC.yes rfl ?_
       refine sr_ ?_
       refine a_ rfl rfl ?_
       refine nt_ ?_
       refine WC.ret ?_
       refine DN.then_ret ?_
       refine DN.fit (C := H) sp_ ?_
       refine DN.ret1 Try.results30 rfl ?_
       first
         | (have e : noteBad n = true := by
             simp only [noteBad, Bool.or_eq_true, Bool.and_eq_true, decide_eq_true_eq, ← hz7, ← hz8, ← nmS_empty]
             first | exact .inl hg102 | exact .inr (.inl hg105) | exact .inr (.inr (.inl hg108)) | exact .inr (.inr (.inr ⟨hg112, hg117, h123⟩))
            exact ⟨by rw [e]; rfl, rfl⟩)
         | (have e : noteBad n = false := by
             rw [Bool.eq_false_iff]
             intro h
             simp only [noteBad, Bool.or_eq_true, Bool.and_eq_true, decide_eq_true_eq, ← hz7, ← hz8, ← nmS_empty] at h
             rcases h with h | h | h | ⟨h1, h2, h3⟩
             · exact hg102 h
             · rw [hg105] at h; cases h
             · rw [hg108] at h; cases h
             · omega
            exact ⟨by rw [e]; rfl, rfl⟩)
      ·refine gy_ 108 rfl rfl rfl (Yd.fieldAddr (k := 0) kr_ rfl) ?_
       refine WL.gh (dj := 108) rfl rfl rfl (Hd.load1 kr_ rfl mem_ (by rfl) ⟨_, rfl, ?_⟩)
       refine gy_ 108 rfl rfl rfl (Yd.geq rfl rfl) ?_
       refine gy_ 108 rfl rfl rfl (Yd.move rfl) ?_
       refine WL.partP (t := 112) rfl (fun hg112 => ?_) (fun hg112 => ?_)
       ·refine gy_ 112 rfl rfl rfl (Yd.fieldAddr (k := 0) kr_ rfl) ?_
        refine WL.gh (dj := 112) rfl rfl rfl (Hd.load1 kr_ rfl mem_ (by rfl) ⟨_, rfl, ?_⟩)
        refine gy_ 112 rfl rfl rfl (Yd.leq rfl rfl) ?_
        refine gy_ 108 rfl rfl rfl (Yd.pickT rfl rfl) ?_
        refine gy_ 108 rfl rfl rfl (Yd.move rfl) ?_
        refine WL.partP (t := 117) rfl (fun hg117 => ?_) (fun hg117 => ?_)
        ·refine gy_ 117 rfl rfl rfl (Yd.fieldAddr (k := 9) kr_ rfl) ?_
         refine WL.gh (dj := 117) rfl rfl rfl (Hd.load1 kr_ rfl mem_ (by rfl) ⟨_, rfl, ?_⟩)
         refine gy_ 117 rfl rfl rfl (Yd.len (e := 5) kr_ rfl) ?_
         refine gy_ 117 rfl rfl rfl (Yd.eql rfl rfl) ?_
         refine gy_ 108 rfl rfl rfl (Yd.pickT rfl rfl) ?_
         refine WL.y rfl (Yd.pickF rfl rfl) ?_
         refine nt_ ?_
         refine WC.ite rfl (fun h123 => ?_) (fun h123 => ?_)
         ·refine sr_ ?_
          refine a_ rfl rfl ?_
          refine nt_ ?_
          refine WC.ret ?_
          refine DN.then_ret ?_
          refine DN.fit (C := H) sp_ ?_
          refine DN.ret1 Try.results30 rfl ?_
          first
            | (have e : noteBad n = true := by
                simp only [noteBad, Bool.or_eq_true, Bool.and_eq_true, decide_eq_true_eq, ← hz7, ← hz8, ← nmS_empty]
                first | exact .inl hg102 | exact .inr (.inl hg105) | exact .inr (.inr (.inl hg108)) | exact .inr (.inr (.inr ⟨hg112, hg117, h123⟩))
               exact ⟨by rw [e]; rfl, rfl⟩)
            | (have e : noteBad n = false := by
                rw [Bool.eq_false_iff]
                intro h
                simp only [noteBad, Bool.or_eq_true, Bool.and_eq_true, decide_eq_true_eq, ← hz7, ← hz8, ← nmS_empty] at h
                rcases h with h | h | h | ⟨h1, h2, h3⟩
                · exact hg102 h
                · rw [hg105] at h; cases h
                · rw [hg108] at h; cases h
                · omega
               exact ⟨by rw [e]; rfl, rfl⟩)
         ·refine WC.skip ?_
          refine ts_ ?_
          refine WC.region ?_
          refine a_ rfl rfl ?_
          refine nt_ ?_
          refine WC.ret ?_
          refine DN.fit (C := H) sp_ ?_
          refine DN.ret1 Try.results30 rfl ?_
          first
            | (have e : noteBad n = true := by
                simp only [noteBad, Bool.or_eq_true, Bool.and_eq_true, decide_eq_true_eq, ← hz7, ← hz8, ← nmS_empty]
                first | exact .inl hg102 | exact .inr (.inl hg105) | exact .inr (.inr (.inl hg108)) | exact .inr (.inr (.inr ⟨hg112, hg117, h123⟩))
               exact ⟨by rw [e]; rfl, rfl⟩)
            | (have e : noteBad n = false := by
                rw [Bool.eq_false_iff]
                intro h
                simp only [noteBad, Bool.or_eq_true, Bool.and_eq_true, decide_eq_true_eq, ← hz7, ← hz8, ← nmS_empty] at h
                rcases h with h | h | h | ⟨h1, h2, h3⟩
                · exact hg102 h
                · rw [hg105] at h; cases h
                · rw [hg108] at h; cases h
                · omega
               exact ⟨by rw [e]; rfl, rfl⟩)
        ·iterate 4 refine gn_ 117 rfl rfl rfl rfl ?_
         refine gy_ 108 rfl rfl rfl (Yd.pickF rfl rfl) ?_
         refine WL.y rfl (Yd.pickF rfl rfl) ?_
         refine nt_ ?_
         refine WC.no rfl ?_
         refine WC.skip ?_
         refine ts_ ?_
         refine WC.region ?_
         refine a_ rfl rfl ?_
         refine nt_ ?_
         refine WC.ret ?_
         refine DN.fit (C := H) sp_ ?_
         refine DN.ret1 Try.results30 rfl ?_
         first
           | (have e : noteBad n = true := by
               simp only [noteBad, Bool.or_eq_true, Bool.and_eq_true, decide_eq_true_eq, ← hz7, ← hz8, ← nmS_empty]
               first | exact .inl hg102 | exact .inr (.inl hg105) | exact .inr (.inr (.inl hg108)) | exact .inr (.inr (.inr ⟨hg112, hg117, h123⟩))
              exact ⟨by rw [e]; rfl, rfl⟩)
           | (have e : noteBad n = false := by
               rw [Bool.eq_false_iff]
               intro h
               simp only [noteBad, Bool.or_eq_true, Bool.and_eq_true, decide_eq_true_eq, ← hz7, ← hz8, ← nmS_empty] at h
               rcases h with h | h | h | ⟨h1, h2, h3⟩
               · exact hg102 h
               · rw [hg105] at h; cases h
               · rw [hg108] at h; cases h
               · omega
              exact ⟨by rw [e]; rfl, rfl⟩)
       ·iterate 3 refine gn_ 112 rfl rfl rfl rfl ?_
        refine gy_ 108 rfl rfl rfl (Yd.pickF rfl rfl) ?_
        refine gy_ 108 rfl rfl rfl (Yd.move rfl) ?_
        iterate 4 refine gn_ 117 rfl rfl rfl rfl ?_
        refine gy_ 108 rfl rfl rfl (Yd.pickF rfl rfl) ?_
        refine WL.y rfl (Yd.pickF rfl rfl) ?_
        refine nt_ ?_
        refine WC.no rfl ?_
        refine WC.skip ?_
        refine ts_ ?_
        refine WC.region ?_
        refine a_ rfl rfl ?_
        refine nt_ ?_
        refine WC.ret ?_
        refine DN.fit (C := H) sp_ ?_
        refine DN.ret1 Try.results30 rfl ?_
        first
          | (have e : noteBad n = true := by
              simp only [noteBad, Bool.or_eq_true, Bool.and_eq_true, decide_eq_true_eq, ← hz7, ← hz8, ← nmS_empty]
              first | exact .inl hg102 | exact .inr (.inl hg105) | exact .inr (.inr (.inl hg108)) | exact .inr (.inr (.inr ⟨hg112, hg117, h123⟩))
             exact ⟨by rw [e]; rfl, rfl⟩)
          | (have e : noteBad n = false := by
              rw [Bool.eq_false_iff]
              intro h
              simp only [noteBad, Bool.or_eq_true, Bool.and_eq_true, decide_eq_true_eq, ← hz7, ← hz8, ← nmS_empty] at h
              rcases h with h | h | h | ⟨h1, h2, h3⟩
              · exact hg102 h
              · rw [hg105] at h; cases h
              · rw [hg108] at h; cases h
              · omega
             exact ⟨by rw [e]; rfl, rfl⟩)
end Go.Proofs.Ytgpegfmonmdhoaa

set_option linter.unusedVariables false
set_option linter.unusedSimpArgs false
set_option maxHeartbeats 4000000
namespace Go.Proofs.Ytgpegfmonmdhoaa
open Go.SL
theorem letter_reads (f t : Int) (n : BitVec 64) (H : List Ck) : Reads Try.prog 11 [.int .i64 f, .int .i64 t, .int .u64 n.toNat] H (.agg (ltc (ackL f t n) (.slice none 0 0) (.slice none 0 0)).toArray) := by
 refine Tells.enter Try.func11 rfl Try.ntmps11 rfl ?_
 intro w0 R
 refine sr_ ?_
 refine WL.h rfl (Hd.alloc (zs := [.int .i64 0, .int .i64 0, .int .i64 0, .int .u32 0, .int .u32 0, .int .u64 0, .int .u64 0, .int .u32 0, .int .i64 0, .bool false, .int .i64 0, .slice none 0 0, .slice none 0 0]) kr_ fun b6 => ⟨_, rfl, ?_⟩)
 refine ntsr_ ?_
 iterate 3 refine m_ rfl rfl ?_
 refine WL.y rfl (Yd.buildL (pl := [(0, 1), (1, 1), (2, 1), (3, 1), (4, 1), (5, 1), (6, 1), (7, 1), (8, 1), (9, 1), (10, 1)]) (zs := [.int .i64 0, .int .u32 0, .int .u32 0, .int .u64 0, .int .u64 0, .int .u32 0, .int .i64 0, .bool false, .int .i64 0, .slice none 0 0, .slice none 0 0]) (parts := [(0, .const (.int .i64 2)), (1, .const (.int .u32 1)), (3, .tmp 9)]) (vs := [(0, _), (1, _), (3, _)]) (cells := [_, _, .int .u32 0, _, .int .u64 0, .int .u32 0, .int .i64 0, .bool false, .int .i64 0, .slice none 0 0, .slice none 0 0]) kr_ kr_ rfl rfl) ?_
 refine WL.y rfl (Yd.buildL (pl := [(0, 1), (1, 1), (2, 11)]) (zs := [.int .i64 0, .int .i64 0, .int .i64 0, .int .u32 0, .int .u32 0, .int .u64 0, .int .u64 0, .int .u32 0, .int .i64 0, .bool false, .int .i64 0, .slice none 0 0, .slice none 0 0]) (parts := [(0, .tmp 7), (1, .tmp 8), (2, .tmp 10)]) (vs := [(0, _), (1, _), (2, _)]) (cells := [_, _, _, _, _, _, _, _, _, _, _, _, _]) kr_ kr_ rfl rfl) ?_
 refine WL.s (Hd.storeAll (n := 13) kr_ rfl rfl (by rfl) one_ fr_ (by rfl) ⟨rfl, ?_⟩)
 refine nt_ ?_
 refine WC.ret ?_
 refine DN.retCS (s := 13) (H) Try.results11 kr_ rfl mem_ (by rfl) sp_ ?_
 exact ⟨rfl, rfl⟩
theorem own_tells (L : Lt) (vk vd : Value) (H : List Ck) (hk : Bs vk L.n.key H) (hd : Bs vd L.n.data H) (bk : L.n.key.length ≤ 140737488355328) (bd : L.n.data.length ≤ 140737488355328) : Tells Try.prog 32 [.agg (ltc L vk vd).toArray] H fun r H' => ∃ vk' vd' A B, r = .agg (ltc L vk' vd').toArray ∧ Ob 5 vk' L.n.key A ∧ Ob 5 vd' L.n.data B ∧ H' = A ++ (B ++ H) := by
 refine Tells.enter Try.func32 rfl Try.ntmps32 rfl ?_
 intro w0 R
 obtain ⟨ko, kc, rfl, _⟩ := hk.form
 obtain ⟨eo, ec, rfl, _⟩ := hd.form
 refine sr_ ?_
 refine WL.h rfl (Hd.boxA rfl fun b1 => ⟨_, rfl, ?_⟩)
 refine WL.h rfl (Hd.alloc (zs := [.int .i64 0, .int .i64 0, .int .i64 0, .int .u32 0, .int .u32 0, .int .u64 0, .int .u64 0, .int .u32 0, .int .i64 0, .bool false, .int .i64 0, .slice none 0 0, .slice none 0 0]) kr_ fun b2 => ⟨_, rfl, ?_⟩)
 refine ntsr_ ?_
 refine WL.h rfl (Hd.buildBytes (e := 5) [] kr_ kr_ kr_ rfl rfl kr_ fun b3 => ⟨_, rfl, ?_⟩)
 refine f_ 2 kr_ rfl rfl ?_
 refine f_ 9 kr_ rfl rfl ?_
 refine d_ kr_ rfl mem_ (by rfl) rfl ?_
 refine WL.h rfl (Hd.appendBs (a := []) (b := L.n.key) (e := 5) (zs := [.int .u8 0]) kr_ kr_ rfl rfl rfl (Ob.block b3 [] (by decide)) sp_ (hk.mono gr_) (by simpa using bk) fun v7 A hA => ⟨_, rfl, ?_⟩)
 rw [List.nil_append] at hA
 obtain ⟨ao, ac, rfl, _⟩ := hA.form
 refine f_ 2 kr_ rfl rfl ?_
 refine f_ 9 kr_ rfl rfl ?_
 refine WL.s (Hd.store1s kr_ rfl rfl (by rfl) fr_ (by rfl) (by first | (simp only [List.set_cons_zero, List.set_cons_succ, Nat.zero_add, Nat.add_zero, Nat.reduceAdd]; rfl) | rfl) ⟨rfl, ?_⟩)
 refine ntsr_ ?_
 refine WL.h rfl (Hd.buildBytes (e := 5) [] kr_ kr_ kr_ rfl rfl kr_ fun b10 => ⟨_, rfl, ?_⟩)
 refine f_ 2 kr_ rfl rfl ?_
 refine f_ 10 kr_ rfl rfl ?_
 refine d_ kr_ rfl mem_ (by rfl) rfl ?_
 refine WL.h rfl (Hd.appendBs (a := []) (b := L.n.data) (e := 5) (zs := [.int .u8 0]) kr_ kr_ rfl rfl rfl (Ob.block b10 [] (by decide)) sp_ (hd.mono gr_) (by simpa using bd) fun v14 B hB => ⟨_, rfl, ?_⟩)
 rw [List.nil_append] at hB
 obtain ⟨bo, bc, rfl, _⟩ := hB.form
 refine f_ 2 kr_ rfl rfl ?_
 refine f_ 10 kr_ rfl rfl ?_
 refine WL.s (Hd.store1s kr_ rfl rfl (by rfl) fr_ (by rfl) (by first | (simp only [List.set_cons_zero, List.set_cons_succ, Nat.zero_add, Nat.add_zero, Nat.reduceAdd]; rfl) | rfl) ⟨rfl, ?_⟩)
 refine ntsr_ ?_
 refine WL.h rfl (Hd.loadAll (n := 13) kr_ rfl mem_ (by rfl) ⟨_, rfl, ?_⟩)
 refine WL.s (Hd.storeAll (n := 13) kr_ rfl rfl (by rfl) one_ fr_ (by rfl) ⟨rfl, ?_⟩)
 refine nt_ ?_
 refine WC.ret ?_
 refine DN.retCS (s := 13) (A ++ (B ++ H)) Try.results32 kr_ rfl mem_ (by rfl) sp_ ?_
 exact ⟨_, _, A, B, rfl, hA, hB, rfl⟩
theorem is_reads (p : Nat) (W : Wn) (C : List Ck) (h : WAt 72 34 5 p W C) (k : Int) : Reads Try.prog 29 [.pointer (some ⟨p, 0, none⟩), .int .i64 k] C (.bool (isNode W k)) := by
 refine Tells.enter Try.func29 rfl Try.ntmps29 rfl ?_
 intro w0 R
 obtain ⟨vl, Cl, cs, D, rfl, ho, hL⟩ := h
 obtain ⟨xo, xc, rfl, hxc⟩ := ho.form
 refine sr_ ?_
 refine a_ rfl rfl ?_
 refine ntsr_ ?_
 refine m_ rfl rfl ?_
 refine WL.y rfl (Yd.geq rfl rfl) ?_
 refine m_ rfl rfl ?_
 refine WL.partP (t := 7) rfl (fun hg7 => ?_) (fun hg7 => ?_)
 ·refine gy_ 7 rfl rfl rfl (Yd.move rfl) ?_
  refine gy_ 7 rfl rfl rfl (Yd.move rfl) ?_
  refine gy_ 7 rfl rfl rfl (Yd.notNil rfl) ?_
  refine gy_ 7 rfl rfl rfl (Yd.fieldAddr (k := 0) kr_ rfl) ?_
  refine WL.gh (dj := 7) rfl rfl rfl (Hd.load1 kr_ rfl mem_ (by rfl) ⟨_, rfl, ?_⟩)
  refine gy_ 7 rfl rfl rfl (Yd.lss rfl rfl) ?_
  refine WL.y rfl (Yd.pickT rfl rfl) ?_
  refine a_ rfl rfl ?_
  refine nt_ ?_
  refine WC.ret ?_
  refine DN.ret1 Try.results29 rfl ?_
  exact ⟨by simp [isNode, hg7], rfl⟩
 ·iterate 6 refine gn_ 7 rfl rfl rfl rfl ?_
  refine WL.y rfl (Yd.pickF rfl rfl) ?_
  refine a_ rfl rfl ?_
  refine nt_ ?_
  refine WC.ret ?_
  refine DN.ret1 Try.results29 rfl ?_
  exact ⟨by simp [isNode, hg7], rfl⟩
theorem there_reads (p : Nat) (W : Wn) (C : List Ck) (h : WAt 72 34 5 p W C) (k : Int) : Reads Try.prog 33 [.pointer (some ⟨p, 0, none⟩), .int .i64 k] C (.bool (decide (0 ≤ k) && decide (k < (W.ls.length : Int)))) := by
 refine Tells.enter Try.func33 rfl Try.ntmps33 rfl ?_
 intro w0 R
 obtain ⟨vl, Cl, cs, D, rfl, ho, hL⟩ := h
 obtain ⟨xo, xc, rfl, hxc⟩ := ho.form
 refine sr_ ?_
 refine a_ rfl rfl ?_
 refine ntsr_ ?_
 refine m_ rfl rfl ?_
 refine WL.y rfl (Yd.neqNil Try.underlying22 rfl rfl) ?_
 refine WL.renamed (t := 6) (v := .bool true) rfl (congrArg Value.bool (rfl)) ?_
 refine m_ rfl rfl ?_
 refine gy_ 7 rfl rfl rfl (Yd.move rfl) ?_
 refine gy_ 7 rfl rfl rfl (Yd.geq rfl rfl) ?_
 refine WL.y rfl (Yd.pickT rfl rfl) ?_
 refine m_ rfl rfl ?_
 refine WL.partP (t := 11) rfl (fun hg11 => ?_) (fun hg11 => ?_)
 ·refine gy_ 11 rfl rfl rfl (Yd.move rfl) ?_
  refine gy_ 11 rfl rfl rfl (Yd.move rfl) ?_
  refine gy_ 11 rfl rfl rfl (Yd.notNil rfl) ?_
  refine gy_ 11 rfl rfl rfl (Yd.fieldAddr (k := 1) kr_ rfl) ?_
  refine WL.gh (dj := 11) rfl rfl rfl (Hd.load1 kr_ rfl mem_ (by rfl) ⟨_, rfl, ?_⟩)
  refine gy_ 11 rfl rfl rfl (Yd.len (e := 34) kr_ rfl) ?_
  refine gy_ 11 rfl rfl rfl (Yd.lss rfl rfl) ?_
  refine WL.y rfl (Yd.pickT rfl rfl) ?_
  refine a_ rfl rfl ?_
  refine nt_ ?_
  refine WC.ret ?_
  refine DN.ret1 Try.results33 rfl ?_
  exact ⟨by simp [hg11], rfl⟩
 ·iterate 7 refine gn_ 11 rfl rfl rfl rfl ?_
  refine WL.y rfl (Yd.pickF rfl rfl) ?_
  refine a_ rfl rfl ?_
  refine nt_ ?_
  refine WC.ret ?_
  refine DN.ret1 Try.results33 rfl ?_
  exact ⟨by simp [hg11], rfl⟩
theorem len_reads (p : Nat) (W : Wn) (C : List Ck) (h : WAt 72 34 5 p W C) : Reads Try.prog 14 [.pointer (some ⟨p, 0, none⟩)] C (.int .i64 (W.ls.length : Int)) := by
 refine Tells.enter Try.func14 rfl Try.ntmps14 rfl ?_
 intro w0 R
 obtain ⟨vl, Cl, cs, D, rfl, ho, hL⟩ := h
 obtain ⟨xo, xc, rfl, hxc⟩ := ho.form
 refine sr_ ?_
 refine a_ rfl rfl ?_
 refine nt_ ?_
 refine WC.seq ?_
 refine sr_ ?_
 refine m_ rfl rfl ?_
 refine WL.y rfl (Yd.eqlNil Try.underlying22 rfl rfl) ?_
 refine WL.renamed (t := 4) (v := .bool false) rfl (congrArg Value.bool (rfl)) ?_
 refine nt_ ?_
 refine WC.no rfl ?_
 refine WC.skip ?_
 refine ts_ ?_
 refine WC.region ?_
 refine m_ rfl rfl ?_
 refine n_ rfl rfl ?_
 refine f_ 1 kr_ rfl rfl ?_
 refine d_ kr_ rfl mem_ (by rfl) rfl ?_
 refine WL.y rfl (Yd.len (e := 34) kr_ rfl) ?_
 refine a_ rfl rfl ?_
 refine nt_ ?_
 refine WC.ret ?_
 refine DN.ret1 Try.results14 rfl ?_
 exact ⟨rfl, rfl⟩
theorem rep0 (n k : Nat) : (List.replicate n (0 : Int)).getD k 0 = 0 := by
  simp only [List.getD, List.getElem?_replicate]
  split <;> rfl
theorem cells_cut (n : Int) (vl : Value) (cut : List Int) (clk : List (BitVec 64)) (h : cut.length = 36) : ((Value.int .i64 n :: vl :: (ic cut ++ uc clk)).drop 2).take 36 = ic cut := by
  show (ic cut ++ uc clk).take 36 = ic cut
  rw [List.take_append_of_le_length (by rw [ic_length]; omega)]
  rw [List.take_of_length_le (by rw [ic_length]; omega)]
theorem cells_cutAt (n : Int) (vl : Value) (cut : List Int) (clk : List (BitVec 64)) (i : Nat) (h : i < cut.length) : (Value.int .i64 n :: vl :: (ic cut ++ uc clk))[2 + i]? = some (.int .i64 (cut.getD i 0)) := by
  rw [show 2 + i = i + 1 + 1 by omega]
  show (ic cut ++ uc clk)[i]? = _
  rw [List.getElem?_append_left (by rw [ic_length]; exact h)]
  exact ic_getD h
theorem cells_clkAt (n : Int) (vl : Value) (cut : List Int) (clk : List (BitVec 64)) (i : Nat) (hc : cut.length = 36) (h : i < clk.length) : (Value.int .i64 n :: vl :: (ic cut ++ uc clk))[38 + i]? = some (.int .u64 (clk.getD i 0#64).toNat) := by
  rw [show 38 + i = 36 + i + 1 + 1 by omega]
  show (ic cut ++ uc clk)[36 + i]? = _
  rw [List.getElem?_append_right (by rw [ic_length]; omega), ic_length, hc]
  simp [uc, h]
theorem open_reads (p : Nat) (W : Wn) (C H : List Ck) (h : WAt 72 34 5 p W C) (hc : W.cut.length = 36) (L : Lt) (vk vd : Value) (hf : 0 ≤ L.f ∧ L.f < 6) (ht : 0 ≤ L.t ∧ L.t < 6) : Reads Try.prog 31 [.pointer (some ⟨p, 0, none⟩), .agg (ltc L vk vd).toArray] C (.bool (openB W L)) := by
 refine Tells.enter Try.func31 rfl Try.ntmps31 rfl ?_
 intro w0 R
 obtain ⟨vl, Cl, cs, D, rfl, ho, hL⟩ := h
 obtain ⟨xo, xc, rfl, hxc⟩ := ho.form
 refine sr_ ?_
 refine WL.h rfl (Hd.boxA rfl fun b3 => ⟨_, rfl, ?_⟩)
 refine a_ rfl rfl ?_
 refine ntsr_ ?_
 refine WL.h rfl (Hd.alloc (zs := [.int .i64 0, .int .i64 0, .int .i64 0, .int .i64 0, .int .i64 0, .int .i64 0, .int .i64 0, .int .i64 0, .int .i64 0, .int .i64 0, .int .i64 0, .int .i64 0, .int .i64 0, .int .i64 0, .int .i64 0, .int .i64 0, .int .i64 0, .int .i64 0, .int .i64 0, .int .i64 0, .int .i64 0, .int .i64 0, .int .i64 0, .int .i64 0, .int .i64 0, .int .i64 0, .int .i64 0, .int .i64 0, .int .i64 0, .int .i64 0, .int .i64 0, .int .i64 0, .int .i64 0, .int .i64 0, .int .i64 0, .int .i64 0]) kr_ fun b5 => ⟨_, rfl, ?_⟩)
 refine nt_ ?_
 refine WC.seq ?_
 refine WC.draw 20 kr_ rfl ?_
 refine WA.y (i := 0) (NoPanic.then (NoPanic.body)) rfl kr_ kr_ kr_ rfl (Yd.move rfl) ?_
 refine WA.y (i := 1) (NoPanic.then (NoPanic.body)) rfl kr_ kr_ kr_ rfl (Yd.notNil rfl) ?_
 refine WA.y (i := 2) (NoPanic.then (NoPanic.body)) rfl kr_ kr_ kr_ rfl (Yd.fieldAddr (k := 2) kr_ rfl) ?_
 refine WA.two (i := 3) (j := 4) kr_ ?_ ?_
 ·refine WO.h rfl Wt.none rfl (Hd.loadA (n := 36) (vs := ic W.cut) kr_ rfl mem_ (by rw [ic_length]; exact hc) (by exact cells_cut _ _ _ _ hc) ⟨_, rfl, ?_⟩)
  refine WA.one (i := 4) kr_ ?_
  refine WO.h rfl Wt.none rfl (Hd.loadAll (n := 36) kr_ rfl mem_ (by rfl) ⟨_, rfl, ?_⟩)
  refine WA.y (i := 5) (NoPanic.then (NoPanic.body)) rfl kr_ kr_ kr_ rfl (Yd.eqlArr2 (n := 6) (m := 6) (T1 := 68) (e := 3) (kd := .i64) (ys := List.replicate 36 0) Try.underlying69 Try.underlying68 kr_ kr_ Try.underlying3 kr_ rfl rfl (by rw [hc]) (by rfl)) ?_
  refine WA.y (i := 6) (NoPanic.then (NoPanic.body)) rfl kr_ kr_ kr_ rfl (Yd.move rfl) ?_
  refine WA.partP (t := 12) rfl (fun hg12 => ?_) (fun hg12 => ?_)
  ·refine WA.gn (i := 7) (dj := 12) (NoPanic.then (NoPanic.body)) rfl kr_ kr_ kr_ rfl rfl rfl rfl ?_
   refine WA.gn (i := 8) (dj := 12) (NoPanic.then (NoPanic.body)) rfl kr_ kr_ kr_ rfl rfl rfl rfl ?_
   refine WA.gn (i := 9) (dj := 12) (NoPanic.then (NoPanic.body)) rfl kr_ kr_ kr_ rfl rfl rfl rfl ?_
   refine WA.gn (i := 10) (dj := 12) (NoPanic.then (NoPanic.body)) rfl kr_ kr_ kr_ rfl rfl rfl rfl ?_
   refine WA.gn (i := 11) (dj := 12) (NoPanic.then (NoPanic.body)) rfl kr_ kr_ kr_ rfl rfl rfl rfl ?_
   refine WA.gn (i := 12) (dj := 12) (NoPanic.then (NoPanic.body)) rfl kr_ kr_ kr_ rfl rfl rfl rfl ?_
   refine WA.gn (i := 13) (dj := 12) (NoPanic.then (NoPanic.body)) rfl kr_ kr_ kr_ rfl rfl rfl rfl ?_
   refine WA.gn (i := 14) (dj := 12) (NoPanic.then (NoPanic.body)) rfl kr_ kr_ kr_ rfl rfl rfl rfl ?_
   refine WA.gn (i := 15) (dj := 12) (NoPanic.then (NoPanic.body)) rfl kr_ kr_ kr_ rfl rfl rfl rfl ?_
   refine WA.gn (i := 16) (dj := 12) (NoPanic.then (NoPanic.body)) rfl kr_ kr_ kr_ rfl rfl rfl rfl ?_
   refine WA.gn (i := 17) (dj := 12) (NoPanic.then (NoPanic.body)) rfl kr_ kr_ kr_ rfl rfl rfl rfl ?_
   refine WA.y (i := 18) (NoPanic.then (NoPanic.body)) rfl kr_ kr_ kr_ rfl (Yd.pickT rfl rfl) ?_
   refine WA.y (i := 19) (NoPanic.then (NoPanic.body)) rfl kr_ kr_ kr_ rfl (Yd.assign rfl) ?_
   refine WA.done kr_ ?_
   refine DN.then_normal ?_
   refine WC.ret ?_
   refine DN.fit (C := row p (.int .i64 W.n :: .slice xo W.ls.length xc :: (ic W.cut ++ uc W.clk)) 72 :: (Cl ++ D)) sp_ ?_
   refine DN.ret1 Try.results31 rfl ?_
   exact ⟨by first | rfl | (congr 1; symm; rw [openB, cutAt, hg12, rep0]; rfl), rfl⟩
  ·refine WA.gy (i := 7) (dj := 12) (NoPanic.then (NoPanic.body)) rfl kr_ kr_ kr_ rfl rfl rfl (Yd.move rfl) ?_
   refine WA.gy (i := 8) (dj := 12) (NoPanic.then (NoPanic.body)) rfl kr_ kr_ kr_ rfl rfl rfl (Yd.fieldAddr (k := 0) kr_ rfl) ?_
   refine WA.gy (i := 10) (dj := 12) (NoPanic.then (NoPanic.body)) rfl kr_ kr_ kr_ rfl rfl rfl (Yd.fieldAddr (k := 1) kr_ rfl) ?_
   refine WA.gy (i := 12) (dj := 12) (NoPanic.then (NoPanic.body)) rfl kr_ kr_ kr_ rfl rfl rfl (Yd.notNil rfl) ?_
   refine WA.gy (i := 13) (dj := 12) (NoPanic.then (NoPanic.body)) rfl kr_ kr_ kr_ rfl rfl rfl (Yd.fieldAddr (k := 2) kr_ rfl) ?_
   refine WA.two (i := 9) (j := 11) kr_ ?_ ?_
   ·refine WO.h rfl (Wt.yes (dj := 12) rfl rfl) rfl (Hd.load1 kr_ rfl mem_ (by rfl) ⟨_, rfl, ?_⟩)
    refine WA.gy (i := 14) (dj := 12) (NoPanic.then (NoPanic.body)) rfl kr_ kr_ kr_ rfl rfl rfl (Yd.indexArr (n := 6) (e := 68) (s := 6) kr_ kr_ rfl rfl (by omega) (by omega)) ?_
    refine WA.one (i := 11) kr_ ?_
    refine WO.h rfl (Wt.yes (dj := 12) rfl rfl) rfl (Hd.load1 kr_ rfl mem_ (by rfl) ⟨_, rfl, ?_⟩)
    refine WA.gy (i := 15) (dj := 12) (NoPanic.then (NoPanic.body)) rfl kr_ kr_ kr_ rfl rfl rfl (Yd.indexArr (n := 6) (e := 3) (s := 1) kr_ kr_ rfl rfl (by omega) (by omega)) ?_
    refine WA.one (i := 16) kr_ ?_
    refine WO.h rfl (Wt.yes (dj := 12) rfl rfl) rfl (Hd.load1 (v := .int .i64 (cutAt W L.f L.t)) kr_ rfl mem_ (by rw [show 0 + 2 + L.f.toNat * 6 + L.t.toNat * 1 = 2 + (L.f.toNat * 6 + L.t.toNat) by omega]; exact cells_cutAt _ _ _ _ _ (by omega)) ⟨_, rfl, ?_⟩)
    refine WA.gy (i := 17) (dj := 12) (NoPanic.then (NoPanic.body)) rfl kr_ kr_ kr_ rfl rfl rfl (Yd.eql rfl rfl) ?_
    refine WA.y (i := 18) (NoPanic.then (NoPanic.body)) rfl kr_ kr_ kr_ rfl (Yd.pickF rfl rfl) ?_
    refine WA.y (i := 19) (NoPanic.then (NoPanic.body)) rfl kr_ kr_ kr_ rfl (Yd.assign rfl) ?_
    refine WA.done kr_ ?_
    refine DN.then_normal ?_
    refine WC.ret ?_
    refine DN.fit (C := row p (.int .i64 W.n :: .slice xo W.ls.length xc :: (ic W.cut ++ uc W.clk)) 72 :: (Cl ++ D)) sp_ ?_
    refine DN.ret1 Try.results31 rfl ?_
    exact ⟨by first | rfl | (congr 1; symm; rw [openB, cutAt, hg12, rep0]; rfl), rfl⟩
   ·refine WO.h rfl (Wt.yes (dj := 12) rfl rfl) rfl (Hd.load1 kr_ rfl mem_ (by rfl) ⟨_, rfl, ?_⟩)
    refine WA.one (i := 9) kr_ ?_
    refine WO.h rfl (Wt.yes (dj := 12) rfl rfl) rfl (Hd.load1 kr_ rfl mem_ (by rfl) ⟨_, rfl, ?_⟩)
    refine WA.gy (i := 14) (dj := 12) (NoPanic.then (NoPanic.body)) rfl kr_ kr_ kr_ rfl rfl rfl (Yd.indexArr (n := 6) (e := 68) (s := 6) kr_ kr_ rfl rfl (by omega) (by omega)) ?_
    refine WA.gy (i := 15) (dj := 12) (NoPanic.then (NoPanic.body)) rfl kr_ kr_ kr_ rfl rfl rfl (Yd.indexArr (n := 6) (e := 3) (s := 1) kr_ kr_ rfl rfl (by omega) (by omega)) ?_
    refine WA.one (i := 16) kr_ ?_
    refine WO.h rfl (Wt.yes (dj := 12) rfl rfl) rfl (Hd.load1 (v := .int .i64 (cutAt W L.f L.t)) kr_ rfl mem_ (by rw [show 0 + 2 + L.f.toNat * 6 + L.t.toNat * 1 = 2 + (L.f.toNat * 6 + L.t.toNat) by omega]; exact cells_cutAt _ _ _ _ _ (by omega)) ⟨_, rfl, ?_⟩)
    refine WA.gy (i := 17) (dj := 12) (NoPanic.then (NoPanic.body)) rfl kr_ kr_ kr_ rfl rfl rfl (Yd.eql rfl rfl) ?_
    refine WA.y (i := 18) (NoPanic.then (NoPanic.body)) rfl kr_ kr_ kr_ rfl (Yd.pickF rfl rfl) ?_
    refine WA.y (i := 19) (NoPanic.then (NoPanic.body)) rfl kr_ kr_ kr_ rfl (Yd.assign rfl) ?_
    refine WA.done kr_ ?_
    refine DN.then_normal ?_
    refine WC.ret ?_
    refine DN.fit (C := row p (.int .i64 W.n :: .slice xo W.ls.length xc :: (ic W.cut ++ uc W.clk)) 72 :: (Cl ++ D)) sp_ ?_
    refine DN.ret1 Try.results31 rfl ?_
    exact ⟨by first | rfl | (congr 1; symm; rw [openB, cutAt, hg12, rep0]; rfl), rfl⟩
 ·refine WO.h rfl Wt.none rfl (Hd.loadAll (n := 36) kr_ rfl mem_ (by rfl) ⟨_, rfl, ?_⟩)
  refine WA.one (i := 3) kr_ ?_
  refine WO.h rfl Wt.none rfl (Hd.loadA (n := 36) (vs := ic W.cut) kr_ rfl mem_ (by rw [ic_length]; exact hc) (by exact cells_cut _ _ _ _ hc) ⟨_, rfl, ?_⟩)
  refine WA.y (i := 5) (NoPanic.then (NoPanic.body)) rfl kr_ kr_ kr_ rfl (Yd.eqlArr2 (n := 6) (m := 6) (T1 := 68) (e := 3) (kd := .i64) (ys := List.replicate 36 0) Try.underlying69 Try.underlying68 kr_ kr_ Try.underlying3 kr_ rfl rfl (by rw [hc]) (by rfl)) ?_
  refine WA.y (i := 6) (NoPanic.then (NoPanic.body)) rfl kr_ kr_ kr_ rfl (Yd.move rfl) ?_
  refine WA.partP (t := 12) rfl (fun hg12 => ?_) (fun hg12 => ?_)
  ·refine WA.gn (i := 7) (dj := 12) (NoPanic.then (NoPanic.body)) rfl kr_ kr_ kr_ rfl rfl rfl rfl ?_
   refine WA.gn (i := 8) (dj := 12) (NoPanic.then (NoPanic.body)) rfl kr_ kr_ kr_ rfl rfl rfl rfl ?_
   refine WA.gn (i := 9) (dj := 12) (NoPanic.then (NoPanic.body)) rfl kr_ kr_ kr_ rfl rfl rfl rfl ?_
   refine WA.gn (i := 10) (dj := 12) (NoPanic.then (NoPanic.body)) rfl kr_ kr_ kr_ rfl rfl rfl rfl ?_
   refine WA.gn (i := 11) (dj := 12) (NoPanic.then (NoPanic.body)) rfl kr_ kr_ kr_ rfl rfl rfl rfl ?_
   refine WA.gn (i := 12) (dj := 12) (NoPanic.then (NoPanic.body)) rfl kr_ kr_ kr_ rfl rfl rfl rfl ?_
   refine WA.gn (i := 13) (dj := 12) (NoPanic.then (NoPanic.body)) rfl kr_ kr_ kr_ rfl rfl rfl rfl ?_
   refine WA.gn (i := 14) (dj := 12) (NoPanic.then (NoPanic.body)) rfl kr_ kr_ kr_ rfl rfl rfl rfl ?_
   refine WA.gn (i := 15) (dj := 12) (NoPanic.then (NoPanic.body)) rfl kr_ kr_ kr_ rfl rfl rfl rfl ?_
   refine WA.gn (i := 16) (dj := 12) (NoPanic.then (NoPanic.body)) rfl kr_ kr_ kr_ rfl rfl rfl rfl ?_
   refine WA.gn (i := 17) (dj := 12) (NoPanic.then (NoPanic.body)) rfl kr_ kr_ kr_ rfl rfl rfl rfl ?_
   refine WA.y (i := 18) (NoPanic.then (NoPanic.body)) rfl kr_ kr_ kr_ rfl (Yd.pickT rfl rfl) ?_
   refine WA.y (i := 19) (NoPanic.then (NoPanic.body)) rfl kr_ kr_ kr_ rfl (Yd.assign rfl) ?_
   refine WA.done kr_ ?_
   refine DN.then_normal ?_
   refine WC.ret ?_
   refine DN.fit (C := row p (.int .i64 W.n :: .slice xo W.ls.length xc :: (ic W.cut ++ uc W.clk)) 72 :: (Cl ++ D)) sp_ ?_
   refine DN.ret1 Try.results31 rfl ?_
   exact ⟨by first | rfl | (congr 1; symm; rw [openB, cutAt, hg12, rep0]; rfl), rfl⟩
  ·refine WA.gy (i := 7) (dj := 12) (NoPanic.then (NoPanic.body)) rfl kr_ kr_ kr_ rfl rfl rfl (Yd.move rfl) ?_
   refine WA.gy (i := 8) (dj := 12) (NoPanic.then (NoPanic.body)) rfl kr_ kr_ kr_ rfl rfl rfl (Yd.fieldAddr (k := 0) kr_ rfl) ?_
   refine WA.gy (i := 10) (dj := 12) (NoPanic.then (NoPanic.body)) rfl kr_ kr_ kr_ rfl rfl rfl (Yd.fieldAddr (k := 1) kr_ rfl) ?_
   refine WA.gy (i := 12) (dj := 12) (NoPanic.then (NoPanic.body)) rfl kr_ kr_ kr_ rfl rfl rfl (Yd.notNil rfl) ?_
   refine WA.gy (i := 13) (dj := 12) (NoPanic.then (NoPanic.body)) rfl kr_ kr_ kr_ rfl rfl rfl (Yd.fieldAddr (k := 2) kr_ rfl) ?_
   refine WA.two (i := 9) (j := 11) kr_ ?_ ?_
   ·refine WO.h rfl (Wt.yes (dj := 12) rfl rfl) rfl (Hd.load1 kr_ rfl mem_ (by rfl) ⟨_, rfl, ?_⟩)
    refine WA.gy (i := 14) (dj := 12) (NoPanic.then (NoPanic.body)) rfl kr_ kr_ kr_ rfl rfl rfl (Yd.indexArr (n := 6) (e := 68) (s := 6) kr_ kr_ rfl rfl (by omega) (by omega)) ?_
    refine WA.one (i := 11) kr_ ?_
    refine WO.h rfl (Wt.yes (dj := 12) rfl rfl) rfl (Hd.load1 kr_ rfl mem_ (by rfl) ⟨_, rfl, ?_⟩)
    refine WA.gy (i := 15) (dj := 12) (NoPanic.then (NoPanic.body)) rfl kr_ kr_ kr_ rfl rfl rfl (Yd.indexArr (n := 6) (e := 3) (s := 1) kr_ kr_ rfl rfl (by omega) (by omega)) ?_
    refine WA.one (i := 16) kr_ ?_
    refine WO.h rfl (Wt.yes (dj := 12) rfl rfl) rfl (Hd.load1 (v := .int .i64 (cutAt W L.f L.t)) kr_ rfl mem_ (by rw [show 0 + 2 + L.f.toNat * 6 + L.t.toNat * 1 = 2 + (L.f.toNat * 6 + L.t.toNat) by omega]; exact cells_cutAt _ _ _ _ _ (by omega)) ⟨_, rfl, ?_⟩)
    refine WA.gy (i := 17) (dj := 12) (NoPanic.then (NoPanic.body)) rfl kr_ kr_ kr_ rfl rfl rfl (Yd.eql rfl rfl) ?_
    refine WA.y (i := 18) (NoPanic.then (NoPanic.body)) rfl kr_ kr_ kr_ rfl (Yd.pickF rfl rfl) ?_
    refine WA.y (i := 19) (NoPanic.then (NoPanic.body)) rfl kr_ kr_ kr_ rfl (Yd.assign rfl) ?_
    refine WA.done kr_ ?_
    refine DN.then_normal ?_
    refine WC.ret ?_
    refine DN.fit (C := row p (.int .i64 W.n :: .slice xo W.ls.length xc :: (ic W.cut ++ uc W.clk)) 72 :: (Cl ++ D)) sp_ ?_
    refine DN.ret1 Try.results31 rfl ?_
    exact ⟨by first | rfl | (congr 1; symm; rw [openB, cutAt, hg12, rep0]; rfl), rfl⟩
   ·refine WO.h rfl (Wt.yes (dj := 12) rfl rfl) rfl (Hd.load1 kr_ rfl mem_ (by rfl) ⟨_, rfl, ?_⟩)
    refine WA.one (i := 9) kr_ ?_
    refine WO.h rfl (Wt.yes (dj := 12) rfl rfl) rfl (Hd.load1 kr_ rfl mem_ (by rfl) ⟨_, rfl, ?_⟩)
    refine WA.gy (i := 14) (dj := 12) (NoPanic.then (NoPanic.body)) rfl kr_ kr_ kr_ rfl rfl rfl (Yd.indexArr (n := 6) (e := 68) (s := 6) kr_ kr_ rfl rfl (by omega) (by omega)) ?_
    refine WA.gy (i := 15) (dj := 12) (NoPanic.then (NoPanic.body)) rfl kr_ kr_ kr_ rfl rfl rfl (Yd.indexArr (n := 6) (e := 3) (s := 1) kr_ kr_ rfl rfl (by omega) (by omega)) ?_
    refine WA.one (i := 16) kr_ ?_
    refine WO.h rfl (Wt.yes (dj := 12) rfl rfl) rfl (Hd.load1 (v := .int .i64 (cutAt W L.f L.t)) kr_ rfl mem_ (by rw [show 0 + 2 + L.f.toNat * 6 + L.t.toNat * 1 = 2 + (L.f.toNat * 6 + L.t.toNat) by omega]; exact cells_cutAt _ _ _ _ _ (by omega)) ⟨_, rfl, ?_⟩)
    refine WA.gy (i := 17) (dj := 12) (NoPanic.then (NoPanic.body)) rfl kr_ kr_ kr_ rfl rfl rfl (Yd.eql rfl rfl) ?_
    refine WA.y (i := 18) (NoPanic.then (NoPanic.body)) rfl kr_ kr_ kr_ rfl (Yd.pickF rfl rfl) ?_
    refine WA.y (i := 19) (NoPanic.then (NoPanic.body)) rfl kr_ kr_ kr_ rfl (Yd.assign rfl) ?_
    refine WA.done kr_ ?_
    refine DN.then_normal ?_
    refine WC.ret ?_
    refine DN.fit (C := row p (.int .i64 W.n :: .slice xo W.ls.length xc :: (ic W.cut ++ uc W.clk)) 72 :: (Cl ++ D)) sp_ ?_
    refine DN.ret1 Try.results31 rfl ?_
    exact ⟨by first | rfl | (congr 1; symm; rw [openB, cutAt, hg12, rep0]; rfl), rfl⟩
end Go.Proofs.Ytgpegfmonmdhoaa

set_option linter.unusedVariables false
set_option linter.unusedSimpArgs false
set_option maxHeartbeats 4000000
namespace Go.Proofs.Ytgpegfmonmdhoaa
open Go.SL
theorem delete_tells (v : Value) (n i : Nat) (cs : List Value) (C : List Ck) (h : Own v n cs 34 13 C) (h1 : ∀ u ∈ cs, u.oneCell' = true) (hi : i < n) (hn : n ≤ 1000) (i2 : Int) (hi2 : i2 = (i : Int) + 1) : Tells Try.prog 48 [v, .int .i64 i, .int .i64 i2] C fun r C' => Own r (n - 1) (cs.take (i * 13) ++ cs.drop ((i + 1) * 13)) 34 13 C' := by
 refine Tells.enter Try.func48 rfl Try.ntmps48 rfl ?_
 intro w0 R
 rcases h with ⟨_, h0, _⟩ | ⟨b, cap, extra, rfl, hc1, hc2, hcl, hel, rfl⟩
 · omega
 subst hi2
 have hsrc := Rs.sub (i := i + 1) (j := n) (s := 13) (show Rs (.slice (some ⟨b, 0, none⟩) n cap) n cs [row b (cs ++ extra) 34] from .inr ⟨b, 0, cap, cs ++ extra, _, (0, 0), true, rfl, hc1, List.mem_cons_self, by simp⟩) hcl (by omega) (Nat.le_refl _)
 rw [List.take_of_length_le (by rw [List.length_drop, hcl, ← Nat.sub_mul]; exact Nat.le_refl _)] at hsrc
 refine sr_ ?_
 refine a_ rfl rfl ?_
 refine ntsr_ ?_
 iterate 4 refine m_ rfl rfl ?_
 refine WL.y rfl (Yd.len (e := 34) kr_ rfl) ?_
 refine WL.y rfl (Yd.slice3 (e := 34) (s := 13) (i := i) (j := i + 1) (q := n) kr_ kr_ rfl rfl rfl rfl rfl (by omega) rfl (by omega) (by omega) (by omega)) ?_
 refine nt_ ?_
 refine WC.seq ?_
 refine sr_ ?_
 refine m_ rfl rfl ?_
 refine m_ rfl rfl ?_
 refine WL.y rfl (Yd.eql rfl rfl) ?_
 refine nt_ ?_
 refine WC.ite rfl (fun h16 => absurd h16 (by omega)) (fun h16 => ?_)
 refine WC.skip ?_
 refine ts_ ?_
 refine WC.region ?_
 refine m_ rfl rfl ?_
 refine WL.y rfl (Yd.len (e := 34) kr_ rfl) ?_
 refine a_ rfl rfl ?_
 refine nt_ ?_
 refine WC.seq ?_
 refine WC.draw 8 kr_ rfl ?_
 refine WA.y (i := 0) (NoPanic.then (NoPanic.body)) rfl kr_ kr_ kr_ rfl (Yd.move rfl) ?_
 refine WA.y (i := 1) (NoPanic.then (NoPanic.body)) rfl kr_ kr_ kr_ rfl (Yd.move rfl) ?_
 refine WA.y (i := 2) (NoPanic.then (NoPanic.body)) rfl kr_ kr_ kr_ rfl (Yd.sliceTo (e := 34) (s := 13) (j := i) kr_ kr_ rfl rfl rfl (by omega)) ?_
 refine WA.y (i := 3) (NoPanic.then (NoPanic.body)) rfl kr_ kr_ kr_ rfl (Yd.move rfl) ?_
 refine WA.y (i := 4) (NoPanic.then (NoPanic.body)) rfl kr_ kr_ kr_ rfl (Yd.move rfl) ?_
 refine WA.y (i := 5) (NoPanic.then (NoPanic.body)) rfl kr_ kr_ kr_ rfl (Yd.slice (e := 34) (s := 13) (i := i + 1) (j := n) kr_ kr_ rfl ⟨_, _, rfl, by omega⟩ rfl (by omega) (by omega)) ?_
 refine WA.one (i := 6) kr_ ?_
 refine WO.h rfl Wt.none rfl (Hd.appendIn (e := 34) (sz := 13) (bytes := 128) (zs := [.int .i64 0, .int .i64 0, .int .i64 0, .int .u32 0, .int .u32 0, .int .u64 0, .int .u64 0, .int .u32 0, .int .i64 0, .bool false, .int .i64 0, .slice none 0 0, .slice none 0 0]) (m := n - (i + 1)) (news := cs.drop ((i + 1) * 13)) kr_ kr_ rfl rfl fr_ (hsrc.mono gr_) (by rw [List.length_drop, hcl, ← Nat.sub_mul]) (fun u hu => h1 u (List.mem_of_mem_drop hu)) (by omega) (by simp only [List.length_append, hcl]; omega) ⟨_, rfl, ?_⟩)
 refine WA.y (i := 7) (NoPanic.then (NoPanic.body)) rfl kr_ kr_ kr_ rfl (Yd.assign rfl) ?_
 refine WA.done kr_ ?_
 refine ts_ ?_
 rw [show i + (n - (i + 1)) = n - 1 by omega]
 refine WC.region ?_
 refine m_ rfl rfl ?_
 refine m_ rfl rfl ?_
 refine WL.y rfl (Yd.len (e := 34) kr_ rfl) ?_
 refine m_ rfl rfl ?_
 refine WL.y rfl (Yd.slice (e := 34) (s := 13) (i := n - 1) (j := n) kr_ kr_ rfl ⟨_, _, rfl, by omega⟩ ⟨_, _, rfl, rfl⟩ (by omega) (by omega)) ?_
 refine WL.renamed (t := 31) (v := .slice (some ⟨b, (n - 1) * 13, none⟩) 1 (cap - (n - 1))) rfl (by rw [if_neg (by omega), show n - (n - 1) = 1 by omega]; simp [add_plain]) ?_
 refine WL.h0 (Hd.clearN (e := 34) (sz := 13) (bytes := 128) (zs := [.int .i64 0, .int .i64 0, .int .i64 0, .int .u32 0, .int .u32 0, .int .u64 0, .int .u64 0, .int .u32 0, .int .i64 0, .bool false, .int .i64 0, .slice none 0 0, .slice none 0 0]) kr_ kr_ rfl one_ rfl (by omega) fr_ (by simp only [List.length_append, List.length_take, List.length_drop, hcl]; omega) fun tl htl => ⟨_, rfl, ?_⟩)
 refine ntsr_ ?_
 refine m_ rfl rfl ?_
 refine a_ rfl rfl ?_
 refine nt_ ?_
 refine WC.ret ?_
 have hA : (cs ++ extra).take (i * 13) = cs.take (i * 13) := by rw [List.take_append_of_le_length (by rw [hcl]; omega)]
 rw [hA]
 refine DN.ret1 Try.results48 rfl ?_
 refine .inr ⟨b, cap, tl ++ (cs ++ extra).drop (n * 13), rfl, by omega, hc2, ?_, ?_, ?_⟩
 · simp only [List.length_append, List.length_take, List.length_drop, hcl]; omega
 · simp only [List.length_append, List.length_drop, hcl, hel, htl]
   omega
 · congr 2
   have e1 : (cs.take (i * 13) ++ (cs.drop ((i + 1) * 13) ++ (cs ++ extra).drop ((i + (n - (i + 1))) * 13))).take ((n - 1) * 13) = cs.take (i * 13) ++ cs.drop ((i + 1) * 13) := by
     rw [← List.append_assoc, List.take_append_of_le_length (by simp only [List.length_append, List.length_take, List.length_drop, hcl]; omega)]
     rw [List.take_of_length_le (by simp only [List.length_append, List.length_take, List.length_drop, hcl]; omega)]
   have e2 : (cs.take (i * 13) ++ (cs.drop ((i + 1) * 13) ++ (cs ++ extra).drop ((i + (n - (i + 1))) * 13))).drop ((n - 1) * 13 + 1 * 13) = (cs ++ extra).drop (n * 13) := by
     rw [← List.append_assoc, List.drop_append, List.drop_eq_nil_of_le (by simp only [List.length_append, List.length_take, List.length_drop, hcl]; omega), List.nil_append, List.drop_drop]
     congr 1
     simp only [List.length_append, List.length_take, List.length_drop, hcl]
     omega
   rw [show i + (n - (i + 1)) = n - 1 by omega] at e1 e2
   rw [e1, e2]
theorem take_tells (p : Nat) (W : Wn) (C : List Ck) (h : WAt 72 34 5 p W C) (hf : W.ls.length ≤ 200) (k : Nat) (hk : k < W.ls.length) : Tells Try.prog 34 [.pointer (some ⟨p, 0, none⟩), .int .i64 k] C fun r C' => ∃ vk vd A B C2, r = .agg (ltc (W.ls.getD k zeroL) vk vd).toArray ∧ Ob 5 vk (W.ls.getD k zeroL).n.key A ∧ Ob 5 vd (W.ls.getD k zeroL).n.data B ∧ WAt 72 34 5 p  { W with ls := W.ls.eraseIdx k } C2 ∧ C' = C2 ++ (A ++ B) := by
 refine Tells.enter Try.func34 rfl Try.ntmps34 rfl ?_
 intro w0 R
 obtain ⟨vl, Cl, cs, D, rfl, ho, hL⟩ := h
 obtain ⟨xo, xc, rfl, hxc⟩ := ho.form
 obtain ⟨vk, vd, A, B, D1, D2, rfl, hcell, hA, hB, hL2⟩ := hL.at k hk
 have hone := hL.one
 have eg : W.ls[k] = W.ls.getD k zeroL := by simp [List.getD, hk]
 rw [eg] at hcell hA hB
 have hk1 := hA.one_cell
 have hk2 := hB.one_cell
 refine sr_ ?_
 refine WL.h rfl (Hd.alloc (zs := [.int .i64 0, .int .i64 0, .int .i64 0, .int .u32 0, .int .u32 0, .int .u64 0, .int .u64 0, .int .u32 0, .int .i64 0, .bool false, .int .i64 0, .slice none 0 0, .slice none 0 0]) kr_ fun b4 => ⟨_, rfl, ?_⟩)
 refine ntsr_ ?_
 refine m_ rfl rfl ?_
 refine n_ rfl rfl ?_
 refine f_ 1 kr_ rfl rfl ?_
 refine d_ kr_ rfl mem_ (by rfl) rfl ?_
 refine m_ rfl rfl ?_
 refine WL.elemA (e := 34) (s := 13) kr_ kr_ kr_ rfl rfl (rfl) (ho.rs.mono gr_) (hcell) (by rfl) (by omega) (hk) rfl rfl ?_
 intro p11
 refine WL.h rfl (Hd.alloc (zs := [.int .i64 0, .int .i64 0, .int .i64 0, .int .u32 0, .int .u32 0, .int .u64 0, .int .u64 0, .int .u32 0, .int .i64 0, .bool false, .int .i64 0, .slice none 0 0, .slice none 0 0]) kr_ fun b5 => ⟨_, rfl, ?_⟩)
 refine WL.s (Hd.storeAll (n := 13) kr_ rfl rfl (by rfl) one_ fr_ (by rfl) ⟨rfl, ?_⟩)
 refine ntsr_ ?_
 refine m_ rfl rfl ?_
 refine m_ rfl rfl ?_
 refine n_ rfl rfl ?_
 refine f_ 1 kr_ rfl rfl ?_
 refine d_ kr_ rfl mem_ (by rfl) rfl ?_
 refine m_ rfl rfl ?_
 refine m_ rfl rfl ?_
 refine WL.y rfl (Yd.add rfl rfl (by omega) (by omega)) ?_
 refine WL.c rfl (Ent.func Try.call48 rfl) (delete_tells _ W.ls.length k cs Cl ho hone hk (by omega) _ rfl) (Sp.p sp_) ?_
 rintro q C2 hq
 obtain ⟨zo, zc, rfl, _⟩ := hq.form
 refine n_ rfl rfl ?_
 refine f_ 1 kr_ rfl rfl ?_
 refine WL.s (Hd.store1s kr_ rfl rfl (by rfl) fr_ (by rfl) (by first | (simp only [List.set_cons_zero, List.set_cons_succ, Nat.zero_add, Nat.add_zero, Nat.reduceAdd]; rfl) | rfl) ⟨rfl, ?_⟩)
 refine ntsr_ ?_
 refine WL.h rfl (Hd.loadAll (n := 13) kr_ rfl mem_ (by rfl) ⟨_, rfl, ?_⟩)
 refine WL.s (Hd.storeAll (n := 13) kr_ rfl rfl (by rfl) one_ fr_ (by rfl) ⟨rfl, ?_⟩)
 refine nt_ ?_
 refine WC.ret ?_
 refine DN.retCS (s := 13) ((row p (.int .i64 W.n :: .slice zo (W.ls.length - 1) zc :: (ic W.cut ++ uc W.clk)) 72 :: (C2 ++ (D1 ++ D2))) ++ (A ++ B)) Try.results34 kr_ rfl mem_ (by rfl) sp_ ?_
 exact ⟨vk, vd, A, B, _, rfl, hA, hB, ⟨_, C2, _, D1 ++ D2, rfl, by rw [List.length_eraseIdx_of_lt hk]; exact hq, hL2⟩, rfl⟩
theorem send_tells (p : Nat) (W : Wn) (C H : List Ck) (h : WAt 72 34 5 p W C) (inv : WInv W) (L : Lt) (vk vd : Value) (hk : Bs vk L.n.key H) (hd : Bs vd L.n.data H) (bk : L.n.key.length ≤ 140737488355328) (bd : L.n.data.length ≤ 140737488355328) : Tells Try.prog 10 [.pointer (some ⟨p, 0, none⟩), .agg (ltc L vk vd).toArray] (C ++ H) fun r H' => ∃ C2, r = .int .i64 (sendE W L) ∧ WAt 72 34 5 p  (sendW W L) C2 ∧ H' = C2 ++ H := by
 refine Tells.enter Try.func10 rfl Try.ntmps10 rfl ?_
 intro w0 R
 obtain ⟨ko, kc, rfl, _⟩ := hk.form
 obtain ⟨eo, ec, rfl, _⟩ := hd.form
 have hfew := inv.few
 have hW := h
 obtain ⟨vl, Cl, cs, D, rfl, ho, hL⟩ := h
 obtain ⟨xo, xc, rfl, hxc⟩ := ho.form
 refine sr_ ?_
 refine WL.h rfl (Hd.boxA rfl fun b3 => ⟨_, rfl, ?_⟩)
 refine a_ rfl rfl ?_
 refine nt_ ?_
 refine WC.seq ?_
 refine WC.block ?_
 refine sr_ ?_
 refine m_ rfl rfl ?_
 refine WL.y rfl (Yd.eqlNil Try.underlying22 rfl rfl) ?_
 refine WL.renamed (t := 7) (v := .bool false) rfl (congrArg Value.bool (rfl)) ?_
 refine a_ rfl rfl ?_
 refine nt_ ?_
 refine WC.no rfl ?_
 refine sr_ ?_
 refine m_ rfl rfl ?_
 refine f_ 0 kr_ rfl rfl ?_
 refine d_ kr_ rfl mem_ (by rfl) rfl ?_
 refine WL.rf rfl (Ent.func Try.call29 rfl) (is_reads p W _ hW L.f) sp_ ?_
 refine WL.y rfl (Yd.notB rfl) ?_
 refine m_ rfl rfl ?_
 refine WL.part (t := 14) rfl (fun hg14 => ?_) (fun hg14 => ?_)
 ·iterate 5 refine gn_ 14 rfl rfl rfl rfl ?_
  refine WL.y rfl (Yd.pickT rfl rfl) ?_
  refine m_ rfl rfl ?_
  iterate 4 refine gn_ 21 rfl rfl rfl rfl ?_
  refine WL.y rfl (Yd.pickT rfl rfl) ?_
  refine a_ rfl rfl ?_
  refine nt_ ?_
  refine WC.yes rfl ?_
  refine sr_ ?_
  refine a_ rfl rfl ?_
  refine nt_ ?_
  refine WC.ret ?_
  refine DN.block_ret ?_
  refine DN.then_ret ?_
  first | refine DN.fit (C := (row p (.int .i64 W.n :: .slice zo (W.ls.length + 1) zc :: (ic W.cut ++ uc W.clk)) 72 :: (C2 ++ (D ++ (A ++ B)))) ++ H) sp_ ?_ | refine DN.fit (C := (row p (.int .i64 W.n :: .slice xo W.ls.length xc :: (ic W.cut ++ uc W.clk)) 72 :: (Cl ++ D)) ++ H) sp_ ?_
  refine DN.ret1 Try.results10 rfl ?_
  try simp only [Bool.not_eq_true', Bool.not_eq_false'] at hg14
  try simp only [Bool.not_eq_true', Bool.not_eq_false'] at hg21
  try (have hnb : noteBad L.n = true := by
        cases h : noteBad L.n with
        | true => rfl
        | false => simp [h] at h8)
  try (have hnb : noteBad L.n = false := by
        cases h : noteBad L.n with
        | false => rfl
        | true => simp [h] at h8)
  first
    | (have e : sendE W L = 2 := by simp [sendE, *]
       have e2 : sendW W L = W := by simp [sendW, e]
       rw [e, e2]
       exact ⟨_, rfl, hW, rfl⟩)
    | (have e : sendE W L = 5 := by simp [sendE, *]
       have e2 : sendW W L = W := by simp [sendW, e]
       rw [e, e2]
       exact ⟨_, rfl, hW, rfl⟩)
    | (have e : sendE W L = 0 := by simp [sendE, *]
       have e2 : sendW W L = W := by simp [sendW, h36]
       rw [e, e2]
       exact ⟨_, rfl, hW, rfl⟩)
    | (have e : sendE W L = 0 := by simp [sendE, *]
       have e2 : sendW W L = { W with ls := W.ls ++ [L] } := by simp [sendW, e, h36]
       rw [e, e2]
       exact ⟨_, rfl, ⟨_, C2, _, D ++ (A ++ B), rfl, by rw [List.length_append]; exact h2, hL.append (Lts.one' hA hB)⟩, rfl⟩)
 ·refine gy_ 14 rfl rfl rfl (Yd.move rfl) ?_
  refine gy_ 14 rfl rfl rfl (Yd.fieldAddr (k := 1) kr_ rfl) ?_
  refine WL.gh (dj := 14) rfl rfl rfl (Hd.load1 kr_ rfl mem_ (by rfl) ⟨_, rfl, ?_⟩)
  refine WL.grf (dj := 14) rfl rfl rfl (Ent.func Try.call29 rfl) (is_reads p W _ hW L.t) sp_ ?_
  refine gy_ 14 rfl rfl rfl (Yd.notB rfl) ?_
  refine WL.y rfl (Yd.pickF rfl rfl) ?_
  refine m_ rfl rfl ?_
  refine WL.part (t := 21) rfl (fun hg21 => ?_) (fun hg21 => ?_)
  ·iterate 4 refine gn_ 21 rfl rfl rfl rfl ?_
   refine WL.y rfl (Yd.pickT rfl rfl) ?_
   refine a_ rfl rfl ?_
   refine nt_ ?_
   refine WC.yes rfl ?_
   refine sr_ ?_
   refine a_ rfl rfl ?_
   refine nt_ ?_
   refine WC.ret ?_
   refine DN.block_ret ?_
   refine DN.then_ret ?_
   first | refine DN.fit (C := (row p (.int .i64 W.n :: .slice zo (W.ls.length + 1) zc :: (ic W.cut ++ uc W.clk)) 72 :: (C2 ++ (D ++ (A ++ B)))) ++ H) sp_ ?_ | refine DN.fit (C := (row p (.int .i64 W.n :: .slice xo W.ls.length xc :: (ic W.cut ++ uc W.clk)) 72 :: (Cl ++ D)) ++ H) sp_ ?_
   refine DN.ret1 Try.results10 rfl ?_
   try simp only [Bool.not_eq_true', Bool.not_eq_false'] at hg14
   try simp only [Bool.not_eq_true', Bool.not_eq_false'] at hg21
   try (have hnb : noteBad L.n = true := by
         cases h : noteBad L.n with
         | true => rfl
         | false => simp [h] at h8)
   try (have hnb : noteBad L.n = false := by
         cases h : noteBad L.n with
         | false => rfl
         | true => simp [h] at h8)
   first
     | (have e : sendE W L = 2 := by simp [sendE, *]
        have e2 : sendW W L = W := by simp [sendW, e]
        rw [e, e2]
        exact ⟨_, rfl, hW, rfl⟩)
     | (have e : sendE W L = 5 := by simp [sendE, *]
        have e2 : sendW W L = W := by simp [sendW, e]
        rw [e, e2]
        exact ⟨_, rfl, hW, rfl⟩)
     | (have e : sendE W L = 0 := by simp [sendE, *]
        have e2 : sendW W L = W := by simp [sendW, h36]
        rw [e, e2]
        exact ⟨_, rfl, hW, rfl⟩)
     | (have e : sendE W L = 0 := by simp [sendE, *]
        have e2 : sendW W L = { W with ls := W.ls ++ [L] } := by simp [sendW, e, h36]
        rw [e, e2]
        exact ⟨_, rfl, ⟨_, C2, _, D ++ (A ++ B), rfl, by rw [List.length_append]; exact h2, hL.append (Lts.one' hA hB)⟩, rfl⟩)
  ·refine gy_ 21 rfl rfl rfl (Yd.fieldAddr (k := 2) kr_ rfl) ?_
   refine WL.gh (dj := 21) rfl rfl rfl (Hd.loadA (n := 11) (vs := [_, _, _, _, _, _, _, _, _, _, _]) kr_ rfl mem_ (by rfl) (by rfl) ⟨_, rfl, ?_⟩)
   refine WL.gr (dj := 21) rfl rfl rfl (Ent.func Try.call30 rfl) (check_reads L.n _ _ ⟨_, _, rfl⟩ ⟨_, _, rfl⟩ _) ?_
   refine gy_ 21 rfl rfl rfl (Yd.neq rfl rfl) ?_
   refine WL.y rfl (Yd.pickF rfl rfl) ?_
   refine a_ rfl rfl ?_
   refine nt_ ?_
   refine WC.ite rfl (fun h8 => ?_) (fun h8 => ?_)
   ·refine sr_ ?_
    refine a_ rfl rfl ?_
    refine nt_ ?_
    refine WC.ret ?_
    refine DN.block_ret ?_
    refine DN.then_ret ?_
    first | refine DN.fit (C := (row p (.int .i64 W.n :: .slice zo (W.ls.length + 1) zc :: (ic W.cut ++ uc W.clk)) 72 :: (C2 ++ (D ++ (A ++ B)))) ++ H) sp_ ?_ | refine DN.fit (C := (row p (.int .i64 W.n :: .slice xo W.ls.length xc :: (ic W.cut ++ uc W.clk)) 72 :: (Cl ++ D)) ++ H) sp_ ?_
    refine DN.ret1 Try.results10 rfl ?_
    try simp only [Bool.not_eq_true', Bool.not_eq_false'] at hg14
    try simp only [Bool.not_eq_true', Bool.not_eq_false'] at hg21
    try (have hnb : noteBad L.n = true := by
          cases h : noteBad L.n with
          | true => rfl
          | false => simp [h] at h8)
    try (have hnb : noteBad L.n = false := by
          cases h : noteBad L.n with
          | false => rfl
          | true => simp [h] at h8)
    first
      | (have e : sendE W L = 2 := by simp [sendE, *]
         have e2 : sendW W L = W := by simp [sendW, e]
         rw [e, e2]
         exact ⟨_, rfl, hW, rfl⟩)
      | (have e : sendE W L = 5 := by simp [sendE, *]
         have e2 : sendW W L = W := by simp [sendW, e]
         rw [e, e2]
         exact ⟨_, rfl, hW, rfl⟩)
      | (have e : sendE W L = 0 := by simp [sendE, *]
         have e2 : sendW W L = W := by simp [sendW, h36]
         rw [e, e2]
         exact ⟨_, rfl, hW, rfl⟩)
      | (have e : sendE W L = 0 := by simp [sendE, *]
         have e2 : sendW W L = { W with ls := W.ls ++ [L] } := by simp [sendW, e, h36]
         rw [e, e2]
         exact ⟨_, rfl, ⟨_, C2, _, D ++ (A ++ B), rfl, by rw [List.length_append]; exact h2, hL.append (Lts.one' hA hB)⟩, rfl⟩)
   ·have hn1 : isNode W L.f = true := by simpa using hg14
    have hn2 : isNode W L.t = true := by simpa using hg21
    have hwf : 0 ≤ L.f ∧ L.f < 6 := by have := inv.n; simp only [isNode, Bool.and_eq_true, decide_eq_true_eq] at hn1; omega
    have hwt : 0 ≤ L.t ∧ L.t < 6 := by have := inv.n; simp only [isNode, Bool.and_eq_true, decide_eq_true_eq] at hn2; omega
    refine sr_ ?_
    refine m_ rfl rfl ?_
    refine n_ rfl rfl ?_
    refine f_ 1 kr_ rfl rfl ?_
    refine d_ kr_ rfl mem_ (by rfl) rfl ?_
    refine WL.y rfl (Yd.len (e := 34) kr_ rfl) ?_
    refine WL.y rfl (Yd.geq rfl rfl) ?_
    refine a_ rfl rfl ?_
    refine nt_ ?_
    refine WC.ite rfl (fun h27 => ?_) (fun h27 => ?_)
    ·refine sr_ ?_
     refine a_ rfl rfl ?_
     refine nt_ ?_
     refine WC.ret ?_
     refine DN.block_ret ?_
     refine DN.then_ret ?_
     first | refine DN.fit (C := (row p (.int .i64 W.n :: .slice zo (W.ls.length + 1) zc :: (ic W.cut ++ uc W.clk)) 72 :: (C2 ++ (D ++ (A ++ B)))) ++ H) sp_ ?_ | refine DN.fit (C := (row p (.int .i64 W.n :: .slice xo W.ls.length xc :: (ic W.cut ++ uc W.clk)) 72 :: (Cl ++ D)) ++ H) sp_ ?_
     refine DN.ret1 Try.results10 rfl ?_
     try simp only [Bool.not_eq_true', Bool.not_eq_false'] at hg14
     try simp only [Bool.not_eq_true', Bool.not_eq_false'] at hg21
     try (have hnb : noteBad L.n = true := by
           cases h : noteBad L.n with
           | true => rfl
           | false => simp [h] at h8)
     try (have hnb : noteBad L.n = false := by
           cases h : noteBad L.n with
           | false => rfl
           | true => simp [h] at h8)
     first
       | (have e : sendE W L = 2 := by simp [sendE, *]
          have e2 : sendW W L = W := by simp [sendW, e]
          rw [e, e2]
          exact ⟨_, rfl, hW, rfl⟩)
       | (have e : sendE W L = 5 := by simp [sendE, *]
          have e2 : sendW W L = W := by simp [sendW, e]
          rw [e, e2]
          exact ⟨_, rfl, hW, rfl⟩)
       | (have e : sendE W L = 0 := by simp [sendE, *]
          have e2 : sendW W L = W := by simp [sendW, h36]
          rw [e, e2]
          exact ⟨_, rfl, hW, rfl⟩)
       | (have e : sendE W L = 0 := by simp [sendE, *]
          have e2 : sendW W L = { W with ls := W.ls ++ [L] } := by simp [sendW, e, h36]
          rw [e, e2]
          exact ⟨_, rfl, ⟨_, C2, _, D ++ (A ++ B), rfl, by rw [List.length_append]; exact h2, hL.append (Lts.one' hA hB)⟩, rfl⟩)
    ·refine WC.skip ?_
     refine DN.block_normal ?_
     refine ts_ ?_
     refine sr_ ?_
     refine m_ rfl rfl ?_
     refine WL.h rfl (Hd.loadAll (n := 13) kr_ rfl mem_ (by rfl) ⟨_, rfl, ?_⟩)
     refine WL.rf rfl (Ent.func Try.call31 rfl) (open_reads p W _ [] hW inv.cut L _ _ hwf hwt) sp_ ?_
     refine nt_ ?_
     refine WC.cond rfl (fun h36 => ?_) (fun h36 => ?_)
     ·refine WC.draw 12 kr_ rfl ?_
      refine WA.y (i := 0) (NoPanic.then (NoPanic.body)) rfl kr_ kr_ kr_ rfl (Yd.move rfl) ?_
      refine WA.y (i := 1) (NoPanic.then (NoPanic.body)) rfl kr_ kr_ kr_ rfl (Yd.move rfl) ?_
      refine WA.y (i := 2) (NoPanic.then (NoPanic.body)) rfl kr_ kr_ kr_ rfl (Yd.notNil rfl) ?_
      refine WA.y (i := 3) (NoPanic.then (NoPanic.body)) rfl kr_ kr_ kr_ rfl (Yd.fieldAddr (k := 1) kr_ rfl) ?_
      refine WA.two (i := 4) (j := 5) kr_ ?_ ?_
      ·refine WO.h rfl Wt.none rfl (Hd.load1 kr_ rfl mem_ (by rfl) ⟨_, rfl, ?_⟩)
       refine WA.one (i := 5) kr_ ?_
       refine WO.h rfl Wt.none rfl (Hd.loadAll (n := 13) kr_ rfl mem_ (by rfl) ⟨_, rfl, ?_⟩)
       refine WA.one (i := 6) kr_ ?_
       refine WO.c rfl Wt.none rfl (Ent.func Try.call32 rfl) (own_tells L _ _ _ (hk.mono gr_) (hd.mono gr_) bk bd) (Sp.p sp_) ?_
       rintro q H2 ⟨vk2, vd2, A, B, rfl, hA, hB, rfl⟩
       have hk1 := hA.one_cell
       have hk2 := hB.one_cell
       refine WA.one (i := 7) kr_ ?_
       refine WO.h rfl Wt.none rfl (Hd.buildA (e := 34) (sz := 13) (zs := [.int .i64 0, .int .i64 0, .int .i64 0, .int .u32 0, .int .u32 0, .int .u64 0, .int .u64 0, .int .u32 0, .int .i64 0, .bool false, .int .i64 0, .slice none 0 0, .slice none 0 0]) kr_ kr_ kr_ rfl rfl (by rfl) kr_ fun b44 => ⟨_, rfl, ?_⟩)
       refine WA.one (i := 8) kr_ ?_
       refine WO.h rfl Wt.none rfl (Hd.appendRow (e := 34) (sz := 13) (bytes := 128) (zs := [.int .i64 0, .int .i64 0, .int .i64 0, .int .u32 0, .int .u32 0, .int .u64 0, .int .u64 0, .int .u32 0, .int .i64 0, .bool false, .int .i64 0, .slice none 0 0, .slice none 0 0]) kr_ kr_ rfl (by omega) rfl rfl (ho) sp_ mem_ (by rfl) one_ (by simp only [maxLen]; omega) (by omega) fun v2 C2 h2 => ⟨_, rfl, ?_⟩)
       obtain ⟨zo, zc, rfl, _⟩ := h2.form
       refine WA.y (i := 9) (NoPanic.then (NoPanic.body)) rfl kr_ kr_ kr_ rfl (Yd.notNil rfl) ?_
       refine WA.y (i := 10) (NoPanic.then (NoPanic.body)) rfl kr_ kr_ kr_ rfl (Yd.fieldAddr (k := 1) kr_ rfl) ?_
       refine WA.one (i := 11) kr_ ?_
       refine WO.s rfl Wt.none (Hd.store1s kr_ rfl rfl (by rfl) fr_ (by rfl) (by first | (simp only [List.set_cons_zero, List.set_cons_succ, Nat.zero_add, Nat.add_zero, Nat.reduceAdd]; rfl) | rfl) ⟨rfl, ?_⟩)
       refine WA.done kr_ ?_
       refine ts_ ?_
       refine WC.region ?_
       refine a_ rfl rfl ?_
       refine nt_ ?_
       refine WC.ret ?_
       first | refine DN.fit (C := (row p (.int .i64 W.n :: .slice zo (W.ls.length + 1) zc :: (ic W.cut ++ uc W.clk)) 72 :: (C2 ++ (D ++ (A ++ B)))) ++ H) sp_ ?_ | refine DN.fit (C := (row p (.int .i64 W.n :: .slice xo W.ls.length xc :: (ic W.cut ++ uc W.clk)) 72 :: (Cl ++ D)) ++ H) sp_ ?_
       refine DN.ret1 Try.results10 rfl ?_
       try simp only [Bool.not_eq_true', Bool.not_eq_false'] at hg14
       try simp only [Bool.not_eq_true', Bool.not_eq_false'] at hg21
       try (have hnb : noteBad L.n = true := by
             cases h : noteBad L.n with
             | true => rfl
             | false => simp [h] at h8)
       try (have hnb : noteBad L.n = false := by
             cases h : noteBad L.n with
             | false => rfl
             | true => simp [h] at h8)
       first
         | (have e : sendE W L = 2 := by simp [sendE, *]
            have e2 : sendW W L = W := by simp [sendW, e]
            rw [e, e2]
            exact ⟨_, rfl, hW, rfl⟩)
         | (have e : sendE W L = 5 := by simp [sendE, *]
            have e2 : sendW W L = W := by simp [sendW, e]
            rw [e, e2]
            exact ⟨_, rfl, hW, rfl⟩)
         | (have e : sendE W L = 0 := by simp [sendE, *]
            have e2 : sendW W L = W := by simp [sendW, h36]
            rw [e, e2]
            exact ⟨_, rfl, hW, rfl⟩)
         | (have e : sendE W L = 0 := by simp [sendE, *]
            have e2 : sendW W L = { W with ls := W.ls ++ [L] } := by simp [sendW, e, h36]
            rw [e, e2]
            exact ⟨_, rfl, ⟨_, C2, _, D ++ (A ++ B), rfl, by rw [List.length_append]; exact h2, hL.append (Lts.one' hA hB)⟩, rfl⟩)
      ·refine WO.h rfl Wt.none rfl (Hd.loadAll (n := 13) kr_ rfl mem_ (by rfl) ⟨_, rfl, ?_⟩)
       refine WA.two (i := 4) (j := 6) kr_ ?_ ?_
       ·refine WO.h rfl Wt.none rfl (Hd.load1 kr_ rfl mem_ (by rfl) ⟨_, rfl, ?_⟩)
        refine WA.one (i := 6) kr_ ?_
        refine WO.c rfl Wt.none rfl (Ent.func Try.call32 rfl) (own_tells L _ _ _ (hk.mono gr_) (hd.mono gr_) bk bd) (Sp.p sp_) ?_
        rintro q H2 ⟨vk2, vd2, A, B, rfl, hA, hB, rfl⟩
        have hk1 := hA.one_cell
        have hk2 := hB.one_cell
        refine WA.one (i := 7) kr_ ?_
        refine WO.h rfl Wt.none rfl (Hd.buildA (e := 34) (sz := 13) (zs := [.int .i64 0, .int .i64 0, .int .i64 0, .int .u32 0, .int .u32 0, .int .u64 0, .int .u64 0, .int .u32 0, .int .i64 0, .bool false, .int .i64 0, .slice none 0 0, .slice none 0 0]) kr_ kr_ kr_ rfl rfl (by rfl) kr_ fun b44 => ⟨_, rfl, ?_⟩)
        refine WA.one (i := 8) kr_ ?_
        refine WO.h rfl Wt.none rfl (Hd.appendRow (e := 34) (sz := 13) (bytes := 128) (zs := [.int .i64 0, .int .i64 0, .int .i64 0, .int .u32 0, .int .u32 0, .int .u64 0, .int .u64 0, .int .u32 0, .int .i64 0, .bool false, .int .i64 0, .slice none 0 0, .slice none 0 0]) kr_ kr_ rfl (by omega) rfl rfl (ho) sp_ mem_ (by rfl) one_ (by simp only [maxLen]; omega) (by omega) fun v2 C2 h2 => ⟨_, rfl, ?_⟩)
        obtain ⟨zo, zc, rfl, _⟩ := h2.form
        refine WA.y (i := 9) (NoPanic.then (NoPanic.body)) rfl kr_ kr_ kr_ rfl (Yd.notNil rfl) ?_
        refine WA.y (i := 10) (NoPanic.then (NoPanic.body)) rfl kr_ kr_ kr_ rfl (Yd.fieldAddr (k := 1) kr_ rfl) ?_
        refine WA.one (i := 11) kr_ ?_
        refine WO.s rfl Wt.none (Hd.store1s kr_ rfl rfl (by rfl) fr_ (by rfl) (by first | (simp only [List.set_cons_zero, List.set_cons_succ, Nat.zero_add, Nat.add_zero, Nat.reduceAdd]; rfl) | rfl) ⟨rfl, ?_⟩)
        refine WA.done kr_ ?_
        refine ts_ ?_
        refine WC.region ?_
        refine a_ rfl rfl ?_
        refine nt_ ?_
        refine WC.ret ?_
        first | refine DN.fit (C := (row p (.int .i64 W.n :: .slice zo (W.ls.length + 1) zc :: (ic W.cut ++ uc W.clk)) 72 :: (C2 ++ (D ++ (A ++ B)))) ++ H) sp_ ?_ | refine DN.fit (C := (row p (.int .i64 W.n :: .slice xo W.ls.length xc :: (ic W.cut ++ uc W.clk)) 72 :: (Cl ++ D)) ++ H) sp_ ?_
        refine DN.ret1 Try.results10 rfl ?_
        try simp only [Bool.not_eq_true', Bool.not_eq_false'] at hg14
        try simp only [Bool.not_eq_true', Bool.not_eq_false'] at hg21
        try (have hnb : noteBad L.n = true := by
              cases h : noteBad L.n with
              | true => rfl
              | false => simp [h] at h8)
        try (have hnb : noteBad L.n = false := by
              cases h : noteBad L.n with
              | false => rfl
              | true => simp [h] at h8)
        first
          | (have e : sendE W L = 2 := by simp [sendE, *]
             have e2 : sendW W L = W := by simp [sendW, e]
             rw [e, e2]
             exact ⟨_, rfl, hW, rfl⟩)
          | (have e : sendE W L = 5 := by simp [sendE, *]
             have e2 : sendW W L = W := by simp [sendW, e]
             rw [e, e2]
             exact ⟨_, rfl, hW, rfl⟩)
          | (have e : sendE W L = 0 := by simp [sendE, *]
             have e2 : sendW W L = W := by simp [sendW, h36]
             rw [e, e2]
             exact ⟨_, rfl, hW, rfl⟩)
          | (have e : sendE W L = 0 := by simp [sendE, *]
             have e2 : sendW W L = { W with ls := W.ls ++ [L] } := by simp [sendW, e, h36]
             rw [e, e2]
             exact ⟨_, rfl, ⟨_, C2, _, D ++ (A ++ B), rfl, by rw [List.length_append]; exact h2, hL.append (Lts.one' hA hB)⟩, rfl⟩)
       ·refine WO.c rfl Wt.none rfl (Ent.func Try.call32 rfl) (own_tells L _ _ _ (hk.mono gr_) (hd.mono gr_) bk bd) (Sp.p sp_) ?_
        rintro q H2 ⟨vk2, vd2, A, B, rfl, hA, hB, rfl⟩
        have hk1 := hA.one_cell
        have hk2 := hB.one_cell
        refine WA.two (i := 4) (j := 7) kr_ ?_ ?_
        ·refine WO.h rfl Wt.none rfl (Hd.load1 kr_ rfl mem_ (by rfl) ⟨_, rfl, ?_⟩)
         refine WA.one (i := 7) kr_ ?_
         refine WO.h rfl Wt.none rfl (Hd.buildA (e := 34) (sz := 13) (zs := [.int .i64 0, .int .i64 0, .int .i64 0, .int .u32 0, .int .u32 0, .int .u64 0, .int .u64 0, .int .u32 0, .int .i64 0, .bool false, .int .i64 0, .slice none 0 0, .slice none 0 0]) kr_ kr_ kr_ rfl rfl (by rfl) kr_ fun b44 => ⟨_, rfl, ?_⟩)
         refine WA.one (i := 8) kr_ ?_
         refine WO.h rfl Wt.none rfl (Hd.appendRow (e := 34) (sz := 13) (bytes := 128) (zs := [.int .i64 0, .int .i64 0, .int .i64 0, .int .u32 0, .int .u32 0, .int .u64 0, .int .u64 0, .int .u32 0, .int .i64 0, .bool false, .int .i64 0, .slice none 0 0, .slice none 0 0]) kr_ kr_ rfl (by omega) rfl rfl (ho) sp_ mem_ (by rfl) one_ (by simp only [maxLen]; omega) (by omega) fun v2 C2 h2 => ⟨_, rfl, ?_⟩)
         obtain ⟨zo, zc, rfl, _⟩ := h2.form
         refine WA.y (i := 9) (NoPanic.then (NoPanic.body)) rfl kr_ kr_ kr_ rfl (Yd.notNil rfl) ?_
         refine WA.y (i := 10) (NoPanic.then (NoPanic.body)) rfl kr_ kr_ kr_ rfl (Yd.fieldAddr (k := 1) kr_ rfl) ?_
         refine WA.one (i := 11) kr_ ?_
         refine WO.s rfl Wt.none (Hd.store1s kr_ rfl rfl (by rfl) fr_ (by rfl) (by first | (simp only [List.set_cons_zero, List.set_cons_succ, Nat.zero_add, Nat.add_zero, Nat.reduceAdd]; rfl) | rfl) ⟨rfl, ?_⟩)
         refine WA.done kr_ ?_
         refine ts_ ?_
         refine WC.region ?_
         refine a_ rfl rfl ?_
         refine nt_ ?_
         refine WC.ret ?_
         first | refine DN.fit (C := (row p (.int .i64 W.n :: .slice zo (W.ls.length + 1) zc :: (ic W.cut ++ uc W.clk)) 72 :: (C2 ++ (D ++ (A ++ B)))) ++ H) sp_ ?_ | refine DN.fit (C := (row p (.int .i64 W.n :: .slice xo W.ls.length xc :: (ic W.cut ++ uc W.clk)) 72 :: (Cl ++ D)) ++ H) sp_ ?_
         refine DN.ret1 Try.results10 rfl ?_
         try simp only [Bool.not_eq_true', Bool.not_eq_false'] at hg14
         try simp only [Bool.not_eq_true', Bool.not_eq_false'] at hg21
         try (have hnb : noteBad L.n = true := by
               cases h : noteBad L.n with
               | true => rfl
               | false => simp [h] at h8)
         try (have hnb : noteBad L.n = false := by
               cases h : noteBad L.n with
               | false => rfl
               | true => simp [h] at h8)
         first
           | (have e : sendE W L = 2 := by simp [sendE, *]
              have e2 : sendW W L = W := by simp [sendW, e]
              rw [e, e2]
              exact ⟨_, rfl, hW, rfl⟩)
           | (have e : sendE W L = 5 := by simp [sendE, *]
              have e2 : sendW W L = W := by simp [sendW, e]
              rw [e, e2]
              exact ⟨_, rfl, hW, rfl⟩)
           | (have e : sendE W L = 0 := by simp [sendE, *]
              have e2 : sendW W L = W := by simp [sendW, h36]
              rw [e, e2]
              exact ⟨_, rfl, hW, rfl⟩)
           | (have e : sendE W L = 0 := by simp [sendE, *]
              have e2 : sendW W L = { W with ls := W.ls ++ [L] } := by simp [sendW, e, h36]
              rw [e, e2]
              exact ⟨_, rfl, ⟨_, C2, _, D ++ (A ++ B), rfl, by rw [List.length_append]; exact h2, hL.append (Lts.one' hA hB)⟩, rfl⟩)
        ·refine WO.h rfl Wt.none rfl (Hd.buildA (e := 34) (sz := 13) (zs := [.int .i64 0, .int .i64 0, .int .i64 0, .int .u32 0, .int .u32 0, .int .u64 0, .int .u64 0, .int .u32 0, .int .i64 0, .bool false, .int .i64 0, .slice none 0 0, .slice none 0 0]) kr_ kr_ kr_ rfl rfl (by rfl) kr_ fun b44 => ⟨_, rfl, ?_⟩)
         refine WA.one (i := 4) kr_ ?_
         refine WO.h rfl Wt.none rfl (Hd.load1 kr_ rfl mem_ (by rfl) ⟨_, rfl, ?_⟩)
         refine WA.one (i := 8) kr_ ?_
         refine WO.h rfl Wt.none rfl (Hd.appendRow (e := 34) (sz := 13) (bytes := 128) (zs := [.int .i64 0, .int .i64 0, .int .i64 0, .int .u32 0, .int .u32 0, .int .u64 0, .int .u64 0, .int .u32 0, .int .i64 0, .bool false, .int .i64 0, .slice none 0 0, .slice none 0 0]) kr_ kr_ rfl (by omega) rfl rfl (ho) sp_ mem_ (by rfl) one_ (by simp only [maxLen]; omega) (by omega) fun v2 C2 h2 => ⟨_, rfl, ?_⟩)
         obtain ⟨zo, zc, rfl, _⟩ := h2.form
         refine WA.y (i := 9) (NoPanic.then (NoPanic.body)) rfl kr_ kr_ kr_ rfl (Yd.notNil rfl) ?_
         refine WA.y (i := 10) (NoPanic.then (NoPanic.body)) rfl kr_ kr_ kr_ rfl (Yd.fieldAddr (k := 1) kr_ rfl) ?_
         refine WA.one (i := 11) kr_ ?_
         refine WO.s rfl Wt.none (Hd.store1s kr_ rfl rfl (by rfl) fr_ (by rfl) (by first | (simp only [List.set_cons_zero, List.set_cons_succ, Nat.zero_add, Nat.add_zero, Nat.reduceAdd]; rfl) | rfl) ⟨rfl, ?_⟩)
         refine WA.done kr_ ?_
         refine ts_ ?_
         refine WC.region ?_
         refine a_ rfl rfl ?_
         refine nt_ ?_
         refine WC.ret ?_
         first | refine DN.fit (C := (row p (.int .i64 W.n :: .slice zo (W.ls.length + 1) zc :: (ic W.cut ++ uc W.clk)) 72 :: (C2 ++ (D ++ (A ++ B)))) ++ H) sp_ ?_ | refine DN.fit (C := (row p (.int .i64 W.n :: .slice xo W.ls.length xc :: (ic W.cut ++ uc W.clk)) 72 :: (Cl ++ D)) ++ H) sp_ ?_
         refine DN.ret1 Try.results10 rfl ?_
         try simp only [Bool.not_eq_true', Bool.not_eq_false'] at hg14
         try simp only [Bool.not_eq_true', Bool.not_eq_false'] at hg21
         try (have hnb : noteBad L.n = true := by
               cases h : noteBad L.n with
               | true => rfl
               | false => simp [h] at h8)
         try (have hnb : noteBad L.n = false := by
               cases h : noteBad L.n with
               | false => rfl
               | true => simp [h] at h8)
         first
           | (have e : sendE W L = 2 := by simp [sendE, *]
              have e2 : sendW W L = W := by simp [sendW, e]
              rw [e, e2]
              exact ⟨_, rfl, hW, rfl⟩)
           | (have e : sendE W L = 5 := by simp [sendE, *]
              have e2 : sendW W L = W := by simp [sendW, e]
              rw [e, e2]
              exact ⟨_, rfl, hW, rfl⟩)
           | (have e : sendE W L = 0 := by simp [sendE, *]
              have e2 : sendW W L = W := by simp [sendW, h36]
              rw [e, e2]
              exact ⟨_, rfl, hW, rfl⟩)
           | (have e : sendE W L = 0 := by simp [sendE, *]
              have e2 : sendW W L = { W with ls := W.ls ++ [L] } := by simp [sendW, e, h36]
              rw [e, e2]
              exact ⟨_, rfl, ⟨_, C2, _, D ++ (A ++ B), rfl, by rw [List.length_append]; exact h2, hL.append (Lts.one' hA hB)⟩, rfl⟩)
     ·refine WC.skip ?_
      refine ts_ ?_
      refine WC.region ?_
      refine a_ rfl rfl ?_
      refine nt_ ?_
      refine WC.ret ?_
      first | refine DN.fit (C := (row p (.int .i64 W.n :: .slice zo (W.ls.length + 1) zc :: (ic W.cut ++ uc W.clk)) 72 :: (C2 ++ (D ++ (A ++ B)))) ++ H) sp_ ?_ | refine DN.fit (C := (row p (.int .i64 W.n :: .slice xo W.ls.length xc :: (ic W.cut ++ uc W.clk)) 72 :: (Cl ++ D)) ++ H) sp_ ?_
      refine DN.ret1 Try.results10 rfl ?_
      try simp only [Bool.not_eq_true', Bool.not_eq_false'] at hg14
      try simp only [Bool.not_eq_true', Bool.not_eq_false'] at hg21
      try (have hnb : noteBad L.n = true := by
            cases h : noteBad L.n with
            | true => rfl
            | false => simp [h] at h8)
      try (have hnb : noteBad L.n = false := by
            cases h : noteBad L.n with
            | false => rfl
            | true => simp [h] at h8)
      first
        | (have e : sendE W L = 2 := by simp [sendE, *]
           have e2 : sendW W L = W := by simp [sendW, e]
           rw [e, e2]
           exact ⟨_, rfl, hW, rfl⟩)
        | (have e : sendE W L = 5 := by simp [sendE, *]
           have e2 : sendW W L = W := by simp [sendW, e]
           rw [e, e2]
           exact ⟨_, rfl, hW, rfl⟩)
        | (have e : sendE W L = 0 := by simp [sendE, *]
           have e2 : sendW W L = W := by simp [sendW, h36]
           rw [e, e2]
           exact ⟨_, rfl, hW, rfl⟩)
        | (have e : sendE W L = 0 := by simp [sendE, *]
           have e2 : sendW W L = { W with ls := W.ls ++ [L] } := by simp [sendW, e, h36]
           rw [e, e2]
           exact ⟨_, rfl, ⟨_, C2, _, D ++ (A ++ B), rfl, by rw [List.length_append]; exact h2, hL.append (Lts.one' hA hB)⟩, rfl⟩)
end Go.Proofs.Ytgpegfmonmdhoaa

set_option linter.unusedVariables false
set_option linter.unusedSimpArgs false
set_option maxHeartbeats 4000000
namespace Go.Proofs.Ytgpegfmonmdhoaa
open Go.SL
theorem pick_tells (p : Nat) (W : Wn) (C : List Ck) (h : WAt 72 34 5 p W C) (inv : WInv W) (k : Int) : Tells Try.prog 13 [.pointer (some ⟨p, 0, none⟩), .int .i64 k] C fun r C' => ∃ vk vd A B C2, r = .tuple #[.agg (ltc (pickL W k) vk vd).toArray, .bool (pickB W k)] ∧ Ob 5 vk (pickL W k).n.key A ∧ Ob 5 vd (pickL W k).n.data B ∧ WAt 72 34 5 p  (outW W k) C2 ∧ C' = C2 ++ (A ++ B) := by
 refine Tells.enter Try.func13 rfl Try.ntmps13 rfl ?_
 intro w0 R
 have hW := h
 obtain ⟨vl, Cl, cs, D, rfl, ho, hL⟩ := h
 obtain ⟨xo, xc, rfl, hxc⟩ := ho.form
 refine sr_ ?_
 refine WL.h rfl (Hd.alloc (zs := [.int .i64 0, .int .i64 0, .int .i64 0, .int .u32 0, .int .u32 0, .int .u64 0, .int .u64 0, .int .u32 0, .int .i64 0, .bool false, .int .i64 0, .slice none 0 0, .slice none 0 0]) kr_ fun b4 => ⟨_, rfl, ?_⟩)
 refine a_ rfl rfl ?_
 refine nt_ ?_
 refine WC.seq ?_
 refine sr_ ?_
 refine m_ rfl rfl ?_
 refine m_ rfl rfl ?_
 refine WL.rf rfl (Ent.func Try.call33 rfl) (there_reads p W _ hW k) sp_ ?_
 refine WL.y rfl (Yd.notB rfl) ?_
 refine nt_ ?_
 refine WC.cond rfl (fun h10 => ?_) (fun h10 => ?_)
 ·have hth : thereB W k = false := by simp only [Bool.not_eq_true'] at h10; exact h10
  refine sr_ ?_
  refine WL.y rfl (Yd.buildL (pl := [(0, 1), (1, 1), (2, 11)]) (zs := [.int .i64 0, .int .i64 0, .int .i64 0, .int .u32 0, .int .u32 0, .int .u64 0, .int .u64 0, .int .u32 0, .int .i64 0, .bool false, .int .i64 0, .slice none 0 0, .slice none 0 0]) (parts := []) (vs := []) (cells := [.int .i64 0, .int .i64 0, .int .i64 0, .int .u32 0, .int .u32 0, .int .u64 0, .int .u64 0, .int .u32 0, .int .i64 0, .bool false, .int .i64 0, .slice none 0 0, .slice none 0 0]) kr_ kr_ rfl rfl) ?_
  refine WL.s (Hd.storeAll (n := 13) kr_ rfl rfl (by rfl) one_ fr_ (by rfl) ⟨rfl, ?_⟩)
  refine a_ rfl rfl ?_
  refine nt_ ?_
  refine WC.ret ?_
  refine DN.then_ret ?_
  refine DN.retCT (s := 13) (row p (.int .i64 W.n :: .slice xo W.ls.length xc :: (ic W.cut ++ uc W.clk)) 72 :: (Cl ++ D)) Try.results13 kr_ rfl rfl mem_ (by rfl) sp_ ?_
  first
    | (have e1 : pickB W k = false := by simp [pickB, hth]
       have e2 : pickL W k = zeroL := by simp [pickL, e1]
       have e3 : outW W k = W := by simp [outW, hth]
       rw [e1, e2, e3]
       exact ⟨_, _, [], [], _, rfl, Ob.nil _, Ob.nil _, hW, by simp⟩)
    | (have e1 : pickB W (j : Int) = false := by simp only [Bool.not_eq_true'] at h18; simp only [pickB, hth, hat, Bool.true_and]; exact h18
       have e2 : pickL W (j : Int) = zeroL := by simp [pickL, e1]
       rw [e1, e2, hout]
       exact ⟨_, _, [], [], _, rfl, Ob.nil _, Ob.nil _, hW2, by simp⟩)
    | (have e1 : pickB W (j : Int) = true := by simp only [Bool.not_eq_false'] at h18; simp only [pickB, hth, hat, Bool.true_and]; exact h18
       have e2 : pickL W (j : Int) = W.ls.getD j zeroL := by simp only [pickL, e1, if_true, hat]
       rw [e1, e2, hout]
       exact ⟨_, _, A, B, C2, rfl, hA, hB, hW2, rfl⟩)
 ·have hth : thereB W k = true := by simp only [Bool.not_eq_false'] at h10; exact h10
  obtain ⟨j, rfl, hj⟩ : ∃ j : Nat, k = (j : Int) ∧ j < W.ls.length := ⟨k.toNat, by simp [thereB] at hth; omega, by simp [thereB] at hth; omega⟩
  have hat : atW W (j : Int) = W.ls.getD j zeroL := rfl
  have hout : outW W (j : Int) = { W with ls := W.ls.eraseIdx j } := by simp [outW, hth]
  refine WC.skip ?_
  refine ts_ ?_
  refine WC.region ?_
  refine m_ rfl rfl ?_
  refine m_ rfl rfl ?_
  refine WL.c rfl (Ent.func Try.call34 rfl) (take_tells p W _ hW inv.few j hj) (Sp.p sp_) ?_
  rintro q H2 ⟨vk, vd, A, B, C2, rfl, hA, hB, hW2, rfl⟩
  have hk1 := hA.one_cell
  have hk2 := hB.one_cell
  have hway := inv.way (W.ls.getD j zeroL) (by simp [List.getD, hj])
  have hin := inv.n
  have hwf : 0 ≤ (W.ls.getD j zeroL).f ∧ (W.ls.getD j zeroL).f < 6 := by omega
  have hwt : 0 ≤ (W.ls.getD j zeroL).t ∧ (W.ls.getD j zeroL).t < 6 := by omega
  refine WL.h rfl (Hd.alloc (zs := [.int .i64 0, .int .i64 0, .int .i64 0, .int .u32 0, .int .u32 0, .int .u64 0, .int .u64 0, .int .u32 0, .int .i64 0, .bool false, .int .i64 0, .slice none 0 0, .slice none 0 0]) kr_ fun b6 => ⟨_, rfl, ?_⟩)
  refine WL.s (Hd.storeAll (n := 13) kr_ rfl rfl (by rfl) one_ fr_ (by rfl) ⟨rfl, ?_⟩)
  refine nt_ ?_
  refine WC.seq ?_
  refine sr_ ?_
  refine m_ rfl rfl ?_
  refine WL.h rfl (Hd.loadAll (n := 13) kr_ rfl mem_ (by rfl) ⟨_, rfl, ?_⟩)
  refine WL.rf rfl (Ent.func Try.call31 rfl) (open_reads p _ C2 [] hW2 inv.cut (W.ls.getD j zeroL) _ _ hwf hwt) sp_ ?_
  refine WL.y rfl (Yd.notB rfl) ?_
  refine nt_ ?_
  refine WC.cond rfl (fun h18 => ?_) (fun h18 => ?_)
  ·refine sr_ ?_
   refine WL.y rfl (Yd.buildL (pl := [(0, 1), (1, 1), (2, 11)]) (zs := [.int .i64 0, .int .i64 0, .int .i64 0, .int .u32 0, .int .u32 0, .int .u64 0, .int .u64 0, .int .u32 0, .int .i64 0, .bool false, .int .i64 0, .slice none 0 0, .slice none 0 0]) (parts := []) (vs := []) (cells := [.int .i64 0, .int .i64 0, .int .i64 0, .int .u32 0, .int .u32 0, .int .u64 0, .int .u64 0, .int .u32 0, .int .i64 0, .bool false, .int .i64 0, .slice none 0 0, .slice none 0 0]) kr_ kr_ rfl rfl) ?_
   refine WL.s (Hd.storeAll (n := 13) kr_ rfl rfl (by rfl) one_ fr_ (by rfl) ⟨rfl, ?_⟩)
   refine a_ rfl rfl ?_
   refine nt_ ?_
   refine WC.ret ?_
   refine DN.then_ret ?_
   refine DN.retCT (s := 13) (C2) Try.results13 kr_ rfl rfl mem_ (by rfl) sp_ ?_
   first
     | (have e1 : pickB W k = false := by simp [pickB, hth]
        have e2 : pickL W k = zeroL := by simp [pickL, e1]
        have e3 : outW W k = W := by simp [outW, hth]
        rw [e1, e2, e3]
        exact ⟨_, _, [], [], _, rfl, Ob.nil _, Ob.nil _, hW, by simp⟩)
     | (have e1 : pickB W (j : Int) = false := by simp only [Bool.not_eq_true'] at h18; simp only [pickB, hth, hat, Bool.true_and]; exact h18
        have e2 : pickL W (j : Int) = zeroL := by simp [pickL, e1]
        rw [e1, e2, hout]
        exact ⟨_, _, [], [], _, rfl, Ob.nil _, Ob.nil _, hW2, by simp⟩)
     | (have e1 : pickB W (j : Int) = true := by simp only [Bool.not_eq_false'] at h18; simp only [pickB, hth, hat, Bool.true_and]; exact h18
        have e2 : pickL W (j : Int) = W.ls.getD j zeroL := by simp only [pickL, e1, if_true, hat]
        rw [e1, e2, hout]
        exact ⟨_, _, A, B, C2, rfl, hA, hB, hW2, rfl⟩)
  ·refine WC.skip ?_
   refine ts_ ?_
   refine WC.region ?_
   refine WL.h rfl (Hd.loadAll (n := 13) kr_ rfl mem_ (by rfl) ⟨_, rfl, ?_⟩)
   refine WL.s (Hd.storeAll (n := 13) kr_ rfl rfl (by rfl) one_ fr_ (by rfl) ⟨rfl, ?_⟩)
   refine a_ rfl rfl ?_
   refine nt_ ?_
   refine WC.ret ?_
   refine DN.retCT (s := 13) (C2 ++ (A ++ B)) Try.results13 kr_ rfl rfl mem_ (by rfl) sp_ ?_
   first
     | (have e1 : pickB W k = false := by simp [pickB, hth]
        have e2 : pickL W k = zeroL := by simp [pickL, e1]
        have e3 : outW W k = W := by simp [outW, hth]
        rw [e1, e2, e3]
        exact ⟨_, _, [], [], _, rfl, Ob.nil _, Ob.nil _, hW, by simp⟩)
     | (have e1 : pickB W (j : Int) = false := by simp only [Bool.not_eq_true'] at h18; simp only [pickB, hth, hat, Bool.true_and]; exact h18
        have e2 : pickL W (j : Int) = zeroL := by simp [pickL, e1]
        rw [e1, e2, hout]
        exact ⟨_, _, [], [], _, rfl, Ob.nil _, Ob.nil _, hW2, by simp⟩)
     | (have e1 : pickB W (j : Int) = true := by simp only [Bool.not_eq_false'] at h18; simp only [pickB, hth, hat, Bool.true_and]; exact h18
        have e2 : pickL W (j : Int) = W.ls.getD j zeroL := by simp only [pickL, e1, if_true, hat]
        rw [e1, e2, hout]
        exact ⟨_, _, A, B, C2, rfl, hA, hB, hW2, rfl⟩)
theorem lose_tells (p : Nat) (W : Wn) (C : List Ck) (h : WAt 72 34 5 p W C) (inv : WInv W) (k : Int) : Tells Try.prog 19 [.pointer (some ⟨p, 0, none⟩), .int .i64 k] C fun r C' => r = .bool (thereB W k) ∧ WAt 72 34 5 p  (outW W k) C' := by
 refine Tells.enter Try.func19 rfl Try.ntmps19 rfl ?_
 intro w0 R
 have hW := h
 obtain ⟨vl, Cl, cs, D, rfl, ho, hL⟩ := h
 obtain ⟨xo, xc, rfl, hxc⟩ := ho.form
 refine sr_ ?_
 refine a_ rfl rfl ?_
 refine nt_ ?_
 refine WC.seq ?_
 refine sr_ ?_
 refine m_ rfl rfl ?_
 refine m_ rfl rfl ?_
 refine WL.rf rfl (Ent.func Try.call33 rfl) (there_reads p W _ hW k) sp_ ?_
 refine WL.y rfl (Yd.notB rfl) ?_
 refine nt_ ?_
 refine WC.cond rfl (fun h8 => ?_) (fun h8 => ?_)
 ·have hth : thereB W k = false := by simp only [Bool.not_eq_true'] at h8; exact h8
  refine sr_ ?_
  refine a_ rfl rfl ?_
  refine nt_ ?_
  refine WC.ret ?_
  refine DN.then_ret ?_
  first | refine DN.fit (C := C2) sp_ ?_ | skip
  refine DN.ret1 Try.results19 rfl ?_
  first | exact ⟨by rw [hth], by rw [hout]; exact hW2⟩ | exact ⟨by rw [hth], by rw [outW, hth]; exact hW⟩
 ·have hth : thereB W k = true := by simp only [Bool.not_eq_false'] at h8; exact h8
  obtain ⟨j, rfl, hj⟩ : ∃ j : Nat, k = (j : Int) ∧ j < W.ls.length := ⟨k.toNat, by simp [thereB] at hth; omega, by simp [thereB] at hth; omega⟩
  have hat : atW W (j : Int) = W.ls.getD j zeroL := rfl
  have hout : outW W (j : Int) = { W with ls := W.ls.eraseIdx j } := by simp [outW, hth]
  refine WC.skip ?_
  refine ts_ ?_
  refine WC.region ?_
  refine m_ rfl rfl ?_
  refine m_ rfl rfl ?_
  refine WL.c rfl (Ent.func Try.call34 rfl) (take_tells p W _ hW inv.few j hj) (Sp.p sp_) ?_
  rintro q H2 ⟨vk, vd, A, B, C2, rfl, hA, hB, hW2, rfl⟩
  have hk1 := hA.one_cell
  have hk2 := hB.one_cell
  refine ntsr_ ?_
  refine a_ rfl rfl ?_
  refine nt_ ?_
  refine WC.ret ?_
  first | refine DN.fit (C := C2) sp_ ?_ | skip
  refine DN.ret1 Try.results19 rfl ?_
  first | exact ⟨by rw [hth], by rw [hout]; exact hW2⟩ | exact ⟨by rw [hth], by rw [outW, hth]; exact hW⟩
theorem late_tells (p : Nat) (W : Wn) (C : List Ck) (h : WAt 72 34 5 p W C) (inv : WInv W) (k : Int) : Tells Try.prog 12 [.pointer (some ⟨p, 0, none⟩), .int .i64 k] C fun r C' => r = .bool (thereB W k) ∧ WAt 72 34 5 p  (lateW W k) C' := by
 refine Tells.enter Try.func12 rfl Try.ntmps12 rfl ?_
 intro w0 R
 have hW := h
 obtain ⟨vl, Cl, cs, D, rfl, ho, hL⟩ := h
 obtain ⟨xo, xc, rfl, hxc⟩ := ho.form
 have hfew := inv.few
 refine sr_ ?_
 refine a_ rfl rfl ?_
 refine nt_ ?_
 refine WC.seq ?_
 refine sr_ ?_
 refine m_ rfl rfl ?_
 refine m_ rfl rfl ?_
 refine WL.rf rfl (Ent.func Try.call33 rfl) (there_reads p W _ hW k) sp_ ?_
 refine WL.y rfl (Yd.notB rfl) ?_
 refine nt_ ?_
 refine WC.cond rfl (fun h9 => ?_) (fun h9 => ?_)
 ·have hth : thereB W k = false := by simp only [Bool.not_eq_true'] at h9; exact h9
  refine sr_ ?_
  refine a_ rfl rfl ?_
  refine nt_ ?_
  refine WC.ret ?_
  refine DN.then_ret ?_
  first | refine DN.fit (C := row p (.int .i64 W.n :: .slice zo ((W.ls.eraseIdx j).length + 1) zc :: (ic W.cut ++ uc W.clk)) 72 :: (C3 ++ (D2 ++ (A ++ B)))) sp_ ?_ | skip
  refine DN.ret1 Try.results12 rfl ?_
  first
    | exact ⟨by rw [hth], by rw [lateW, hth]; exact hW⟩
    | (refine ⟨by rw [hth], ?_⟩
       have e : lateW W (j : Int) = { W with ls := W.ls.eraseIdx j ++ [W.ls.getD j zeroL] } := by simp only [lateW, hth, if_true, hat, Int.toNat_natCast]
       rw [e]
       exact ⟨_, C3, _, D2 ++ (A ++ B), rfl, by rw [List.length_append]; exact h3, hL2.append (Lts.one' hA hB)⟩)
 ·have hth : thereB W k = true := by simp only [Bool.not_eq_false'] at h9; exact h9
  obtain ⟨j, rfl, hj⟩ : ∃ j : Nat, k = (j : Int) ∧ j < W.ls.length := ⟨k.toNat, by simp [thereB] at hth; omega, by simp [thereB] at hth; omega⟩
  have hat : atW W (j : Int) = W.ls.getD j zeroL := rfl
  have hout : outW W (j : Int) = { W with ls := W.ls.eraseIdx j } := by simp [outW, hth]
  refine WC.skip ?_
  refine ts_ ?_
  refine WC.region ?_
  refine m_ rfl rfl ?_
  refine m_ rfl rfl ?_
  refine WL.c rfl (Ent.func Try.call34 rfl) (take_tells p W _ hW inv.few j hj) (Sp.p sp_) ?_
  rintro q H2 ⟨vk, vd, A, B, C2, rfl, hA, hB, hW2, rfl⟩
  have hk1 := hA.one_cell
  have hk2 := hB.one_cell
  obtain ⟨vl2, Cl2, cs2, D2, rfl, ho2, hL2⟩ := hW2
  obtain ⟨yo, yc, rfl, hyc⟩ := ho2.form
  simp only at ho2 hL2
  have hle : (W.ls.eraseIdx j).length = W.ls.length - 1 := List.length_eraseIdx_of_lt hj
  refine WL.h rfl (Hd.alloc (zs := [.int .i64 0, .int .i64 0, .int .i64 0, .int .u32 0, .int .u32 0, .int .u64 0, .int .u64 0, .int .u32 0, .int .i64 0, .bool false, .int .i64 0, .slice none 0 0, .slice none 0 0]) kr_ fun b5 => ⟨_, rfl, ?_⟩)
  refine WL.s (Hd.storeAll (n := 13) kr_ rfl rfl (by rfl) one_ fr_ (by rfl) ⟨rfl, ?_⟩)
  refine nt_ ?_
  refine WC.seq ?_
  refine WC.draw 11 kr_ rfl ?_
  refine WA.y (i := 0) (NoPanic.then (NoPanic.body)) rfl kr_ kr_ kr_ rfl (Yd.move rfl) ?_
  refine WA.y (i := 1) (NoPanic.then (NoPanic.body)) rfl kr_ kr_ kr_ rfl (Yd.move rfl) ?_
  refine WA.y (i := 2) (NoPanic.then (NoPanic.body)) rfl kr_ kr_ kr_ rfl (Yd.notNil rfl) ?_
  refine WA.y (i := 3) (NoPanic.then (NoPanic.body)) rfl kr_ kr_ kr_ rfl (Yd.fieldAddr (k := 1) kr_ rfl) ?_
  refine WA.two (i := 4) (j := 5) kr_ ?_ ?_
  ·refine WO.h rfl Wt.none rfl (Hd.load1 kr_ rfl mem_ (by rfl) ⟨_, rfl, ?_⟩)
   refine WA.one (i := 5) kr_ ?_
   refine WO.h rfl Wt.none rfl (Hd.loadAll (n := 13) kr_ rfl mem_ (by rfl) ⟨_, rfl, ?_⟩)
   refine WA.one (i := 6) kr_ ?_
   refine WO.h rfl Wt.none rfl (Hd.buildA (e := 34) (sz := 13) (zs := [.int .i64 0, .int .i64 0, .int .i64 0, .int .u32 0, .int .u32 0, .int .u64 0, .int .u64 0, .int .u32 0, .int .i64 0, .bool false, .int .i64 0, .slice none 0 0, .slice none 0 0]) kr_ kr_ kr_ rfl rfl (by rfl) kr_ fun b19 => ⟨_, rfl, ?_⟩)
   refine WA.one (i := 7) kr_ ?_
   refine WO.h rfl Wt.none rfl (Hd.appendRow (e := 34) (sz := 13) (bytes := 128) (zs := [.int .i64 0, .int .i64 0, .int .i64 0, .int .u32 0, .int .u32 0, .int .u64 0, .int .u64 0, .int .u32 0, .int .i64 0, .bool false, .int .i64 0, .slice none 0 0, .slice none 0 0]) kr_ kr_ rfl (by omega) rfl rfl (ho2) sp_ mem_ (by rfl) one_ (by simp only [maxLen]; omega) (by omega) fun v3 C3 h3 => ⟨_, rfl, ?_⟩)
   obtain ⟨zo, zc, rfl, _⟩ := h3.form
   refine WA.y (i := 8) (NoPanic.then (NoPanic.body)) rfl kr_ kr_ kr_ rfl (Yd.notNil rfl) ?_
   refine WA.y (i := 9) (NoPanic.then (NoPanic.body)) rfl kr_ kr_ kr_ rfl (Yd.fieldAddr (k := 1) kr_ rfl) ?_
   refine WA.one (i := 10) kr_ ?_
   refine WO.s rfl Wt.none (Hd.store1s kr_ rfl rfl (by rfl) fr_ (by rfl) (by first | (simp only [List.set_cons_zero, List.set_cons_succ, Nat.zero_add, Nat.add_zero, Nat.reduceAdd]; rfl) | rfl) ⟨rfl, ?_⟩)
   refine WA.done kr_ ?_
   refine ts_ ?_
   refine WC.region ?_
   refine a_ rfl rfl ?_
   refine nt_ ?_
   refine WC.ret ?_
   first | refine DN.fit (C := row p (.int .i64 W.n :: .slice zo ((W.ls.eraseIdx j).length + 1) zc :: (ic W.cut ++ uc W.clk)) 72 :: (C3 ++ (D2 ++ (A ++ B)))) sp_ ?_ | skip
   refine DN.ret1 Try.results12 rfl ?_
   first
     | exact ⟨by rw [hth], by rw [lateW, hth]; exact hW⟩
     | (refine ⟨by rw [hth], ?_⟩
        have e : lateW W (j : Int) = { W with ls := W.ls.eraseIdx j ++ [W.ls.getD j zeroL] } := by simp only [lateW, hth, if_true, hat, Int.toNat_natCast]
        rw [e]
        exact ⟨_, C3, _, D2 ++ (A ++ B), rfl, by rw [List.length_append]; exact h3, hL2.append (Lts.one' hA hB)⟩)
  ·refine WO.h rfl Wt.none rfl (Hd.loadAll (n := 13) kr_ rfl mem_ (by rfl) ⟨_, rfl, ?_⟩)
   refine WA.two (i := 4) (j := 6) kr_ ?_ ?_
   ·refine WO.h rfl Wt.none rfl (Hd.load1 kr_ rfl mem_ (by rfl) ⟨_, rfl, ?_⟩)
    refine WA.one (i := 6) kr_ ?_
    refine WO.h rfl Wt.none rfl (Hd.buildA (e := 34) (sz := 13) (zs := [.int .i64 0, .int .i64 0, .int .i64 0, .int .u32 0, .int .u32 0, .int .u64 0, .int .u64 0, .int .u32 0, .int .i64 0, .bool false, .int .i64 0, .slice none 0 0, .slice none 0 0]) kr_ kr_ kr_ rfl rfl (by rfl) kr_ fun b19 => ⟨_, rfl, ?_⟩)
    refine WA.one (i := 7) kr_ ?_
    refine WO.h rfl Wt.none rfl (Hd.appendRow (e := 34) (sz := 13) (bytes := 128) (zs := [.int .i64 0, .int .i64 0, .int .i64 0, .int .u32 0, .int .u32 0, .int .u64 0, .int .u64 0, .int .u32 0, .int .i64 0, .bool false, .int .i64 0, .slice none 0 0, .slice none 0 0]) kr_ kr_ rfl (by omega) rfl rfl (ho2) sp_ mem_ (by rfl) one_ (by simp only [maxLen]; omega) (by omega) fun v3 C3 h3 => ⟨_, rfl, ?_⟩)
    obtain ⟨zo, zc, rfl, _⟩ := h3.form
    refine WA.y (i := 8) (NoPanic.then (NoPanic.body)) rfl kr_ kr_ kr_ rfl (Yd.notNil rfl) ?_
    refine WA.y (i := 9) (NoPanic.then (NoPanic.body)) rfl kr_ kr_ kr_ rfl (Yd.fieldAddr (k := 1) kr_ rfl) ?_
    refine WA.one (i := 10) kr_ ?_
    refine WO.s rfl Wt.none (Hd.store1s kr_ rfl rfl (by rfl) fr_ (by rfl) (by first | (simp only [List.set_cons_zero, List.set_cons_succ, Nat.zero_add, Nat.add_zero, Nat.reduceAdd]; rfl) | rfl) ⟨rfl, ?_⟩)
    refine WA.done kr_ ?_
    refine ts_ ?_
    refine WC.region ?_
    refine a_ rfl rfl ?_
    refine nt_ ?_
    refine WC.ret ?_
    first | refine DN.fit (C := row p (.int .i64 W.n :: .slice zo ((W.ls.eraseIdx j).length + 1) zc :: (ic W.cut ++ uc W.clk)) 72 :: (C3 ++ (D2 ++ (A ++ B)))) sp_ ?_ | skip
    refine DN.ret1 Try.results12 rfl ?_
    first
      | exact ⟨by rw [hth], by rw [lateW, hth]; exact hW⟩
      | (refine ⟨by rw [hth], ?_⟩
         have e : lateW W (j : Int) = { W with ls := W.ls.eraseIdx j ++ [W.ls.getD j zeroL] } := by simp only [lateW, hth, if_true, hat, Int.toNat_natCast]
         rw [e]
         exact ⟨_, C3, _, D2 ++ (A ++ B), rfl, by rw [List.length_append]; exact h3, hL2.append (Lts.one' hA hB)⟩)
   ·refine WO.h rfl Wt.none rfl (Hd.buildA (e := 34) (sz := 13) (zs := [.int .i64 0, .int .i64 0, .int .i64 0, .int .u32 0, .int .u32 0, .int .u64 0, .int .u64 0, .int .u32 0, .int .i64 0, .bool false, .int .i64 0, .slice none 0 0, .slice none 0 0]) kr_ kr_ kr_ rfl rfl (by rfl) kr_ fun b19 => ⟨_, rfl, ?_⟩)
    refine WA.one (i := 4) kr_ ?_
    refine WO.h rfl Wt.none rfl (Hd.load1 kr_ rfl mem_ (by rfl) ⟨_, rfl, ?_⟩)
    refine WA.one (i := 7) kr_ ?_
    refine WO.h rfl Wt.none rfl (Hd.appendRow (e := 34) (sz := 13) (bytes := 128) (zs := [.int .i64 0, .int .i64 0, .int .i64 0, .int .u32 0, .int .u32 0, .int .u64 0, .int .u64 0, .int .u32 0, .int .i64 0, .bool false, .int .i64 0, .slice none 0 0, .slice none 0 0]) kr_ kr_ rfl (by omega) rfl rfl (ho2) sp_ mem_ (by rfl) one_ (by simp only [maxLen]; omega) (by omega) fun v3 C3 h3 => ⟨_, rfl, ?_⟩)
    obtain ⟨zo, zc, rfl, _⟩ := h3.form
    refine WA.y (i := 8) (NoPanic.then (NoPanic.body)) rfl kr_ kr_ kr_ rfl (Yd.notNil rfl) ?_
    refine WA.y (i := 9) (NoPanic.then (NoPanic.body)) rfl kr_ kr_ kr_ rfl (Yd.fieldAddr (k := 1) kr_ rfl) ?_
    refine WA.one (i := 10) kr_ ?_
    refine WO.s rfl Wt.none (Hd.store1s kr_ rfl rfl (by rfl) fr_ (by rfl) (by first | (simp only [List.set_cons_zero, List.set_cons_succ, Nat.zero_add, Nat.add_zero, Nat.reduceAdd]; rfl) | rfl) ⟨rfl, ?_⟩)
    refine WA.done kr_ ?_
    refine ts_ ?_
    refine WC.region ?_
    refine a_ rfl rfl ?_
    refine nt_ ?_
    refine WC.ret ?_
    first | refine DN.fit (C := row p (.int .i64 W.n :: .slice zo ((W.ls.eraseIdx j).length + 1) zc :: (ic W.cut ++ uc W.clk)) 72 :: (C3 ++ (D2 ++ (A ++ B)))) sp_ ?_ | skip
    refine DN.ret1 Try.results12 rfl ?_
    first
      | exact ⟨by rw [hth], by rw [lateW, hth]; exact hW⟩
      | (refine ⟨by rw [hth], ?_⟩
         have e : lateW W (j : Int) = { W with ls := W.ls.eraseIdx j ++ [W.ls.getD j zeroL] } := by simp only [lateW, hth, if_true, hat, Int.toNat_natCast]
         rw [e]
         exact ⟨_, C3, _, D2 ++ (A ++ B), rfl, by rw [List.length_append]; exact h3, hL2.append (Lts.one' hA hB)⟩)
theorem look_tells (p : Nat) (W : Wn) (C : List Ck) (h : WAt 72 34 5 p W C) (inv : WInv W) (k : Int) : Tells Try.prog 23 [.pointer (some ⟨p, 0, none⟩), .int .i64 k] C fun r C' => ∃ vk vd A B, r = .tuple #[.agg (ltc (lookL W k) vk vd).toArray, .bool (thereB W k)] ∧ Ob 5 vk (lookL W k).n.key A ∧ Ob 5 vd (lookL W k).n.data B ∧ C' = C ++ (A ++ B) := by
 refine Tells.enter Try.func23 rfl Try.ntmps23 rfl ?_
 intro w0 R
 have hW := h
 obtain ⟨vl, Cl, cs, D, rfl, ho, hL⟩ := h
 obtain ⟨xo, xc, rfl, hxc⟩ := ho.form
 have hfew := inv.few
 refine sr_ ?_
 refine WL.h rfl (Hd.alloc (zs := [.int .i64 0, .int .i64 0, .int .i64 0, .int .u32 0, .int .u32 0, .int .u64 0, .int .u64 0, .int .u32 0, .int .i64 0, .bool false, .int .i64 0, .slice none 0 0, .slice none 0 0]) kr_ fun b4 => ⟨_, rfl, ?_⟩)
 refine a_ rfl rfl ?_
 refine nt_ ?_
 refine WC.seq ?_
 refine sr_ ?_
 refine m_ rfl rfl ?_
 refine m_ rfl rfl ?_
 refine WL.rf rfl (Ent.func Try.call33 rfl) (there_reads p W _ hW k) sp_ ?_
 refine WL.y rfl (Yd.notB rfl) ?_
 refine nt_ ?_
 refine WC.cond rfl (fun h9 => ?_) (fun h9 => ?_)
 ·have hth : thereB W k = false := by simp only [Bool.not_eq_true'] at h9; exact h9
  refine sr_ ?_
  refine WL.y rfl (Yd.buildL (pl := [(0, 1), (1, 1), (2, 11)]) (zs := [.int .i64 0, .int .i64 0, .int .i64 0, .int .u32 0, .int .u32 0, .int .u64 0, .int .u64 0, .int .u32 0, .int .i64 0, .bool false, .int .i64 0, .slice none 0 0, .slice none 0 0]) (parts := []) (vs := []) (cells := [.int .i64 0, .int .i64 0, .int .i64 0, .int .u32 0, .int .u32 0, .int .u64 0, .int .u64 0, .int .u32 0, .int .i64 0, .bool false, .int .i64 0, .slice none 0 0, .slice none 0 0]) kr_ kr_ rfl rfl) ?_
  refine WL.s (Hd.storeAll (n := 13) kr_ rfl rfl (by rfl) one_ fr_ (by rfl) ⟨rfl, ?_⟩)
  refine a_ rfl rfl ?_
  refine nt_ ?_
  refine WC.ret ?_
  refine DN.then_ret ?_
  first | refine DN.retCT (s := 13) ((row p (.int .i64 W.n :: .slice xo W.ls.length xc :: (ic W.cut ++ uc W.clk)) 72 :: (Cl ++ D)) ++ (A ++ B)) Try.results23 kr_ rfl rfl mem_ (by rfl) sp_ ?_ | refine DN.retCT (s := 13) (row p (.int .i64 W.n :: .slice xo W.ls.length xc :: (ic W.cut ++ uc W.clk)) 72 :: (Cl ++ D)) Try.results23 kr_ rfl rfl mem_ (by rfl) sp_ ?_
  first
    | (have e2 : lookL W k = zeroL := by simp [lookL, hth]
       rw [e2, hth]
       exact ⟨_, _, [], [], rfl, Ob.nil _, Ob.nil _, by simp⟩)
    | (have e2 : lookL W (j : Int) = W.ls.getD j zeroL := by simp only [lookL, hth, if_true, hat]
       rw [e2, hth]
       exact ⟨_, _, A, B, rfl, hA, hB, rfl⟩)
 ·have hth : thereB W k = true := by simp only [Bool.not_eq_false'] at h9; exact h9
  obtain ⟨j, rfl, hj⟩ : ∃ j : Nat, k = (j : Int) ∧ j < W.ls.length := ⟨k.toNat, by simp [thereB] at hth; omega, by simp [thereB] at hth; omega⟩
  have hat : atW W (j : Int) = W.ls.getD j zeroL := rfl
  have hout : outW W (j : Int) = { W with ls := W.ls.eraseIdx j } := by simp [outW, hth]
  obtain ⟨vk, vd, A0, B0, D1, D2, hD, hcell, hA0, hB0, _⟩ := hL.at j hj
  have eg : W.ls[j] = W.ls.getD j zeroL := by simp [List.getD, hj]
  rw [eg] at hcell hA0 hB0
  have hsm := inv.small (W.ls.getD j zeroL) (by simp [List.getD, hj])
  have hkv : ∀ c ∈ A0, c ∈ D := fun c hc => by rw [hD]; simp [hc]
  have hdv : ∀ c ∈ B0, c ∈ D := fun c hc => by rw [hD]; simp [hc]
  refine WC.skip ?_
  refine ts_ ?_
  refine WC.region ?_
  refine m_ rfl rfl ?_
  refine n_ rfl rfl ?_
  refine f_ 1 kr_ rfl rfl ?_
  refine d_ kr_ rfl mem_ (by rfl) rfl ?_
  refine m_ rfl rfl ?_
  refine WL.elemA (e := 34) (s := 13) kr_ kr_ kr_ rfl rfl (rfl) (ho.rs.mono gr_) (hcell) (by rfl) (by omega) (hj) rfl rfl ?_
  intro p16
  refine WL.c rfl (Ent.func Try.call32 rfl) (own_tells (W.ls.getD j zeroL) vk vd _ ((hA0.bs.mono hkv).mono gr_) ((hB0.bs.mono hdv).mono gr_) (by omega) (by omega)) (Sp.p sp_) ?_
  rintro q H2 ⟨vk2, vd2, A, B, rfl, hA, hB, rfl⟩
  have hk1 := hA.one_cell
  have hk2 := hB.one_cell
  refine WL.s (Hd.storeAll (n := 13) kr_ rfl rfl (by rfl) one_ fr_ (by rfl) ⟨rfl, ?_⟩)
  refine a_ rfl rfl ?_
  refine nt_ ?_
  refine WC.ret ?_
  first | refine DN.retCT (s := 13) ((row p (.int .i64 W.n :: .slice xo W.ls.length xc :: (ic W.cut ++ uc W.clk)) 72 :: (Cl ++ D)) ++ (A ++ B)) Try.results23 kr_ rfl rfl mem_ (by rfl) sp_ ?_ | refine DN.retCT (s := 13) (row p (.int .i64 W.n :: .slice xo W.ls.length xc :: (ic W.cut ++ uc W.clk)) 72 :: (Cl ++ D)) Try.results23 kr_ rfl rfl mem_ (by rfl) sp_ ?_
  first
    | (have e2 : lookL W k = zeroL := by simp [lookL, hth]
       rw [e2, hth]
       exact ⟨_, _, [], [], rfl, Ob.nil _, Ob.nil _, by simp⟩)
    | (have e2 : lookL W (j : Int) = W.ls.getD j zeroL := by simp only [lookL, hth, if_true, hat]
       rw [e2, hth]
       exact ⟨_, _, A, B, rfl, hA, hB, rfl⟩)
theorem copy_tells (p : Nat) (W : Wn) (C : List Ck) (h : WAt 72 34 5 p W C) (inv : WInv W) (k : Int) : Tells Try.prog 20 [.pointer (some ⟨p, 0, none⟩), .int .i64 k] C fun r C' => r = .bool (copyB W k) ∧ WAt 72 34 5 p  (copyW W k) C' := by
 refine Tells.enter Try.func20 rfl Try.ntmps20 rfl ?_
 intro w0 R
 have hW := h
 obtain ⟨vl, Cl, cs, D, rfl, ho, hL⟩ := h
 obtain ⟨xo, xc, rfl, hxc⟩ := ho.form
 have hfew := inv.few
 refine sr_ ?_
 refine a_ rfl rfl ?_
 refine nt_ ?_
 refine WC.seq ?_
 refine sr_ ?_
 refine m_ rfl rfl ?_
 refine m_ rfl rfl ?_
 refine WL.rf rfl (Ent.func Try.call33 rfl) (there_reads p W _ hW k) sp_ ?_
 refine WL.y rfl (Yd.notB rfl) ?_
 refine m_ rfl rfl ?_
 refine WL.part (t := 9) rfl (fun hg9 => ?_) (fun hg9 => ?_)
 ·iterate 6 refine gn_ 9 rfl rfl rfl rfl ?_
  refine WL.y rfl (Yd.pickT rfl rfl) ?_
  refine nt_ ?_
  refine WC.yes rfl ?_
  refine sr_ ?_
  refine a_ rfl rfl ?_
  refine nt_ ?_
  refine WC.ret ?_
  refine DN.then_ret ?_
  first | refine DN.fit (C := row p (.int .i64 W.n :: .slice zo (W.ls.length + 1) zc :: (ic W.cut ++ uc W.clk)) 72 :: (C2 ++ (D ++ (A ++ B)))) sp_ ?_ | skip
  refine DN.ret1 Try.results20 rfl ?_
  try simp only [Bool.not_eq_true', Bool.not_eq_false'] at hg9
  first
    | (have hth : thereB W k = false := hg9
       have e : copyB W k = false := by simp [copyB, hth]
       exact ⟨by rw [e], by rw [copyW, e]; exact hW⟩)
    | (have e : copyB W k = false := by simp only [copyB, Bool.and_eq_false_iff, decide_eq_false_iff_not]; right; omega
       exact ⟨by rw [e], by rw [copyW, e]; exact hW⟩)
    | (have e : copyB W (j : Int) = true := by simp only [copyB, hth, Bool.true_and, decide_eq_true_eq]; omega
       refine ⟨by rw [e], ?_⟩
       have e2 : copyW W (j : Int) = { W with ls := W.ls ++ [W.ls.getD j zeroL] } := by simp only [copyW, e, if_true, hat]
       rw [e2]
       exact ⟨_, C2, _, D ++ (A ++ B), rfl, by rw [List.length_append]; exact h2, hL.append (Lts.one' hA hB)⟩)
 ·refine gy_ 9 rfl rfl rfl (Yd.move rfl) ?_
  refine gy_ 9 rfl rfl rfl (Yd.notNil rfl) ?_
  refine gy_ 9 rfl rfl rfl (Yd.fieldAddr (k := 1) kr_ rfl) ?_
  refine WL.gh (dj := 9) rfl rfl rfl (Hd.load1 kr_ rfl mem_ (by rfl) ⟨_, rfl, ?_⟩)
  refine gy_ 9 rfl rfl rfl (Yd.len (e := 34) kr_ rfl) ?_
  refine gy_ 9 rfl rfl rfl (Yd.geq rfl rfl) ?_
  refine WL.y rfl (Yd.pickF rfl rfl) ?_
  refine nt_ ?_
  refine WC.ite rfl (fun h16 => ?_) (fun h16 => ?_)
  ·refine sr_ ?_
   refine a_ rfl rfl ?_
   refine nt_ ?_
   refine WC.ret ?_
   refine DN.then_ret ?_
   first | refine DN.fit (C := row p (.int .i64 W.n :: .slice zo (W.ls.length + 1) zc :: (ic W.cut ++ uc W.clk)) 72 :: (C2 ++ (D ++ (A ++ B)))) sp_ ?_ | skip
   refine DN.ret1 Try.results20 rfl ?_
   try simp only [Bool.not_eq_true', Bool.not_eq_false'] at hg9
   first
     | (have hth : thereB W k = false := hg9
        have e : copyB W k = false := by simp [copyB, hth]
        exact ⟨by rw [e], by rw [copyW, e]; exact hW⟩)
     | (have e : copyB W k = false := by simp only [copyB, Bool.and_eq_false_iff, decide_eq_false_iff_not]; right; omega
        exact ⟨by rw [e], by rw [copyW, e]; exact hW⟩)
     | (have e : copyB W (j : Int) = true := by simp only [copyB, hth, Bool.true_and, decide_eq_true_eq]; omega
        refine ⟨by rw [e], ?_⟩
        have e2 : copyW W (j : Int) = { W with ls := W.ls ++ [W.ls.getD j zeroL] } := by simp only [copyW, e, if_true, hat]
        rw [e2]
        exact ⟨_, C2, _, D ++ (A ++ B), rfl, by rw [List.length_append]; exact h2, hL.append (Lts.one' hA hB)⟩)
  ·refine WC.skip ?_
   refine ts_ ?_
   have hth : thereB W k = true := by simp only [Bool.not_eq_false'] at hg9; exact hg9
   obtain ⟨j, rfl, hj⟩ : ∃ j : Nat, k = (j : Int) ∧ j < W.ls.length := ⟨k.toNat, by simp [thereB] at hth; omega, by simp [thereB] at hth; omega⟩
   have hat : atW W (j : Int) = W.ls.getD j zeroL := rfl
   obtain ⟨vk, vd, A0, B0, D1, D2, hD, hcell, hA0, hB0, _⟩ := hL.at j hj
   have eg : W.ls[j] = W.ls.getD j zeroL := by simp [List.getD, hj]
   rw [eg] at hcell hA0 hB0
   have hsm := inv.small (W.ls.getD j zeroL) (by simp [List.getD, hj])
   have hkv : ∀ c ∈ A0, c ∈ D := fun c hc => by rw [hD]; simp [hc]
   have hdv : ∀ c ∈ B0, c ∈ D := fun c hc => by rw [hD]; simp [hc]
   obtain ⟨b0, o0, hbo, c0, T0, fr0, ex0, hm0, hc0⟩ : ∃ b o, xo = some ⟨b, o, none⟩ ∧ ∃ (c0 : List Value) (T0 : TypeId) (fr0 : Nat × Nat) (ex0 : Bool), (⟨b, .cells c0.toArray T0 fr0, ex0⟩ : Ck) ∈ Cl ∧ (c0.drop (o + j * 13)).take 13 = ltc (W.ls.getD j zeroL) vk vd := by
     rcases ho with ⟨_, h0, _⟩ | ⟨b, cap, extra, he, hc1, hc2, hcl, hel, rfl⟩
     · omega
     · simp only [Value.slice.injEq] at he
       refine ⟨b, 0, he.1, cs ++ extra, _, _, _, List.mem_cons_self, ?_⟩
       rw [Nat.zero_add, List.drop_append_of_le_length (by omega), List.take_append_of_le_length (by rw [List.length_drop]; omega)]
       exact hcell
   subst hbo
   refine WC.draw 18 kr_ rfl ?_
   refine WA.y (i := 0) (NoPanic.then (NoPanic.body)) rfl kr_ kr_ kr_ rfl (Yd.move rfl) ?_
   refine WA.y (i := 1) (NoPanic.then (NoPanic.body)) rfl kr_ kr_ kr_ rfl (Yd.move rfl) ?_
   refine WA.y (i := 2) (NoPanic.then (NoPanic.body)) rfl kr_ kr_ kr_ rfl (Yd.notNil rfl) ?_
   refine WA.y (i := 3) (NoPanic.then (NoPanic.body)) rfl kr_ kr_ kr_ rfl (Yd.fieldAddr (k := 1) kr_ rfl) ?_
   refine WA.y (i := 5) (NoPanic.then (NoPanic.body)) rfl kr_ kr_ kr_ rfl (Yd.move rfl) ?_
   refine WA.y (i := 6) (NoPanic.then (NoPanic.body)) rfl kr_ kr_ kr_ rfl (Yd.notNil rfl) ?_
   refine WA.y (i := 7) (NoPanic.then (NoPanic.body)) rfl kr_ kr_ kr_ rfl (Yd.fieldAddr (k := 1) kr_ rfl) ?_
   refine WA.y (i := 9) (NoPanic.then (NoPanic.body)) rfl kr_ kr_ kr_ rfl (Yd.move rfl) ?_
   refine WA.two (i := 4) (j := 8) kr_ ?_ ?_
   ·refine WO.h rfl Wt.none rfl (Hd.load1 kr_ rfl mem_ (by rfl) ⟨_, rfl, ?_⟩)
    refine WA.one (i := 8) kr_ ?_
    refine WO.h rfl Wt.none rfl (Hd.load1 kr_ rfl mem_ (by rfl) ⟨_, rfl, ?_⟩)
    refine WA.y (i := 10) (NoPanic.then (NoPanic.body)) rfl kr_ kr_ kr_ rfl (Yd.indexAddr (e := 34) (s := 13) kr_ kr_ rfl rfl (by omega) (by omega)) ?_
    refine WA.one (i := 11) kr_ ?_
    refine WO.h rfl Wt.none rfl (Hd.loadA (n := 13) (vs := ltc (W.ls.getD j zeroL) vk vd) kr_ rfl (List.mem_cons_of_mem _ (List.mem_append_left _ hm0)) (by rfl) (by rw [← hc0]; congr 2) ⟨_, rfl, ?_⟩)
    refine WA.one (i := 12) kr_ ?_
    refine WO.c rfl Wt.none rfl (Ent.func Try.call32 rfl) (own_tells (W.ls.getD j zeroL) vk vd _ ((hA0.bs.mono hkv).mono gr_) ((hB0.bs.mono hdv).mono gr_) (by omega) (by omega)) (Sp.p sp_) ?_
    rintro q H2 ⟨vk2, vd2, A, B, rfl, hA, hB, rfl⟩
    have hk1 := hA.one_cell
    have hk2 := hB.one_cell
    refine WA.one (i := 13) kr_ ?_
    refine WO.h rfl Wt.none rfl (Hd.buildA (e := 34) (sz := 13) (zs := [.int .i64 0, .int .i64 0, .int .i64 0, .int .u32 0, .int .u32 0, .int .u64 0, .int .u64 0, .int .u32 0, .int .i64 0, .bool false, .int .i64 0, .slice none 0 0, .slice none 0 0]) kr_ kr_ kr_ rfl rfl (by rfl) kr_ fun b30 => ⟨_, rfl, ?_⟩)
    refine WA.one (i := 14) kr_ ?_
    refine WO.h rfl Wt.none rfl (Hd.appendRow (e := 34) (sz := 13) (bytes := 128) (zs := [.int .i64 0, .int .i64 0, .int .i64 0, .int .u32 0, .int .u32 0, .int .u64 0, .int .u64 0, .int .u32 0, .int .i64 0, .bool false, .int .i64 0, .slice none 0 0, .slice none 0 0]) kr_ kr_ rfl (by omega) rfl rfl (ho) sp_ mem_ (by rfl) one_ (by simp only [maxLen]; omega) (by omega) fun v2 C2 h2 => ⟨_, rfl, ?_⟩)
    obtain ⟨zo, zc, rfl, _⟩ := h2.form
    refine WA.y (i := 15) (NoPanic.then (NoPanic.body)) rfl kr_ kr_ kr_ rfl (Yd.notNil rfl) ?_
    refine WA.y (i := 16) (NoPanic.then (NoPanic.body)) rfl kr_ kr_ kr_ rfl (Yd.fieldAddr (k := 1) kr_ rfl) ?_
    refine WA.one (i := 17) kr_ ?_
    refine WO.s rfl Wt.none (Hd.store1s kr_ rfl rfl (by rfl) fr_ (by rfl) (by first | (simp only [List.set_cons_zero, List.set_cons_succ, Nat.zero_add, Nat.add_zero, Nat.reduceAdd]; rfl) | rfl) ⟨rfl, ?_⟩)
    refine WA.done kr_ ?_
    refine ts_ ?_
    refine WC.region ?_
    refine a_ rfl rfl ?_
    refine nt_ ?_
    refine WC.ret ?_
    first | refine DN.fit (C := row p (.int .i64 W.n :: .slice zo (W.ls.length + 1) zc :: (ic W.cut ++ uc W.clk)) 72 :: (C2 ++ (D ++ (A ++ B)))) sp_ ?_ | skip
    refine DN.ret1 Try.results20 rfl ?_
    try simp only [Bool.not_eq_true', Bool.not_eq_false'] at hg9
    first
      | (have hth : thereB W k = false := hg9
         have e : copyB W k = false := by simp [copyB, hth]
         exact ⟨by rw [e], by rw [copyW, e]; exact hW⟩)
      | (have e : copyB W k = false := by simp only [copyB, Bool.and_eq_false_iff, decide_eq_false_iff_not]; right; omega
         exact ⟨by rw [e], by rw [copyW, e]; exact hW⟩)
      | (have e : copyB W (j : Int) = true := by simp only [copyB, hth, Bool.true_and, decide_eq_true_eq]; omega
         refine ⟨by rw [e], ?_⟩
         have e2 : copyW W (j : Int) = { W with ls := W.ls ++ [W.ls.getD j zeroL] } := by simp only [copyW, e, if_true, hat]
         rw [e2]
         exact ⟨_, C2, _, D ++ (A ++ B), rfl, by rw [List.length_append]; exact h2, hL.append (Lts.one' hA hB)⟩)
   ·refine WO.h rfl Wt.none rfl (Hd.load1 kr_ rfl mem_ (by rfl) ⟨_, rfl, ?_⟩)
    refine WA.y (i := 10) (NoPanic.then (NoPanic.body)) rfl kr_ kr_ kr_ rfl (Yd.indexAddr (e := 34) (s := 13) kr_ kr_ rfl rfl (by omega) (by omega)) ?_
    refine WA.two (i := 4) (j := 11) kr_ ?_ ?_
    ·refine WO.h rfl Wt.none rfl (Hd.load1 kr_ rfl mem_ (by rfl) ⟨_, rfl, ?_⟩)
     refine WA.one (i := 11) kr_ ?_
     refine WO.h rfl Wt.none rfl (Hd.loadA (n := 13) (vs := ltc (W.ls.getD j zeroL) vk vd) kr_ rfl (List.mem_cons_of_mem _ (List.mem_append_left _ hm0)) (by rfl) (by rw [← hc0]; congr 2) ⟨_, rfl, ?_⟩)
     refine WA.one (i := 12) kr_ ?_
     refine WO.c rfl Wt.none rfl (Ent.func Try.call32 rfl) (own_tells (W.ls.getD j zeroL) vk vd _ ((hA0.bs.mono hkv).mono gr_) ((hB0.bs.mono hdv).mono gr_) (by omega) (by omega)) (Sp.p sp_) ?_
     rintro q H2 ⟨vk2, vd2, A, B, rfl, hA, hB, rfl⟩
     have hk1 := hA.one_cell
     have hk2 := hB.one_cell
     refine WA.one (i := 13) kr_ ?_
     refine WO.h rfl Wt.none rfl (Hd.buildA (e := 34) (sz := 13) (zs := [.int .i64 0, .int .i64 0, .int .i64 0, .int .u32 0, .int .u32 0, .int .u64 0, .int .u64 0, .int .u32 0, .int .i64 0, .bool false, .int .i64 0, .slice none 0 0, .slice none 0 0]) kr_ kr_ kr_ rfl rfl (by rfl) kr_ fun b30 => ⟨_, rfl, ?_⟩)
     refine WA.one (i := 14) kr_ ?_
     refine WO.h rfl Wt.none rfl (Hd.appendRow (e := 34) (sz := 13) (bytes := 128) (zs := [.int .i64 0, .int .i64 0, .int .i64 0, .int .u32 0, .int .u32 0, .int .u64 0, .int .u64 0, .int .u32 0, .int .i64 0, .bool false, .int .i64 0, .slice none 0 0, .slice none 0 0]) kr_ kr_ rfl (by omega) rfl rfl (ho) sp_ mem_ (by rfl) one_ (by simp only [maxLen]; omega) (by omega) fun v2 C2 h2 => ⟨_, rfl, ?_⟩)
     obtain ⟨zo, zc, rfl, _⟩ := h2.form
     refine WA.y (i := 15) (NoPanic.then (NoPanic.body)) rfl kr_ kr_ kr_ rfl (Yd.notNil rfl) ?_
     refine WA.y (i := 16) (NoPanic.then (NoPanic.body)) rfl kr_ kr_ kr_ rfl (Yd.fieldAddr (k := 1) kr_ rfl) ?_
     refine WA.one (i := 17) kr_ ?_
     refine WO.s rfl Wt.none (Hd.store1s kr_ rfl rfl (by rfl) fr_ (by rfl) (by first | (simp only [List.set_cons_zero, List.set_cons_succ, Nat.zero_add, Nat.add_zero, Nat.reduceAdd]; rfl) | rfl) ⟨rfl, ?_⟩)
     refine WA.done kr_ ?_
     refine ts_ ?_
     refine WC.region ?_
     refine a_ rfl rfl ?_
     refine nt_ ?_
     refine WC.ret ?_
     first | refine DN.fit (C := row p (.int .i64 W.n :: .slice zo (W.ls.length + 1) zc :: (ic W.cut ++ uc W.clk)) 72 :: (C2 ++ (D ++ (A ++ B)))) sp_ ?_ | skip
     refine DN.ret1 Try.results20 rfl ?_
     try simp only [Bool.not_eq_true', Bool.not_eq_false'] at hg9
     first
       | (have hth : thereB W k = false := hg9
          have e : copyB W k = false := by simp [copyB, hth]
          exact ⟨by rw [e], by rw [copyW, e]; exact hW⟩)
       | (have e : copyB W k = false := by simp only [copyB, Bool.and_eq_false_iff, decide_eq_false_iff_not]; right; omega
          exact ⟨by rw [e], by rw [copyW, e]; exact hW⟩)
       | (have e : copyB W (j : Int) = true := by simp only [copyB, hth, Bool.true_and, decide_eq_true_eq]; omega
          refine ⟨by rw [e], ?_⟩
          have e2 : copyW W (j : Int) = { W with ls := W.ls ++ [W.ls.getD j zeroL] } := by simp only [copyW, e, if_true, hat]
          rw [e2]
          exact ⟨_, C2, _, D ++ (A ++ B), rfl, by rw [List.length_append]; exact h2, hL.append (Lts.one' hA hB)⟩)
    ·refine WO.h rfl Wt.none rfl (Hd.loadA (n := 13) (vs := ltc (W.ls.getD j zeroL) vk vd) kr_ rfl (List.mem_cons_of_mem _ (List.mem_append_left _ hm0)) (by rfl) (by rw [← hc0]; congr 2) ⟨_, rfl, ?_⟩)
     refine WA.two (i := 4) (j := 12) kr_ ?_ ?_
     ·refine WO.h rfl Wt.none rfl (Hd.load1 kr_ rfl mem_ (by rfl) ⟨_, rfl, ?_⟩)
      refine WA.one (i := 12) kr_ ?_
      refine WO.c rfl Wt.none rfl (Ent.func Try.call32 rfl) (own_tells (W.ls.getD j zeroL) vk vd _ ((hA0.bs.mono hkv).mono gr_) ((hB0.bs.mono hdv).mono gr_) (by omega) (by omega)) (Sp.p sp_) ?_
      rintro q H2 ⟨vk2, vd2, A, B, rfl, hA, hB, rfl⟩
      have hk1 := hA.one_cell
      have hk2 := hB.one_cell
      refine WA.one (i := 13) kr_ ?_
      refine WO.h rfl Wt.none rfl (Hd.buildA (e := 34) (sz := 13) (zs := [.int .i64 0, .int .i64 0, .int .i64 0, .int .u32 0, .int .u32 0, .int .u64 0, .int .u64 0, .int .u32 0, .int .i64 0, .bool false, .int .i64 0, .slice none 0 0, .slice none 0 0]) kr_ kr_ kr_ rfl rfl (by rfl) kr_ fun b30 => ⟨_, rfl, ?_⟩)
      refine WA.one (i := 14) kr_ ?_
      refine WO.h rfl Wt.none rfl (Hd.appendRow (e := 34) (sz := 13) (bytes := 128) (zs := [.int .i64 0, .int .i64 0, .int .i64 0, .int .u32 0, .int .u32 0, .int .u64 0, .int .u64 0, .int .u32 0, .int .i64 0, .bool false, .int .i64 0, .slice none 0 0, .slice none 0 0]) kr_ kr_ rfl (by omega) rfl rfl (ho) sp_ mem_ (by rfl) one_ (by simp only [maxLen]; omega) (by omega) fun v2 C2 h2 => ⟨_, rfl, ?_⟩)
      obtain ⟨zo, zc, rfl, _⟩ := h2.form
      refine WA.y (i := 15) (NoPanic.then (NoPanic.body)) rfl kr_ kr_ kr_ rfl (Yd.notNil rfl) ?_
      refine WA.y (i := 16) (NoPanic.then (NoPanic.body)) rfl kr_ kr_ kr_ rfl (Yd.fieldAddr (k := 1) kr_ rfl) ?_
      refine WA.one (i := 17) kr_ ?_
      refine WO.s rfl Wt.none (Hd.store1s kr_ rfl rfl (by rfl) fr_ (by rfl) (by first | (simp only [List.set_cons_zero, List.set_cons_succ, Nat.zero_add, Nat.add_zero, Nat.reduceAdd]; rfl) | rfl) ⟨rfl, ?_⟩)
      refine WA.done kr_ ?_
      refine ts_ ?_
      refine WC.region ?_
      refine a_ rfl rfl ?_
      refine nt_ ?_
      refine WC.ret ?_
      first | refine DN.fit (C := row p (.int .i64 W.n :: .slice zo (W.ls.length + 1) zc :: (ic W.cut ++ uc W.clk)) 72 :: (C2 ++ (D ++ (A ++ B)))) sp_ ?_ | skip
      refine DN.ret1 Try.results20 rfl ?_
      try simp only [Bool.not_eq_true', Bool.not_eq_false'] at hg9
      first
        | (have hth : thereB W k = false := hg9
           have e : copyB W k = false := by simp [copyB, hth]
           exact ⟨by rw [e], by rw [copyW, e]; exact hW⟩)
        | (have e : copyB W k = false := by simp only [copyB, Bool.and_eq_false_iff, decide_eq_false_iff_not]; right; omega
           exact ⟨by rw [e], by rw [copyW, e]; exact hW⟩)
        | (have e : copyB W (j : Int) = true := by simp only [copyB, hth, Bool.true_and, decide_eq_true_eq]; omega
           refine ⟨by rw [e], ?_⟩
           have e2 : copyW W (j : Int) = { W with ls := W.ls ++ [W.ls.getD j zeroL] } := by simp only [copyW, e, if_true, hat]
           rw [e2]
           exact ⟨_, C2, _, D ++ (A ++ B), rfl, by rw [List.length_append]; exact h2, hL.append (Lts.one' hA hB)⟩)
     ·refine WO.c rfl Wt.none rfl (Ent.func Try.call32 rfl) (own_tells (W.ls.getD j zeroL) vk vd _ ((hA0.bs.mono hkv).mono gr_) ((hB0.bs.mono hdv).mono gr_) (by omega) (by omega)) (Sp.p sp_) ?_
      rintro q H2 ⟨vk2, vd2, A, B, rfl, hA, hB, rfl⟩
      have hk1 := hA.one_cell
      have hk2 := hB.one_cell
      refine WA.two (i := 4) (j := 13) kr_ ?_ ?_
      ·refine WO.h rfl Wt.none rfl (Hd.load1 kr_ rfl mem_ (by rfl) ⟨_, rfl, ?_⟩)
       refine WA.one (i := 13) kr_ ?_
       refine WO.h rfl Wt.none rfl (Hd.buildA (e := 34) (sz := 13) (zs := [.int .i64 0, .int .i64 0, .int .i64 0, .int .u32 0, .int .u32 0, .int .u64 0, .int .u64 0, .int .u32 0, .int .i64 0, .bool false, .int .i64 0, .slice none 0 0, .slice none 0 0]) kr_ kr_ kr_ rfl rfl (by rfl) kr_ fun b30 => ⟨_, rfl, ?_⟩)
       refine WA.one (i := 14) kr_ ?_
       refine WO.h rfl Wt.none rfl (Hd.appendRow (e := 34) (sz := 13) (bytes := 128) (zs := [.int .i64 0, .int .i64 0, .int .i64 0, .int .u32 0, .int .u32 0, .int .u64 0, .int .u64 0, .int .u32 0, .int .i64 0, .bool false, .int .i64 0, .slice none 0 0, .slice none 0 0]) kr_ kr_ rfl (by omega) rfl rfl (ho) sp_ mem_ (by rfl) one_ (by simp only [maxLen]; omega) (by omega) fun v2 C2 h2 => ⟨_, rfl, ?_⟩)
       obtain ⟨zo, zc, rfl, _⟩ := h2.form
       refine WA.y (i := 15) (NoPanic.then (NoPanic.body)) rfl kr_ kr_ kr_ rfl (Yd.notNil rfl) ?_
       refine WA.y (i := 16) (NoPanic.then (NoPanic.body)) rfl kr_ kr_ kr_ rfl (Yd.fieldAddr (k := 1) kr_ rfl) ?_
       refine WA.one (i := 17) kr_ ?_
       refine WO.s rfl Wt.none (Hd.store1s kr_ rfl rfl (by rfl) fr_ (by rfl) (by first | (simp only [List.set_cons_zero, List.set_cons_succ, Nat.zero_add, Nat.add_zero, Nat.reduceAdd]; rfl) | rfl) ⟨rfl, ?_⟩)
       refine WA.done kr_ ?_
       refine ts_ ?_
       refine WC.region ?_
       refine a_ rfl rfl ?_
       refine nt_ ?_
       refine WC.ret ?_
       first | refine DN.fit (C := row p (.int .i64 W.n :: .slice zo (W.ls.length + 1) zc :: (ic W.cut ++ uc W.clk)) 72 :: (C2 ++ (D ++ (A ++ B)))) sp_ ?_ | skip
       refine DN.ret1 Try.results20 rfl ?_
       try simp only [Bool.not_eq_true', Bool.not_eq_false'] at hg9
       first
         | (have hth : thereB W k = false := hg9
            have e : copyB W k = false := by simp [copyB, hth]
            exact ⟨by rw [e], by rw [copyW, e]; exact hW⟩)
         | (have e : copyB W k = false := by simp only [copyB, Bool.and_eq_false_iff, decide_eq_false_iff_not]; right; omega
            exact ⟨by rw [e], by rw [copyW, e]; exact hW⟩)
         | (have e : copyB W (j : Int) = true := by simp only [copyB, hth, Bool.true_and, decide_eq_true_eq]; omega
            refine ⟨by rw [e], ?_⟩
            have e2 : copyW W (j : Int) = { W with ls := W.ls ++ [W.ls.getD j zeroL] } := by simp only [copyW, e, if_true, hat]
            rw [e2]
            exact ⟨_, C2, _, D ++ (A ++ B), rfl, by rw [List.length_append]; exact h2, hL.append (Lts.one' hA hB)⟩)
      ·refine WO.h rfl Wt.none rfl (Hd.buildA (e := 34) (sz := 13) (zs := [.int .i64 0, .int .i64 0, .int .i64 0, .int .u32 0, .int .u32 0, .int .u64 0, .int .u64 0, .int .u32 0, .int .i64 0, .bool false, .int .i64 0, .slice none 0 0, .slice none 0 0]) kr_ kr_ kr_ rfl rfl (by rfl) kr_ fun b30 => ⟨_, rfl, ?_⟩)
       refine WA.one (i := 4) kr_ ?_
       refine WO.h rfl Wt.none rfl (Hd.load1 kr_ rfl mem_ (by rfl) ⟨_, rfl, ?_⟩)
       refine WA.one (i := 14) kr_ ?_
       refine WO.h rfl Wt.none rfl (Hd.appendRow (e := 34) (sz := 13) (bytes := 128) (zs := [.int .i64 0, .int .i64 0, .int .i64 0, .int .u32 0, .int .u32 0, .int .u64 0, .int .u64 0, .int .u32 0, .int .i64 0, .bool false, .int .i64 0, .slice none 0 0, .slice none 0 0]) kr_ kr_ rfl (by omega) rfl rfl (ho) sp_ mem_ (by rfl) one_ (by simp only [maxLen]; omega) (by omega) fun v2 C2 h2 => ⟨_, rfl, ?_⟩)
       obtain ⟨zo, zc, rfl, _⟩ := h2.form
       refine WA.y (i := 15) (NoPanic.then (NoPanic.body)) rfl kr_ kr_ kr_ rfl (Yd.notNil rfl) ?_
       refine WA.y (i := 16) (NoPanic.then (NoPanic.body)) rfl kr_ kr_ kr_ rfl (Yd.fieldAddr (k := 1) kr_ rfl) ?_
       refine WA.one (i := 17) kr_ ?_
       refine WO.s rfl Wt.none (Hd.store1s kr_ rfl rfl (by rfl) fr_ (by rfl) (by first | (simp only [List.set_cons_zero, List.set_cons_succ, Nat.zero_add, Nat.add_zero, Nat.reduceAdd]; rfl) | rfl) ⟨rfl, ?_⟩)
       refine WA.done kr_ ?_
       refine ts_ ?_
       refine WC.region ?_
       refine a_ rfl rfl ?_
       refine nt_ ?_
       refine WC.ret ?_
       first | refine DN.fit (C := row p (.int .i64 W.n :: .slice zo (W.ls.length + 1) zc :: (ic W.cut ++ uc W.clk)) 72 :: (C2 ++ (D ++ (A ++ B)))) sp_ ?_ | skip
       refine DN.ret1 Try.results20 rfl ?_
       try simp only [Bool.not_eq_true', Bool.not_eq_false'] at hg9
       first
         | (have hth : thereB W k = false := hg9
            have e : copyB W k = false := by simp [copyB, hth]
            exact ⟨by rw [e], by rw [copyW, e]; exact hW⟩)
         | (have e : copyB W k = false := by simp only [copyB, Bool.and_eq_false_iff, decide_eq_false_iff_not]; right; omega
            exact ⟨by rw [e], by rw [copyW, e]; exact hW⟩)
         | (have e : copyB W (j : Int) = true := by simp only [copyB, hth, Bool.true_and, decide_eq_true_eq]; omega
            refine ⟨by rw [e], ?_⟩
            have e2 : copyW W (j : Int) = { W with ls := W.ls ++ [W.ls.getD j zeroL] } := by simp only [copyW, e, if_true, hat]
            rw [e2]
            exact ⟨_, C2, _, D ++ (A ++ B), rfl, by rw [List.length_append]; exact h2, hL.append (Lts.one' hA hB)⟩)
end Go.Proofs.Ytgpegfmonmdhoaa

set_option linter.unusedVariables false
set_option linter.unusedSimpArgs false
set_option maxHeartbeats 4000000
set_option maxRecDepth 100000
namespace Go.Proofs.Ytgpegfmonmdhoaa
open Go.SL
theorem uc_set (l : List (BitVec 64)) (i : Nat) (x : BitVec 64) : (uc l).set i (.int .u64 x.toNat) = uc (l.set i x) := by simp [uc, List.map_set]
theorem cells_cutSet (n : Int) (vl : Value) (cut : List Int) (clk : List (BitVec 64)) (i : Nat) (x : Int) (h : i < cut.length) : (Value.int .i64 n :: vl :: (ic cut ++ uc clk)).set (2 + i) (.int .i64 x) = Value.int .i64 n :: vl :: (ic (cut.set i x) ++ uc clk) := by
  rw [show 2 + i = i + 1 + 1 by omega, List.set_cons_succ, List.set_cons_succ, set_front _ _ _ _ (by rw [ic_length]; exact h)]
  simp [ic, List.map_set]
theorem cells_clkSet (n : Int) (vl : Value) (cut : List Int) (clk : List (BitVec 64)) (i : Nat) (x : BitVec 64) (hc : cut.length = 36) : (Value.int .i64 n :: vl :: (ic cut ++ uc clk)).set (38 + i) (.int .u64 x.toNat) = Value.int .i64 n :: vl :: (ic cut ++ uc (clk.set i x)) := by
  rw [show 38 + i = 36 + i + 1 + 1 by omega, List.set_cons_succ, List.set_cons_succ, List.set_append_right _ _ (by rw [ic_length]; omega), ic_length, hc, show 36 + i - 36 = i by omega, uc_set]
theorem node_lt {W : Wn} (inv : WInv W) {k : Int} (h : isNode W k = true) : 0 ≤ k ∧ k < 6 := by
  have := inv.n
  simp only [isNode, Bool.and_eq_true, decide_eq_true_eq] at h
  omega
theorem cut_tells (p : Nat) (W : Wn) (C : List Ck) (h : WAt 72 34 5 p W C) (inv : WInv W) (f t : Int) (b : Bool) : Tells Try.prog 16 [.pointer (some ⟨p, 0, none⟩), .int .i64 f, .int .i64 t, .bool b] C fun r C' => r = .int .i64 (cutE W f t) ∧ WAt 72 34 5 p  (cutW W f t b) C' := by
 refine Tells.enter Try.func16 rfl Try.ntmps16 rfl ?_
 intro w0 R
 have hcut := inv.cut
 have hclk := inv.clk
 have hW := h
 obtain ⟨vl, Cl, cs, D, rfl, ho, hL⟩ := h
 obtain ⟨xo, xc, rfl, hxc⟩ := ho.form
 refine sr_ ?_
 refine a_ rfl rfl ?_
 refine nt_ ?_
 refine WC.seq ?_
 refine WC.block ?_
 refine sr_ ?_
 refine m_ rfl rfl ?_
 refine WL.y rfl (Yd.eqlNil Try.underlying22 rfl rfl) ?_
 refine WL.renamed (t := 11) (v := .bool false) rfl (congrArg Value.bool (rfl)) ?_
 refine a_ rfl rfl ?_
 refine nt_ ?_
 refine WC.no rfl ?_
 refine sr_ ?_
 refine m_ rfl rfl ?_
 refine m_ rfl rfl ?_
 refine WL.rf rfl (Ent.func Try.call29 rfl) (is_reads p W _ hW f) sp_ ?_
 refine WL.y rfl (Yd.notB rfl) ?_
 refine m_ rfl rfl ?_
 refine WL.part (t := 17) rfl (fun hg17 => ?_) (fun hg17 => ?_)
 ·iterate 4 refine gn_ 17 rfl rfl rfl rfl ?_
  refine WL.y rfl (Yd.pickT rfl rfl) ?_
  refine a_ rfl rfl ?_
  refine nt_ ?_
  refine WC.yes rfl ?_
  refine sr_ ?_
  refine a_ rfl rfl ?_
  refine nt_ ?_
  refine WC.ret ?_
  refine DN.block_ret ?_
  refine DN.then_ret ?_
  try simp only [Bool.not_eq_true', Bool.not_eq_false'] at hg17
  try simp only [Bool.not_eq_true', Bool.not_eq_false'] at h12
  refine DN.ret1 Try.results16 rfl ?_
  first
    | (have e : cutE W f t = 2 := by simp [cutE, *]
       exact ⟨by rw [e], by rw [cutW, e]; exact hW⟩)
    | (have e : cutE W f t = 0 := by simp [cutE, *]
       refine ⟨by rw [e], ?_⟩
       simp only [cutW, e, if_true, h30]
       first
         | (rw [List.set_set]; exact ⟨_, Cl, _, D, rfl, ho, hL⟩)
         | exact ⟨_, Cl, _, D, rfl, ho, hL⟩)
 ·refine gy_ 17 rfl rfl rfl (Yd.move rfl) ?_
  refine gy_ 17 rfl rfl rfl (Yd.move rfl) ?_
  refine WL.grf (dj := 17) rfl rfl rfl (Ent.func Try.call29 rfl) (is_reads p W _ hW t) sp_ ?_
  refine gy_ 17 rfl rfl rfl (Yd.notB rfl) ?_
  refine WL.y rfl (Yd.pickF rfl rfl) ?_
  refine a_ rfl rfl ?_
  refine nt_ ?_
  refine WC.cond rfl (fun h12 => ?_) (fun h12 => ?_)
  ·refine sr_ ?_
   refine a_ rfl rfl ?_
   refine nt_ ?_
   refine WC.ret ?_
   refine DN.block_ret ?_
   refine DN.then_ret ?_
   try simp only [Bool.not_eq_true', Bool.not_eq_false'] at hg17
   try simp only [Bool.not_eq_true', Bool.not_eq_false'] at h12
   refine DN.ret1 Try.results16 rfl ?_
   first
     | (have e : cutE W f t = 2 := by simp [cutE, *]
        exact ⟨by rw [e], by rw [cutW, e]; exact hW⟩)
     | (have e : cutE W f t = 0 := by simp [cutE, *]
        refine ⟨by rw [e], ?_⟩
        simp only [cutW, e, if_true, h30]
        first
          | (rw [List.set_set]; exact ⟨_, Cl, _, D, rfl, ho, hL⟩)
          | exact ⟨_, Cl, _, D, rfl, ho, hL⟩)
  ·have hn1 : isNode W f = true := by simpa using hg17
   have hn2 : isNode W t = true := by simpa using h12
   have hf := node_lt inv hn1
   have ht := node_lt inv hn2
   refine WC.skip ?_
   refine DN.block_normal ?_
   refine ts_ ?_
   refine WC.region ?_
   iterate 3 refine m_ rfl rfl ?_
   refine n_ rfl rfl ?_
   refine f_ 2 kr_ rfl rfl ?_
   refine WL.y rfl (Yd.indexArr (n := 6) (e := 68) (s := 6) kr_ kr_ rfl rfl (by omega) (by omega)) ?_
   refine WL.y rfl (Yd.indexArr (n := 6) (e := 3) (s := 1) kr_ kr_ rfl rfl (by omega) (by omega)) ?_
   refine WL.s (Hd.store1s (cs' := .int .i64 W.n :: .slice xo W.ls.length xc :: (ic (W.cut.set (f.toNat * 6 + t.toNat) 0) ++ uc W.clk)) kr_ rfl rfl (by rfl) fr_ (by simp [ic_length, uc_len, hcut, hclk]; omega) (by rw [show 0 + 2 + f.toNat * 6 + t.toNat * 1 = 2 + (f.toNat * 6 + t.toNat) by omega]; exact cells_cutSet _ _ _ _ _ _ (by first | (rw [List.length_set]; omega) | omega)) ⟨rfl, ?_⟩)
   refine nt_ ?_
   refine WC.seq ?_
   refine sr_ ?_
   refine m_ rfl rfl ?_
   refine nt_ ?_
   refine WC.cond rfl (fun h30 => ?_) (fun h30 => ?_)
   ·refine WC.region ?_
    iterate 3 refine m_ rfl rfl ?_
    refine n_ rfl rfl ?_
    refine f_ 2 kr_ rfl rfl ?_
    refine WL.y rfl (Yd.indexArr (n := 6) (e := 68) (s := 6) kr_ kr_ rfl rfl (by omega) (by omega)) ?_
    refine WL.y rfl (Yd.indexArr (n := 6) (e := 3) (s := 1) kr_ kr_ rfl rfl (by omega) (by omega)) ?_
    refine WL.s (Hd.store1s (cs' := .int .i64 W.n :: .slice xo W.ls.length xc :: (ic ((W.cut.set (f.toNat * 6 + t.toNat) 0).set (f.toNat * 6 + t.toNat) 1) ++ uc W.clk)) kr_ rfl rfl (by rfl) fr_ (by simp [ic_length, uc_len, hcut, hclk]; omega) (by rw [show 0 + 2 + f.toNat * 6 + t.toNat * 1 = 2 + (f.toNat * 6 + t.toNat) by omega]; exact cells_cutSet _ _ _ _ _ _ (by first | (rw [List.length_set]; omega) | omega)) ⟨rfl, ?_⟩)
    refine ntsr_ ?_
    refine a_ rfl rfl ?_
    refine nt_ ?_
    refine WC.ret ?_
    try simp only [Bool.not_eq_true', Bool.not_eq_false'] at hg17
    try simp only [Bool.not_eq_true', Bool.not_eq_false'] at h12
    refine DN.ret1 Try.results16 rfl ?_
    first
      | (have e : cutE W f t = 2 := by simp [cutE, *]
         exact ⟨by rw [e], by rw [cutW, e]; exact hW⟩)
      | (have e : cutE W f t = 0 := by simp [cutE, *]
         refine ⟨by rw [e], ?_⟩
         simp only [cutW, e, if_true, h30]
         first
           | (rw [List.set_set]; exact ⟨_, Cl, _, D, rfl, ho, hL⟩)
           | exact ⟨_, Cl, _, D, rfl, ho, hL⟩)
   ·refine WC.skip ?_
    refine ts_ ?_
    refine WC.region ?_
    refine a_ rfl rfl ?_
    refine nt_ ?_
    refine WC.ret ?_
    try simp only [Bool.not_eq_true', Bool.not_eq_false'] at hg17
    try simp only [Bool.not_eq_true', Bool.not_eq_false'] at h12
    refine DN.ret1 Try.results16 rfl ?_
    first
      | (have e : cutE W f t = 2 := by simp [cutE, *]
         exact ⟨by rw [e], by rw [cutW, e]; exact hW⟩)
      | (have e : cutE W f t = 0 := by simp [cutE, *]
         refine ⟨by rw [e], ?_⟩
         simp only [cutW, e, if_true, h30]
         first
           | (rw [List.set_set]; exact ⟨_, Cl, _, D, rfl, ho, hL⟩)
           | exact ⟨_, Cl, _, D, rfl, ho, hL⟩)
theorem tick_tells (p : Nat) (W : Wn) (C : List Ck) (h : WAt 72 34 5 p W C) (inv : WInv W) (k : Int) : Tells Try.prog 27 [.pointer (some ⟨p, 0, none⟩), .int .i64 k] C fun r C' => r = .tuple #[.int .u64 (tickV W k).toNat, .int .i64 (tickE W k)] ∧ WAt 72 34 5 p  (tickW W k) C' := by
 refine Tells.enter Try.func27 rfl Try.ntmps27 rfl ?_
 intro w0 R
 have hcut := inv.cut
 have hclk := inv.clk
 have hW := h
 obtain ⟨vl, Cl, cs, D, rfl, ho, hL⟩ := h
 obtain ⟨xo, xc, rfl, hxc⟩ := ho.form
 refine sr_ ?_
 refine WL.y rfl (Yd.assign (v := .int .u64 ((0#64).toNat : Int)) rfl) ?_
 refine a_ rfl rfl ?_
 refine nt_ ?_
 refine WC.seq ?_
 refine WC.block ?_
 refine sr_ ?_
 refine m_ rfl rfl ?_
 refine WL.y rfl (Yd.eqlNil Try.underlying22 rfl rfl) ?_
 refine WL.renamed (t := 8) (v := .bool false) rfl (congrArg Value.bool (rfl)) ?_
 refine a_ rfl rfl ?_
 refine nt_ ?_
 refine WC.no rfl ?_
 refine sr_ ?_
 refine m_ rfl rfl ?_
 refine m_ rfl rfl ?_
 refine WL.rf rfl (Ent.func Try.call29 rfl) (is_reads p W _ hW k) sp_ ?_
 refine WL.y rfl (Yd.notB rfl) ?_
 refine a_ rfl rfl ?_
 refine nt_ ?_
 refine WC.cond rfl (fun h9 => ?_) (fun h9 => ?_)
 ·have hn : isNode W k = false := by simpa using h9
  refine sr_ ?_
  refine WL.y rfl (Yd.assign (v := .int .u64 ((0#64).toNat : Int)) rfl) ?_
  refine a_ rfl rfl ?_
  refine nt_ ?_
  refine WC.ret ?_
  refine DN.block_ret ?_
  refine DN.then_ret ?_
  refine DN.ret2 Try.results27 rfl rfl ?_
  first | exact ⟨by simp [tickV, tickE, hn], by simp only [tickW, hn]; exact hW⟩ | (refine ⟨by simp [tickV, tickE, hn], ?_⟩; simp only [tickW, hn]; exact ⟨_, Cl, _, D, rfl, ho, hL⟩)
 ·have hn : isNode W k = true := by simpa using h9
  have hk := node_lt inv hn
  refine WC.skip ?_
  refine DN.block_normal ?_
  refine ts_ ?_
  refine WC.draw 11 kr_ rfl ?_
  refine WA.y (i := 0) (NoPanic.then (NoPanic.body)) rfl kr_ kr_ kr_ rfl (Yd.move rfl) ?_
  refine WA.y (i := 1) (NoPanic.then (NoPanic.body)) rfl kr_ kr_ kr_ rfl (Yd.move rfl) ?_
  refine WA.y (i := 2) (NoPanic.then (NoPanic.body)) rfl kr_ kr_ kr_ rfl (Yd.notNil rfl) ?_
  refine WA.y (i := 3) (NoPanic.then (NoPanic.body)) rfl kr_ kr_ kr_ rfl (Yd.fieldAddr (k := 38) kr_ rfl) ?_
  refine WA.y (i := 4) (NoPanic.then (NoPanic.body)) rfl kr_ kr_ kr_ rfl (Yd.indexArr (n := 6) (e := 29) (s := 1) kr_ kr_ rfl rfl (by omega) (by omega)) ?_
  refine WA.y (i := 7) (NoPanic.then (NoPanic.body)) rfl kr_ kr_ kr_ rfl (Yd.notNil rfl) ?_
  refine WA.y (i := 8) (NoPanic.then (NoPanic.body)) rfl kr_ kr_ kr_ rfl (Yd.fieldAddr (k := 38) kr_ rfl) ?_
  refine WA.one (i := 5) kr_ ?_
  refine WO.h rfl Wt.none rfl (Hd.load1 (v := .int .u64 (W.clk.getD k.toNat 0#64).toNat) kr_ rfl mem_ (by rw [show 0 + 38 + k.toNat * 1 = 38 + k.toNat by omega]; exact cells_clkAt _ _ _ _ _ hcut (by omega)) ⟨_, rfl, ?_⟩)
  refine WA.y (i := 6) (NoPanic.then (NoPanic.body)) rfl kr_ kr_ kr_ rfl (Yd.add64 _ (1#64) rfl rfl rfl rfl) ?_
  refine WA.y (i := 9) (NoPanic.then (NoPanic.body)) rfl kr_ kr_ kr_ rfl (Yd.indexArr (n := 6) (e := 29) (s := 1) kr_ kr_ rfl rfl (by omega) (by omega)) ?_
  refine WA.one (i := 10) kr_ ?_
  refine WO.s rfl Wt.none (Hd.store1s (cs' := .int .i64 W.n :: .slice xo W.ls.length xc :: (ic W.cut ++ uc (W.clk.set k.toNat (W.clk.getD k.toNat 0#64 + 1#64)))) kr_ rfl rfl (by rfl) fr_ (by simp [ic_length, uc_len, hcut, hclk]; omega) (by rw [show 0 + 38 + k.toNat * 1 = 38 + k.toNat by omega]; exact cells_clkSet _ _ _ _ _ _ hcut) ⟨rfl, ?_⟩)
  refine WA.done kr_ ?_
  refine ts_ ?_
  refine WC.region ?_
  refine m_ rfl rfl ?_
  refine m_ rfl rfl ?_
  refine n_ rfl rfl ?_
  refine f_ 38 kr_ rfl rfl ?_
  refine WL.y rfl (Yd.indexArr (n := 6) (e := 29) (s := 1) kr_ kr_ rfl rfl (by omega) (by omega)) ?_
  refine WL.h rfl (Hd.load1 (v := .int .u64 (W.clk.getD k.toNat 0#64 + 1#64).toNat) kr_ rfl mem_ (by rw [show 0 + 38 + k.toNat * 1 = 38 + k.toNat by omega]; exact by rw [cells_clkAt _ _ _ _ _ hcut (by rw [List.length_set]; omega)]; simp [List.getD, show k.toNat < W.clk.length by omega]) ⟨_, rfl, ?_⟩)
  refine a_ rfl rfl ?_
  refine a_ rfl rfl ?_
  refine nt_ ?_
  refine WC.ret ?_
  refine DN.ret2 Try.results27 rfl rfl ?_
  first | exact ⟨by simp [tickV, tickE, hn], by simp only [tickW, hn]; exact hW⟩ | (refine ⟨by simp [tickV, tickE, hn], ?_⟩; simp only [tickW, hn]; exact ⟨_, Cl, _, D, rfl, ho, hL⟩)
theorem clock_reads (p : Nat) (W : Wn) (C : List Ck) (h : WAt 72 34 5 p W C) (inv : WInv W) (k : Int) : Reads Try.prog 28 [.pointer (some ⟨p, 0, none⟩), .int .i64 k] C (.int .u64 (clockV W k).toNat) := by
 refine Tells.enter Try.func28 rfl Try.ntmps28 rfl ?_
 intro w0 R
 have hcut := inv.cut
 have hclk := inv.clk
 have hW := h
 obtain ⟨vl, Cl, cs, D, rfl, ho, hL⟩ := h
 obtain ⟨xo, xc, rfl, hxc⟩ := ho.form
 refine sr_ ?_
 refine WL.y rfl (Yd.assign (v := .int .u64 ((0#64).toNat : Int)) rfl) ?_
 refine nt_ ?_
 refine WC.seq ?_
 refine sr_ ?_
 refine m_ rfl rfl ?_
 refine WL.y rfl (Yd.eqlNil Try.underlying22 rfl rfl) ?_
 refine WL.renamed (t := 6) (v := .bool false) rfl (congrArg Value.bool (rfl)) ?_
 refine m_ rfl rfl ?_
 refine gy_ 7 rfl rfl rfl (Yd.move rfl) ?_
 refine gy_ 7 rfl rfl rfl (Yd.move rfl) ?_
 refine WL.grf (dj := 7) rfl rfl rfl (Ent.func Try.call29 rfl) (is_reads p W _ hW k) sp_ ?_
 refine gy_ 7 rfl rfl rfl (Yd.notB rfl) ?_
 refine WL.y rfl (Yd.pickF rfl rfl) ?_
 refine nt_ ?_
 refine WC.cond rfl (fun h12 => ?_) (fun h12 => ?_)
 ·have hn : isNode W k = false := by simpa using h12
  refine sr_ ?_
  refine WL.y rfl (Yd.assign (v := .int .u64 ((0#64).toNat : Int)) rfl) ?_
  refine nt_ ?_
  refine WC.ret ?_
  refine DN.then_ret ?_
  refine DN.ret1 Try.results28 rfl ?_
  exact ⟨by simp [clockV, hn], rfl⟩
 ·have hn : isNode W k = true := by simpa using h12
  have hk := node_lt inv hn
  refine WC.skip ?_
  refine ts_ ?_
  refine WC.region ?_
  refine m_ rfl rfl ?_
  refine m_ rfl rfl ?_
  refine n_ rfl rfl ?_
  refine f_ 38 kr_ rfl rfl ?_
  refine WL.y rfl (Yd.indexArr (n := 6) (e := 29) (s := 1) kr_ kr_ rfl rfl (by omega) (by omega)) ?_
  refine WL.h rfl (Hd.load1 (v := .int .u64 (W.clk.getD k.toNat 0#64).toNat) kr_ rfl mem_ (by rw [show 0 + 38 + k.toNat * 1 = 38 + k.toNat by omega]; exact cells_clkAt _ _ _ _ _ hcut (by omega)) ⟨_, rfl, ?_⟩)
  refine a_ rfl rfl ?_
  refine nt_ ?_
  refine WC.ret ?_
  refine DN.ret1 Try.results28 rfl ?_
  exact ⟨by simp [clockV, hn], rfl⟩
def newW (n : Int) : Wn := ⟨n, [], List.replicate 36 0, List.replicate 6 0#64⟩
theorem newW_inv {n : Int} (h : 1 ≤ n ∧ n ≤ 6) : WInv (newW n) := ⟨h, by simp [newW], by simp [newW], by simp [newW], by simp [newW], by simp [newW]⟩
theorem new_tells (n : Int) : Tells Try.prog 9 [.int .i64 n] [] fun r C => if 1 ≤ n ∧ n ≤ 6 then ∃ p, r = .tuple #[.pointer (some ⟨p, 0, none⟩), .int .i64 0] ∧ WAt 72 34 5 p  (newW n) C else r = .tuple #[.pointer none, .int .i64 2] ∧ C = [] := by
 refine Tells.enter Try.func9 rfl Try.ntmps9 rfl ?_
 intro w0 R
 refine sr_ ?_
 refine a_ rfl rfl ?_
 refine a_ rfl rfl ?_
 refine nt_ ?_
 refine WC.seq ?_
 refine sr_ ?_
 refine m_ rfl rfl ?_
 refine WL.y rfl (Yd.lss rfl rfl) ?_
 refine m_ rfl rfl ?_
 refine WL.partP (t := 6) rfl (fun hg6 => ?_) (fun hg6 => ?_)
 ·refine gn_ 6 rfl rfl rfl rfl ?_
  refine gn_ 6 rfl rfl rfl rfl ?_
  refine WL.y rfl (Yd.pickT rfl rfl) ?_
  refine nt_ ?_
  refine WC.yes rfl ?_
  refine sr_ ?_
  refine a_ rfl rfl ?_
  refine a_ rfl rfl ?_
  refine nt_ ?_
  refine WC.ret ?_
  refine DN.then_ret ?_
  refine DN.ret2 Try.results9 rfl rfl ?_
  rw [if_neg (by omega)]
  exact ⟨rfl, rfl⟩
 ·refine gy_ 6 rfl rfl rfl (Yd.move rfl) ?_
  refine gy_ 6 rfl rfl rfl (Yd.gtr rfl rfl) ?_
  refine WL.y rfl (Yd.pickF rfl rfl) ?_
  refine nt_ ?_
  refine WC.ite rfl (fun h9 => ?_) (fun h9 => ?_)
  ·refine sr_ ?_
   refine a_ rfl rfl ?_
   refine a_ rfl rfl ?_
   refine nt_ ?_
   refine WC.ret ?_
   refine DN.then_ret ?_
   refine DN.ret2 Try.results9 rfl rfl ?_
   rw [if_neg (by omega)]
   exact ⟨rfl, rfl⟩
  ·refine WC.skip ?_
   refine ts_ ?_
   refine WC.region ?_
   refine m_ rfl rfl ?_
   refine WL.y rfl (Yd.buildL (pl := [(0, 1), (1, 1), (2, 36), (38, 6)]) (zs := [.int .i64 0, .slice none 0 0, .int .i64 0, .int .i64 0, .int .i64 0, .int .i64 0, .int .i64 0, .int .i64 0, .int .i64 0, .int .i64 0, .int .i64 0, .int .i64 0, .int .i64 0, .int .i64 0, .int .i64 0, .int .i64 0, .int .i64 0, .int .i64 0, .int .i64 0, .int .i64 0, .int .i64 0, .int .i64 0, .int .i64 0, .int .i64 0, .int .i64 0, .int .i64 0, .int .i64 0, .int .i64 0, .int .i64 0, .int .i64 0, .int .i64 0, .int .i64 0, .int .i64 0, .int .i64 0, .int .i64 0, .int .i64 0, .int .i64 0, .int .i64 0, .int .u64 0, .int .u64 0, .int .u64 0, .int .u64 0, .int .u64 0, .int .u64 0]) (parts := [(0, .tmp 10)]) (vs := [(0, _)]) (cells := [_, .slice none 0 0, .int .i64 0, .int .i64 0, .int .i64 0, .int .i64 0, .int .i64 0, .int .i64 0, .int .i64 0, .int .i64 0, .int .i64 0, .int .i64 0, .int .i64 0, .int .i64 0, .int .i64 0, .int .i64 0, .int .i64 0, .int .i64 0, .int .i64 0, .int .i64 0, .int .i64 0, .int .i64 0, .int .i64 0, .int .i64 0, .int .i64 0, .int .i64 0, .int .i64 0, .int .i64 0, .int .i64 0, .int .i64 0, .int .i64 0, .int .i64 0, .int .i64 0, .int .i64 0, .int .i64 0, .int .i64 0, .int .i64 0, .int .i64 0, .int .u64 0, .int .u64 0, .int .u64 0, .int .u64 0, .int .u64 0, .int .u64 0]) kr_ kr_ rfl rfl) ?_
   refine WL.h rfl (Hd.boxA rfl fun b12 => ⟨_, rfl, ?_⟩)
   refine a_ rfl rfl ?_
   refine a_ rfl rfl ?_
   refine nt_ ?_
   refine WC.ret ?_
   refine DN.ret2 Try.results9 rfl rfl ?_
   rw [if_pos (by omega)]
   exact ⟨b12, rfl, ⟨.slice none 0 0, [], [], [], rfl, Own.nil _ _, Lts.nil⟩⟩
end Go.Proofs.Ytgpegfmonmdhoaa
