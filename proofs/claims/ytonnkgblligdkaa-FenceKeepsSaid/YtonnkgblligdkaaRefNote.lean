/-
  The walks of the document's note (drayageref05): Names, has, part, Check.
-/
import Derived.Test.YtonnkgblligdkaaRows
import Derived.Test.YtonnkgblligdkaaNoteRef
import Derived.Test.YtonnkgblligdkaaSLQuiet
set_option linter.unusedVariables false
set_option linter.unusedSimpArgs false
set_option maxHeartbeats 4000000
namespace Go.Proofs.Ytonnkgblligdkaa
open Go.SL
theorem part_ret {l m : List Value} {p q : Bool} (h1 : l = m) (h : p = q) : Value.tuple #[.agg l.toArray, .bool p] = .tuple #[.agg m.toArray, .bool q] := by rw [h1, h]


/-- drayage/drayageref05.Names -/
theorem rnames_reads (k : Int) (H : List Ck) : Reads Try.prog 68 [.int .i64 k] H (.string (nmS k)) := by
  refine Tells.enter Try.func68 rfl Try.ntmps68 rfl ?_
  intro w0 R
  refine WC.seq ?_
  refine WC.region ?_
  refine WL.y rfl (Yd.assign rfl) ?_
  refine WL.nil ?_
  refine DN.then_normal ?_
  refine WC.seq ?_
  refine WC.region ?_
  refine WL.h rfl (Hd.buildSlice (e := 9) (sz := 1) (zs := [.string ⟨#[]⟩]) (parts := [(0, .const (.string ⟨#[]⟩)), (1, .const (.string ⟨#[69, 80, 76, 68]⟩)), (2, .const (.string ⟨#[69, 76]⟩)), (3, .const (.string ⟨#[69, 76]⟩)), (4, .const (.string ⟨#[69, 67]⟩)), (5, .const (.string ⟨#[69, 84, 67]⟩)), (6, .const (.string ⟨#[69, 67]⟩)), (7, .const (.string ⟨#[69, 79, 83, 85, 68]⟩)), (8, .const (.string ⟨#[69, 79, 83, 85, 67, 68]⟩)), (9, .const (.string ⟨#[69, 79, 83, 85]⟩)), (10, .const (.string ⟨#[75, 68]⟩)), (11, .const (.string ⟨#[75]⟩)), (12, .const (.string ⟨#[75]⟩)), (13, .const (.string ⟨#[79, 67, 75, 68]⟩))]) (vs := [(0, .string ⟨#[]⟩), (1, .string ⟨#[69, 80, 76, 68]⟩), (2, .string ⟨#[69, 76]⟩), (3, .string ⟨#[69, 76]⟩), (4, .string ⟨#[69, 67]⟩), (5, .string ⟨#[69, 84, 67]⟩), (6, .string ⟨#[69, 67]⟩), (7, .string ⟨#[69, 79, 83, 85, 68]⟩), (8, .string ⟨#[69, 79, 83, 85, 67, 68]⟩), (9, .string ⟨#[69, 79, 83, 85]⟩), (10, .string ⟨#[75, 68]⟩), (11, .string ⟨#[75]⟩), (12, .string ⟨#[75]⟩), (13, .string ⟨#[79, 67, 75, 68]⟩)]) (cells := [.string ⟨#[]⟩, .string ⟨#[69, 80, 76, 68]⟩, .string ⟨#[69, 76]⟩, .string ⟨#[69, 76]⟩, .string ⟨#[69, 67]⟩, .string ⟨#[69, 84, 67]⟩, .string ⟨#[69, 67]⟩, .string ⟨#[69, 79, 83, 85, 68]⟩, .string ⟨#[69, 79, 83, 85, 67, 68]⟩, .string ⟨#[69, 79, 83, 85]⟩, .string ⟨#[75, 68]⟩, .string ⟨#[75]⟩, .string ⟨#[75]⟩, .string ⟨#[79, 67, 75, 68]⟩]) kr_ kr_ kr_ rfl kr_ kr_ fun b4 => ⟨_, rfl, ?_⟩)
  refine WL.y rfl (Yd.assign rfl) ?_
  refine WL.nil ?_
  refine DN.then_normal ?_
  refine WC.seq ?_
  refine WC.seq ?_
  refine WC.region ?_
  refine WL.y rfl (Yd.move rfl) ?_
  refine WL.y rfl (Yd.lss rfl rfl) ?_
  refine WL.y rfl (Yd.move rfl) ?_
  refine WL.partP (t := 7) rfl (fun hg7 => ?_) (fun hg7 => ?_)
  · refine WL.gn (dj := 7) rfl rfl rfl rfl ?_
    refine WL.gn (dj := 7) rfl rfl rfl rfl ?_
    refine WL.y rfl (Yd.pickT rfl rfl) ?_
    refine WL.nil ?_
    refine DN.then_normal ?_
    refine WC.yes rfl ?_
    refine WC.seq ?_
    refine WC.region ?_
    refine WL.y rfl (Yd.assign rfl) ?_
    refine WL.nil ?_
    refine DN.then_normal ?_
    refine WC.ret ?_
    refine DN.then_ret ?_
    refine DN.fit (C := H) sp_ ?_
    refine DN.ret1 Try.results68 rfl ?_
    first
    | exact ⟨rfl, rfl⟩
    | exact ⟨congrArg Value.string (names_no (by first | omega | (simp only [decide_eq_true_eq] at *; omega))).symm, rfl⟩
  · refine WL.gy (dj := 7) rfl rfl rfl (Yd.move rfl) ?_
    refine WL.gy (dj := 7) rfl rfl rfl (Yd.gtr rfl rfl) ?_
    refine WL.y rfl (Yd.pickF rfl rfl) ?_
    refine WL.nil ?_
    refine DN.then_normal ?_
    refine WC.ite rfl (fun h10 => ?_) (fun h10 => ?_)
    · refine WC.seq ?_
      refine WC.region ?_
      refine WL.y rfl (Yd.assign rfl) ?_
      refine WL.nil ?_
      refine DN.then_normal ?_
      refine WC.ret ?_
      refine DN.then_ret ?_
      refine DN.fit (C := H) sp_ ?_
      refine DN.ret1 Try.results68 rfl ?_
      first
      | exact ⟨rfl, rfl⟩
      | exact ⟨congrArg Value.string (names_no (by first | omega | (simp only [decide_eq_true_eq] at *; omega))).symm, rfl⟩
    · refine WC.skip ?_
      refine DN.then_normal ?_
      refine WC.seq ?_
      refine WC.region ?_
      have h0 : 1 ≤ k := by omega
      have h1 : k ≤ 13 := by omega
      refine WL.y rfl (Yd.move rfl) ?_
      refine WL.y rfl (Yd.move rfl) ?_
      refine WL.elem (e := 9) kr_ kr_ kr_ rfl rfl (by omega) (.inr ⟨b4, 0, 14, [.string ⟨#[]⟩, .string ⟨#[69, 80, 76, 68]⟩, .string ⟨#[69, 76]⟩, .string ⟨#[69, 76]⟩, .string ⟨#[69, 67]⟩, .string ⟨#[69, 84, 67]⟩, .string ⟨#[69, 67]⟩, .string ⟨#[69, 79, 83, 85, 68]⟩, .string ⟨#[69, 79, 83, 85, 67, 68]⟩, .string ⟨#[69, 79, 83, 85]⟩, .string ⟨#[75, 68]⟩, .string ⟨#[75]⟩, .string ⟨#[75]⟩, .string ⟨#[79, 67, 75, 68]⟩], 9, (0, 0), true, rfl, Nat.le_refl _, mem_, rfl⟩) (names_cell h0 h1) (by omega) rfl rfl ?_
      intro _
      refine WL.y rfl (Yd.assign rfl) ?_
      refine WL.nil ?_
      refine DN.then_normal ?_
      refine WC.ret ?_
      refine DN.fit (C := H) sp_ ?_
      refine DN.ret1 Try.results68 rfl ?_
      first
      | exact ⟨rfl, rfl⟩
      | exact ⟨congrArg Value.string (names_no (by first | omega | (simp only [decide_eq_true_eq] at *; omega))).symm, rfl⟩

/-- drayage/drayageref05.has -/
theorem rhas_reads (k : Int) (b : BitVec 8) (H : List Ck) : Reads Try.prog 70 [.int .i64 k, .int .u8 b.toNat] H (.bool (decide (b ∈ nb k))) := by
  refine Tells.enter Try.func70 rfl Try.ntmps70 rfl ?_
  intro w0 R
  have hsz : (str (nb k)).size = (nb k).length := by simp [str, ByteArray.size]
  have hnl : (nb k).length ≤ 6 := nb_len k
  refine WC.seq ?_
  refine WC.region ?_
  refine WL.y rfl (Yd.assign rfl) ?_
  refine WL.nil ?_
  refine DN.then_normal ?_
  refine WC.seq ?_
  refine WC.region ?_
  refine WL.y rfl (Yd.move rfl) ?_
  refine WL.r rfl (Ent.func Try.call68 rfl) (rnames_reads k _) ?_
  refine WL.renamed (t := 8) (v := .string (str (nb k))) rfl (congrArg Value.string (nmS_str k)) ?_
  refine WL.y rfl (Yd.assign rfl) ?_
  refine WL.nil ?_
  refine DN.then_normal ?_
  refine WC.seq ?_
  refine WC.seq ?_
  refine WC.region ?_
  refine WL.y rfl (Yd.assign rfl) ?_
  refine WL.nil ?_
  refine DN.then_normal ?_
  refine WC.block ?_
  refine WC.loopS (fun z : Nat => z ≤ (nb k).length ∧ b ∉ (nb k).take z) (fun z : Nat => [(6, .int .i64 (z : Int))]) (fun z : Nat => H) (fun z : Nat => (nb k).length - z) (0) (show 0 ≤ (nb k).length ∧ b ∉ (nb k).take 0 from ⟨Nat.zero_le _, by simp⟩) (Sx.put rfl (sx_)) sp_ ?_
  rintro i hI
  replace hI : i ≤ (nb k).length ∧ b ∉ (nb k).take i := hI
  obtain ⟨hi, hno⟩ := hI
  change WC _ _ _ _ _ _ ([(6, .int .i64 (i : Int))] ++ _) (H)
  refine WC.seq ?_
  refine WC.seq ?_
  refine WC.region ?_
  refine WL.y rfl (Yd.move rfl) ?_
  refine WL.y rfl (Yd.move rfl) ?_
  refine WL.y rfl (Yd.lenS Try.underlying9 rfl) ?_
  refine WL.y rfl (Yd.lss rfl rfl) ?_
  refine WL.nil ?_
  refine DN.then_normal ?_
  refine WC.ite rfl (fun h12 => ?_) (fun h12 => ?_)
  · have hlt : i < (nb k).length := by omega
    refine WC.skip ?_
    refine DN.then_normal ?_
    refine WC.seq ?_
    refine WC.block ?_
    refine WC.seq ?_
    refine WC.region ?_
    refine WL.y rfl (Yd.move rfl) ?_
    refine WL.y rfl (Yd.move rfl) ?_
    refine WL.y rfl (Yd.indexS (i := i) (b := (nb k)[i]) Try.underlying9 rfl rfl rfl (str_get hlt)) ?_
    refine WL.y rfl (Yd.move rfl) ?_
    refine WL.y rfl (Yd.eql8 _ _ rfl rfl rfl rfl) ?_
    refine WL.nil ?_
    refine DN.then_normal ?_
    refine WC.ite rfl (fun h19 => ?_) (fun h19 => ?_)
    · refine WC.seq ?_
      refine WC.region ?_
      refine WL.y rfl (Yd.assign rfl) ?_
      refine WL.nil ?_
      refine DN.then_normal ?_
      refine WC.ret ?_
      refine DN.block_ret ?_
      refine DN.then_ret ?_
      refine DN.then_ret ?_
      refine DN.block_ret ?_
      refine DN.then_ret ?_
      refine DN.ret1 Try.results70 rfl ?_
      first
      | (rw [decide_eq_false hno]; exact ⟨rfl, rfl⟩)
      | (rw [decide_eq_true (show b ∈ nb k by rw [← h19]; exact List.getElem_mem hlt)]; exact ⟨rfl, rfl⟩)
    · refine WC.skip ?_
      refine DN.block_normal ?_
      refine DN.then_normal ?_
      refine WC.region ?_
      refine WL.y rfl (Yd.move rfl) ?_
      refine WL.y rfl (Yd.add rfl rfl (by omega) (by omega)) ?_
      refine WL.y rfl (Yd.assign rfl) ?_
      refine WL.nil ?_
      exact DN.againS (i + 1) (show (i + 1) ≤ (nb k).length ∧ b ∉ (nb k).take (i + 1) from ⟨by omega, by rw [List.take_succ_eq_append_getElem hlt]; intro h; rcases List.mem_append.1 h with h | h; exact hno h; exact h19 (List.mem_singleton.1 h).symm⟩) (show (nb k).length - (i + 1) < (nb k).length - i by omega) (Sx.put rfl (sx_)) sp_
  · obtain rfl : i = (nb k).length := by omega
    rw [List.take_length] at hno
    refine WC.exit ?_
    refine DN.then_exit ?_
    refine DN.then_exit ?_
    refine DN.block_exit ?_
    refine DN.then_normal ?_
    refine WC.seq ?_
    refine WC.region ?_
    refine WL.y rfl (Yd.assign rfl) ?_
    refine WL.nil ?_
    refine DN.then_normal ?_
    refine WC.ret ?_
    refine DN.ret1 Try.results70 rfl ?_
    first
    | (rw [decide_eq_false hno]; exact ⟨rfl, rfl⟩)
    | (rw [decide_eq_true (show b ∈ nb k by rw [← h19]; exact List.getElem_mem hlt)]; exact ⟨rfl, rfl⟩)

/-- drayage/drayageref05.part -/
theorem rpart_reads (n : Nt) (vk vd : Value) (hk : IsSl vk n.key.length) (hd : IsSl vd n.data.length) (b : BitVec 8) (H : List Ck) : Reads Try.prog 69 [.agg (ntc n vk vd).toArray, .int .u8 b.toNat] H (.tuple #[.agg (partV n vk vd b).toArray, .bool (zeroP n b)]) := by
  refine Tells.enter Try.func69 rfl Try.ntmps69 rfl ?_
  intro w0 R
  obtain ⟨ko, kc, rfl⟩ := hk
  obtain ⟨do_, dc, rfl⟩ := hd
  refine WC.seq ?_
  refine WC.region ?_
  refine WL.h rfl (Hd.boxA rfl fun b2 => ⟨_, rfl, ?_⟩)
  refine WL.h rfl (Hd.alloc (zs := [.int .i64 0, .int .u64 0, .slice none 0 0]) kr_ fun b4 => ⟨_, rfl, ?_⟩)
  refine WL.y rfl (Yd.assign rfl) ?_
  refine WL.nil ?_
  refine DN.then_normal ?_
  refine WC.seq ?_
  refine WC.seq ?_
  refine WC.region ?_
  refine WL.y rfl (Yd.move rfl) ?_
  refine WL.nil ?_
  refine DN.then_normal ?_
  refine WC.block ?_
  refine WC.seq ?_
  refine WC.region ?_
  refine WL.y rfl (Yd.eql8 _ (69#8) rfl rfl rfl rfl) ?_
  refine WL.y rfl (Yd.assign rfl) ?_
  refine WL.nil ?_
  refine DN.then_normal ?_
  refine WC.ite rfl (fun h7 => ?_) (fun h7 => ?_)
  · refine WC.seq ?_
    refine WC.draw 9 kr_ rfl ?_
    refine WA.y (i := 0) (NoPanic.then (NoPanic.block (NoPanic.then (NoPanic.body)))) rfl kr_ kr_ kr_ rfl (Yd.fieldAddr (k := 1) kr_ rfl) ?_
    refine WA.y (i := 4) (NoPanic.then (NoPanic.block (NoPanic.then (NoPanic.body)))) rfl kr_ kr_ kr_ rfl (Yd.fieldAddr (k := 1) kr_ rfl) ?_
    refine WA.two (i := 1) (j := 5) kr_ ?_ ?_
    · refine WO.h rfl Wt.none rfl (Hd.load1 kr_ rfl mem_ (by rfl) ⟨_, rfl, ?_⟩)
      refine WA.y (i := 2) (NoPanic.then (NoPanic.block (NoPanic.then (NoPanic.body)))) rfl kr_ kr_ kr_ rfl (Yd.conv32_64 _ kr_ kr_ rfl rfl) ?_
      refine WA.y (i := 3) (NoPanic.then (NoPanic.block (NoPanic.then (NoPanic.body)))) rfl kr_ kr_ kr_ rfl (Yd.buildL (pl := [(0, 1), (1, 1), (2, 1)]) (zs := [.int .i64 0, .int .u64 0, .slice none 0 0]) (parts := [(0, .const (.int .i64 4)), (1, .tmp 11)]) (vs := [(0, _), (1, _)]) (cells := [_, _, .slice none 0 0]) kr_ kr_ rfl rfl) ?_
      refine WA.two (i := 5) (j := 7) kr_ ?_ ?_
      · refine WO.h rfl Wt.none rfl (Hd.load1 kr_ rfl mem_ (by rfl) ⟨_, rfl, ?_⟩)
        refine WA.y (i := 6) (NoPanic.then (NoPanic.block (NoPanic.then (NoPanic.body)))) rfl kr_ kr_ kr_ rfl (Yd.eql32 _ (0#32) rfl rfl rfl rfl) ?_
        refine WA.one (i := 7) kr_ ?_
        refine WO.s rfl Wt.none (Hd.storeAll (n := 3) kr_ rfl rfl (by rfl) one_ fr_ (by rfl) ⟨rfl, ?_⟩)
        refine WA.y (i := 8) (NoPanic.then (NoPanic.block (NoPanic.then (NoPanic.body)))) rfl kr_ kr_ kr_ rfl (Yd.assign rfl) ?_
        refine WA.done kr_ ?_
        refine DN.then_normal ?_
        refine WC.ret ?_
        refine DN.block_ret ?_
        refine DN.then_ret ?_
        refine DN.retCT (s := 3) H Try.results69 kr_ rfl rfl mem_ (by rfl) sp_ ?_
        exact ⟨part_ret (by simp [partV, *]) (by simp [zeroP, *]), rfl⟩
      · refine WO.s rfl Wt.none (Hd.storeAll (n := 3) kr_ rfl rfl (by rfl) one_ fr_ (by rfl) ⟨rfl, ?_⟩)
        refine WA.one (i := 5) kr_ ?_
        refine WO.h rfl Wt.none rfl (Hd.load1 kr_ rfl mem_ (by rfl) ⟨_, rfl, ?_⟩)
        refine WA.y (i := 6) (NoPanic.then (NoPanic.block (NoPanic.then (NoPanic.body)))) rfl kr_ kr_ kr_ rfl (Yd.eql32 _ (0#32) rfl rfl rfl rfl) ?_
        refine WA.y (i := 8) (NoPanic.then (NoPanic.block (NoPanic.then (NoPanic.body)))) rfl kr_ kr_ kr_ rfl (Yd.assign rfl) ?_
        refine WA.done kr_ ?_
        refine DN.then_normal ?_
        refine WC.ret ?_
        refine DN.block_ret ?_
        refine DN.then_ret ?_
        refine DN.retCT (s := 3) H Try.results69 kr_ rfl rfl mem_ (by rfl) sp_ ?_
        exact ⟨part_ret (by simp [partV, *]) (by simp [zeroP, *]), rfl⟩
    · refine WO.h rfl Wt.none rfl (Hd.load1 kr_ rfl mem_ (by rfl) ⟨_, rfl, ?_⟩)
      refine WA.y (i := 6) (NoPanic.then (NoPanic.block (NoPanic.then (NoPanic.body)))) rfl kr_ kr_ kr_ rfl (Yd.eql32 _ (0#32) rfl rfl rfl rfl) ?_
      refine WA.one (i := 1) kr_ ?_
      refine WO.h rfl Wt.none rfl (Hd.load1 kr_ rfl mem_ (by rfl) ⟨_, rfl, ?_⟩)
      refine WA.y (i := 2) (NoPanic.then (NoPanic.block (NoPanic.then (NoPanic.body)))) rfl kr_ kr_ kr_ rfl (Yd.conv32_64 _ kr_ kr_ rfl rfl) ?_
      refine WA.y (i := 3) (NoPanic.then (NoPanic.block (NoPanic.then (NoPanic.body)))) rfl kr_ kr_ kr_ rfl (Yd.buildL (pl := [(0, 1), (1, 1), (2, 1)]) (zs := [.int .i64 0, .int .u64 0, .slice none 0 0]) (parts := [(0, .const (.int .i64 4)), (1, .tmp 11)]) (vs := [(0, _), (1, _)]) (cells := [_, _, .slice none 0 0]) kr_ kr_ rfl rfl) ?_
      refine WA.one (i := 7) kr_ ?_
      refine WO.s rfl Wt.none (Hd.storeAll (n := 3) kr_ rfl rfl (by rfl) one_ fr_ (by rfl) ⟨rfl, ?_⟩)
      refine WA.y (i := 8) (NoPanic.then (NoPanic.block (NoPanic.then (NoPanic.body)))) rfl kr_ kr_ kr_ rfl (Yd.assign rfl) ?_
      refine WA.done kr_ ?_
      refine DN.then_normal ?_
      refine WC.ret ?_
      refine DN.block_ret ?_
      refine DN.then_ret ?_
      refine DN.retCT (s := 3) H Try.results69 kr_ rfl rfl mem_ (by rfl) sp_ ?_
      exact ⟨part_ret (by simp [partV, *]) (by simp [zeroP, *]), rfl⟩
  · refine WC.seq ?_
    refine WC.region ?_
    refine WL.y rfl (Yd.eql8 _ (80#8) rfl rfl rfl rfl) ?_
    refine WL.y rfl (Yd.assign rfl) ?_
    refine WL.nil ?_
    refine DN.then_normal ?_
    refine WC.ite rfl (fun h16 => ?_) (fun h16 => ?_)
    · refine WC.seq ?_
      refine WC.draw 9 kr_ rfl ?_
      refine WA.y (i := 0) (NoPanic.then (NoPanic.block (NoPanic.then (NoPanic.body)))) rfl kr_ kr_ kr_ rfl (Yd.fieldAddr (k := 2) kr_ rfl) ?_
      refine WA.y (i := 4) (NoPanic.then (NoPanic.block (NoPanic.then (NoPanic.body)))) rfl kr_ kr_ kr_ rfl (Yd.fieldAddr (k := 2) kr_ rfl) ?_
      refine WA.two (i := 1) (j := 5) kr_ ?_ ?_
      · refine WO.h rfl Wt.none rfl (Hd.load1 kr_ rfl mem_ (by rfl) ⟨_, rfl, ?_⟩)
        refine WA.y (i := 2) (NoPanic.then (NoPanic.block (NoPanic.then (NoPanic.body)))) rfl kr_ kr_ kr_ rfl (Yd.conv32_64 _ kr_ kr_ rfl rfl) ?_
        refine WA.y (i := 3) (NoPanic.then (NoPanic.block (NoPanic.then (NoPanic.body)))) rfl kr_ kr_ kr_ rfl (Yd.buildL (pl := [(0, 1), (1, 1), (2, 1)]) (zs := [.int .i64 0, .int .u64 0, .slice none 0 0]) (parts := [(0, .const (.int .i64 4)), (1, .tmp 20)]) (vs := [(0, _), (1, _)]) (cells := [_, _, .slice none 0 0]) kr_ kr_ rfl rfl) ?_
        refine WA.two (i := 5) (j := 7) kr_ ?_ ?_
        · refine WO.h rfl Wt.none rfl (Hd.load1 kr_ rfl mem_ (by rfl) ⟨_, rfl, ?_⟩)
          refine WA.y (i := 6) (NoPanic.then (NoPanic.block (NoPanic.then (NoPanic.body)))) rfl kr_ kr_ kr_ rfl (Yd.eql32 _ (0#32) rfl rfl rfl rfl) ?_
          refine WA.one (i := 7) kr_ ?_
          refine WO.s rfl Wt.none (Hd.storeAll (n := 3) kr_ rfl rfl (by rfl) one_ fr_ (by rfl) ⟨rfl, ?_⟩)
          refine WA.y (i := 8) (NoPanic.then (NoPanic.block (NoPanic.then (NoPanic.body)))) rfl kr_ kr_ kr_ rfl (Yd.assign rfl) ?_
          refine WA.done kr_ ?_
          refine DN.then_normal ?_
          refine WC.ret ?_
          refine DN.block_ret ?_
          refine DN.then_ret ?_
          refine DN.retCT (s := 3) H Try.results69 kr_ rfl rfl mem_ (by rfl) sp_ ?_
          exact ⟨part_ret (by simp [partV, *]) (by simp [zeroP, *]), rfl⟩
        · refine WO.s rfl Wt.none (Hd.storeAll (n := 3) kr_ rfl rfl (by rfl) one_ fr_ (by rfl) ⟨rfl, ?_⟩)
          refine WA.one (i := 5) kr_ ?_
          refine WO.h rfl Wt.none rfl (Hd.load1 kr_ rfl mem_ (by rfl) ⟨_, rfl, ?_⟩)
          refine WA.y (i := 6) (NoPanic.then (NoPanic.block (NoPanic.then (NoPanic.body)))) rfl kr_ kr_ kr_ rfl (Yd.eql32 _ (0#32) rfl rfl rfl rfl) ?_
          refine WA.y (i := 8) (NoPanic.then (NoPanic.block (NoPanic.then (NoPanic.body)))) rfl kr_ kr_ kr_ rfl (Yd.assign rfl) ?_
          refine WA.done kr_ ?_
          refine DN.then_normal ?_
          refine WC.ret ?_
          refine DN.block_ret ?_
          refine DN.then_ret ?_
          refine DN.retCT (s := 3) H Try.results69 kr_ rfl rfl mem_ (by rfl) sp_ ?_
          exact ⟨part_ret (by simp [partV, *]) (by simp [zeroP, *]), rfl⟩
      · refine WO.h rfl Wt.none rfl (Hd.load1 kr_ rfl mem_ (by rfl) ⟨_, rfl, ?_⟩)
        refine WA.y (i := 6) (NoPanic.then (NoPanic.block (NoPanic.then (NoPanic.body)))) rfl kr_ kr_ kr_ rfl (Yd.eql32 _ (0#32) rfl rfl rfl rfl) ?_
        refine WA.one (i := 1) kr_ ?_
        refine WO.h rfl Wt.none rfl (Hd.load1 kr_ rfl mem_ (by rfl) ⟨_, rfl, ?_⟩)
        refine WA.y (i := 2) (NoPanic.then (NoPanic.block (NoPanic.then (NoPanic.body)))) rfl kr_ kr_ kr_ rfl (Yd.conv32_64 _ kr_ kr_ rfl rfl) ?_
        refine WA.y (i := 3) (NoPanic.then (NoPanic.block (NoPanic.then (NoPanic.body)))) rfl kr_ kr_ kr_ rfl (Yd.buildL (pl := [(0, 1), (1, 1), (2, 1)]) (zs := [.int .i64 0, .int .u64 0, .slice none 0 0]) (parts := [(0, .const (.int .i64 4)), (1, .tmp 20)]) (vs := [(0, _), (1, _)]) (cells := [_, _, .slice none 0 0]) kr_ kr_ rfl rfl) ?_
        refine WA.one (i := 7) kr_ ?_
        refine WO.s rfl Wt.none (Hd.storeAll (n := 3) kr_ rfl rfl (by rfl) one_ fr_ (by rfl) ⟨rfl, ?_⟩)
        refine WA.y (i := 8) (NoPanic.then (NoPanic.block (NoPanic.then (NoPanic.body)))) rfl kr_ kr_ kr_ rfl (Yd.assign rfl) ?_
        refine WA.done kr_ ?_
        refine DN.then_normal ?_
        refine WC.ret ?_
        refine DN.block_ret ?_
        refine DN.then_ret ?_
        refine DN.retCT (s := 3) H Try.results69 kr_ rfl rfl mem_ (by rfl) sp_ ?_
        exact ⟨part_ret (by simp [partV, *]) (by simp [zeroP, *]), rfl⟩
    · refine WC.seq ?_
      refine WC.region ?_
      refine WL.y rfl (Yd.eql8 _ (76#8) rfl rfl rfl rfl) ?_
      refine WL.y rfl (Yd.assign rfl) ?_
      refine WL.nil ?_
      refine DN.then_normal ?_
      refine WC.ite rfl (fun h25 => ?_) (fun h25 => ?_)
      · refine WC.seq ?_
        refine WC.draw 8 kr_ rfl ?_
        refine WA.y (i := 0) (NoPanic.then (NoPanic.block (NoPanic.then (NoPanic.body)))) rfl kr_ kr_ kr_ rfl (Yd.fieldAddr (k := 3) kr_ rfl) ?_
        refine WA.y (i := 3) (NoPanic.then (NoPanic.block (NoPanic.then (NoPanic.body)))) rfl kr_ kr_ kr_ rfl (Yd.fieldAddr (k := 3) kr_ rfl) ?_
        refine WA.two (i := 1) (j := 4) kr_ ?_ ?_
        · refine WO.h rfl Wt.none rfl (Hd.load1 kr_ rfl mem_ (by rfl) ⟨_, rfl, ?_⟩)
          refine WA.y (i := 2) (NoPanic.then (NoPanic.block (NoPanic.then (NoPanic.body)))) rfl kr_ kr_ kr_ rfl (Yd.buildL (pl := [(0, 1), (1, 1), (2, 1)]) (zs := [.int .i64 0, .int .u64 0, .slice none 0 0]) (parts := [(0, .const (.int .i64 8)), (1, .tmp 28)]) (vs := [(0, _), (1, _)]) (cells := [_, _, .slice none 0 0]) kr_ kr_ rfl rfl) ?_
          refine WA.two (i := 4) (j := 6) kr_ ?_ ?_
          · refine WO.h rfl Wt.none rfl (Hd.load1 kr_ rfl mem_ (by rfl) ⟨_, rfl, ?_⟩)
            refine WA.y (i := 5) (NoPanic.then (NoPanic.block (NoPanic.then (NoPanic.body)))) rfl kr_ kr_ kr_ rfl (Yd.eql64 _ (0#64) rfl rfl rfl rfl) ?_
            refine WA.one (i := 6) kr_ ?_
            refine WO.s rfl Wt.none (Hd.storeAll (n := 3) kr_ rfl rfl (by rfl) one_ fr_ (by rfl) ⟨rfl, ?_⟩)
            refine WA.y (i := 7) (NoPanic.then (NoPanic.block (NoPanic.then (NoPanic.body)))) rfl kr_ kr_ kr_ rfl (Yd.assign rfl) ?_
            refine WA.done kr_ ?_
            refine DN.then_normal ?_
            refine WC.ret ?_
            refine DN.block_ret ?_
            refine DN.then_ret ?_
            refine DN.retCT (s := 3) H Try.results69 kr_ rfl rfl mem_ (by rfl) sp_ ?_
            exact ⟨part_ret (by simp [partV, *]) (by simp [zeroP, *]), rfl⟩
          · refine WO.s rfl Wt.none (Hd.storeAll (n := 3) kr_ rfl rfl (by rfl) one_ fr_ (by rfl) ⟨rfl, ?_⟩)
            refine WA.one (i := 4) kr_ ?_
            refine WO.h rfl Wt.none rfl (Hd.load1 kr_ rfl mem_ (by rfl) ⟨_, rfl, ?_⟩)
            refine WA.y (i := 5) (NoPanic.then (NoPanic.block (NoPanic.then (NoPanic.body)))) rfl kr_ kr_ kr_ rfl (Yd.eql64 _ (0#64) rfl rfl rfl rfl) ?_
            refine WA.y (i := 7) (NoPanic.then (NoPanic.block (NoPanic.then (NoPanic.body)))) rfl kr_ kr_ kr_ rfl (Yd.assign rfl) ?_
            refine WA.done kr_ ?_
            refine DN.then_normal ?_
            refine WC.ret ?_
            refine DN.block_ret ?_
            refine DN.then_ret ?_
            refine DN.retCT (s := 3) H Try.results69 kr_ rfl rfl mem_ (by rfl) sp_ ?_
            exact ⟨part_ret (by simp [partV, *]) (by simp [zeroP, *]), rfl⟩
        · refine WO.h rfl Wt.none rfl (Hd.load1 kr_ rfl mem_ (by rfl) ⟨_, rfl, ?_⟩)
          refine WA.y (i := 5) (NoPanic.then (NoPanic.block (NoPanic.then (NoPanic.body)))) rfl kr_ kr_ kr_ rfl (Yd.eql64 _ (0#64) rfl rfl rfl rfl) ?_
          refine WA.one (i := 1) kr_ ?_
          refine WO.h rfl Wt.none rfl (Hd.load1 kr_ rfl mem_ (by rfl) ⟨_, rfl, ?_⟩)
          refine WA.y (i := 2) (NoPanic.then (NoPanic.block (NoPanic.then (NoPanic.body)))) rfl kr_ kr_ kr_ rfl (Yd.buildL (pl := [(0, 1), (1, 1), (2, 1)]) (zs := [.int .i64 0, .int .u64 0, .slice none 0 0]) (parts := [(0, .const (.int .i64 8)), (1, .tmp 28)]) (vs := [(0, _), (1, _)]) (cells := [_, _, .slice none 0 0]) kr_ kr_ rfl rfl) ?_
          refine WA.one (i := 6) kr_ ?_
          refine WO.s rfl Wt.none (Hd.storeAll (n := 3) kr_ rfl rfl (by rfl) one_ fr_ (by rfl) ⟨rfl, ?_⟩)
          refine WA.y (i := 7) (NoPanic.then (NoPanic.block (NoPanic.then (NoPanic.body)))) rfl kr_ kr_ kr_ rfl (Yd.assign rfl) ?_
          refine WA.done kr_ ?_
          refine DN.then_normal ?_
          refine WC.ret ?_
          refine DN.block_ret ?_
          refine DN.then_ret ?_
          refine DN.retCT (s := 3) H Try.results69 kr_ rfl rfl mem_ (by rfl) sp_ ?_
          exact ⟨part_ret (by simp [partV, *]) (by simp [zeroP, *]), rfl⟩
      · refine WC.seq ?_
        refine WC.region ?_
        refine WL.y rfl (Yd.eql8 _ (84#8) rfl rfl rfl rfl) ?_
        refine WL.y rfl (Yd.assign rfl) ?_
        refine WL.nil ?_
        refine DN.then_normal ?_
        refine WC.ite rfl (fun h33 => ?_) (fun h33 => ?_)
        · refine WC.seq ?_
          refine WC.draw 8 kr_ rfl ?_
          refine WA.y (i := 0) (NoPanic.then (NoPanic.block (NoPanic.then (NoPanic.body)))) rfl kr_ kr_ kr_ rfl (Yd.fieldAddr (k := 4) kr_ rfl) ?_
          refine WA.y (i := 3) (NoPanic.then (NoPanic.block (NoPanic.then (NoPanic.body)))) rfl kr_ kr_ kr_ rfl (Yd.fieldAddr (k := 4) kr_ rfl) ?_
          refine WA.two (i := 1) (j := 4) kr_ ?_ ?_
          · refine WO.h rfl Wt.none rfl (Hd.load1 kr_ rfl mem_ (by rfl) ⟨_, rfl, ?_⟩)
            refine WA.y (i := 2) (NoPanic.then (NoPanic.block (NoPanic.then (NoPanic.body)))) rfl kr_ kr_ kr_ rfl (Yd.buildL (pl := [(0, 1), (1, 1), (2, 1)]) (zs := [.int .i64 0, .int .u64 0, .slice none 0 0]) (parts := [(0, .const (.int .i64 8)), (1, .tmp 36)]) (vs := [(0, _), (1, _)]) (cells := [_, _, .slice none 0 0]) kr_ kr_ rfl rfl) ?_
            refine WA.two (i := 4) (j := 6) kr_ ?_ ?_
            · refine WO.h rfl Wt.none rfl (Hd.load1 kr_ rfl mem_ (by rfl) ⟨_, rfl, ?_⟩)
              refine WA.y (i := 5) (NoPanic.then (NoPanic.block (NoPanic.then (NoPanic.body)))) rfl kr_ kr_ kr_ rfl (Yd.eql64 _ (0#64) rfl rfl rfl rfl) ?_
              refine WA.one (i := 6) kr_ ?_
              refine WO.s rfl Wt.none (Hd.storeAll (n := 3) kr_ rfl rfl (by rfl) one_ fr_ (by rfl) ⟨rfl, ?_⟩)
              refine WA.y (i := 7) (NoPanic.then (NoPanic.block (NoPanic.then (NoPanic.body)))) rfl kr_ kr_ kr_ rfl (Yd.assign rfl) ?_
              refine WA.done kr_ ?_
              refine DN.then_normal ?_
              refine WC.ret ?_
              refine DN.block_ret ?_
              refine DN.then_ret ?_
              refine DN.retCT (s := 3) H Try.results69 kr_ rfl rfl mem_ (by rfl) sp_ ?_
              exact ⟨part_ret (by simp [partV, *]) (by simp [zeroP, *]), rfl⟩
            · refine WO.s rfl Wt.none (Hd.storeAll (n := 3) kr_ rfl rfl (by rfl) one_ fr_ (by rfl) ⟨rfl, ?_⟩)
              refine WA.one (i := 4) kr_ ?_
              refine WO.h rfl Wt.none rfl (Hd.load1 kr_ rfl mem_ (by rfl) ⟨_, rfl, ?_⟩)
              refine WA.y (i := 5) (NoPanic.then (NoPanic.block (NoPanic.then (NoPanic.body)))) rfl kr_ kr_ kr_ rfl (Yd.eql64 _ (0#64) rfl rfl rfl rfl) ?_
              refine WA.y (i := 7) (NoPanic.then (NoPanic.block (NoPanic.then (NoPanic.body)))) rfl kr_ kr_ kr_ rfl (Yd.assign rfl) ?_
              refine WA.done kr_ ?_
              refine DN.then_normal ?_
              refine WC.ret ?_
              refine DN.block_ret ?_
              refine DN.then_ret ?_
              refine DN.retCT (s := 3) H Try.results69 kr_ rfl rfl mem_ (by rfl) sp_ ?_
              exact ⟨part_ret (by simp [partV, *]) (by simp [zeroP, *]), rfl⟩
          · refine WO.h rfl Wt.none rfl (Hd.load1 kr_ rfl mem_ (by rfl) ⟨_, rfl, ?_⟩)
            refine WA.y (i := 5) (NoPanic.then (NoPanic.block (NoPanic.then (NoPanic.body)))) rfl kr_ kr_ kr_ rfl (Yd.eql64 _ (0#64) rfl rfl rfl rfl) ?_
            refine WA.one (i := 1) kr_ ?_
            refine WO.h rfl Wt.none rfl (Hd.load1 kr_ rfl mem_ (by rfl) ⟨_, rfl, ?_⟩)
            refine WA.y (i := 2) (NoPanic.then (NoPanic.block (NoPanic.then (NoPanic.body)))) rfl kr_ kr_ kr_ rfl (Yd.buildL (pl := [(0, 1), (1, 1), (2, 1)]) (zs := [.int .i64 0, .int .u64 0, .slice none 0 0]) (parts := [(0, .const (.int .i64 8)), (1, .tmp 36)]) (vs := [(0, _), (1, _)]) (cells := [_, _, .slice none 0 0]) kr_ kr_ rfl rfl) ?_
            refine WA.one (i := 6) kr_ ?_
            refine WO.s rfl Wt.none (Hd.storeAll (n := 3) kr_ rfl rfl (by rfl) one_ fr_ (by rfl) ⟨rfl, ?_⟩)
            refine WA.y (i := 7) (NoPanic.then (NoPanic.block (NoPanic.then (NoPanic.body)))) rfl kr_ kr_ kr_ rfl (Yd.assign rfl) ?_
            refine WA.done kr_ ?_
            refine DN.then_normal ?_
            refine WC.ret ?_
            refine DN.block_ret ?_
            refine DN.then_ret ?_
            refine DN.retCT (s := 3) H Try.results69 kr_ rfl rfl mem_ (by rfl) sp_ ?_
            exact ⟨part_ret (by simp [partV, *]) (by simp [zeroP, *]), rfl⟩
        · refine WC.seq ?_
          refine WC.region ?_
          refine WL.y rfl (Yd.eql8 _ (79#8) rfl rfl rfl rfl) ?_
          refine WL.y rfl (Yd.assign rfl) ?_
          refine WL.nil ?_
          refine DN.then_normal ?_
          refine WC.ite rfl (fun h41 => ?_) (fun h41 => ?_)
          · refine WC.seq ?_
            refine WC.draw 9 kr_ rfl ?_
            refine WA.y (i := 0) (NoPanic.then (NoPanic.block (NoPanic.then (NoPanic.body)))) rfl kr_ kr_ kr_ rfl (Yd.fieldAddr (k := 5) kr_ rfl) ?_
            refine WA.y (i := 4) (NoPanic.then (NoPanic.block (NoPanic.then (NoPanic.body)))) rfl kr_ kr_ kr_ rfl (Yd.fieldAddr (k := 5) kr_ rfl) ?_
            refine WA.two (i := 1) (j := 5) kr_ ?_ ?_
            · refine WO.h rfl Wt.none rfl (Hd.load1 kr_ rfl mem_ (by rfl) ⟨_, rfl, ?_⟩)
              refine WA.y (i := 2) (NoPanic.then (NoPanic.block (NoPanic.then (NoPanic.body)))) rfl kr_ kr_ kr_ rfl (Yd.conv32_64 _ kr_ kr_ rfl rfl) ?_
              refine WA.y (i := 3) (NoPanic.then (NoPanic.block (NoPanic.then (NoPanic.body)))) rfl kr_ kr_ kr_ rfl (Yd.buildL (pl := [(0, 1), (1, 1), (2, 1)]) (zs := [.int .i64 0, .int .u64 0, .slice none 0 0]) (parts := [(0, .const (.int .i64 4)), (1, .tmp 45)]) (vs := [(0, _), (1, _)]) (cells := [_, _, .slice none 0 0]) kr_ kr_ rfl rfl) ?_
              refine WA.two (i := 5) (j := 7) kr_ ?_ ?_
              · refine WO.h rfl Wt.none rfl (Hd.load1 kr_ rfl mem_ (by rfl) ⟨_, rfl, ?_⟩)
                refine WA.y (i := 6) (NoPanic.then (NoPanic.block (NoPanic.then (NoPanic.body)))) rfl kr_ kr_ kr_ rfl (Yd.eql32 _ (0#32) rfl rfl rfl rfl) ?_
                refine WA.one (i := 7) kr_ ?_
                refine WO.s rfl Wt.none (Hd.storeAll (n := 3) kr_ rfl rfl (by rfl) one_ fr_ (by rfl) ⟨rfl, ?_⟩)
                refine WA.y (i := 8) (NoPanic.then (NoPanic.block (NoPanic.then (NoPanic.body)))) rfl kr_ kr_ kr_ rfl (Yd.assign rfl) ?_
                refine WA.done kr_ ?_
                refine DN.then_normal ?_
                refine WC.ret ?_
                refine DN.block_ret ?_
                refine DN.then_ret ?_
                refine DN.retCT (s := 3) H Try.results69 kr_ rfl rfl mem_ (by rfl) sp_ ?_
                exact ⟨part_ret (by simp [partV, *]) (by simp [zeroP, *]), rfl⟩
              · refine WO.s rfl Wt.none (Hd.storeAll (n := 3) kr_ rfl rfl (by rfl) one_ fr_ (by rfl) ⟨rfl, ?_⟩)
                refine WA.one (i := 5) kr_ ?_
                refine WO.h rfl Wt.none rfl (Hd.load1 kr_ rfl mem_ (by rfl) ⟨_, rfl, ?_⟩)
                refine WA.y (i := 6) (NoPanic.then (NoPanic.block (NoPanic.then (NoPanic.body)))) rfl kr_ kr_ kr_ rfl (Yd.eql32 _ (0#32) rfl rfl rfl rfl) ?_
                refine WA.y (i := 8) (NoPanic.then (NoPanic.block (NoPanic.then (NoPanic.body)))) rfl kr_ kr_ kr_ rfl (Yd.assign rfl) ?_
                refine WA.done kr_ ?_
                refine DN.then_normal ?_
                refine WC.ret ?_
                refine DN.block_ret ?_
                refine DN.then_ret ?_
                refine DN.retCT (s := 3) H Try.results69 kr_ rfl rfl mem_ (by rfl) sp_ ?_
                exact ⟨part_ret (by simp [partV, *]) (by simp [zeroP, *]), rfl⟩
            · refine WO.h rfl Wt.none rfl (Hd.load1 kr_ rfl mem_ (by rfl) ⟨_, rfl, ?_⟩)
              refine WA.y (i := 6) (NoPanic.then (NoPanic.block (NoPanic.then (NoPanic.body)))) rfl kr_ kr_ kr_ rfl (Yd.eql32 _ (0#32) rfl rfl rfl rfl) ?_
              refine WA.one (i := 1) kr_ ?_
              refine WO.h rfl Wt.none rfl (Hd.load1 kr_ rfl mem_ (by rfl) ⟨_, rfl, ?_⟩)
              refine WA.y (i := 2) (NoPanic.then (NoPanic.block (NoPanic.then (NoPanic.body)))) rfl kr_ kr_ kr_ rfl (Yd.conv32_64 _ kr_ kr_ rfl rfl) ?_
              refine WA.y (i := 3) (NoPanic.then (NoPanic.block (NoPanic.then (NoPanic.body)))) rfl kr_ kr_ kr_ rfl (Yd.buildL (pl := [(0, 1), (1, 1), (2, 1)]) (zs := [.int .i64 0, .int .u64 0, .slice none 0 0]) (parts := [(0, .const (.int .i64 4)), (1, .tmp 45)]) (vs := [(0, _), (1, _)]) (cells := [_, _, .slice none 0 0]) kr_ kr_ rfl rfl) ?_
              refine WA.one (i := 7) kr_ ?_
              refine WO.s rfl Wt.none (Hd.storeAll (n := 3) kr_ rfl rfl (by rfl) one_ fr_ (by rfl) ⟨rfl, ?_⟩)
              refine WA.y (i := 8) (NoPanic.then (NoPanic.block (NoPanic.then (NoPanic.body)))) rfl kr_ kr_ kr_ rfl (Yd.assign rfl) ?_
              refine WA.done kr_ ?_
              refine DN.then_normal ?_
              refine WC.ret ?_
              refine DN.block_ret ?_
              refine DN.then_ret ?_
              refine DN.retCT (s := 3) H Try.results69 kr_ rfl rfl mem_ (by rfl) sp_ ?_
              exact ⟨part_ret (by simp [partV, *]) (by simp [zeroP, *]), rfl⟩
          · refine WC.seq ?_
            refine WC.region ?_
            refine WL.y rfl (Yd.eql8 _ (83#8) rfl rfl rfl rfl) ?_
            refine WL.y rfl (Yd.assign rfl) ?_
            refine WL.nil ?_
            refine DN.then_normal ?_
            refine WC.ite rfl (fun h50 => ?_) (fun h50 => ?_)
            · refine WC.seq ?_
              refine WC.draw 9 kr_ rfl ?_
              refine WA.y (i := 0) (NoPanic.then (NoPanic.block (NoPanic.then (NoPanic.body)))) rfl kr_ kr_ kr_ rfl (Yd.fieldAddr (k := 6) kr_ rfl) ?_
              refine WA.y (i := 4) (NoPanic.then (NoPanic.block (NoPanic.then (NoPanic.body)))) rfl kr_ kr_ kr_ rfl (Yd.fieldAddr (k := 6) kr_ rfl) ?_
              refine WA.two (i := 1) (j := 5) kr_ ?_ ?_
              · refine WO.h rfl Wt.none rfl (Hd.load1 kr_ rfl mem_ (by rfl) ⟨_, rfl, ?_⟩)
                refine WA.y (i := 2) (NoPanic.then (NoPanic.block (NoPanic.then (NoPanic.body)))) rfl kr_ kr_ kr_ rfl (Yd.to64 _ kr_ kr_ rfl rfl) ?_
                refine WA.y (i := 3) (NoPanic.then (NoPanic.block (NoPanic.then (NoPanic.body)))) rfl kr_ kr_ kr_ rfl (Yd.buildL (pl := [(0, 1), (1, 1), (2, 1)]) (zs := [.int .i64 0, .int .u64 0, .slice none 0 0]) (parts := [(0, .const (.int .i64 1)), (1, .tmp 54)]) (vs := [(0, _), (1, _)]) (cells := [_, _, .slice none 0 0]) kr_ kr_ rfl rfl) ?_
                refine WA.two (i := 5) (j := 7) kr_ ?_ ?_
                · refine WO.h rfl Wt.none rfl (Hd.load1 kr_ rfl mem_ (by rfl) ⟨_, rfl, ?_⟩)
                  refine WA.y (i := 6) (NoPanic.then (NoPanic.block (NoPanic.then (NoPanic.body)))) rfl kr_ kr_ kr_ rfl (Yd.eql rfl rfl) ?_
                  refine WA.one (i := 7) kr_ ?_
                  refine WO.s rfl Wt.none (Hd.storeAll (n := 3) kr_ rfl rfl (by rfl) one_ fr_ (by rfl) ⟨rfl, ?_⟩)
                  refine WA.y (i := 8) (NoPanic.then (NoPanic.block (NoPanic.then (NoPanic.body)))) rfl kr_ kr_ kr_ rfl (Yd.assign rfl) ?_
                  refine WA.done kr_ ?_
                  refine DN.then_normal ?_
                  refine WC.ret ?_
                  refine DN.block_ret ?_
                  refine DN.then_ret ?_
                  refine DN.retCT (s := 3) H Try.results69 kr_ rfl rfl mem_ (by rfl) sp_ ?_
                  exact ⟨part_ret (by simp [partV, *]) (by simp [zeroP, *]), rfl⟩
                · refine WO.s rfl Wt.none (Hd.storeAll (n := 3) kr_ rfl rfl (by rfl) one_ fr_ (by rfl) ⟨rfl, ?_⟩)
                  refine WA.one (i := 5) kr_ ?_
                  refine WO.h rfl Wt.none rfl (Hd.load1 kr_ rfl mem_ (by rfl) ⟨_, rfl, ?_⟩)
                  refine WA.y (i := 6) (NoPanic.then (NoPanic.block (NoPanic.then (NoPanic.body)))) rfl kr_ kr_ kr_ rfl (Yd.eql rfl rfl) ?_
                  refine WA.y (i := 8) (NoPanic.then (NoPanic.block (NoPanic.then (NoPanic.body)))) rfl kr_ kr_ kr_ rfl (Yd.assign rfl) ?_
                  refine WA.done kr_ ?_
                  refine DN.then_normal ?_
                  refine WC.ret ?_
                  refine DN.block_ret ?_
                  refine DN.then_ret ?_
                  refine DN.retCT (s := 3) H Try.results69 kr_ rfl rfl mem_ (by rfl) sp_ ?_
                  exact ⟨part_ret (by simp [partV, *]) (by simp [zeroP, *]), rfl⟩
              · refine WO.h rfl Wt.none rfl (Hd.load1 kr_ rfl mem_ (by rfl) ⟨_, rfl, ?_⟩)
                refine WA.y (i := 6) (NoPanic.then (NoPanic.block (NoPanic.then (NoPanic.body)))) rfl kr_ kr_ kr_ rfl (Yd.eql rfl rfl) ?_
                refine WA.one (i := 1) kr_ ?_
                refine WO.h rfl Wt.none rfl (Hd.load1 kr_ rfl mem_ (by rfl) ⟨_, rfl, ?_⟩)
                refine WA.y (i := 2) (NoPanic.then (NoPanic.block (NoPanic.then (NoPanic.body)))) rfl kr_ kr_ kr_ rfl (Yd.to64 _ kr_ kr_ rfl rfl) ?_
                refine WA.y (i := 3) (NoPanic.then (NoPanic.block (NoPanic.then (NoPanic.body)))) rfl kr_ kr_ kr_ rfl (Yd.buildL (pl := [(0, 1), (1, 1), (2, 1)]) (zs := [.int .i64 0, .int .u64 0, .slice none 0 0]) (parts := [(0, .const (.int .i64 1)), (1, .tmp 54)]) (vs := [(0, _), (1, _)]) (cells := [_, _, .slice none 0 0]) kr_ kr_ rfl rfl) ?_
                refine WA.one (i := 7) kr_ ?_
                refine WO.s rfl Wt.none (Hd.storeAll (n := 3) kr_ rfl rfl (by rfl) one_ fr_ (by rfl) ⟨rfl, ?_⟩)
                refine WA.y (i := 8) (NoPanic.then (NoPanic.block (NoPanic.then (NoPanic.body)))) rfl kr_ kr_ kr_ rfl (Yd.assign rfl) ?_
                refine WA.done kr_ ?_
                refine DN.then_normal ?_
                refine WC.ret ?_
                refine DN.block_ret ?_
                refine DN.then_ret ?_
                refine DN.retCT (s := 3) H Try.results69 kr_ rfl rfl mem_ (by rfl) sp_ ?_
                exact ⟨part_ret (by simp [partV, *]) (by simp [zeroP, *]), rfl⟩
            · refine WC.seq ?_
              refine WC.region ?_
              refine WL.y rfl (Yd.eql8 _ (85#8) rfl rfl rfl rfl) ?_
              refine WL.y rfl (Yd.assign rfl) ?_
              refine WL.nil ?_
              refine DN.then_normal ?_
              refine WC.ite rfl (fun h59 => ?_) (fun h59 => ?_)
              · refine WC.seq ?_
                refine WC.seq ?_
                refine WC.region ?_
                refine WL.y rfl (Yd.fieldAddr (k := 7) kr_ rfl) ?_
                refine WL.h rfl (Hd.load1 kr_ rfl mem_ (by rfl) ⟨_, rfl, ?_⟩)
                refine WL.nil ?_
                refine DN.then_normal ?_
                refine WC.cond rfl (fun h62 => ?_) (fun h62 => ?_)
                · refine WC.seq ?_
                  refine WC.region ?_
                  refine WL.y rfl (Yd.buildL (pl := [(0, 1), (1, 1), (2, 1)]) (zs := [.int .i64 0, .int .u64 0, .slice none 0 0]) (parts := [(0, .const (.int .i64 1)), (1, .const (.int .u64 1))]) (vs := [(0, _), (1, _)]) (cells := [_, _, .slice none 0 0]) kr_ kr_ rfl rfl) ?_
                  refine WL.s (Hd.storeAll (n := 3) kr_ rfl rfl (by rfl) one_ fr_ (by rfl) ⟨rfl, ?_⟩)
                  refine WL.y rfl (Yd.assign rfl) ?_
                  refine WL.nil ?_
                  refine DN.then_normal ?_
                  refine WC.ret ?_
                  refine DN.then_ret ?_
                  refine DN.block_ret ?_
                  refine DN.then_ret ?_
                  refine DN.retCT (s := 3) H Try.results69 kr_ rfl rfl mem_ (by rfl) sp_ ?_
                  exact ⟨part_ret (by simp [partV, *]) (by simp [zeroP, *]), rfl⟩
                · refine WC.skip ?_
                  refine DN.then_normal ?_
                  refine WC.seq ?_
                  refine WC.region ?_
                  refine WL.y rfl (Yd.buildL (pl := [(0, 1), (1, 1), (2, 1)]) (zs := [.int .i64 0, .int .u64 0, .slice none 0 0]) (parts := [(0, .const (.int .i64 1))]) (vs := [(0, _)]) (cells := [_, .int .u64 0, .slice none 0 0]) kr_ kr_ rfl rfl) ?_
                  refine WL.s (Hd.storeAll (n := 3) kr_ rfl rfl (by rfl) one_ fr_ (by rfl) ⟨rfl, ?_⟩)
                  refine WL.y rfl (Yd.assign rfl) ?_
                  refine WL.nil ?_
                  refine DN.then_normal ?_
                  refine WC.ret ?_
                  refine DN.block_ret ?_
                  refine DN.then_ret ?_
                  refine DN.retCT (s := 3) H Try.results69 kr_ rfl rfl mem_ (by rfl) sp_ ?_
                  exact ⟨part_ret (by simp [partV, *]) (by simp [zeroP, *]), rfl⟩
              · refine WC.seq ?_
                refine WC.region ?_
                refine WL.y rfl (Yd.eql8 _ (67#8) rfl rfl rfl rfl) ?_
                refine WL.y rfl (Yd.assign rfl) ?_
                refine WL.nil ?_
                refine DN.then_normal ?_
                refine WC.ite rfl (fun h65 => ?_) (fun h65 => ?_)
                · refine WC.seq ?_
                  refine WC.draw 9 kr_ rfl ?_
                  refine WA.y (i := 0) (NoPanic.then (NoPanic.block (NoPanic.then (NoPanic.body)))) rfl kr_ kr_ kr_ rfl (Yd.fieldAddr (k := 8) kr_ rfl) ?_
                  refine WA.y (i := 4) (NoPanic.then (NoPanic.block (NoPanic.then (NoPanic.body)))) rfl kr_ kr_ kr_ rfl (Yd.fieldAddr (k := 8) kr_ rfl) ?_
                  refine WA.two (i := 1) (j := 5) kr_ ?_ ?_
                  · refine WO.h rfl Wt.none rfl (Hd.load1 kr_ rfl mem_ (by rfl) ⟨_, rfl, ?_⟩)
                    refine WA.y (i := 2) (NoPanic.then (NoPanic.block (NoPanic.then (NoPanic.body)))) rfl kr_ kr_ kr_ rfl (Yd.to64 _ kr_ kr_ rfl rfl) ?_
                    refine WA.y (i := 3) (NoPanic.then (NoPanic.block (NoPanic.then (NoPanic.body)))) rfl kr_ kr_ kr_ rfl (Yd.buildL (pl := [(0, 1), (1, 1), (2, 1)]) (zs := [.int .i64 0, .int .u64 0, .slice none 0 0]) (parts := [(0, .const (.int .i64 1)), (1, .tmp 69)]) (vs := [(0, _), (1, _)]) (cells := [_, _, .slice none 0 0]) kr_ kr_ rfl rfl) ?_
                    refine WA.two (i := 5) (j := 7) kr_ ?_ ?_
                    · refine WO.h rfl Wt.none rfl (Hd.load1 kr_ rfl mem_ (by rfl) ⟨_, rfl, ?_⟩)
                      refine WA.y (i := 6) (NoPanic.then (NoPanic.block (NoPanic.then (NoPanic.body)))) rfl kr_ kr_ kr_ rfl (Yd.eql rfl rfl) ?_
                      refine WA.one (i := 7) kr_ ?_
                      refine WO.s rfl Wt.none (Hd.storeAll (n := 3) kr_ rfl rfl (by rfl) one_ fr_ (by rfl) ⟨rfl, ?_⟩)
                      refine WA.y (i := 8) (NoPanic.then (NoPanic.block (NoPanic.then (NoPanic.body)))) rfl kr_ kr_ kr_ rfl (Yd.assign rfl) ?_
                      refine WA.done kr_ ?_
                      refine DN.then_normal ?_
                      refine WC.ret ?_
                      refine DN.block_ret ?_
                      refine DN.then_ret ?_
                      refine DN.retCT (s := 3) H Try.results69 kr_ rfl rfl mem_ (by rfl) sp_ ?_
                      exact ⟨part_ret (by simp [partV, *]) (by simp [zeroP, *]), rfl⟩
                    · refine WO.s rfl Wt.none (Hd.storeAll (n := 3) kr_ rfl rfl (by rfl) one_ fr_ (by rfl) ⟨rfl, ?_⟩)
                      refine WA.one (i := 5) kr_ ?_
                      refine WO.h rfl Wt.none rfl (Hd.load1 kr_ rfl mem_ (by rfl) ⟨_, rfl, ?_⟩)
                      refine WA.y (i := 6) (NoPanic.then (NoPanic.block (NoPanic.then (NoPanic.body)))) rfl kr_ kr_ kr_ rfl (Yd.eql rfl rfl) ?_
                      refine WA.y (i := 8) (NoPanic.then (NoPanic.block (NoPanic.then (NoPanic.body)))) rfl kr_ kr_ kr_ rfl (Yd.assign rfl) ?_
                      refine WA.done kr_ ?_
                      refine DN.then_normal ?_
                      refine WC.ret ?_
                      refine DN.block_ret ?_
                      refine DN.then_ret ?_
                      refine DN.retCT (s := 3) H Try.results69 kr_ rfl rfl mem_ (by rfl) sp_ ?_
                      exact ⟨part_ret (by simp [partV, *]) (by simp [zeroP, *]), rfl⟩
                  · refine WO.h rfl Wt.none rfl (Hd.load1 kr_ rfl mem_ (by rfl) ⟨_, rfl, ?_⟩)
                    refine WA.y (i := 6) (NoPanic.then (NoPanic.block (NoPanic.then (NoPanic.body)))) rfl kr_ kr_ kr_ rfl (Yd.eql rfl rfl) ?_
                    refine WA.one (i := 1) kr_ ?_
                    refine WO.h rfl Wt.none rfl (Hd.load1 kr_ rfl mem_ (by rfl) ⟨_, rfl, ?_⟩)
                    refine WA.y (i := 2) (NoPanic.then (NoPanic.block (NoPanic.then (NoPanic.body)))) rfl kr_ kr_ kr_ rfl (Yd.to64 _ kr_ kr_ rfl rfl) ?_
                    refine WA.y (i := 3) (NoPanic.then (NoPanic.block (NoPanic.then (NoPanic.body)))) rfl kr_ kr_ kr_ rfl (Yd.buildL (pl := [(0, 1), (1, 1), (2, 1)]) (zs := [.int .i64 0, .int .u64 0, .slice none 0 0]) (parts := [(0, .const (.int .i64 1)), (1, .tmp 69)]) (vs := [(0, _), (1, _)]) (cells := [_, _, .slice none 0 0]) kr_ kr_ rfl rfl) ?_
                    refine WA.one (i := 7) kr_ ?_
                    refine WO.s rfl Wt.none (Hd.storeAll (n := 3) kr_ rfl rfl (by rfl) one_ fr_ (by rfl) ⟨rfl, ?_⟩)
                    refine WA.y (i := 8) (NoPanic.then (NoPanic.block (NoPanic.then (NoPanic.body)))) rfl kr_ kr_ kr_ rfl (Yd.assign rfl) ?_
                    refine WA.done kr_ ?_
                    refine DN.then_normal ?_
                    refine WC.ret ?_
                    refine DN.block_ret ?_
                    refine DN.then_ret ?_
                    refine DN.retCT (s := 3) H Try.results69 kr_ rfl rfl mem_ (by rfl) sp_ ?_
                    exact ⟨part_ret (by simp [partV, *]) (by simp [zeroP, *]), rfl⟩
                · refine WC.seq ?_
                  refine WC.region ?_
                  refine WL.y rfl (Yd.eql8 _ (75#8) rfl rfl rfl rfl) ?_
                  refine WL.y rfl (Yd.assign rfl) ?_
                  refine WL.nil ?_
                  refine DN.then_normal ?_
                  refine WC.ite rfl (fun h74 => ?_) (fun h74 => ?_)
                  · refine WC.seq ?_
                    refine WC.draw 9 kr_ rfl ?_
                    refine WA.y (i := 0) (NoPanic.then (NoPanic.block (NoPanic.then (NoPanic.body)))) rfl kr_ kr_ kr_ rfl (Yd.fieldAddr (k := 9) kr_ rfl) ?_
                    refine WA.y (i := 3) (NoPanic.then (NoPanic.block (NoPanic.then (NoPanic.body)))) rfl kr_ kr_ kr_ rfl (Yd.fieldAddr (k := 9) kr_ rfl) ?_
                    refine WA.two (i := 1) (j := 4) kr_ ?_ ?_
                    · refine WO.h rfl Wt.none rfl (Hd.load1 kr_ rfl mem_ (by rfl) ⟨_, rfl, ?_⟩)
                      refine WA.y (i := 2) (NoPanic.then (NoPanic.block (NoPanic.then (NoPanic.body)))) rfl kr_ kr_ kr_ rfl (Yd.buildL (pl := [(0, 1), (1, 1), (2, 1)]) (zs := [.int .i64 0, .int .u64 0, .slice none 0 0]) (parts := [(2, .tmp 77)]) (vs := [(2, _)]) (cells := [.int .i64 0, .int .u64 0, _]) kr_ kr_ rfl rfl) ?_
                      refine WA.two (i := 4) (j := 7) kr_ ?_ ?_
                      · refine WO.h rfl Wt.none rfl (Hd.load1 kr_ rfl mem_ (by rfl) ⟨_, rfl, ?_⟩)
                        refine WA.y (i := 5) (NoPanic.then (NoPanic.block (NoPanic.then (NoPanic.body)))) rfl kr_ kr_ kr_ rfl (Yd.len (e := 5) kr_ rfl) ?_
                        refine WA.y (i := 6) (NoPanic.then (NoPanic.block (NoPanic.then (NoPanic.body)))) rfl kr_ kr_ kr_ rfl (Yd.eql rfl rfl) ?_
                        refine WA.one (i := 7) kr_ ?_
                        refine WO.s rfl Wt.none (Hd.storeAll (n := 3) kr_ rfl rfl (by rfl) one_ fr_ (by rfl) ⟨rfl, ?_⟩)
                        refine WA.y (i := 8) (NoPanic.then (NoPanic.block (NoPanic.then (NoPanic.body)))) rfl kr_ kr_ kr_ rfl (Yd.assign rfl) ?_
                        refine WA.done kr_ ?_
                        refine DN.then_normal ?_
                        refine WC.ret ?_
                        refine DN.block_ret ?_
                        refine DN.then_ret ?_
                        refine DN.retCT (s := 3) H Try.results69 kr_ rfl rfl mem_ (by rfl) sp_ ?_
                        exact ⟨part_ret (by simp [partV, *]) (by simp [zeroP, *]), rfl⟩
                      · refine WO.s rfl Wt.none (Hd.storeAll (n := 3) kr_ rfl rfl (by rfl) one_ fr_ (by rfl) ⟨rfl, ?_⟩)
                        refine WA.one (i := 4) kr_ ?_
                        refine WO.h rfl Wt.none rfl (Hd.load1 kr_ rfl mem_ (by rfl) ⟨_, rfl, ?_⟩)
                        refine WA.y (i := 5) (NoPanic.then (NoPanic.block (NoPanic.then (NoPanic.body)))) rfl kr_ kr_ kr_ rfl (Yd.len (e := 5) kr_ rfl) ?_
                        refine WA.y (i := 6) (NoPanic.then (NoPanic.block (NoPanic.then (NoPanic.body)))) rfl kr_ kr_ kr_ rfl (Yd.eql rfl rfl) ?_
                        refine WA.y (i := 8) (NoPanic.then (NoPanic.block (NoPanic.then (NoPanic.body)))) rfl kr_ kr_ kr_ rfl (Yd.assign rfl) ?_
                        refine WA.done kr_ ?_
                        refine DN.then_normal ?_
                        refine WC.ret ?_
                        refine DN.block_ret ?_
                        refine DN.then_ret ?_
                        refine DN.retCT (s := 3) H Try.results69 kr_ rfl rfl mem_ (by rfl) sp_ ?_
                        exact ⟨part_ret (by simp [partV, *]) (by simp [zeroP, *]), rfl⟩
                    · refine WO.h rfl Wt.none rfl (Hd.load1 kr_ rfl mem_ (by rfl) ⟨_, rfl, ?_⟩)
                      refine WA.y (i := 5) (NoPanic.then (NoPanic.block (NoPanic.then (NoPanic.body)))) rfl kr_ kr_ kr_ rfl (Yd.len (e := 5) kr_ rfl) ?_
                      refine WA.y (i := 6) (NoPanic.then (NoPanic.block (NoPanic.then (NoPanic.body)))) rfl kr_ kr_ kr_ rfl (Yd.eql rfl rfl) ?_
                      refine WA.one (i := 1) kr_ ?_
                      refine WO.h rfl Wt.none rfl (Hd.load1 kr_ rfl mem_ (by rfl) ⟨_, rfl, ?_⟩)
                      refine WA.y (i := 2) (NoPanic.then (NoPanic.block (NoPanic.then (NoPanic.body)))) rfl kr_ kr_ kr_ rfl (Yd.buildL (pl := [(0, 1), (1, 1), (2, 1)]) (zs := [.int .i64 0, .int .u64 0, .slice none 0 0]) (parts := [(2, .tmp 77)]) (vs := [(2, _)]) (cells := [.int .i64 0, .int .u64 0, _]) kr_ kr_ rfl rfl) ?_
                      refine WA.one (i := 7) kr_ ?_
                      refine WO.s rfl Wt.none (Hd.storeAll (n := 3) kr_ rfl rfl (by rfl) one_ fr_ (by rfl) ⟨rfl, ?_⟩)
                      refine WA.y (i := 8) (NoPanic.then (NoPanic.block (NoPanic.then (NoPanic.body)))) rfl kr_ kr_ kr_ rfl (Yd.assign rfl) ?_
                      refine WA.done kr_ ?_
                      refine DN.then_normal ?_
                      refine WC.ret ?_
                      refine DN.block_ret ?_
                      refine DN.then_ret ?_
                      refine DN.retCT (s := 3) H Try.results69 kr_ rfl rfl mem_ (by rfl) sp_ ?_
                      exact ⟨part_ret (by simp [partV, *]) (by simp [zeroP, *]), rfl⟩
                  · refine WC.skip ?_
                    refine DN.block_normal ?_
                    refine DN.then_normal ?_
                    refine WC.seq ?_
                    refine WC.draw 9 kr_ rfl ?_
                    refine WA.y (i := 0) (NoPanic.then (NoPanic.body)) rfl kr_ kr_ kr_ rfl (Yd.fieldAddr (k := 10) kr_ rfl) ?_
                    refine WA.y (i := 3) (NoPanic.then (NoPanic.body)) rfl kr_ kr_ kr_ rfl (Yd.fieldAddr (k := 10) kr_ rfl) ?_
                    refine WA.two (i := 1) (j := 4) kr_ ?_ ?_
                    · refine WO.h rfl Wt.none rfl (Hd.load1 kr_ rfl mem_ (by rfl) ⟨_, rfl, ?_⟩)
                      refine WA.y (i := 2) (NoPanic.then (NoPanic.body)) rfl kr_ kr_ kr_ rfl (Yd.buildL (pl := [(0, 1), (1, 1), (2, 1)]) (zs := [.int .i64 0, .int .u64 0, .slice none 0 0]) (parts := [(2, .tmp 84)]) (vs := [(2, _)]) (cells := [.int .i64 0, .int .u64 0, _]) kr_ kr_ rfl rfl) ?_
                      refine WA.two (i := 4) (j := 7) kr_ ?_ ?_
                      · refine WO.h rfl Wt.none rfl (Hd.load1 kr_ rfl mem_ (by rfl) ⟨_, rfl, ?_⟩)
                        refine WA.y (i := 5) (NoPanic.then (NoPanic.body)) rfl kr_ kr_ kr_ rfl (Yd.len (e := 5) kr_ rfl) ?_
                        refine WA.y (i := 6) (NoPanic.then (NoPanic.body)) rfl kr_ kr_ kr_ rfl (Yd.eql rfl rfl) ?_
                        refine WA.one (i := 7) kr_ ?_
                        refine WO.s rfl Wt.none (Hd.storeAll (n := 3) kr_ rfl rfl (by rfl) one_ fr_ (by rfl) ⟨rfl, ?_⟩)
                        refine WA.y (i := 8) (NoPanic.then (NoPanic.body)) rfl kr_ kr_ kr_ rfl (Yd.assign rfl) ?_
                        refine WA.done kr_ ?_
                        refine DN.then_normal ?_
                        refine WC.ret ?_
                        refine DN.retCT (s := 3) H Try.results69 kr_ rfl rfl mem_ (by rfl) sp_ ?_
                        exact ⟨part_ret (by simp [partV, *]) (by simp [zeroP, *]), rfl⟩
                      · refine WO.s rfl Wt.none (Hd.storeAll (n := 3) kr_ rfl rfl (by rfl) one_ fr_ (by rfl) ⟨rfl, ?_⟩)
                        refine WA.one (i := 4) kr_ ?_
                        refine WO.h rfl Wt.none rfl (Hd.load1 kr_ rfl mem_ (by rfl) ⟨_, rfl, ?_⟩)
                        refine WA.y (i := 5) (NoPanic.then (NoPanic.body)) rfl kr_ kr_ kr_ rfl (Yd.len (e := 5) kr_ rfl) ?_
                        refine WA.y (i := 6) (NoPanic.then (NoPanic.body)) rfl kr_ kr_ kr_ rfl (Yd.eql rfl rfl) ?_
                        refine WA.y (i := 8) (NoPanic.then (NoPanic.body)) rfl kr_ kr_ kr_ rfl (Yd.assign rfl) ?_
                        refine WA.done kr_ ?_
                        refine DN.then_normal ?_
                        refine WC.ret ?_
                        refine DN.retCT (s := 3) H Try.results69 kr_ rfl rfl mem_ (by rfl) sp_ ?_
                        exact ⟨part_ret (by simp [partV, *]) (by simp [zeroP, *]), rfl⟩
                    · refine WO.h rfl Wt.none rfl (Hd.load1 kr_ rfl mem_ (by rfl) ⟨_, rfl, ?_⟩)
                      refine WA.y (i := 5) (NoPanic.then (NoPanic.body)) rfl kr_ kr_ kr_ rfl (Yd.len (e := 5) kr_ rfl) ?_
                      refine WA.y (i := 6) (NoPanic.then (NoPanic.body)) rfl kr_ kr_ kr_ rfl (Yd.eql rfl rfl) ?_
                      refine WA.one (i := 1) kr_ ?_
                      refine WO.h rfl Wt.none rfl (Hd.load1 kr_ rfl mem_ (by rfl) ⟨_, rfl, ?_⟩)
                      refine WA.y (i := 2) (NoPanic.then (NoPanic.body)) rfl kr_ kr_ kr_ rfl (Yd.buildL (pl := [(0, 1), (1, 1), (2, 1)]) (zs := [.int .i64 0, .int .u64 0, .slice none 0 0]) (parts := [(2, .tmp 84)]) (vs := [(2, _)]) (cells := [.int .i64 0, .int .u64 0, _]) kr_ kr_ rfl rfl) ?_
                      refine WA.one (i := 7) kr_ ?_
                      refine WO.s rfl Wt.none (Hd.storeAll (n := 3) kr_ rfl rfl (by rfl) one_ fr_ (by rfl) ⟨rfl, ?_⟩)
                      refine WA.y (i := 8) (NoPanic.then (NoPanic.body)) rfl kr_ kr_ kr_ rfl (Yd.assign rfl) ?_
                      refine WA.done kr_ ?_
                      refine DN.then_normal ?_
                      refine WC.ret ?_
                      refine DN.retCT (s := 3) H Try.results69 kr_ rfl rfl mem_ (by rfl) sp_ ?_
                      exact ⟨part_ret (by simp [partV, *]) (by simp [zeroP, *]), rfl⟩

/-- drayage/drayageref05.Check -/
theorem rcheck_reads (n : Nt) (vk vd : Value) (hk : IsSl vk n.key.length) (hd : IsSl vd n.data.length) (H : List Ck) : Reads Try.prog 47 [.agg (ntc n vk vd).toArray] H (.int .i64 (if noteBad n then 50 else 0)) := by
  refine Tells.enter Try.func47 rfl Try.ntmps47 rfl ?_
  intro w0 R
  obtain ⟨ko, kc, rfl⟩ := hk
  obtain ⟨do_, dc, rfl⟩ := hd
  have hal : allP.length = 10 := rfl
  refine WC.seq ?_
  refine WC.region ?_
  refine WL.h rfl (Hd.boxA rfl fun b1 => ⟨_, rfl, ?_⟩)
  refine WL.y rfl (Yd.assign rfl) ?_
  refine WL.nil ?_
  refine DN.then_normal ?_
  refine WC.seq ?_
  refine WC.region ?_
  refine WL.y rfl (Yd.fieldAddr (k := 0) kr_ rfl) ?_
  refine WL.h rfl (Hd.load1 kr_ rfl mem_ (by rfl) ⟨_, rfl, ?_⟩)
  refine WL.r rfl (Ent.func Try.call68 rfl) (rnames_reads n.kind _) ?_
  refine WL.y rfl (Yd.assign rfl) ?_
  refine WL.nil ?_
  refine DN.then_normal ?_
  refine WC.seq ?_
  refine WC.cutK (fun z : Bool => z = (decide (nm n.kind = []) || farB n)) (fun z : Bool => [(45, .bool z)]) (fun z : Bool => row b1 (ntc n (.slice ko n.key.length kc) (.slice do_ n.data.length dc)) 29 :: H) ?_ ?_
  · refine WC.region ?_
    refine WL.y rfl (Yd.move rfl) ?_
    refine WL.y rfl (Yd.eqlS rfl rfl) ?_
    refine WL.y rfl (Yd.move rfl) ?_
    refine WL.partP (t := 14) rfl (fun hg14 => ?_) (fun hg14 => ?_)
    · refine WL.gn (dj := 14) rfl rfl rfl rfl ?_
      refine WL.gn (dj := 14) rfl rfl rfl rfl ?_
      refine WL.gn (dj := 14) rfl rfl rfl rfl ?_
      refine WL.y rfl (Yd.pickT rfl rfl) ?_
      refine WL.y rfl (Yd.move rfl) ?_
      refine WL.gn (dj := 19) rfl rfl rfl rfl ?_
      refine WL.gn (dj := 19) rfl rfl rfl rfl ?_
      refine WL.gn (dj := 19) rfl rfl rfl rfl ?_
      refine WL.y rfl (Yd.pickT rfl rfl) ?_
      refine WL.y rfl (Yd.move rfl) ?_
      refine WL.gn (dj := 24) rfl rfl rfl rfl ?_
      refine WL.gn (dj := 24) rfl rfl rfl rfl ?_
      refine WL.gn (dj := 24) rfl rfl rfl rfl ?_
      refine WL.y rfl (Yd.pickT rfl rfl) ?_
      refine WL.y rfl (Yd.move rfl) ?_
      refine WL.gn (dj := 29) rfl rfl rfl rfl ?_
      refine WL.gn (dj := 29) rfl rfl rfl rfl ?_
      refine WL.gn (dj := 29) rfl rfl rfl rfl ?_
      refine WL.y rfl (Yd.pickT rfl rfl) ?_
      refine WL.y rfl (Yd.move rfl) ?_
      refine WL.gn (dj := 34) rfl rfl rfl rfl ?_
      refine WL.gn (dj := 34) rfl rfl rfl rfl ?_
      refine WL.gn (dj := 34) rfl rfl rfl rfl ?_
      refine WL.gn (dj := 34) rfl rfl rfl rfl ?_
      refine WL.y rfl (Yd.pickT rfl rfl) ?_
      refine WL.y rfl (Yd.move rfl) ?_
      refine WL.gn (dj := 40) rfl rfl rfl rfl ?_
      refine WL.gn (dj := 40) rfl rfl rfl rfl ?_
      refine WL.gn (dj := 40) rfl rfl rfl rfl ?_
      refine WL.gn (dj := 40) rfl rfl rfl rfl ?_
      refine WL.y rfl (Yd.pickT rfl rfl) ?_
      refine WL.nil ?_
      exact DN.reachK (_) (by rw [Bool.eq_iff_iff]; simp only [farB, Bool.or_eq_true, decide_eq_true_eq, true_iff, ← nmS_empty]; first | omega | exact .inl hg14 | (simp only [hg14, false_or]; omega)) (Sx.put rfl (sx_)) (Sp.all sp_)
    · refine WL.gy (dj := 14) rfl rfl rfl (Yd.fieldAddr (k := 6) kr_ rfl) ?_
      refine WL.gh (dj := 14) rfl rfl rfl (Hd.load1 kr_ rfl mem_ (by rfl) ⟨_, rfl, ?_⟩)
      refine WL.gy (dj := 14) rfl rfl rfl (Yd.lss rfl rfl) ?_
      refine WL.y rfl (Yd.pickF rfl rfl) ?_
      refine WL.y rfl (Yd.move rfl) ?_
      refine WL.partP (t := 19) rfl (fun hg19 => ?_) (fun hg19 => ?_)
      · refine WL.gn (dj := 19) rfl rfl rfl rfl ?_
        refine WL.gn (dj := 19) rfl rfl rfl rfl ?_
        refine WL.gn (dj := 19) rfl rfl rfl rfl ?_
        refine WL.y rfl (Yd.pickT rfl rfl) ?_
        refine WL.y rfl (Yd.move rfl) ?_
        refine WL.gn (dj := 24) rfl rfl rfl rfl ?_
        refine WL.gn (dj := 24) rfl rfl rfl rfl ?_
        refine WL.gn (dj := 24) rfl rfl rfl rfl ?_
        refine WL.y rfl (Yd.pickT rfl rfl) ?_
        refine WL.y rfl (Yd.move rfl) ?_
        refine WL.gn (dj := 29) rfl rfl rfl rfl ?_
        refine WL.gn (dj := 29) rfl rfl rfl rfl ?_
        refine WL.gn (dj := 29) rfl rfl rfl rfl ?_
        refine WL.y rfl (Yd.pickT rfl rfl) ?_
        refine WL.y rfl (Yd.move rfl) ?_
        refine WL.gn (dj := 34) rfl rfl rfl rfl ?_
        refine WL.gn (dj := 34) rfl rfl rfl rfl ?_
        refine WL.gn (dj := 34) rfl rfl rfl rfl ?_
        refine WL.gn (dj := 34) rfl rfl rfl rfl ?_
        refine WL.y rfl (Yd.pickT rfl rfl) ?_
        refine WL.y rfl (Yd.move rfl) ?_
        refine WL.gn (dj := 40) rfl rfl rfl rfl ?_
        refine WL.gn (dj := 40) rfl rfl rfl rfl ?_
        refine WL.gn (dj := 40) rfl rfl rfl rfl ?_
        refine WL.gn (dj := 40) rfl rfl rfl rfl ?_
        refine WL.y rfl (Yd.pickT rfl rfl) ?_
        refine WL.nil ?_
        exact DN.reachK (_) (by rw [Bool.eq_iff_iff]; simp only [farB, Bool.or_eq_true, decide_eq_true_eq, true_iff, ← nmS_empty]; first | omega | exact .inl hg14 | (simp only [hg14, false_or]; omega)) (Sx.put rfl (sx_)) (Sp.all sp_)
      · refine WL.gy (dj := 19) rfl rfl rfl (Yd.fieldAddr (k := 6) kr_ rfl) ?_
        refine WL.gh (dj := 19) rfl rfl rfl (Hd.load1 kr_ rfl mem_ (by rfl) ⟨_, rfl, ?_⟩)
        refine WL.gy (dj := 19) rfl rfl rfl (Yd.gtr rfl rfl) ?_
        refine WL.y rfl (Yd.pickF rfl rfl) ?_
        refine WL.y rfl (Yd.move rfl) ?_
        refine WL.partP (t := 24) rfl (fun hg24 => ?_) (fun hg24 => ?_)
        · refine WL.gn (dj := 24) rfl rfl rfl rfl ?_
          refine WL.gn (dj := 24) rfl rfl rfl rfl ?_
          refine WL.gn (dj := 24) rfl rfl rfl rfl ?_
          refine WL.y rfl (Yd.pickT rfl rfl) ?_
          refine WL.y rfl (Yd.move rfl) ?_
          refine WL.gn (dj := 29) rfl rfl rfl rfl ?_
          refine WL.gn (dj := 29) rfl rfl rfl rfl ?_
          refine WL.gn (dj := 29) rfl rfl rfl rfl ?_
          refine WL.y rfl (Yd.pickT rfl rfl) ?_
          refine WL.y rfl (Yd.move rfl) ?_
          refine WL.gn (dj := 34) rfl rfl rfl rfl ?_
          refine WL.gn (dj := 34) rfl rfl rfl rfl ?_
          refine WL.gn (dj := 34) rfl rfl rfl rfl ?_
          refine WL.gn (dj := 34) rfl rfl rfl rfl ?_
          refine WL.y rfl (Yd.pickT rfl rfl) ?_
          refine WL.y rfl (Yd.move rfl) ?_
          refine WL.gn (dj := 40) rfl rfl rfl rfl ?_
          refine WL.gn (dj := 40) rfl rfl rfl rfl ?_
          refine WL.gn (dj := 40) rfl rfl rfl rfl ?_
          refine WL.gn (dj := 40) rfl rfl rfl rfl ?_
          refine WL.y rfl (Yd.pickT rfl rfl) ?_
          refine WL.nil ?_
          exact DN.reachK (_) (by rw [Bool.eq_iff_iff]; simp only [farB, Bool.or_eq_true, decide_eq_true_eq, true_iff, ← nmS_empty]; first | omega | exact .inl hg14 | (simp only [hg14, false_or]; omega)) (Sx.put rfl (sx_)) (Sp.all sp_)
        · refine WL.gy (dj := 24) rfl rfl rfl (Yd.fieldAddr (k := 8) kr_ rfl) ?_
          refine WL.gh (dj := 24) rfl rfl rfl (Hd.load1 kr_ rfl mem_ (by rfl) ⟨_, rfl, ?_⟩)
          refine WL.gy (dj := 24) rfl rfl rfl (Yd.lss rfl rfl) ?_
          refine WL.y rfl (Yd.pickF rfl rfl) ?_
          refine WL.y rfl (Yd.move rfl) ?_
          refine WL.partP (t := 29) rfl (fun hg29 => ?_) (fun hg29 => ?_)
          · refine WL.gn (dj := 29) rfl rfl rfl rfl ?_
            refine WL.gn (dj := 29) rfl rfl rfl rfl ?_
            refine WL.gn (dj := 29) rfl rfl rfl rfl ?_
            refine WL.y rfl (Yd.pickT rfl rfl) ?_
            refine WL.y rfl (Yd.move rfl) ?_
            refine WL.gn (dj := 34) rfl rfl rfl rfl ?_
            refine WL.gn (dj := 34) rfl rfl rfl rfl ?_
            refine WL.gn (dj := 34) rfl rfl rfl rfl ?_
            refine WL.gn (dj := 34) rfl rfl rfl rfl ?_
            refine WL.y rfl (Yd.pickT rfl rfl) ?_
            refine WL.y rfl (Yd.move rfl) ?_
            refine WL.gn (dj := 40) rfl rfl rfl rfl ?_
            refine WL.gn (dj := 40) rfl rfl rfl rfl ?_
            refine WL.gn (dj := 40) rfl rfl rfl rfl ?_
            refine WL.gn (dj := 40) rfl rfl rfl rfl ?_
            refine WL.y rfl (Yd.pickT rfl rfl) ?_
            refine WL.nil ?_
            exact DN.reachK (_) (by rw [Bool.eq_iff_iff]; simp only [farB, Bool.or_eq_true, decide_eq_true_eq, true_iff, ← nmS_empty]; first | omega | exact .inl hg14 | (simp only [hg14, false_or]; omega)) (Sx.put rfl (sx_)) (Sp.all sp_)
          · refine WL.gy (dj := 29) rfl rfl rfl (Yd.fieldAddr (k := 8) kr_ rfl) ?_
            refine WL.gh (dj := 29) rfl rfl rfl (Hd.load1 kr_ rfl mem_ (by rfl) ⟨_, rfl, ?_⟩)
            refine WL.gy (dj := 29) rfl rfl rfl (Yd.gtr rfl rfl) ?_
            refine WL.y rfl (Yd.pickF rfl rfl) ?_
            refine WL.y rfl (Yd.move rfl) ?_
            refine WL.partP (t := 34) rfl (fun hg34 => ?_) (fun hg34 => ?_)
            · refine WL.gn (dj := 34) rfl rfl rfl rfl ?_
              refine WL.gn (dj := 34) rfl rfl rfl rfl ?_
              refine WL.gn (dj := 34) rfl rfl rfl rfl ?_
              refine WL.gn (dj := 34) rfl rfl rfl rfl ?_
              refine WL.y rfl (Yd.pickT rfl rfl) ?_
              refine WL.y rfl (Yd.move rfl) ?_
              refine WL.gn (dj := 40) rfl rfl rfl rfl ?_
              refine WL.gn (dj := 40) rfl rfl rfl rfl ?_
              refine WL.gn (dj := 40) rfl rfl rfl rfl ?_
              refine WL.gn (dj := 40) rfl rfl rfl rfl ?_
              refine WL.y rfl (Yd.pickT rfl rfl) ?_
              refine WL.nil ?_
              exact DN.reachK (_) (by rw [Bool.eq_iff_iff]; simp only [farB, Bool.or_eq_true, decide_eq_true_eq, true_iff, ← nmS_empty]; first | omega | exact .inl hg14 | (simp only [hg14, false_or]; omega)) (Sx.put rfl (sx_)) (Sp.all sp_)
            · refine WL.gy (dj := 34) rfl rfl rfl (Yd.fieldAddr (k := 9) kr_ rfl) ?_
              refine WL.gh (dj := 34) rfl rfl rfl (Hd.load1 kr_ rfl mem_ (by rfl) ⟨_, rfl, ?_⟩)
              refine WL.gy (dj := 34) rfl rfl rfl (Yd.len (e := 5) kr_ rfl) ?_
              refine WL.gy (dj := 34) rfl rfl rfl (Yd.gtr rfl rfl) ?_
              refine WL.y rfl (Yd.pickF rfl rfl) ?_
              refine WL.y rfl (Yd.move rfl) ?_
              refine WL.partP (t := 40) rfl (fun hg40 => ?_) (fun hg40 => ?_)
              · refine WL.gn (dj := 40) rfl rfl rfl rfl ?_
                refine WL.gn (dj := 40) rfl rfl rfl rfl ?_
                refine WL.gn (dj := 40) rfl rfl rfl rfl ?_
                refine WL.gn (dj := 40) rfl rfl rfl rfl ?_
                refine WL.y rfl (Yd.pickT rfl rfl) ?_
                refine WL.nil ?_
                exact DN.reachK (_) (by rw [Bool.eq_iff_iff]; simp only [farB, Bool.or_eq_true, decide_eq_true_eq, true_iff, ← nmS_empty]; first | omega | exact .inl hg14 | (simp only [hg14, false_or]; omega)) (Sx.put rfl (sx_)) (Sp.all sp_)
              · refine WL.gy (dj := 40) rfl rfl rfl (Yd.fieldAddr (k := 10) kr_ rfl) ?_
                refine WL.gh (dj := 40) rfl rfl rfl (Hd.load1 kr_ rfl mem_ (by rfl) ⟨_, rfl, ?_⟩)
                refine WL.gy (dj := 40) rfl rfl rfl (Yd.len (e := 5) kr_ rfl) ?_
                refine WL.gy (dj := 40) rfl rfl rfl (Yd.gtr rfl rfl) ?_
                refine WL.y rfl (Yd.pickF rfl rfl) ?_
                refine WL.nil ?_
                exact DN.reachK (_) (by rw [Bool.eq_iff_iff]; simp only [farB, Bool.or_eq_true, decide_eq_true_eq, true_iff, ← nmS_empty]; first | omega | exact .inl hg14 | (simp only [hg14, false_or]; omega)) (Sx.put rfl (sx_)) (Sp.all sp_)
  · intro z hz
    refine WC.cond rfl (fun h45 => ?_) (fun h45 => ?_)
    · refine WC.seq ?_
      refine WC.region ?_
      refine WL.y rfl (Yd.assign rfl) ?_
      refine WL.nil ?_
      refine DN.then_normal ?_
      refine WC.ret ?_
      refine DN.then_ret ?_
      refine DN.fit (C := H) sp_ ?_
      refine DN.ret1 Try.results47 rfl ?_
      first
      | (rw [← refBad_eq, if_pos (ref_bad1 (hz.symm.trans h45))]; exact ⟨rfl, rfl⟩)
      | (rw [← refBad_eq, if_pos (ref_bad2 (List.getElem_mem hlt) (by simpa using hg68) (by simpa using h71))]; exact ⟨rfl, rfl⟩)
      | (rw [← refBad_eq, if_pos (ref_bad3 (hz9.symm.trans h90))]; exact ⟨rfl, rfl⟩)
      | (rw [← refBad_eq, if_neg (ref_ok (hz.symm.trans h45) hall (hz9.symm.trans h90))]; exact ⟨rfl, rfl⟩)
    · refine WC.skip ?_
      refine DN.then_normal ?_
      refine WC.seq ?_
      refine WC.region ?_
      refine WL.y rfl (Yd.assign rfl) ?_
      refine WL.nil ?_
      refine DN.then_normal ?_
      refine WC.seq ?_
      refine WC.seq ?_
      refine WC.region ?_
      refine WL.y rfl (Yd.assign rfl) ?_
      refine WL.nil ?_
      refine DN.then_normal ?_
      refine WC.block ?_
      refine WC.loopS (fun z : Nat => z ≤ allP.length ∧ ∀ b ∈ allP.take z, zeroP n b = true ∨ b ∈ nb n.kind) (fun z : Nat => [(5, .int .i64 (z : Int))]) (fun z : Nat => row b1 (ntc n (.slice ko n.key.length kc) (.slice do_ n.data.length dc)) 29 :: H) (fun z : Nat => allP.length - z) (0) (show 0 ≤ allP.length ∧ ∀ b ∈ allP.take 0, zeroP n b = true ∨ b ∈ nb n.kind from ⟨Nat.zero_le _, by simp⟩) (Sx.put rfl (sx_)) sp_ ?_
      rintro i hI
      replace hI : i ≤ allP.length ∧ ∀ b ∈ allP.take i, zeroP n b = true ∨ b ∈ nb n.kind := hI
      obtain ⟨hi, hall⟩ := hI
      change WC _ _ _ _ _ _ ([(5, .int .i64 (i : Int))] ++ _) (row b1 (ntc n (.slice ko n.key.length kc) (.slice do_ n.data.length dc)) 29 :: H)
      refine WC.seq ?_
      refine WC.seq ?_
      refine WC.region ?_
      refine WL.y rfl (Yd.move rfl) ?_
      refine WL.y rfl (Yd.move rfl) ?_
      refine WL.y rfl (Yd.lenS Try.underlying9 rfl) ?_
      refine WL.y rfl (Yd.lss rfl rfl) ?_
      refine WL.nil ?_
      refine DN.then_normal ?_
      refine WC.ite rfl (fun h49 => ?_) (fun h49 => ?_)
      · replace h49 : (i : Int) < 10 := h49
        have hlt : i < allP.length := by rw [hal]; omega
        refine WC.skip ?_
        refine DN.then_normal ?_
        refine WC.seq ?_
        refine WC.block ?_
        refine WC.seq ?_
        refine WC.draw 11 kr_ rfl ?_
        refine WA.y (i := 1) (NoPanic.then (NoPanic.block (NoPanic.then (NoPanic.then (NoPanic.block (NoPanic.then (NoPanic.body))))))) rfl kr_ kr_ kr_ rfl (Yd.move rfl) ?_
        refine WA.y (i := 2) (NoPanic.then (NoPanic.block (NoPanic.then (NoPanic.then (NoPanic.block (NoPanic.then (NoPanic.body))))))) rfl kr_ kr_ kr_ rfl (Yd.move rfl) ?_
        refine WA.y (i := 3) (NoPanic.then (NoPanic.block (NoPanic.then (NoPanic.then (NoPanic.block (NoPanic.then (NoPanic.body))))))) rfl kr_ kr_ kr_ rfl (Yd.indexS (i := i) (b := allP[i]) Try.underlying9 rfl rfl rfl (str_get hlt)) ?_
        refine WA.two (i := 0) (j := 8) kr_ ?_ ?_
        · refine WO.h rfl Wt.none rfl (Hd.loadAll (n := 11) kr_ rfl mem_ (by rfl) ⟨_, rfl, ?_⟩)
          refine WA.two (i := 4) (j := 8) kr_ ?_ ?_
          · refine WO.rf rfl Wt.none rfl (Ent.func Try.call69 rfl) (rpart_reads n (.slice ko n.key.length kc) (.slice do_ n.data.length dc) ⟨_, _, rfl⟩ ⟨_, _, rfl⟩ allP[i] _) sp_ ?_
            refine WA.y (i := 5) (NoPanic.then (NoPanic.block (NoPanic.then (NoPanic.then (NoPanic.block (NoPanic.then (NoPanic.body))))))) rfl kr_ kr_ kr_ rfl (Yd.move rfl) ?_
            refine WA.y (i := 6) (NoPanic.then (NoPanic.block (NoPanic.then (NoPanic.then (NoPanic.block (NoPanic.then (NoPanic.body))))))) rfl kr_ kr_ kr_ rfl (Yd.extract rfl rfl) ?_
            refine WA.y (i := 7) (NoPanic.then (NoPanic.block (NoPanic.then (NoPanic.then (NoPanic.block (NoPanic.then (NoPanic.body))))))) rfl kr_ kr_ kr_ rfl (Yd.extract rfl rfl) ?_
            refine WA.one (i := 8) kr_ ?_
            refine WO.h rfl Wt.none rfl (Hd.alloc (zs := [.int .i64 0, .int .u64 0, .slice none 0 0]) kr_ fun b6 => ⟨_, rfl, ?_⟩)
            refine WA.one (i := 9) kr_ ?_
            refine WO.s rfl Wt.none (Hd.storeAll (n := 3) kr_ rfl rfl (partV_len _ _ _ _) (partV_one _ _ _ _ rfl rfl) fr_ (by rfl) ⟨rfl, ?_⟩)
            refine WA.y (i := 10) (NoPanic.then (NoPanic.block (NoPanic.then (NoPanic.then (NoPanic.block (NoPanic.then (NoPanic.body))))))) rfl kr_ kr_ kr_ rfl (Yd.assign rfl) ?_
            refine WA.done kr_ ?_
            refine DN.then_normal ?_
            refine WC.seq ?_
            refine WC.draw 7 kr_ rfl ?_
            refine WA.quiet 7 0 rfl rfl kr_ kr_ kr_ rfl ?_
            refine WQ.y rfl (Yd.fieldAddr (k := 0) kr_ rfl) ?_
            refine WQ.rd rfl Wt.none (Rd.load1 kr_ rfl mem_ (by rfl)) ?_
            refine WQ.y rfl (Yd.move rfl) ?_
            refine WQ.y rfl (Yd.move rfl) ?_
            refine WQ.y rfl (Yd.indexS (i := i) (b := allP[i]) Try.underlying9 rfl rfl rfl (str_get hlt)) ?_
            refine WQ.rf rfl Wt.none (Ent.func Try.call70 rfl) (rhas_reads n.kind allP[i] _) sp_ ?_
            refine WQ.y rfl (Yd.assign rfl) ?_
            refine WQ.nil ?_
            refine WA.done kr_ ?_
            refine DN.then_normal ?_
            refine WC.seq ?_
            refine WC.region ?_
            refine WL.y rfl (Yd.move rfl) ?_
            refine WL.y rfl (Yd.notB rfl) ?_
            refine WL.y rfl (Yd.move rfl) ?_
            refine WL.part (t := 68) rfl (fun hg68 => ?_) (fun hg68 => ?_)
            · refine WL.gy (dj := 68) rfl rfl rfl (Yd.move rfl) ?_
              refine WL.gy (dj := 68) rfl rfl rfl (Yd.notB rfl) ?_
              refine WL.y rfl (Yd.pickT rfl rfl) ?_
              refine WL.nil ?_
              refine DN.then_normal ?_
              refine WC.cond rfl (fun h71 => ?_) (fun h71 => ?_)
              · refine WC.seq ?_
                refine WC.region ?_
                refine WL.y rfl (Yd.assign rfl) ?_
                refine WL.nil ?_
                refine DN.then_normal ?_
                refine WC.ret ?_
                refine DN.block_ret ?_
                refine DN.then_ret ?_
                refine DN.then_ret ?_
                refine DN.block_ret ?_
                refine DN.then_ret ?_
                refine DN.fit (C := H) sp_ ?_
                refine DN.ret1 Try.results47 rfl ?_
                first
                | (rw [← refBad_eq, if_pos (ref_bad1 (hz.symm.trans h45))]; exact ⟨rfl, rfl⟩)
                | (rw [← refBad_eq, if_pos (ref_bad2 (List.getElem_mem hlt) (by simpa using hg68) (by simpa using h71))]; exact ⟨rfl, rfl⟩)
                | (rw [← refBad_eq, if_pos (ref_bad3 (hz9.symm.trans h90))]; exact ⟨rfl, rfl⟩)
                | (rw [← refBad_eq, if_neg (ref_ok (hz.symm.trans h45) hall (hz9.symm.trans h90))]; exact ⟨rfl, rfl⟩)
              · refine WC.skip ?_
                refine DN.block_normal ?_
                refine DN.then_normal ?_
                refine WC.region ?_
                refine WL.y rfl (Yd.move rfl) ?_
                refine WL.y rfl (Yd.add rfl rfl (by omega) (by omega)) ?_
                refine WL.y rfl (Yd.assign rfl) ?_
                refine WL.nil ?_
                exact DN.againS (i + 1) (show (i + 1) ≤ allP.length ∧ ∀ b ∈ allP.take (i + 1), zeroP n b = true ∨ b ∈ nb n.kind from ⟨by omega, rtake hlt hall (by first | exact .inl (by simpa using hg68) | exact .inr (by simpa using h71))⟩) (show allP.length - (i + 1) < allP.length - i by omega) (Sx.put rfl (sx_)) sp_
            · refine WL.gn (dj := 68) rfl rfl rfl rfl ?_
              refine WL.gn (dj := 68) rfl rfl rfl rfl ?_
              refine WL.y rfl (Yd.pickF rfl rfl) ?_
              refine WL.nil ?_
              refine DN.then_normal ?_
              refine WC.no rfl ?_
              refine WC.skip ?_
              refine DN.block_normal ?_
              refine DN.then_normal ?_
              refine WC.region ?_
              refine WL.y rfl (Yd.move rfl) ?_
              refine WL.y rfl (Yd.add rfl rfl (by omega) (by omega)) ?_
              refine WL.y rfl (Yd.assign rfl) ?_
              refine WL.nil ?_
              exact DN.againS (i + 1) (show (i + 1) ≤ allP.length ∧ ∀ b ∈ allP.take (i + 1), zeroP n b = true ∨ b ∈ nb n.kind from ⟨by omega, rtake hlt hall (by first | exact .inl (by simpa using hg68) | exact .inr (by simpa using h71))⟩) (show allP.length - (i + 1) < allP.length - i by omega) (Sx.put rfl (sx_)) sp_
          · refine WO.h rfl Wt.none rfl (Hd.alloc (zs := [.int .i64 0, .int .u64 0, .slice none 0 0]) kr_ fun b6 => ⟨_, rfl, ?_⟩)
            refine WA.one (i := 4) kr_ ?_
            refine WO.rf rfl Wt.none rfl (Ent.func Try.call69 rfl) (rpart_reads n (.slice ko n.key.length kc) (.slice do_ n.data.length dc) ⟨_, _, rfl⟩ ⟨_, _, rfl⟩ allP[i] _) sp_ ?_
            refine WA.y (i := 5) (NoPanic.then (NoPanic.block (NoPanic.then (NoPanic.then (NoPanic.block (NoPanic.then (NoPanic.body))))))) rfl kr_ kr_ kr_ rfl (Yd.move rfl) ?_
            refine WA.y (i := 6) (NoPanic.then (NoPanic.block (NoPanic.then (NoPanic.then (NoPanic.block (NoPanic.then (NoPanic.body))))))) rfl kr_ kr_ kr_ rfl (Yd.extract rfl rfl) ?_
            refine WA.y (i := 7) (NoPanic.then (NoPanic.block (NoPanic.then (NoPanic.then (NoPanic.block (NoPanic.then (NoPanic.body))))))) rfl kr_ kr_ kr_ rfl (Yd.extract rfl rfl) ?_
            refine WA.one (i := 9) kr_ ?_
            refine WO.s rfl Wt.none (Hd.storeAll (n := 3) kr_ rfl rfl (partV_len _ _ _ _) (partV_one _ _ _ _ rfl rfl) fr_ (by rfl) ⟨rfl, ?_⟩)
            refine WA.y (i := 10) (NoPanic.then (NoPanic.block (NoPanic.then (NoPanic.then (NoPanic.block (NoPanic.then (NoPanic.body))))))) rfl kr_ kr_ kr_ rfl (Yd.assign rfl) ?_
            refine WA.done kr_ ?_
            refine DN.then_normal ?_
            refine WC.seq ?_
            refine WC.draw 7 kr_ rfl ?_
            refine WA.quiet 7 0 rfl rfl kr_ kr_ kr_ rfl ?_
            refine WQ.y rfl (Yd.fieldAddr (k := 0) kr_ rfl) ?_
            refine WQ.rd rfl Wt.none (Rd.load1 kr_ rfl mem_ (by rfl)) ?_
            refine WQ.y rfl (Yd.move rfl) ?_
            refine WQ.y rfl (Yd.move rfl) ?_
            refine WQ.y rfl (Yd.indexS (i := i) (b := allP[i]) Try.underlying9 rfl rfl rfl (str_get hlt)) ?_
            refine WQ.rf rfl Wt.none (Ent.func Try.call70 rfl) (rhas_reads n.kind allP[i] _) sp_ ?_
            refine WQ.y rfl (Yd.assign rfl) ?_
            refine WQ.nil ?_
            refine WA.done kr_ ?_
            refine DN.then_normal ?_
            refine WC.seq ?_
            refine WC.region ?_
            refine WL.y rfl (Yd.move rfl) ?_
            refine WL.y rfl (Yd.notB rfl) ?_
            refine WL.y rfl (Yd.move rfl) ?_
            refine WL.part (t := 68) rfl (fun hg68 => ?_) (fun hg68 => ?_)
            · refine WL.gy (dj := 68) rfl rfl rfl (Yd.move rfl) ?_
              refine WL.gy (dj := 68) rfl rfl rfl (Yd.notB rfl) ?_
              refine WL.y rfl (Yd.pickT rfl rfl) ?_
              refine WL.nil ?_
              refine DN.then_normal ?_
              refine WC.cond rfl (fun h71 => ?_) (fun h71 => ?_)
              · refine WC.seq ?_
                refine WC.region ?_
                refine WL.y rfl (Yd.assign rfl) ?_
                refine WL.nil ?_
                refine DN.then_normal ?_
                refine WC.ret ?_
                refine DN.block_ret ?_
                refine DN.then_ret ?_
                refine DN.then_ret ?_
                refine DN.block_ret ?_
                refine DN.then_ret ?_
                refine DN.fit (C := H) sp_ ?_
                refine DN.ret1 Try.results47 rfl ?_
                first
                | (rw [← refBad_eq, if_pos (ref_bad1 (hz.symm.trans h45))]; exact ⟨rfl, rfl⟩)
                | (rw [← refBad_eq, if_pos (ref_bad2 (List.getElem_mem hlt) (by simpa using hg68) (by simpa using h71))]; exact ⟨rfl, rfl⟩)
                | (rw [← refBad_eq, if_pos (ref_bad3 (hz9.symm.trans h90))]; exact ⟨rfl, rfl⟩)
                | (rw [← refBad_eq, if_neg (ref_ok (hz.symm.trans h45) hall (hz9.symm.trans h90))]; exact ⟨rfl, rfl⟩)
              · refine WC.skip ?_
                refine DN.block_normal ?_
                refine DN.then_normal ?_
                refine WC.region ?_
                refine WL.y rfl (Yd.move rfl) ?_
                refine WL.y rfl (Yd.add rfl rfl (by omega) (by omega)) ?_
                refine WL.y rfl (Yd.assign rfl) ?_
                refine WL.nil ?_
                exact DN.againS (i + 1) (show (i + 1) ≤ allP.length ∧ ∀ b ∈ allP.take (i + 1), zeroP n b = true ∨ b ∈ nb n.kind from ⟨by omega, rtake hlt hall (by first | exact .inl (by simpa using hg68) | exact .inr (by simpa using h71))⟩) (show allP.length - (i + 1) < allP.length - i by omega) (Sx.put rfl (sx_)) sp_
            · refine WL.gn (dj := 68) rfl rfl rfl rfl ?_
              refine WL.gn (dj := 68) rfl rfl rfl rfl ?_
              refine WL.y rfl (Yd.pickF rfl rfl) ?_
              refine WL.nil ?_
              refine DN.then_normal ?_
              refine WC.no rfl ?_
              refine WC.skip ?_
              refine DN.block_normal ?_
              refine DN.then_normal ?_
              refine WC.region ?_
              refine WL.y rfl (Yd.move rfl) ?_
              refine WL.y rfl (Yd.add rfl rfl (by omega) (by omega)) ?_
              refine WL.y rfl (Yd.assign rfl) ?_
              refine WL.nil ?_
              exact DN.againS (i + 1) (show (i + 1) ≤ allP.length ∧ ∀ b ∈ allP.take (i + 1), zeroP n b = true ∨ b ∈ nb n.kind from ⟨by omega, rtake hlt hall (by first | exact .inl (by simpa using hg68) | exact .inr (by simpa using h71))⟩) (show allP.length - (i + 1) < allP.length - i by omega) (Sx.put rfl (sx_)) sp_
        · refine WO.h rfl Wt.none rfl (Hd.alloc (zs := [.int .i64 0, .int .u64 0, .slice none 0 0]) kr_ fun b6 => ⟨_, rfl, ?_⟩)
          refine WA.one (i := 0) kr_ ?_
          refine WO.h rfl Wt.none rfl (Hd.loadAll (n := 11) kr_ rfl mem_ (by rfl) ⟨_, rfl, ?_⟩)
          refine WA.one (i := 4) kr_ ?_
          refine WO.rf rfl Wt.none rfl (Ent.func Try.call69 rfl) (rpart_reads n (.slice ko n.key.length kc) (.slice do_ n.data.length dc) ⟨_, _, rfl⟩ ⟨_, _, rfl⟩ allP[i] _) sp_ ?_
          refine WA.y (i := 5) (NoPanic.then (NoPanic.block (NoPanic.then (NoPanic.then (NoPanic.block (NoPanic.then (NoPanic.body))))))) rfl kr_ kr_ kr_ rfl (Yd.move rfl) ?_
          refine WA.y (i := 6) (NoPanic.then (NoPanic.block (NoPanic.then (NoPanic.then (NoPanic.block (NoPanic.then (NoPanic.body))))))) rfl kr_ kr_ kr_ rfl (Yd.extract rfl rfl) ?_
          refine WA.y (i := 7) (NoPanic.then (NoPanic.block (NoPanic.then (NoPanic.then (NoPanic.block (NoPanic.then (NoPanic.body))))))) rfl kr_ kr_ kr_ rfl (Yd.extract rfl rfl) ?_
          refine WA.one (i := 9) kr_ ?_
          refine WO.s rfl Wt.none (Hd.storeAll (n := 3) kr_ rfl rfl (partV_len _ _ _ _) (partV_one _ _ _ _ rfl rfl) fr_ (by rfl) ⟨rfl, ?_⟩)
          refine WA.y (i := 10) (NoPanic.then (NoPanic.block (NoPanic.then (NoPanic.then (NoPanic.block (NoPanic.then (NoPanic.body))))))) rfl kr_ kr_ kr_ rfl (Yd.assign rfl) ?_
          refine WA.done kr_ ?_
          refine DN.then_normal ?_
          refine WC.seq ?_
          refine WC.draw 7 kr_ rfl ?_
          refine WA.quiet 7 0 rfl rfl kr_ kr_ kr_ rfl ?_
          refine WQ.y rfl (Yd.fieldAddr (k := 0) kr_ rfl) ?_
          refine WQ.rd rfl Wt.none (Rd.load1 kr_ rfl mem_ (by rfl)) ?_
          refine WQ.y rfl (Yd.move rfl) ?_
          refine WQ.y rfl (Yd.move rfl) ?_
          refine WQ.y rfl (Yd.indexS (i := i) (b := allP[i]) Try.underlying9 rfl rfl rfl (str_get hlt)) ?_
          refine WQ.rf rfl Wt.none (Ent.func Try.call70 rfl) (rhas_reads n.kind allP[i] _) sp_ ?_
          refine WQ.y rfl (Yd.assign rfl) ?_
          refine WQ.nil ?_
          refine WA.done kr_ ?_
          refine DN.then_normal ?_
          refine WC.seq ?_
          refine WC.region ?_
          refine WL.y rfl (Yd.move rfl) ?_
          refine WL.y rfl (Yd.notB rfl) ?_
          refine WL.y rfl (Yd.move rfl) ?_
          refine WL.part (t := 68) rfl (fun hg68 => ?_) (fun hg68 => ?_)
          · refine WL.gy (dj := 68) rfl rfl rfl (Yd.move rfl) ?_
            refine WL.gy (dj := 68) rfl rfl rfl (Yd.notB rfl) ?_
            refine WL.y rfl (Yd.pickT rfl rfl) ?_
            refine WL.nil ?_
            refine DN.then_normal ?_
            refine WC.cond rfl (fun h71 => ?_) (fun h71 => ?_)
            · refine WC.seq ?_
              refine WC.region ?_
              refine WL.y rfl (Yd.assign rfl) ?_
              refine WL.nil ?_
              refine DN.then_normal ?_
              refine WC.ret ?_
              refine DN.block_ret ?_
              refine DN.then_ret ?_
              refine DN.then_ret ?_
              refine DN.block_ret ?_
              refine DN.then_ret ?_
              refine DN.fit (C := H) sp_ ?_
              refine DN.ret1 Try.results47 rfl ?_
              first
              | (rw [← refBad_eq, if_pos (ref_bad1 (hz.symm.trans h45))]; exact ⟨rfl, rfl⟩)
              | (rw [← refBad_eq, if_pos (ref_bad2 (List.getElem_mem hlt) (by simpa using hg68) (by simpa using h71))]; exact ⟨rfl, rfl⟩)
              | (rw [← refBad_eq, if_pos (ref_bad3 (hz9.symm.trans h90))]; exact ⟨rfl, rfl⟩)
              | (rw [← refBad_eq, if_neg (ref_ok (hz.symm.trans h45) hall (hz9.symm.trans h90))]; exact ⟨rfl, rfl⟩)
            · refine WC.skip ?_
              refine DN.block_normal ?_
              refine DN.then_normal ?_
              refine WC.region ?_
              refine WL.y rfl (Yd.move rfl) ?_
              refine WL.y rfl (Yd.add rfl rfl (by omega) (by omega)) ?_
              refine WL.y rfl (Yd.assign rfl) ?_
              refine WL.nil ?_
              exact DN.againS (i + 1) (show (i + 1) ≤ allP.length ∧ ∀ b ∈ allP.take (i + 1), zeroP n b = true ∨ b ∈ nb n.kind from ⟨by omega, rtake hlt hall (by first | exact .inl (by simpa using hg68) | exact .inr (by simpa using h71))⟩) (show allP.length - (i + 1) < allP.length - i by omega) (Sx.put rfl (sx_)) sp_
          · refine WL.gn (dj := 68) rfl rfl rfl rfl ?_
            refine WL.gn (dj := 68) rfl rfl rfl rfl ?_
            refine WL.y rfl (Yd.pickF rfl rfl) ?_
            refine WL.nil ?_
            refine DN.then_normal ?_
            refine WC.no rfl ?_
            refine WC.skip ?_
            refine DN.block_normal ?_
            refine DN.then_normal ?_
            refine WC.region ?_
            refine WL.y rfl (Yd.move rfl) ?_
            refine WL.y rfl (Yd.add rfl rfl (by omega) (by omega)) ?_
            refine WL.y rfl (Yd.assign rfl) ?_
            refine WL.nil ?_
            exact DN.againS (i + 1) (show (i + 1) ≤ allP.length ∧ ∀ b ∈ allP.take (i + 1), zeroP n b = true ∨ b ∈ nb n.kind from ⟨by omega, rtake hlt hall (by first | exact .inl (by simpa using hg68) | exact .inr (by simpa using h71))⟩) (show allP.length - (i + 1) < allP.length - i by omega) (Sx.put rfl (sx_)) sp_
      · replace h49 : ¬ (i : Int) < 10 := h49
        obtain rfl : i = allP.length := by omega
        rw [List.take_length] at hall
        refine WC.exit ?_
        refine DN.then_exit ?_
        refine DN.then_exit ?_
        refine DN.block_exit ?_
        refine DN.then_normal ?_
        refine WC.seq ?_
        refine WC.cutK (fun z : Bool => z = (decide (10 ≤ n.kind) && (decide (n.kind ≤ 12) && decide ((n.key.length : Int) = 0)))) (fun z : Bool => [(90, .bool z)]) (fun z : Bool => row b1 (ntc n (.slice ko n.key.length kc) (.slice do_ n.data.length dc)) 29 :: H) ?_ ?_
        · refine WC.region ?_
          refine WL.y rfl (Yd.fieldAddr (k := 9) kr_ rfl) ?_
          refine WL.h rfl (Hd.load1 kr_ rfl mem_ (by rfl) ⟨_, rfl, ?_⟩)
          refine WL.y rfl (Yd.len (e := 5) kr_ rfl) ?_
          refine WL.y rfl (Yd.eql rfl rfl) ?_
          refine WL.y rfl (Yd.move rfl) ?_
          refine WL.partP (t := 76) rfl (fun hg76 => ?_) (fun hg76 => ?_)
          · refine WL.gy (dj := 76) rfl rfl rfl (Yd.fieldAddr (k := 0) kr_ rfl) ?_
            refine WL.gh (dj := 76) rfl rfl rfl (Hd.load1 kr_ rfl mem_ (by rfl) ⟨_, rfl, ?_⟩)
            refine WL.gy (dj := 76) rfl rfl rfl (Yd.eql rfl rfl) ?_
            refine WL.gy (dj := 76) rfl rfl rfl (Yd.move rfl) ?_
            refine WL.partP (t := 80) rfl (fun hg80 => ?_) (fun hg80 => ?_)
            · refine WL.gn (dj := 80) rfl rfl rfl rfl ?_
              refine WL.gn (dj := 80) rfl rfl rfl rfl ?_
              refine WL.gn (dj := 80) rfl rfl rfl rfl ?_
              refine WL.gy (dj := 76) rfl rfl rfl (Yd.pickT rfl rfl) ?_
              refine WL.gy (dj := 76) rfl rfl rfl (Yd.move rfl) ?_
              refine WL.gn (dj := 85) rfl rfl rfl rfl ?_
              refine WL.gn (dj := 85) rfl rfl rfl rfl ?_
              refine WL.gn (dj := 85) rfl rfl rfl rfl ?_
              refine WL.gy (dj := 76) rfl rfl rfl (Yd.pickT rfl rfl) ?_
              refine WL.y rfl (Yd.pickT rfl rfl) ?_
              refine WL.nil ?_
              exact DN.reachK (_) (by rw [Bool.eq_iff_iff]; simp only [Bool.and_eq_true, decide_eq_true_eq, true_iff, Bool.false_eq_true, false_iff]; omega) (Sx.put rfl (sx_)) (Sp.all sp_)
            · refine WL.gy (dj := 80) rfl rfl rfl (Yd.fieldAddr (k := 0) kr_ rfl) ?_
              refine WL.gh (dj := 80) rfl rfl rfl (Hd.load1 kr_ rfl mem_ (by rfl) ⟨_, rfl, ?_⟩)
              refine WL.gy (dj := 80) rfl rfl rfl (Yd.eql rfl rfl) ?_
              refine WL.gy (dj := 76) rfl rfl rfl (Yd.pickF rfl rfl) ?_
              refine WL.gy (dj := 76) rfl rfl rfl (Yd.move rfl) ?_
              refine WL.partP (t := 85) rfl (fun hg85 => ?_) (fun hg85 => ?_)
              · refine WL.gn (dj := 85) rfl rfl rfl rfl ?_
                refine WL.gn (dj := 85) rfl rfl rfl rfl ?_
                refine WL.gn (dj := 85) rfl rfl rfl rfl ?_
                refine WL.gy (dj := 76) rfl rfl rfl (Yd.pickT rfl rfl) ?_
                refine WL.y rfl (Yd.pickT rfl rfl) ?_
                refine WL.nil ?_
                exact DN.reachK (_) (by rw [Bool.eq_iff_iff]; simp only [Bool.and_eq_true, decide_eq_true_eq, true_iff, Bool.false_eq_true, false_iff]; omega) (Sx.put rfl (sx_)) (Sp.all sp_)
              · refine WL.gy (dj := 85) rfl rfl rfl (Yd.fieldAddr (k := 0) kr_ rfl) ?_
                refine WL.gh (dj := 85) rfl rfl rfl (Hd.load1 kr_ rfl mem_ (by rfl) ⟨_, rfl, ?_⟩)
                refine WL.gy (dj := 85) rfl rfl rfl (Yd.eql rfl rfl) ?_
                refine WL.gy (dj := 76) rfl rfl rfl (Yd.pickF rfl rfl) ?_
                refine WL.y rfl (Yd.pickT rfl rfl) ?_
                refine WL.nil ?_
                exact DN.reachK (_) (by rw [Bool.eq_iff_iff]; simp only [Bool.and_eq_true, decide_eq_true_eq, true_iff, Bool.false_eq_true, false_iff]; omega) (Sx.put rfl (sx_)) (Sp.all sp_)
          · refine WL.gn (dj := 76) rfl rfl rfl rfl ?_
            refine WL.gn (dj := 76) rfl rfl rfl rfl ?_
            refine WL.gn (dj := 76) rfl rfl rfl rfl ?_
            refine WL.gn (dj := 76) rfl rfl rfl rfl ?_
            refine WL.gu (dj := 80) rfl rfl rfl ?_
            refine WL.gu (dj := 80) rfl rfl rfl ?_
            refine WL.gu (dj := 80) rfl rfl rfl ?_
            refine WL.gn (dj := 76) rfl rfl rfl rfl ?_
            refine WL.gn (dj := 76) rfl rfl rfl rfl ?_
            refine WL.gu (dj := 85) rfl rfl rfl ?_
            refine WL.gu (dj := 85) rfl rfl rfl ?_
            refine WL.gu (dj := 85) rfl rfl rfl ?_
            refine WL.gn (dj := 76) rfl rfl rfl rfl ?_
            refine WL.y rfl (Yd.pickF rfl rfl) ?_
            refine WL.nil ?_
            exact DN.reachK (_) (by rw [Bool.eq_iff_iff]; simp only [Bool.and_eq_true, decide_eq_true_eq, true_iff, Bool.false_eq_true, false_iff]; omega) (Sx.put rfl (sx_)) (Sp.all sp_)
        · intro z9 hz9
          refine WC.cond rfl (fun h90 => ?_) (fun h90 => ?_)
          · refine WC.seq ?_
            refine WC.region ?_
            refine WL.y rfl (Yd.assign rfl) ?_
            refine WL.nil ?_
            refine DN.then_normal ?_
            refine WC.ret ?_
            refine DN.then_ret ?_
            refine DN.fit (C := H) sp_ ?_
            refine DN.ret1 Try.results47 rfl ?_
            first
            | (rw [← refBad_eq, if_pos (ref_bad1 (hz.symm.trans h45))]; exact ⟨rfl, rfl⟩)
            | (rw [← refBad_eq, if_pos (ref_bad2 (List.getElem_mem hlt) (by simpa using hg68) (by simpa using h71))]; exact ⟨rfl, rfl⟩)
            | (rw [← refBad_eq, if_pos (ref_bad3 (hz9.symm.trans h90))]; exact ⟨rfl, rfl⟩)
            | (rw [← refBad_eq, if_neg (ref_ok (hz.symm.trans h45) hall (hz9.symm.trans h90))]; exact ⟨rfl, rfl⟩)
          · refine WC.skip ?_
            refine DN.then_normal ?_
            refine WC.seq ?_
            refine WC.region ?_
            refine WL.y rfl (Yd.assign rfl) ?_
            refine WL.nil ?_
            refine DN.then_normal ?_
            refine WC.ret ?_
            refine DN.fit (C := H) sp_ ?_
            refine DN.ret1 Try.results47 rfl ?_
            first
            | (rw [← refBad_eq, if_pos (ref_bad1 (hz.symm.trans h45))]; exact ⟨rfl, rfl⟩)
            | (rw [← refBad_eq, if_pos (ref_bad2 (List.getElem_mem hlt) (by simpa using hg68) (by simpa using h71))]; exact ⟨rfl, rfl⟩)
            | (rw [← refBad_eq, if_pos (ref_bad3 (hz9.symm.trans h90))]; exact ⟨rfl, rfl⟩)
            | (rw [← refBad_eq, if_neg (ref_ok (hz.symm.trans h45) hall (hz9.symm.trans h90))]; exact ⟨rfl, rfl⟩)

end Go.Proofs.Ytonnkgblligdkaa
