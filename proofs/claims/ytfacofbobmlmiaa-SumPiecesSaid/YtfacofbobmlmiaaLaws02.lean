/-
  The walks of the laws of chapter 02.
-/
import Derived.Test.YtfacofbobmlmiaaRows
import Derived.Test.YtfacofbobmlmiaaSLMore
import Derived.Test.YtfacofbobmlmiaaSum
import Derived.Test.YtfacofbobmlmiaaLists
import Derived.Test.YtfacofbobmlmiaaRef
set_option linter.unusedVariables false
set_option linter.unusedSimpArgs false
set_option maxHeartbeats 2000000
namespace Go.Proofs.Ytfacofbobmlmiaa
open Go.SL Go.Sum
theorem bursts_law (bs : List B8) (at_ : Int) (by_ : B32) (h : bs.length ≤ 1000000) : (decide (crcOf (turnedAll bs (startOf at_ bs.length) by_).1 ≠ crcOf bs) == (turnedAll bs (startOf at_ bs.length) by_).2) = true := by
  by_cases h0 : bs = []
  · subst h0; rw [turnedAll_nil]; simp
  · have hp : 0 < bs.length := List.length_pos_iff.2 h0
    rw [← bursts_sum bs _ by_ (startOf_lt at_ hp h)]
    simp
theorem fill4 (a b c d : BitVec 8) : Instr.fill (fun i => some (i * 1, 1)) ((Array.range (4 * 1)).map ([Value.int .u8 0].toArray[· % [Value.int .u8 0].toArray.size]!)) ([a, b, c, d].zipIdx.map fun p => (p.2, Value.int .u8 p.1.toNat)) = some (bc [a, b, c, d]).toArray := by
  have h : ((Array.range (4 * 1)).map ([Value.int .u8 0].toArray[· % [Value.int .u8 0].toArray.size]!)) = #[.int .u8 0, .int .u8 0, .int .u8 0, .int .u8 0] := by kernel_rfl
  rw [h]
  simp [Instr.fill, List.zipIdx, bc, Value.cells]
theorem zip_next (a b : List B8) (i : Nat) (ha : i < a.length) (hb : i < b.length) : List.zipWith (· ^^^ ·) (a.take (i + 1)) (b.take (i + 1)) = List.zipWith (· ^^^ ·) (a.take i) (b.take i) ++ [a[i] ^^^ b[i]] := by
  rw [List.take_succ_eq_append_getElem ha, List.take_succ_eq_append_getElem hb, List.zipWith_append (by simp; omega)]
  rfl
theorem rep_bc (n : Nat) : List.replicate n (Value.int .u8 0) = bc (List.replicate n 0#8) := by simp [bc]
theorem le4_bound (bs : List B8) (s : B32) : (bs ++ le4 s).length = bs.length + 4 := by simp [le4_length]
theorem holds_own1 (bs : List B8) : crcHolds (bs ++ le4 (crcOf bs)) = true := by rw [holds_own]; simp
theorem holds_turned1 (bs : List B8) (at_ : Int) (by_ : B32) (h : bs.length ≤ 3000) : (crcHolds (turnedAll (bs ++ le4 (crcOf bs)) (startOf at_ (bs ++ le4 (crcOf bs)).length) by_).1 == !(turnedAll (bs ++ le4 (crcOf bs)) (startOf at_ (bs ++ le4 (crcOf bs)).length) by_).2) = true := by
  rw [holds_turned _ _ _ (by rw [le4_bound]; omega) (holds_own1 bs) (startOf_lt at_ (by rw [le4_bound]; omega) (by rw [le4_bound]; omega))]
  simp
/-- the pieces' lengths, each at most so much -/
def capped (ls : List (List B8)) : Nat := (ls.map fun l => min l.length 3000).sum
theorem capped_next (ls : List (List B8)) (i : Nat) (h : i < ls.length) : capped (ls.take (i + 1)) = capped (ls.take i) + min ls[i].length 3000 := by
  unfold capped
  rw [List.take_succ_eq_append_getElem h, List.map_append, List.sum_append]
  simp
theorem capped_mono (ls : List (List B8)) (i : Nat) : capped (ls.take i) ≤ capped ls := by
  induction ls generalizing i with
  | nil => simp
  | cons l ls ih =>
    cases i with
    | zero => simp [capped]
    | succ i =>
      have := ih i
      simp only [capped, List.take_succ_cons, List.map_cons, List.sum_cons] at this ⊢
      omega
theorem capped_all (ls : List (List B8)) (h : capped ls < 3000) : ls.flatten.length = capped ls := by
  induction ls with
  | nil => rfl
  | cons l ls ih =>
    simp only [capped, List.map_cons, List.sum_cons, List.flatten_cons, List.length_append] at *
    have := ih (by omega)
    omega
theorem flat_next (ls : List (List B8)) (i : Nat) (h : i < ls.length) : (ls.take (i + 1)).flatten = (ls.take i).flatten ++ ls[i] := by
  rw [List.take_succ_eq_append_getElem h, List.flatten_append]
  simp
theorem flat_mono (ls : List (List B8)) (i : Nat) : (ls.take i).flatten.length ≤ ls.flatten.length := by
  induction ls generalizing i with
  | nil => simp
  | cons l ls ih =>
    cases i with
    | zero => simp
    | succ i => have := ih i; simp only [List.take_succ_cons, List.flatten_cons, List.length_append]; omega


/-- drayage/drayagelaw02.SumOf -/
theorem law_SumOf (v : Value) (bs : List B8) (H : List Ck) (hv : Bs v bs H) (hl : bs.length ≤ 9223372036854775807) : Reads Try.prog 3 [v] H (.bool true) := by
  refine Tells.enter Try.func3 rfl Try.ntmps3 rfl ?_
  intro w0 R
  obtain ⟨ao, c, rfl, hc⟩ := Bs.form hv
  refine WC.seq ?_
  refine WC.region ?_
  refine WL.y rfl (Yd.assign rfl) ?_
  refine WL.nil ?_
  refine DN.then_normal ?_
  refine WC.seq ?_
  refine WC.seq ?_
  refine WC.region ?_
  refine WL.y rfl (Yd.move rfl) ?_
  refine WL.y rfl (Yd.len (e := 5) (by kernel_rfl) rfl) ?_
  refine WL.y rfl (Yd.gtr rfl rfl) ?_
  refine WL.nil ?_
  refine DN.then_normal ?_
  refine WC.ite rfl (fun h8 => ?_) (fun h8 => ?_)
  · refine WC.seq ?_
    refine WC.region ?_
    refine WL.r rfl (Ent.func Try.call17 rfl) (known02 _) ?_
    refine WL.y rfl (Yd.assign rfl) ?_
    refine WL.nil ?_
    refine DN.then_normal ?_
    refine WC.ret ?_
    refine DN.then_ret ?_
    refine DN.forget H (by (repeat (first | exact List.Sublist.refl _ | exact List.nil_sublist _ | apply List.Sublist.cons_cons | apply List.Sublist.cons | apply List.sublist_append_of_sublist_right))) ?_
    refine DN.ret1 Try.results3 rfl ?_
    exact ⟨rfl, rfl⟩
  · have h3 : bs.length ≤ 3000 := by omega
    refine WC.skip ?_
    refine DN.then_normal ?_
    refine WC.seq ?_
    refine WC.region ?_
    refine WL.y rfl (Yd.move rfl) ?_
    refine WL.ca rfl (Ent.func Try.call18 rfl) (lent_spec _ bs H hv (by omega)) ?_
    rintro x H1 ⟨xo, xc, C, rfl, hC, rfl⟩
    have hw := hv.mono (B := C ++ H) fun x hx => List.mem_append_right _ hx
    have hC2 : Bs (.slice xo (bs.length + 2) xc) (bs ++ [91#8, 92#8]) (C ++ H) := hC.bs.mono fun x hx => List.mem_append_left _ hx
    have hx : Bs (.slice xo bs.length xc) bs (C ++ H) := by
      have := hC2.upto (j := bs.length) (by omega)
      rwa [List.take_left] at this
    refine WL.y rfl (Yd.assign rfl) ?_
    refine WL.nil ?_
    refine DN.then_normal ?_
    refine WC.seq ?_
    refine WC.region ?_
    refine WL.y rfl (Yd.move rfl) ?_
    refine WL.r rfl (Ent.func Try.call19 rfl) (of_reads _ bs _ hx (by omega)) ?_
    refine WL.y rfl (Yd.assign rfl) ?_
    refine WL.nil ?_
    refine DN.then_normal ?_
    refine WC.seq ?_
    refine WC.region ?_
    refine WL.y rfl (Yd.move rfl) ?_
    refine WL.r rfl (Ent.func Try.call19 rfl) (of_reads _ bs _ hx (by omega)) ?_
    refine WL.y rfl (Yd.assign rfl) ?_
    refine WL.nil ?_
    refine DN.then_normal ?_
    refine WC.seq ?_
    refine WC.region ?_
    refine WL.y rfl (Yd.move rfl) ?_
    refine WL.y rfl (Yd.move rfl) ?_
    refine WL.r rfl (Ent.func Try.call20 rfl) (of2_reads _ bs _ hw (by omega)) ?_
    refine WL.y rfl (Yd.eql32 _ _ rfl rfl rfl rfl) ?_
    refine WL.renamed (t := 19) (v := .bool true) rfl (congrArg Value.bool (decide_eq_true rfl)) ?_
    refine WL.y rfl (Yd.move rfl) ?_
    refine WL.gy (dj := 20) rfl rfl rfl (Yd.move rfl) ?_
    refine WL.gy (dj := 20) rfl rfl rfl (Yd.move rfl) ?_
    refine WL.gy (dj := 20) rfl rfl rfl (Yd.eql32 _ _ rfl rfl rfl rfl) ?_
    refine WL.renamed (t := 23) (v := .bool true) rfl (congrArg Value.bool (decide_eq_true rfl)) ?_
    refine WL.y rfl (Yd.pickT rfl rfl) ?_
    refine WL.y rfl (Yd.move rfl) ?_
    refine WL.gy (dj := 25) rfl rfl rfl (Yd.move rfl) ?_
    refine WL.gy (dj := 25) rfl rfl rfl (Yd.move rfl) ?_
    refine WL.gr (dj := 25) rfl rfl rfl (Ent.func Try.call21 rfl) (whole_reads _ _ _ bs _ hC2 hw (by omega)) ?_
    refine WL.renamed (t := 28) (v := .bool true) rfl (congrArg Value.bool (rfl)) ?_
    refine WL.y rfl (Yd.pickT rfl rfl) ?_
    refine WL.y rfl (Yd.move rfl) ?_
    refine WL.gr (dj := 30) rfl rfl rfl (Ent.func Try.call17 rfl) (known02 _) ?_
    refine WL.y rfl (Yd.pickT rfl rfl) ?_
    refine WL.y rfl (Yd.assign rfl) ?_
    refine WL.nil ?_
    refine DN.then_normal ?_
    refine WC.ret ?_
    refine DN.forget H (by (repeat (first | exact List.Sublist.refl _ | exact List.nil_sublist _ | apply List.Sublist.cons_cons | apply List.Sublist.cons | apply List.sublist_append_of_sublist_right))) ?_
    refine DN.ret1 Try.results3 rfl ?_
    exact ⟨rfl, rfl⟩

/-- drayage/drayagelaw02.SumBursts -/
theorem law_SumBursts (v : Value) (bs : List B8) (at_ : Int) (by_ : B32) (H : List Ck) (hv : Bs v bs H) (hl : bs.length ≤ 9223372036854775807) : Reads Try.prog 7 [v, .int .i64 at_, .int .u32 by_.toNat] H (.bool true) := by
  refine Tells.enter Try.func7 rfl Try.ntmps7 rfl ?_
  intro w0 R
  obtain ⟨ao, c, rfl, hc⟩ := Bs.form hv
  refine WC.seq ?_
  refine WC.region ?_
  refine WL.y rfl (Yd.assign rfl) ?_
  refine WL.nil ?_
  refine DN.then_normal ?_
  refine WC.seq ?_
  refine WC.seq ?_
  refine WC.region ?_
  refine WL.y rfl (Yd.move rfl) ?_
  refine WL.y rfl (Yd.len (e := 5) (by kernel_rfl) rfl) ?_
  refine WL.y rfl (Yd.gtr rfl rfl) ?_
  refine WL.nil ?_
  refine DN.then_normal ?_
  refine WC.ite rfl (fun h11 => ?_) (fun h11 => ?_)
  · refine WC.seq ?_
    refine WC.region ?_
    refine WL.r rfl (Ent.func Try.call17 rfl) (known02 _) ?_
    refine WL.y rfl (Yd.assign rfl) ?_
    refine WL.nil ?_
    refine DN.then_normal ?_
    refine WC.ret ?_
    refine DN.then_ret ?_
    refine DN.forget H (by (repeat (first | exact List.Sublist.refl _ | exact List.nil_sublist _ | apply List.Sublist.cons_cons | apply List.Sublist.cons | apply List.sublist_append_of_sublist_right))) ?_
    refine DN.ret1 Try.results7 rfl ?_
    exact ⟨rfl, rfl⟩
  · have h3 : bs.length ≤ 3000 := by omega
    refine WC.skip ?_
    refine DN.then_normal ?_
    refine WC.seq ?_
    refine WC.region ?_
    refine WL.y rfl (Yd.move rfl) ?_
    refine WL.y rfl (Yd.move rfl) ?_
    refine WL.y rfl (Yd.move rfl) ?_
    refine WL.ca rfl (Ent.func Try.call24 rfl) (turned_tells _ bs at_ by_ H hv (by omega)) ?_
    rintro x H1 ⟨u, C, rfl, hC, rfl⟩
    have hw := hv.mono (B := C ++ H) fun x hx => List.mem_append_right _ hx
    have hx := hC.bs.mono (B := C ++ H) fun x hx => List.mem_append_left _ hx
    have hL : (turnedAll bs (startOf at_ bs.length) by_).1.length = bs.length := turnedK_length _ _ _ _
    refine WL.y rfl (Yd.move rfl) ?_
    refine WL.y rfl (Yd.extract rfl rfl) ?_
    refine WL.y rfl (Yd.extract rfl rfl) ?_
    refine WL.y rfl (Yd.assign rfl) ?_
    refine WL.y rfl (Yd.assign rfl) ?_
    refine WL.nil ?_
    refine DN.then_normal ?_
    refine WC.seq ?_
    refine WC.region ?_
    refine WL.y rfl (Yd.move rfl) ?_
    refine WL.r rfl (Ent.func Try.call19 rfl) (of_reads _ _ _ hx (by rw [hL]; omega)) ?_
    refine WL.y rfl (Yd.move rfl) ?_
    refine WL.r rfl (Ent.func Try.call19 rfl) (of_reads _ bs _ hw (by omega)) ?_
    refine WL.y rfl (Yd.neq32 _ _ rfl rfl rfl rfl) ?_
    refine WL.y rfl (Yd.move rfl) ?_
    refine WL.y rfl (Yd.eqlB Try.underlying4 rfl rfl) ?_
    refine WL.renamed (t := 26) (v := .bool true) rfl (congrArg Value.bool (bursts_law bs at_ by_ (by omega))) ?_
    refine WL.y rfl (Yd.move rfl) ?_
    refine WL.gr (dj := 27) rfl rfl rfl (Ent.func Try.call17 rfl) (known02 _) ?_
    refine WL.y rfl (Yd.pickT rfl rfl) ?_
    refine WL.y rfl (Yd.assign rfl) ?_
    refine WL.nil ?_
    refine DN.then_normal ?_
    refine WC.ret ?_
    refine DN.forget H (by (repeat (first | exact List.Sublist.refl _ | exact List.nil_sublist _ | apply List.Sublist.cons_cons | apply List.Sublist.cons | apply List.sublist_append_of_sublist_right))) ?_
    refine DN.ret1 Try.results7 rfl ?_
    exact ⟨rfl, rfl⟩

/-- drayage/drayagelaw02.SumHolds -/
theorem law_SumHolds (v : Value) (bs : List B8) (sum : B32) (at_ : Int) (by_ : B32) (H : List Ck) (hv : Bs v bs H) (hl : bs.length ≤ 9223372036854775807) : Reads Try.prog 8 [v, .int .u32 sum.toNat, .int .i64 at_, .int .u32 by_.toNat] H (.bool true) := by
  refine Tells.enter Try.func8 rfl Try.ntmps8 rfl ?_
  intro w0 R
  obtain ⟨ao, c, rfl, hc⟩ := Bs.form hv
  refine WC.seq ?_
  refine WC.region ?_
  refine WL.y rfl (Yd.assign rfl) ?_
  refine WL.nil ?_
  refine DN.then_normal ?_
  refine WC.seq ?_
  refine WC.seq ?_
  refine WC.region ?_
  refine WL.y rfl (Yd.move rfl) ?_
  refine WL.y rfl (Yd.len (e := 5) (by kernel_rfl) rfl) ?_
  refine WL.y rfl (Yd.gtr rfl rfl) ?_
  refine WL.nil ?_
  refine DN.then_normal ?_
  refine WC.ite rfl (fun h16 => ?_) (fun h16 => ?_)
  · refine WC.seq ?_
    refine WC.region ?_
    refine WL.r rfl (Ent.func Try.call17 rfl) (known02 _) ?_
    refine WL.y rfl (Yd.assign rfl) ?_
    refine WL.nil ?_
    refine DN.then_normal ?_
    refine WC.ret ?_
    refine DN.then_ret ?_
    refine DN.forget H (by first | exact List.Sublist.refl _ | exact hsubl) ?_
    refine DN.ret1 Try.results8 rfl ?_
    exact ⟨rfl, rfl⟩
  · have h3 : bs.length ≤ 3000 := by omega
    refine WC.skip ?_
    refine DN.then_normal ?_
    refine WC.seq ?_
    refine WC.region ?_
    refine WL.y rfl (Yd.move rfl) ?_
    refine WL.r rfl (Ent.func Try.call19 rfl) (of_reads _ bs _ hv (by omega)) ?_
    refine WL.y rfl (Yd.assign rfl) ?_
    refine WL.nil ?_
    refine DN.then_normal ?_
    refine WC.seq ?_
    refine WC.region ?_
    refine WL.y rfl (Yd.move rfl) ?_
    refine WL.ca rfl (Ent.func Try.call25 rfl) (copy_spec _ bs H hv (by omega)) ?_
    rintro y1 H1 ⟨C1, hC1, rfl⟩
    refine WL.y rfl (Yd.assign rfl) ?_
    refine WL.nil ?_
    refine DN.then_normal ?_
    refine WC.seq ?_
    refine WC.region ?_
    refine WL.y rfl (Yd.move rfl) ?_
    refine WL.y rfl (Yd.move rfl) ?_
    refine WL.y rfl (Yd.conv32_8 _ (by kernel_rfl) (by kernel_rfl) rfl rfl) ?_
    refine WL.y rfl (Yd.move rfl) ?_
    refine WL.y rfl (Yd.shr32 _ 8 rfl rfl rfl rfl) ?_
    refine WL.y rfl (Yd.conv32_8 _ (by kernel_rfl) (by kernel_rfl) rfl rfl) ?_
    refine WL.y rfl (Yd.move rfl) ?_
    refine WL.y rfl (Yd.shr32 _ 16 rfl rfl rfl rfl) ?_
    refine WL.y rfl (Yd.conv32_8 _ (by kernel_rfl) (by kernel_rfl) rfl rfl) ?_
    refine WL.y rfl (Yd.move rfl) ?_
    refine WL.y rfl (Yd.shr32 _ 24 rfl rfl rfl rfl) ?_
    refine WL.y rfl (Yd.conv32_8 _ (by kernel_rfl) (by kernel_rfl) rfl rfl) ?_
    refine WL.h rfl (Hd.buildBytes (e := 5) (le4 (crcOf bs)) (by kernel_rfl) (by kernel_rfl) (by kernel_rfl) rfl rfl (fill4 _ _ _ _) fun r1 => ⟨_, rfl, ?_⟩)
    refine WL.h rfl (Hd.appendB (e := 5) (zs := [.int .u8 0]) (C := C1) (D := row r1 (bc (le4 (crcOf bs))) 5 :: H) (by kernel_rfl) (by kernel_rfl) rfl rfl rfl hC1 (Bs.block (bs := le4 (crcOf bs)) rfl (by decide) (List.mem_append_right _ List.mem_cons_self)) (by rw [le4_length]; omega) List.perm_middle.symm fun z1 A1 hA1 _ => ⟨_, rfl, ?_⟩)
    refine WL.y rfl (Yd.assign rfl) ?_
    refine WL.nil ?_
    refine DN.then_normal ?_
    refine WC.seq ?_
    refine WC.region ?_
    refine WL.y rfl (Yd.move rfl) ?_
    refine WL.ca rfl (Ent.func Try.call25 rfl) (copy_spec _ bs _ (hv.mono fun x hx => by simp [hx]) (by omega)) ?_
    rintro y2 H2 ⟨C2, hC2, rfl⟩
    refine WL.y rfl (Yd.assign rfl) ?_
    refine WL.nil ?_
    refine DN.then_normal ?_
    refine WC.seq ?_
    refine WC.region ?_
    refine WL.y rfl (Yd.move rfl) ?_
    refine WL.y rfl (Yd.move rfl) ?_
    refine WL.y rfl (Yd.conv32_8 _ (by kernel_rfl) (by kernel_rfl) rfl rfl) ?_
    refine WL.y rfl (Yd.move rfl) ?_
    refine WL.y rfl (Yd.shr32 _ 8 rfl rfl rfl rfl) ?_
    refine WL.y rfl (Yd.conv32_8 _ (by kernel_rfl) (by kernel_rfl) rfl rfl) ?_
    refine WL.y rfl (Yd.move rfl) ?_
    refine WL.y rfl (Yd.shr32 _ 16 rfl rfl rfl rfl) ?_
    refine WL.y rfl (Yd.conv32_8 _ (by kernel_rfl) (by kernel_rfl) rfl rfl) ?_
    refine WL.y rfl (Yd.move rfl) ?_
    refine WL.y rfl (Yd.shr32 _ 24 rfl rfl rfl rfl) ?_
    refine WL.y rfl (Yd.conv32_8 _ (by kernel_rfl) (by kernel_rfl) rfl rfl) ?_
    refine WL.h rfl (Hd.buildBytes (e := 5) (le4 (sum)) (by kernel_rfl) (by kernel_rfl) (by kernel_rfl) rfl rfl (fill4 _ _ _ _) fun r2 => ⟨_, rfl, ?_⟩)
    refine WL.h rfl (Hd.appendB (e := 5) (zs := [.int .u8 0]) (C := C2) (D := row r2 (bc (le4 sum)) 5 :: (A1 ++ row r1 (bc (le4 (crcOf bs))) 5 :: H)) (by kernel_rfl) (by kernel_rfl) rfl rfl rfl hC2 (Bs.block (bs := le4 sum) rfl (by decide) (List.mem_append_right _ List.mem_cons_self)) (by rw [le4_length]; omega) List.perm_middle.symm fun z2 A2 hA2 _ => ⟨_, rfl, ?_⟩)
    refine WL.y rfl (Yd.assign rfl) ?_
    refine WL.nil ?_
    refine DN.then_normal ?_
    refine WC.seq ?_
    refine WC.region ?_
    refine WL.y rfl (Yd.move rfl) ?_
    refine WL.y rfl (Yd.move rfl) ?_
    refine WL.y rfl (Yd.move rfl) ?_
    refine WL.ca rfl (Ent.func Try.call24 rfl) (turned_tells _ (bs ++ le4 (crcOf bs)) at_ by_ _ (hA1.bs.mono fun x hx => by simp [hx]) (by rw [le4_bound]; omega)) ?_
    rintro y3 H3 ⟨u, C3, rfl, hC3, rfl⟩
    have hL : (turnedAll (bs ++ le4 (crcOf bs)) (startOf at_ (bs ++ le4 (crcOf bs)).length) by_).1.length = (bs ++ le4 (crcOf bs)).length := turnedK_length _ _ _ _
    obtain ⟨H9, hH9⟩ : ∃ H9, H9 = C3 ++ (A2 ++ row r2 (bc (le4 sum)) 5 :: (A1 ++ row r1 (bc (le4 (crcOf bs))) 5 :: H)) := ⟨_, rfl⟩
    have hx1 := hA1.bs.mono (B := H9) fun x hx => by rw [hH9]; simp [hx]
    have hx2 := hA2.bs.mono (B := H9) fun x hx => by rw [hH9]; simp [hx]
    have hx3 := hC3.bs.mono (B := H9) fun x hx => by rw [hH9]; simp [hx]
    have hx4 := (hv.mono (B := H9) fun x hx => by rw [hH9]; simp [hx]).upto (j := min bs.length 3) (by omega)
    have hsubl : H.Sublist H9 := by rw [hH9]; (repeat (first | exact List.Sublist.refl _ | exact List.nil_sublist _ | apply List.Sublist.cons_cons | apply List.Sublist.cons | apply List.sublist_append_of_sublist_right))
    rw [← hH9]
    refine WL.y rfl (Yd.move rfl) ?_
    refine WL.y rfl (Yd.extract rfl rfl) ?_
    refine WL.y rfl (Yd.extract rfl rfl) ?_
    refine WL.y rfl (Yd.assign rfl) ?_
    refine WL.y rfl (Yd.assign rfl) ?_
    refine WL.nil ?_
    refine DN.then_normal ?_
    refine WC.seq ?_
    refine WC.region ?_
    refine WL.y rfl (Yd.move rfl) ?_
    refine WL.r rfl (Ent.func Try.call26 rfl) (holds_reads _ _ _ hx1 (by rw [le4_bound]; omega)) ?_
    refine WL.renamed (t := 60) (v := .bool true) rfl (congrArg Value.bool (holds_own1 bs)) ?_
    refine WL.y rfl (Yd.move rfl) ?_
    refine WL.gy (dj := 61) rfl rfl rfl (Yd.move rfl) ?_
    refine WL.gr (dj := 61) rfl rfl rfl (Ent.func Try.call26 rfl) (holds_reads _ _ _ hx2 (by rw [le4_bound]; omega)) ?_
    refine WL.gy (dj := 61) rfl rfl rfl (Yd.move rfl) ?_
    refine WL.gy (dj := 61) rfl rfl rfl (Yd.move rfl) ?_
    refine WL.gy (dj := 61) rfl rfl rfl (Yd.eql32 _ _ rfl rfl rfl rfl) ?_
    refine WL.gy (dj := 61) rfl rfl rfl (Yd.eqlB Try.underlying4 rfl rfl) ?_
    refine WL.renamed (t := 67) (v := .bool true) rfl (congrArg Value.bool (by rw [holds_own]; simp)) ?_
    refine WL.y rfl (Yd.pickT rfl rfl) ?_
    refine WL.y rfl (Yd.move rfl) ?_
    refine WL.gy (dj := 69) rfl rfl rfl (Yd.move rfl) ?_
    refine WL.gr (dj := 69) rfl rfl rfl (Ent.func Try.call26 rfl) (holds_reads _ _ _ hx3 (by rw [hL, le4_bound]; omega)) ?_
    refine WL.gy (dj := 69) rfl rfl rfl (Yd.move rfl) ?_
    refine WL.gy (dj := 69) rfl rfl rfl (Yd.notB rfl) ?_
    refine WL.gy (dj := 69) rfl rfl rfl (Yd.eqlB Try.underlying4 rfl rfl) ?_
    refine WL.renamed (t := 74) (v := .bool true) rfl (congrArg Value.bool (holds_turned1 bs at_ by_ h3)) ?_
    refine WL.y rfl (Yd.pickT rfl rfl) ?_
    refine WL.y rfl (Yd.move rfl) ?_
    refine WL.gy (dj := 76) rfl rfl rfl (Yd.move rfl) ?_
    refine WL.gy (dj := 76) rfl rfl rfl (Yd.move rfl) ?_
    refine WL.gy (dj := 76) rfl rfl rfl (Yd.len (e := 5) (by kernel_rfl) rfl) ?_
    refine WL.gy (dj := 76) rfl rfl rfl (Yd.min2 rfl rfl) ?_
    refine WL.gy (dj := 76) rfl rfl rfl (Yd.sliceTo (e := 5) (s := 1) (j := min bs.length 3) (by kernel_rfl) (by kernel_rfl) rfl rfl (by omega) (by omega)) ?_
    refine WL.gr (dj := 76) rfl rfl rfl (Ent.func Try.call26 rfl) (holds_reads _ (bs.take (min bs.length 3)) _ hx4 (by simp; omega)) ?_
    refine WL.gy (dj := 76) rfl rfl rfl (Yd.notB rfl) ?_
    refine WL.renamed (t := 83) (v := .bool true) rfl (congrArg Value.bool (by rw [crcHolds_short (by simp; omega)]; rfl)) ?_
    refine WL.y rfl (Yd.pickT rfl rfl) ?_
    refine WL.y rfl (Yd.move rfl) ?_
    refine WL.gr (dj := 85) rfl rfl rfl (Ent.func Try.call17 rfl) (known02 _) ?_
    refine WL.y rfl (Yd.pickT rfl rfl) ?_
    refine WL.y rfl (Yd.assign rfl) ?_
    refine WL.nil ?_
    refine DN.then_normal ?_
    refine WC.ret ?_
    refine DN.forget H (by first | exact List.Sublist.refl _ | exact hsubl) ?_
    refine DN.ret1 Try.results8 rfl ?_
    exact ⟨rfl, rfl⟩

end Go.Proofs.Ytfacofbobmlmiaa
