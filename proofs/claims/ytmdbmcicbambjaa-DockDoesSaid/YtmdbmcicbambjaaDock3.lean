/-
  The walks of the dock's laws, continued: what is done, the rooms told.
-/
import Derived.Test.YtmdbmcicbambjaaDock2
import Derived.Test.YtmdbmcicbambjaaDockMath2
set_option linter.unusedVariables false
set_option linter.unusedSimpArgs false
set_option maxHeartbeats 4000000
namespace Go.Proofs.Ytmdbmcicbambjaa
open Go.SL


/-- drayage/drayagelaw11.act -/
theorem act_tells (p : Nat) (first rs : List Int) (L : List Bk) (C : List Ck) (h : DockAt 55 3 p rs L C) (inv : DInv first rs L) (k : Int) (o : BitVec 32) (from_ n : Int) : Tells Try.prog 11 [.pointer (some ⟨p, 0, none⟩), .agg #[.int .i64 k, .int .u32 o.toNat, .int .i64 from_, .int .i64 n]] C fun r H' => ∃ rs' L', DockAt 55 3 p rs' L' H' ∧ DInv first rs' L' := by
  refine Tells.enter Try.func11 rfl Try.ntmps11 rfl ?_
  intro w0 R
  refine WC.seq ?_
  refine WC.region ?_
  refine WL.h rfl (Hd.box rfl fun b3 => ⟨_, rfl, WL.blocks (row b3 [.int .i64 k, .int .u32 o.toNat, .int .i64 from_, .int .i64 n] 33 :: C) (List.Perm.refl _) ?_⟩)
  refine WL.y rfl (Yd.assign rfl) ?_
  refine WL.y rfl (Yd.assign rfl) ?_
  refine WL.nil ?_
  refine DN.then_normal ?_
  refine WC.seq ?_
  refine WC.seq ?_
  refine WC.region ?_
  refine WL.y rfl (Yd.fieldAddr (k := 0) (by kernel_rfl) rfl) ?_
  refine WL.h rfl (Hd.load1 (v := .int .i64 k) (b := b3) (cs := [.int .i64 k, .int .u32 o.toNat, .int .i64 from_, .int .i64 n]) (by kernel_rfl) rfl List.mem_cons_self rfl ⟨_, rfl, ?_⟩)
  refine WL.y rfl (Yd.geq rfl rfl) ?_
  refine WL.y rfl (Yd.move rfl) ?_
  refine WL.partP (t := 9) rfl (fun hg9 => ?_) (fun hg9 => ?_)
  · refine WL.gy (dj := 9) rfl rfl rfl (Yd.fieldAddr (k := 0) (by kernel_rfl) rfl) ?_
    refine WL.gh (dj := 9) rfl rfl rfl (Hd.load1 (v := .int .i64 k) (b := b3) (cs := [.int .i64 k, .int .u32 o.toNat, .int .i64 from_, .int .i64 n]) (by kernel_rfl) rfl List.mem_cons_self rfl ⟨_, rfl, ?_⟩)
    refine WL.gy (dj := 9) rfl rfl rfl (Yd.leq rfl rfl) ?_
    refine WL.y rfl (Yd.pickT rfl rfl) ?_
    refine WL.nil ?_
    refine DN.then_normal ?_
    refine WC.ite rfl (fun h13 => ?_) (fun h13 => ?_)
    · refine WC.seq ?_
      refine WC.region ?_
      refine WL.y rfl (Yd.move rfl) ?_
      refine WL.y rfl (Yd.fieldAddr (k := 1) (by kernel_rfl) rfl) ?_
      refine WL.h rfl (Hd.load1 (v := .int .u32 o.toNat) (b := b3) (cs := [.int .i64 k, .int .u32 o.toNat, .int .i64 from_, .int .i64 n]) (by kernel_rfl) rfl List.mem_cons_self rfl ⟨_, rfl, ?_⟩)
      refine WL.y rfl (Yd.fieldAddr (k := 2) (by kernel_rfl) rfl) ?_
      refine WL.h rfl (Hd.load1 (v := .int .i64 from_) (b := b3) (cs := [.int .i64 k, .int .u32 o.toNat, .int .i64 from_, .int .i64 n]) (by kernel_rfl) rfl List.mem_cons_self rfl ⟨_, rfl, ?_⟩)
      refine WL.y rfl (Yd.fieldAddr (k := 3) (by kernel_rfl) rfl) ?_
      refine WL.h rfl (Hd.load1 (v := .int .i64 n) (b := b3) (cs := [.int .i64 k, .int .u32 o.toNat, .int .i64 from_, .int .i64 n]) (by kernel_rfl) rfl List.mem_cons_self rfl ⟨_, rfl, ?_⟩)
      refine WL.c (D := [row b3 [.int .i64 k, .int .u32 o.toNat, .int .i64 from_, .int .i64 n] 33]) rfl (Ent.func Try.call14 rfl) (book2_tells p rs L C h inv.rooms (by have := inv.len; have := inv.few; omega) o from_ n) (by classical exact List.perm_iff_count.2 fun q => by simp only [List.count_append, List.count_cons, List.count_nil]; omega) ?_
      rintro q C2 ⟨rfl, h2⟩
      refine WL.y rfl (Yd.extract rfl rfl) ?_
      refine WL.y rfl (Yd.extract rfl rfl) ?_
      refine WL.y rfl (Yd.assign rfl) ?_
      refine WL.y rfl (Yd.assign rfl) ?_
      refine WL.nil ?_
      refine DN.then_normal ?_
      refine WC.ret ?_
      refine DN.then_ret ?_
      refine DN.forget C2 (List.sublist_append_left _ _) ?_
      refine DN.ret2 Try.results11 rfl rfl ?_
      exact ⟨_, _, h2, inv.book o from_ n⟩
    · refine WC.skip ?_
      refine DN.then_normal ?_
      refine WC.seq ?_
      refine WC.region ?_
      refine WL.y rfl (Yd.move rfl) ?_
      refine WL.y rfl (Yd.fieldAddr (k := 1) (by kernel_rfl) rfl) ?_
      refine WL.h rfl (Hd.load1 (v := .int .u32 o.toNat) (b := b3) (cs := [.int .i64 k, .int .u32 o.toNat, .int .i64 from_, .int .i64 n]) (by kernel_rfl) rfl List.mem_cons_self rfl ⟨_, rfl, ?_⟩)
      refine WL.c (D := [row b3 [.int .i64 k, .int .u32 o.toNat, .int .i64 from_, .int .i64 n] 33]) rfl (Ent.func Try.call12 rfl) (cancel2_tells p rs L C h o (inv.cancelOk o)) (by classical exact List.perm_iff_count.2 fun q => by simp only [List.count_append, List.count_cons, List.count_nil]; omega) ?_
      rintro q C2 ⟨rfl, h2⟩
      refine WL.y rfl (Yd.assign rfl) ?_
      refine WL.y rfl (Yd.assign rfl) ?_
      refine WL.nil ?_
      refine DN.then_normal ?_
      refine WC.ret ?_
      refine DN.forget C2 (List.sublist_append_left _ _) ?_
      refine DN.ret2 Try.results11 rfl rfl ?_
      exact ⟨_, _, h2, inv.cancel o⟩
  · refine WL.gn (dj := 9) rfl rfl rfl rfl ?_
    refine WL.gn (dj := 9) rfl rfl rfl rfl ?_
    refine WL.gn (dj := 9) rfl rfl rfl rfl ?_
    refine WL.y rfl (Yd.pickF rfl rfl) ?_
    refine WL.nil ?_
    refine DN.then_normal ?_
    refine WC.no rfl ?_
    refine WC.skip ?_
    refine DN.then_normal ?_
    refine WC.seq ?_
    refine WC.region ?_
    refine WL.y rfl (Yd.move rfl) ?_
    refine WL.y rfl (Yd.fieldAddr (k := 1) (by kernel_rfl) rfl) ?_
    refine WL.h rfl (Hd.load1 (v := .int .u32 o.toNat) (b := b3) (cs := [.int .i64 k, .int .u32 o.toNat, .int .i64 from_, .int .i64 n]) (by kernel_rfl) rfl List.mem_cons_self rfl ⟨_, rfl, ?_⟩)
    refine WL.c (D := [row b3 [.int .i64 k, .int .u32 o.toNat, .int .i64 from_, .int .i64 n] 33]) rfl (Ent.func Try.call12 rfl) (cancel2_tells p rs L C h o (inv.cancelOk o)) (by classical exact List.perm_iff_count.2 fun q => by simp only [List.count_append, List.count_cons, List.count_nil]; omega) ?_
    rintro q C2 ⟨rfl, h2⟩
    refine WL.y rfl (Yd.assign rfl) ?_
    refine WL.y rfl (Yd.assign rfl) ?_
    refine WL.nil ?_
    refine DN.then_normal ?_
    refine WC.ret ?_
    refine DN.forget C2 (List.sublist_append_left _ _) ?_
    refine DN.ret2 Try.results11 rfl rfl ?_
    exact ⟨_, _, h2, inv.cancel o⟩


/-- the rooms as they are told: from the day before the first on, to the day behind the last -/
def told (rs : List Int) (k : Nat) : List Int := (List.range k).map fun (i : Nat) => roomOf rs ((i : Int) - 1)
theorem told_length (rs : List Int) (k : Nat) : (told rs k).length = k := by simp [told]
theorem told_next (rs : List Int) (k : Nat) : told rs (k + 1) = told rs k ++ [roomOf rs ((k : Int) - 1)] := by simp [told, List.range_succ]


/-- drayage/drayagelaw11.rooms -/
theorem rooms_tells (p : Nat) (rs : List Int) (L : List Bk) (C : List Ck) (h : DockAt 55 3 p rs L C) (N : Nat) (hN : N ≤ 1000) : Tells Try.prog 13 [.pointer (some ⟨p, 0, none⟩), .int .i64 N] C fun r H' => ∃ D, Own r (N + 2) (ic (told rs (N + 2))) 3 1 D ∧ H' = D ++ C := by
  refine Tells.enter Try.func13 rfl Try.ntmps13 rfl ?_
  intro w0 R
  refine WC.seq ?_
  refine WC.region ?_
  refine WL.y rfl (Yd.assign rfl) ?_
  refine WL.nil ?_
  refine DN.then_normal ?_
  refine WC.seq ?_
  refine WC.region ?_
  refine WL.y rfl (Yd.assign rfl) ?_
  refine WL.nil ?_
  refine DN.then_normal ?_
  refine WC.seq ?_
  refine WC.seq ?_
  refine WC.region ?_
  refine WL.y rfl (Yd.assign rfl) ?_
  refine WL.nil ?_
  refine DN.then_normal ?_
  refine WC.block ?_
  refine WC.loop (fun z : Nat × Value × List Ck => z.1 ≤ N + 2 ∧ Own z.2.1 z.1 (ic (told rs z.1)) 3 1 z.2.2) (fun z => [(0, .pointer (some ⟨p, 0, none⟩)), (1, .int .i64 N), (5, z.2.1), (6, .int .i64 ((z.1 : Int) - 1))]) (fun z => z.2.2 ++ C) (fun z => N + 2 - z.1) (0, .slice none 0 0, []) ⟨Nat.zero_le _, Own.nil _ _⟩ ⟨rfl, rfl, rfl, rfl, trivial⟩ (List.Perm.refl _) ?_
  rintro ⟨i, v, D⟩ ⟨hi, ho⟩
  simp only at hi ho
  refine WC.seq ?_
  refine WC.seq ?_
  refine WC.region ?_
  refine WL.y rfl (Yd.move rfl) ?_
  refine WL.y rfl (Yd.move rfl) ?_
  refine WL.y rfl (Yd.leq rfl rfl) ?_
  refine WL.nil ?_
  refine DN.then_normal ?_
  refine WC.ite rfl (fun h9 => ?_) (fun h9 => ?_)
  · have hlt : i < N + 2 := by omega
    refine WC.skip ?_
    refine DN.then_normal ?_
    refine WC.seq ?_
    refine WC.block ?_
    refine WC.region ?_
    refine WL.y rfl (Yd.move rfl) ?_
    refine WL.y rfl (Yd.move rfl) ?_
    refine WL.y rfl (Yd.move rfl) ?_
    refine WL.c (D := D) rfl (Ent.func Try.call15 rfl) (room_reads p rs L C h ((i : Int) - 1)) List.perm_append_comm ?_
    rintro q C2 ⟨rfl, hC2⟩
    rw [hC2]
    refine WL.blocks (D ++ C) List.perm_append_comm ?_
    refine WL.h rfl (Hd.build1 (e := 3) (z := .int .i64 0) (by kernel_rfl) (by kernel_rfl) (by kernel_rfl) rfl rfl fun rb => ⟨_, rfl, ?_⟩)
    refine WL.h rfl (Hd.append (e := 3) (sz := 1) (bytes := 8) (zs := [.int .i64 0]) (C := D) (D := row rb [.int .i64 (roomOf rs ((i : Int) - 1))] 3 :: C) (m := 1) (news := ic [roomOf rs ((i : Int) - 1)]) (by kernel_rfl) (by kernel_rfl) rfl (by omega) rfl rfl ho (.inr ⟨rb, 0, 1, [.int .i64 (roomOf rs ((i : Int) - 1))], 3, (0, 0), true, rfl, by omega, List.mem_append_right _ List.mem_cons_self, rfl⟩) rfl (ic_one _) (by simp only [maxLen]; omega) (by omega) (List.perm_middle).symm fun v2 D2 ho2 _ => ⟨_, rfl, ?_⟩)
    refine WL.y rfl (Yd.assign rfl) ?_
    refine WL.nil ?_
    refine DN.block_normal ?_
    refine DN.then_normal ?_
    refine WC.region ?_
    refine WL.y rfl (Yd.move rfl) ?_
    refine WL.y rfl (Yd.add rfl rfl (by omega) (by omega)) ?_
    refine WL.y rfl (Yd.assign rfl) ?_
    refine WL.nil ?_
    refine DN.forget (D2 ++ C) (List.Sublist.append (List.Sublist.refl _) (List.sublist_cons_self _ _)) ?_
    exact DN.again (i + 1, v2, D2) ⟨by show i + 1 ≤ N + 2; omega, by rw [told_next, ic_append]; exact ho2⟩ (by show N + 2 - (i + 1) < N + 2 - i; omega) ⟨rfl, rfl, rfl, by show some (Value.int .i64 ((i : Int) - 1 + 1)) = some (Value.int .i64 (((i + 1 : Nat) : Int) - 1)); congr 2; omega, trivial⟩ (List.Perm.refl _)
  · have hie : i = N + 2 := by omega
    subst hie
    refine WC.exit ?_
    refine DN.then_exit ?_
    refine DN.then_exit ?_
    refine DN.block_exit ?_
    refine DN.then_normal ?_
    refine WC.seq ?_
    refine WC.region ?_
    refine WL.y rfl (Yd.move rfl) ?_
    refine WL.y rfl (Yd.assign rfl) ?_
    refine WL.nil ?_
    refine DN.then_normal ?_
    refine WC.ret ?_
    refine DN.ret1 Try.results13 rfl ?_
    exact ⟨D, ho, rfl⟩

end Go.Proofs.Ytmdbmcicbambjaa
