import Derived.Test.YtfacofbobmlmiaaRows
import Derived.Test.YtfacofbobmlmiaaSLOps
import Derived.Test.YtfacofbobmlmiaaSumMath
set_option linter.unusedVariables false
set_option linter.unusedSimpArgs false
namespace Go.Proofs.Ytfacofbobmlmiaa
open Go.SL Go.Sum


/-- drayage/sum.step -/
theorem step_reads (a : B32) (H : List Ck) : Reads Try.prog 41 [.int .u32 a.toNat] H (.int .u32 (crcStep a).toNat) := by
  refine Tells.enter Try.func41 rfl Try.ntmps41 rfl ?_
  intro w0 R
  refine WC.seq ?_
  refine WC.region ?_
  refine WL.y rfl (Yd.assign (v := .int .u32 ((0#32).toNat : Int)) rfl) ?_
  refine WL.nil ?_
  refine DN.then_normal ?_
  refine WC.seq ?_
  refine WC.seq ?_
  refine WC.region ?_
  refine WL.y rfl (Yd.move rfl) ?_
  refine WL.y rfl (Yd.and32 _ (1#32) rfl rfl rfl rfl) ?_
  refine WL.y rfl (Yd.eql32 _ (1#32) rfl rfl rfl rfl) ?_
  refine WL.nil ?_
  refine DN.then_normal ?_
  refine WC.ite rfl (fun h5 => ?_) (fun h5 => ?_)
  · refine WC.seq ?_
    refine WC.region ?_
    refine WL.y rfl (Yd.move rfl) ?_
    refine WL.y rfl (Yd.shr32 _ 1 rfl rfl rfl rfl) ?_
    refine WL.y rfl (Yd.xor32 _ (3988292384#32) rfl rfl rfl rfl) ?_
    refine WL.y rfl (Yd.assign rfl) ?_
    refine WL.nil ?_
    refine DN.then_normal ?_
    refine WC.ret ?_
    refine DN.then_ret ?_
    refine DN.ret1 Try.results41 rfl ?_
    exact ⟨by rw [crcStep, if_pos h5], rfl⟩
  · refine WC.skip ?_
    refine DN.then_normal ?_
    refine WC.seq ?_
    refine WC.region ?_
    refine WL.y rfl (Yd.move rfl) ?_
    refine WL.y rfl (Yd.shr32 _ 1 rfl rfl rfl rfl) ?_
    refine WL.y rfl (Yd.assign rfl) ?_
    refine WL.nil ?_
    refine DN.then_normal ?_
    refine WC.ret ?_
    refine DN.ret1 Try.results41 rfl ?_
    exact ⟨by rw [crcStep, if_neg h5], rfl⟩

/-- drayage/sum.More -/
theorem more_reads (s : B32) (v : Value) (l : List B8) (H : List Ck) (hv : Bs v l H) (hl : l.length ≤ 9223372036854775807) : Reads Try.prog 22 [.int .u32 s.toNat, v] H (.int .u32 (crcMore s l).toNat) := by
  obtain ⟨ao, c, rfl, hc⟩ := Rs.form hv
  refine Tells.enter Try.func22 rfl Try.ntmps22 rfl ?_
  intro w0 R
  refine WC.seq ?_
  refine WC.region ?_
  refine WL.y rfl (Yd.assign (v := .int .u32 ((0#32).toNat : Int)) rfl) ?_
  refine WL.nil ?_
  refine DN.then_normal ?_
  refine WC.seq ?_
  refine WC.region ?_
  refine WL.y rfl (Yd.move rfl) ?_
  refine WL.y rfl (Yd.not32 _ rfl rfl) ?_
  refine WL.y rfl (Yd.assign rfl) ?_
  refine WL.nil ?_
  refine DN.then_normal ?_
  refine WC.seq ?_
  refine WC.seq ?_
  refine WC.region ?_
  refine WL.y rfl (Yd.move rfl) ?_
  refine WL.y rfl (Yd.len (e := 5) (by kernel_rfl) rfl) ?_
  refine WL.y rfl (Yd.move rfl) ?_
  refine WL.nil ?_
  refine DN.then_normal ?_
  refine WC.block ?_
  refine WC.loop (fun k : Nat => k ≤ l.length) (fun k => [(5, .int .u32 (crcRun (~~~ s) (l.take k)).toNat), (10, .slice ao l.length c), (11, .int .i64 l.length), (12, .int .i64 k)]) (fun _ => H) (fun k => l.length - k) 0 (Nat.zero_le _) ⟨rfl, rfl, rfl, rfl, trivial⟩ (List.Perm.refl _) ?_
  intro k hk
  refine WC.seq ?_
  refine WC.region ?_
  refine WL.y rfl (Yd.lss rfl rfl) ?_
  refine WL.nil ?_
  refine DN.then_normal ?_
  refine WC.seq ?_
  refine WC.ite rfl (fun h13 => ?_) (fun h13 => ?_)
  · have hkl : k < l.length := by omega
    refine WC.skip ?_
    refine DN.then_normal ?_
    refine WC.seq ?_
    refine WC.block ?_
    refine WC.seq ?_
    refine WC.region ?_
    refine WL.elem (e := 5) (by kernel_rfl) (by kernel_rfl) (by kernel_rfl) rfl rfl rfl hv (bc_get hkl) hkl rfl rfl ?_
    intro _
    refine WL.y rfl (Yd.assign rfl) ?_
    refine WL.nil ?_
    refine DN.then_normal ?_
    refine WC.seq ?_
    refine WC.region ?_
    refine WL.y rfl (Yd.move rfl) ?_
    refine WL.y rfl (Yd.move rfl) ?_
    refine WL.y rfl (Yd.conv8_32 _ (by kernel_rfl) (by kernel_rfl) rfl rfl) ?_
    refine WL.y rfl (Yd.xor32 _ _ rfl rfl rfl rfl) ?_
    refine WL.y rfl (Yd.assign rfl) ?_
    refine WL.nil ?_
    refine DN.then_normal ?_
    refine WC.seq ?_
    refine WC.region ?_
    refine WL.y rfl (Yd.move rfl) ?_
    refine WL.nil ?_
    refine DN.then_normal ?_
    refine WC.block ?_
    refine WC.loop (fun j : Nat => j ≤ 8) (fun j => [(5, .int .u32 (crcSteps j (crcRun (~~~ s) (l.take k) ^^^ l[k].setWidth 32)).toNat), (10, .slice ao l.length c), (11, .int .i64 l.length), (12, .int .i64 k), (20, .int .i64 j)]) (fun _ => H) (fun j => 8 - j) 0 (by omega) ⟨rfl, rfl, rfl, rfl, rfl, trivial⟩ (List.Perm.refl _) ?_
    intro j hj
    refine WC.seq ?_
    refine WC.region ?_
    refine WL.y rfl (Yd.lss rfl rfl) ?_
    refine WL.nil ?_
    refine DN.then_normal ?_
    refine WC.seq ?_
    refine WC.ite rfl (fun h21 => ?_) (fun h21 => ?_)
    · refine WC.skip ?_
      refine DN.then_normal ?_
      refine WC.seq ?_
      refine WC.block ?_
      refine WC.region ?_
      refine WL.y rfl (Yd.move rfl) ?_
      refine WL.r rfl (Ent.func Try.call41 rfl) (step_reads _ _) ?_
      refine WL.y rfl (Yd.assign rfl) ?_
      refine WL.nil ?_
      refine DN.block_normal ?_
      refine DN.then_normal ?_
      refine WC.region ?_
      refine WL.y rfl (Yd.add rfl rfl (by omega) (by omega)) ?_
      refine WL.y rfl (Yd.move rfl) ?_
      refine WL.nil ?_
      exact DN.again (j + 1) (by omega) (by omega) ⟨rfl, rfl, rfl, rfl, rfl, trivial⟩ (List.Perm.refl _)
    · have hj8 : j = 8 := by omega
      subst hj8
      refine WC.exit ?_
      refine DN.then_exit ?_
      refine DN.then_exit ?_
      refine DN.block_exit ?_
      refine DN.block_normal ?_
      refine DN.then_normal ?_
      refine WC.region ?_
      refine WL.y rfl (Yd.add rfl rfl (by omega) (by omega)) ?_
      refine WL.y rfl (Yd.move rfl) ?_
      refine WL.nil ?_
      exact DN.again (k + 1) (by omega) (by omega) ⟨by rw [crcRun_take_succ _ _ _ hkl]; rfl, rfl, rfl, rfl, trivial⟩ (List.Perm.refl _)
  · refine WC.exit ?_
    refine DN.then_exit ?_
    refine DN.then_exit ?_
    refine DN.block_exit ?_
    refine DN.then_normal ?_
    refine WC.seq ?_
    refine WC.region ?_
    refine WL.y rfl (Yd.move rfl) ?_
    refine WL.y rfl (Yd.not32 _ rfl rfl) ?_
    refine WL.y rfl (Yd.assign rfl) ?_
    refine WL.nil ?_
    refine DN.then_normal ?_
    refine WC.ret ?_
    refine DN.ret1 Try.results22 rfl ?_
    exact ⟨by rw [crcMore, List.take_of_length_le (by omega)], rfl⟩

/-- drayage/sum.Of -/
theorem of_reads (v : Value) (l : List B8) (H : List Ck) (hv : Bs v l H) (hl : l.length ≤ 9223372036854775807) : Reads Try.prog 19 [v] H (.int .u32 (crcOf l).toNat) := by
  refine Tells.enter Try.func19 rfl Try.ntmps19 rfl ?_
  intro w0 R
  refine WC.seq ?_
  refine WC.region ?_
  refine WL.y rfl (Yd.assign (v := .int .u32 ((0#32).toNat : Int)) rfl) ?_
  refine WL.nil ?_
  refine DN.then_normal ?_
  refine WC.seq ?_
  refine WC.region ?_
  refine WL.y rfl (Yd.move rfl) ?_
  refine WL.r rfl (Ent.func Try.call22 rfl) (more_reads 0#32 _ _ _ hv hl) ?_
  refine WL.y rfl (Yd.assign rfl) ?_
  refine WL.nil ?_
  refine DN.then_normal ?_
  refine WC.ret ?_
  refine DN.ret1 Try.results19 rfl ?_
  exact ⟨rfl, rfl⟩


/-- the cells of a table -/
def wc (m : List B32) : List Value := m.map fun x => .int .u32 x.toNat
theorem wc_length (m : List B32) : (wc m).length = m.length := by simp [wc]
theorem wc_get (m : List B32) (i : Nat) (h : i < m.length) : (wc m)[i]? = some (.int .u32 (m.getD i 0#32).toNat) := by simp [wc, h]
theorem take_wc {m : List B32} (h : m.length = 32) : ((wc m).drop 0).take 32 = wc m := by
  rw [List.drop_zero]; exact List.take_of_length_le (by rw [wc_length, h]; omega)
theorem wc_one (m : List B32) : ∀ u ∈ wc m, u.oneCell' = true := by
  intro u hu
  simp [wc] at hu
  obtain ⟨x, _, rfl⟩ := hu
  rfl
theorem wc_set (m : List B32) (i : Nat) (x : B32) : (wc m).set i (.int .u32 x.toNat) = wc (m.set i x) := by simp [wc, List.map_set]
/-- the first k of f's values, the others as in m -/
def fillK (f : Nat → B32) (m : List B32) (k : Nat) : List B32 := (List.range m.length).map fun i => if i < k then f i else m.getD i 0#32
theorem fillK_length (f : Nat → B32) (m : List B32) (k : Nat) : (fillK f m k).length = m.length := by simp [fillK]
theorem fillK_zero (f : Nat → B32) (m : List B32) : fillK f m 0 = m := by
  apply List.ext_getElem
  · simp [fillK]
  · intro i h1 h2; simp [fillK, List.getD, h2]
theorem fillK_succ (f : Nat → B32) (m : List B32) (k : Nat) (hk : k < m.length) : (fillK f m k).set k (f k) = fillK f m (k + 1) := by
  apply List.ext_getElem
  · simp [fillK]
  · intro i h1 h2
    simp only [fillK, List.getElem_set, List.getElem_map, List.getElem_range]
    by_cases h : k = i
    · subst h; simp
    · rw [if_neg h]
      by_cases h3 : i < k
      · rw [if_pos h3, if_pos (by omega)]
      · rw [if_neg h3, if_neg (by omega)]
theorem twice_stands {m : List B32} {e : Nat} (hm : Stands m (crcSteps (8 * 2 ^ e))) {tw : Nat → B32} (h : tw = fun j => tab m (m.getD j 0#32)) : Stands (fillK tw (List.replicate 32 0#32) 32) (crcSteps (8 * 2 ^ (e + 1))) := by
  refine ⟨by rw [fillK_length]; rfl, fun i hi => ?_⟩
  have h1 : (fillK tw (List.replicate 32 0#32) 32).getD i 0#32 = tw i := by simp only [fillK, List.getD]; simp [hi]
  rw [h1, h]
  simp only []
  rw [tab_stands hm (linear_steps _), hm.bit i hi, ← crcSteps_add]
  congr 1
  rw [Nat.pow_succ]
  omega
theorem fillK_stands (f : B32 → B32) (m : List B32) (hm : m.length = 32) : Stands (fillK (fun i => f (1#32 <<< i)) m 32) f :=
  ⟨by rw [fillK_length, hm], fun i hi => by simp [fillK, List.getD, hm, hi]⟩


/-- drayage/sum.times -/
theorem times_reads (m : List B32) (hm : m.length = 32) (r : B32) (H : List Ck) : Reads Try.prog 42 [.agg (wc m).toArray, .int .u32 r.toNat] H (.int .u32 (tab m r).toNat) := by
  refine Tells.enter Try.func42 rfl Try.ntmps42 rfl ?_
  intro w0 R
  refine WC.seq ?_
  refine WC.region ?_
  refine WL.h rfl (Hd.box rfl fun b => ⟨_, rfl, ?_⟩)
  refine WL.blocks (row b (wc m) 67 :: H) (by simp [Value.cells]) ?_
  refine WL.y rfl (Yd.assign (v := .int .u32 ((0#32).toNat : Int)) rfl) ?_
  refine WL.nil ?_
  refine DN.then_normal ?_
  refine WC.seq ?_
  refine WC.region ?_
  refine WL.y rfl (Yd.assign (v := .int .u32 ((0#32).toNat : Int)) rfl) ?_
  refine WL.nil ?_
  refine DN.then_normal ?_
  refine WC.seq ?_
  refine WC.seq ?_
  refine WC.region ?_
  refine WL.y rfl (Yd.move rfl) ?_
  refine WL.nil ?_
  refine DN.then_normal ?_
  refine WC.block ?_
  refine WC.loop (fun k : Nat => k ≤ 32) (fun k => [(1, .int .u32 r.toNat), (2, .pointer (some ⟨b, 0, none⟩)), (5, .int .u32 (tabK m r k).toNat), (7, .int .i64 k)]) (fun _ => row b (wc m) 67 :: H) (fun k => 32 - k) 0 (Nat.zero_le _) ⟨rfl, rfl, rfl, rfl, trivial⟩ (List.Perm.refl _) ?_
  intro k hk
  refine WC.seq ?_
  refine WC.region ?_
  refine WL.y rfl (Yd.lss rfl rfl) ?_
  refine WL.nil ?_
  refine DN.then_normal ?_
  refine WC.seq ?_
  refine WC.ite rfl (fun h8 => ?_) (fun h8 => ?_)
  · refine WC.skip ?_
    refine DN.then_normal ?_
    refine WC.seq ?_
    refine WC.block ?_
    refine WC.seq ?_
    refine WC.region ?_
    refine WL.y rfl (Yd.move rfl) ?_
    refine WL.y rfl (Yd.assign rfl) ?_
    refine WL.nil ?_
    refine DN.then_normal ?_
    refine WC.seq ?_
    refine WC.region ?_
    refine WL.y rfl (Yd.move rfl) ?_
    refine WL.y rfl (Yd.move rfl) ?_
    refine WL.y rfl (Yd.shr32 _ k rfl rfl rfl rfl) ?_
    refine WL.y rfl (Yd.and32 _ (1#32) rfl rfl rfl rfl) ?_
    refine WL.y rfl (Yd.eql32 _ (1#32) rfl rfl rfl rfl) ?_
    refine WL.nil ?_
    refine DN.then_normal ?_
    refine WC.ite rfl (fun h14 => ?_) (fun h14 => ?_)
    · refine WC.region ?_
      refine WL.y rfl (Yd.move rfl) ?_
      refine WL.y rfl (Yd.move rfl) ?_
      refine WL.y rfl (Yd.indexArr (n := 32) (e := 25) (s := 1) (by kernel_rfl) (by kernel_rfl) rfl rfl (by omega) (by omega)) ?_
      refine WL.h rfl (Hd.load1 (b := b) (cs := wc m) (by kernel_rfl) rfl List.mem_cons_self (by simpa using wc_get m k (by omega)) ⟨_, rfl, ?_⟩)
      refine WL.y rfl (Yd.xor32 _ _ rfl rfl rfl rfl) ?_
      refine WL.y rfl (Yd.assign rfl) ?_
      refine WL.nil ?_
      refine DN.block_normal ?_
      refine DN.then_normal ?_
      refine WC.region ?_
      refine WL.y rfl (Yd.add rfl rfl (by omega) (by omega)) ?_
      refine WL.y rfl (Yd.move rfl) ?_
      refine WL.nil ?_
      exact DN.again (k + 1) (by omega) (by omega) ⟨rfl, rfl, by simp only [tabK, if_pos h14]; rfl, rfl, trivial⟩ (List.Perm.refl _)
    · refine WC.skip ?_
      refine DN.block_normal ?_
      refine DN.then_normal ?_
      refine WC.region ?_
      refine WL.y rfl (Yd.add rfl rfl (by omega) (by omega)) ?_
      refine WL.y rfl (Yd.move rfl) ?_
      refine WL.nil ?_
      exact DN.again (k + 1) (by omega) (by omega) ⟨rfl, rfl, by simp only [tabK, if_neg h14]; rfl, rfl, trivial⟩ (List.Perm.refl _)
  · have hk32 : k = 32 := by omega
    subst hk32
    refine WC.exit ?_
    refine DN.then_exit ?_
    refine DN.then_exit ?_
    refine DN.block_exit ?_
    refine DN.then_normal ?_
    refine WC.seq ?_
    refine WC.region ?_
    refine WL.y rfl (Yd.move rfl) ?_
    refine WL.y rfl (Yd.assign rfl) ?_
    refine WL.nil ?_
    refine DN.then_normal ?_
    refine WC.ret ?_
    refine DN.forget H (List.sublist_cons_self _ _) ?_
    refine DN.ret1 Try.results42 rfl ?_
    exact ⟨rfl, rfl⟩

/-- drayage/sum.Join -/
theorem join_reads (a b : B32) (n : BitVec 64) (H : List Ck) : Reads Try.prog 23 [.int .u32 a.toNat, .int .u32 b.toNat, .int .u64 n.toNat] H (.int .u32 (crcJoin a b n.toNat).toNat) := by
  refine Tells.enter Try.func23 rfl Try.ntmps23 rfl ?_
  intro w0 R
  refine WC.seq ?_
  refine WC.region ?_
  refine WL.y rfl (Yd.assign (v := .int .u32 ((0#32).toNat : Int)) rfl) ?_
  refine WL.nil ?_
  refine DN.then_normal ?_
  refine WC.seq ?_
  refine WC.region ?_
  refine WL.h rfl (Hd.alloc (zs := wc (List.replicate 32 0#32)) (by kernel_rfl) fun bm => ⟨_, rfl, ?_⟩)
  refine WL.nil ?_
  refine DN.then_normal ?_
  refine WC.seq ?_
  refine WC.seq ?_
  refine WC.region ?_
  refine WL.y rfl (Yd.move rfl) ?_
  refine WL.nil ?_
  refine DN.then_normal ?_
  refine WC.block ?_
  refine WC.loop (fun i : Nat => i ≤ 32) (fun i => [(0, .int .u32 a.toNat), (1, .int .u32 b.toNat), (2, .int .u64 n.toNat), (7, .pointer (some ⟨bm, 0, none⟩)), (12, .int .i64 i)]) (fun i => row bm (wc (fillK (fun i => crcSteps 8 (1#32 <<< i)) (List.replicate 32 0#32) i)) 67 :: H) (fun i => 32 - i) 0 (Nat.zero_le _) ⟨rfl, rfl, rfl, rfl, rfl, trivial⟩ (by rw [fillK_zero]) ?_
  intro i hi
  refine WC.seq ?_
  refine WC.region ?_
  refine WL.y rfl (Yd.lss rfl rfl) ?_
  refine WL.nil ?_
  refine DN.then_normal ?_
  refine WC.seq ?_
  refine WC.ite rfl (fun h13 => ?_) (fun h13 => ?_)
  · refine WC.skip ?_
    refine DN.then_normal ?_
    refine WC.seq ?_
    refine WC.block ?_
    refine WC.seq ?_
    refine WC.region ?_
    refine WL.y rfl (Yd.move rfl) ?_
    refine WL.y rfl (Yd.assign rfl) ?_
    refine WL.nil ?_
    refine DN.then_normal ?_
    refine WC.seq ?_
    refine WC.region ?_
    refine WL.y rfl (Yd.move rfl) ?_
    refine WL.y rfl (Yd.shl32 (1#32) i rfl rfl rfl rfl) ?_
    refine WL.y rfl (Yd.assign rfl) ?_
    refine WL.nil ?_
    refine DN.then_normal ?_
    refine WC.seq ?_
    refine WC.seq ?_
    refine WC.region ?_
    refine WL.y rfl (Yd.move rfl) ?_
    refine WL.nil ?_
    refine DN.then_normal ?_
    refine WC.block ?_
    refine WC.loop (fun k : Nat => k ≤ 8) (fun k => [(0, .int .u32 a.toNat), (1, .int .u32 b.toNat), (2, .int .u64 n.toNat), (7, .pointer (some ⟨bm, 0, none⟩)), (8, .int .i64 i), (9, .int .u32 (crcSteps k (1#32 <<< i)).toNat), (12, .int .i64 i), (17, .int .i64 k)]) (fun _ => row bm (wc (fillK (fun i => crcSteps 8 (1#32 <<< i)) (List.replicate 32 0#32) i)) 67 :: H) (fun k => 8 - k) 0 (Nat.zero_le _) ⟨rfl, rfl, rfl, rfl, rfl, rfl, rfl, rfl, trivial⟩ (List.Perm.refl _) ?_
    intro k hk
    refine WC.seq ?_
    refine WC.region ?_
    refine WL.y rfl (Yd.lss rfl rfl) ?_
    refine WL.nil ?_
    refine DN.then_normal ?_
    refine WC.seq ?_
    refine WC.ite rfl (fun h18 => ?_) (fun h18 => ?_)
    · refine WC.skip ?_
      refine DN.then_normal ?_
      refine WC.seq ?_
      refine WC.block ?_
      refine WC.region ?_
      refine WL.y rfl (Yd.move rfl) ?_
      refine WL.r rfl (Ent.func Try.call41 rfl) (step_reads _ _) ?_
      refine WL.y rfl (Yd.assign rfl) ?_
      refine WL.nil ?_
      refine DN.block_normal ?_
      refine DN.then_normal ?_
      refine WC.region ?_
      refine WL.y rfl (Yd.add rfl rfl (by omega) (by omega)) ?_
      refine WL.y rfl (Yd.move rfl) ?_
      refine WL.nil ?_
      exact DN.again (k + 1) (by omega) (by omega) ⟨rfl, rfl, rfl, rfl, rfl, rfl, rfl, rfl, trivial⟩ (List.Perm.refl _)
    · have hk8 : k = 8 := by omega
      subst hk8
      refine WC.exit ?_
      refine DN.then_exit ?_
      refine DN.then_exit ?_
      refine DN.block_exit ?_
      refine DN.then_normal ?_
      refine WC.region ?_
      refine WL.y rfl (Yd.move rfl) ?_
      refine WL.y rfl (Yd.move rfl) ?_
      refine WL.y rfl (Yd.indexArr (n := 32) (e := 25) (s := 1) (by kernel_rfl) (by kernel_rfl) rfl rfl (by omega) (by omega)) ?_
      refine WL.s (Hd.store1 (b := bm) (cs := wc (fillK (fun i => crcSteps 8 (1#32 <<< i)) (List.replicate 32 0#32) i)) (T' := 67) (D := H) (by kernel_rfl) rfl rfl rfl (List.Perm.refl _) (by simp [wc_length, fillK_length]; omega) ⟨rfl, ?_⟩)
      refine WL.nil ?_
      refine DN.block_normal ?_
      refine DN.then_normal ?_
      refine WC.region ?_
      refine WL.y rfl (Yd.add rfl rfl (by omega) (by omega)) ?_
      refine WL.y rfl (Yd.move rfl) ?_
      refine WL.nil ?_
      refine DN.again (i + 1) (by omega) (by omega) ⟨rfl, rfl, rfl, rfl, rfl, trivial⟩ ?_
      rw [← fillK_succ _ _ _ (by simp; omega), ← wc_set]
      simp
  · have hi32 : i = 32 := by omega
    subst hi32
    refine WC.exit ?_
    refine DN.then_exit ?_
    refine DN.then_exit ?_
    refine DN.block_exit ?_
    refine DN.then_normal ?_
    refine WC.seq ?_
    refine WC.block ?_
    refine WC.loop (fun z : Nat × B32 × BitVec 64 × List B32 => Stands z.2.2.2 (crcSteps (8 * 2 ^ z.1)) ∧ crcSteps (8 * 2 ^ z.1 * z.2.2.1.toNat) z.2.1 = crcSteps (8 * n.toNat) a) (fun z => [(0, .int .u32 z.2.1.toNat), (1, .int .u32 b.toNat), (2, .int .u64 z.2.2.1.toNat), (7, .pointer (some ⟨bm, 0, none⟩))]) (fun z => row bm (wc z.2.2.2) 67 :: H) (fun z => z.2.2.1.toNat) (0, a, n, fillK (fun i => crcSteps 8 (1#32 <<< i)) (List.replicate 32 0#32) 32) ⟨fillK_stands _ _ (by simp), by simp⟩ ⟨rfl, rfl, rfl, rfl, trivial⟩ (List.Perm.refl _) ?_
    rintro ⟨e, a', n', m⟩ ⟨hm, he⟩
    simp only at hm he
    refine WC.seq ?_
    refine WC.seq ?_
    refine WC.region ?_
    refine WL.y rfl (Yd.move rfl) ?_
    refine WL.y rfl (Yd.gtr rfl rfl) ?_
    refine WL.nil ?_
    refine DN.then_normal ?_
    refine WC.ite rfl (fun h27 => ?_) (fun h27 => ?_)
    · have hn0 : 0 < n'.toNat := by simpa using h27
      refine WC.skip ?_
      refine DN.then_normal ?_
      refine WC.seq ?_
      refine WC.block ?_
      refine WC.cut (fun a2 : B32 => crcSteps (8 * 2 ^ (e + 1) * (n' >>> 1).toNat) a2 = crcSteps (8 * n.toNat) a) (fun a2 => [(0, .int .u32 a2.toNat), (1, .int .u32 b.toNat), (2, .int .u64 n'.toNat), (7, .pointer (some ⟨bm, 0, none⟩))]) (fun _ => row bm (wc m) 67 :: H) ?_ ?_
      · refine WC.seq ?_
        refine WC.region ?_
        refine WL.y rfl (Yd.move rfl) ?_
        refine WL.y rfl (Yd.and64 _ (1#64) rfl rfl rfl rfl) ?_
        refine WL.y rfl (Yd.eql64 _ (1#64) rfl rfl rfl rfl) ?_
        refine WL.nil ?_
        refine DN.then_normal ?_
        refine WC.ite rfl (fun h32 => ?_) (fun h32 => ?_)
        · refine WC.region ?_
          refine WL.h rfl (Hd.loadA (n := 32) (b := bm) (cs := wc m) (vs := wc m) (by kernel_rfl) rfl List.mem_cons_self (by rw [wc_length, hm.len]) (take_wc hm.len) ⟨_, rfl, ?_⟩)
          refine WL.y rfl (Yd.move rfl) ?_
          refine WL.r rfl (Ent.func Try.call42 rfl) (times_reads _ hm.len _ _) ?_
          refine WL.y rfl (Yd.assign rfl) ?_
          refine WL.nil ?_
          exact DN.reach (tab m a') (by rw [tab_stands hm (linear_steps _), ← he]; exact join_odd e n' a' h32) ⟨rfl, rfl, rfl, rfl, trivial⟩ (List.Perm.refl _)
        · refine WC.skip ?_
          exact DN.reach a' (by rw [← he]; exact join_even e n' a' h32) ⟨rfl, rfl, rfl, rfl, trivial⟩ (List.Perm.refl _)
      · intro a2 hinv
        obtain ⟨tw, htw⟩ : ∃ tw : Nat → B32, tw = fun j => tab m (m.getD j 0#32) := ⟨_, rfl⟩
        refine WC.seq ?_
        refine WC.region ?_
        refine WL.h rfl (Hd.alloc (zs := wc (List.replicate 32 0#32)) (by kernel_rfl) fun bt => ⟨_, rfl, ?_⟩)
        refine WL.nil ?_
        refine DN.then_normal ?_
        refine WC.seq ?_
        refine WC.seq ?_
        refine WC.region ?_
        refine WL.y rfl (Yd.move rfl) ?_
        refine WL.nil ?_
        refine DN.then_normal ?_
        refine WC.block ?_
        refine WC.loop (fun j : Nat => j ≤ 32) (fun j => [(0, .int .u32 a2.toNat), (1, .int .u32 b.toNat), (2, .int .u64 n'.toNat), (7, .pointer (some ⟨bm, 0, none⟩)), (10, .pointer (some ⟨bt, 0, none⟩)), (36, .int .i64 j)]) (fun j => row bt (wc (fillK tw (List.replicate 32 0#32) j)) 67 :: row bm (wc m) 67 :: H) (fun j => 32 - j) 0 (Nat.zero_le _) ⟨rfl, rfl, rfl, rfl, rfl, rfl, trivial⟩ (by rw [fillK_zero]) ?_
        intro j hj
        refine WC.seq ?_
        refine WC.region ?_
        refine WL.y rfl (Yd.lss rfl rfl) ?_
        refine WL.nil ?_
        refine DN.then_normal ?_
        refine WC.seq ?_
        refine WC.ite rfl (fun h37 => ?_) (fun h37 => ?_)
        · refine WC.skip ?_
          refine DN.then_normal ?_
          refine WC.seq ?_
          refine WC.block ?_
          refine WC.seq ?_
          refine WC.region ?_
          refine WL.y rfl (Yd.move rfl) ?_
          refine WL.y rfl (Yd.assign rfl) ?_
          refine WL.nil ?_
          refine DN.then_normal ?_
          refine WC.draw 8 (by kernel_rfl) rfl ?_
          refine WA.y (i := 0) (NoPanic.block (NoPanic.then (NoPanic.then (NoPanic.block (NoPanic.then (NoPanic.block (NoPanic.then (NoPanic.then (NoPanic.block (NoPanic.then (NoPanic.body))))))))))) rfl (by kernel_rfl) (by kernel_rfl) (by kernel_rfl) rfl (Yd.move rfl) ?_
          refine WA.y (i := 2) (NoPanic.block (NoPanic.then (NoPanic.then (NoPanic.block (NoPanic.then (NoPanic.block (NoPanic.then (NoPanic.then (NoPanic.block (NoPanic.then (NoPanic.body))))))))))) rfl (by kernel_rfl) (by kernel_rfl) (by kernel_rfl) rfl (Yd.move rfl) ?_
          refine WA.y (i := 3) (NoPanic.block (NoPanic.then (NoPanic.then (NoPanic.block (NoPanic.then (NoPanic.block (NoPanic.then (NoPanic.then (NoPanic.block (NoPanic.then (NoPanic.body))))))))))) rfl (by kernel_rfl) (by kernel_rfl) (by kernel_rfl) rfl (Yd.indexArr (n := 32) (e := 25) (s := 1) (by kernel_rfl) (by kernel_rfl) rfl rfl (by omega) (by omega)) ?_
          refine WA.two (i := 1) (j := 4) (by kernel_rfl) ?_ ?_
          · refine WO.h rfl Wt.none rfl (Hd.loadA (n := 32) (b := bm) (cs := wc m) (vs := wc m) (by kernel_rfl) rfl (List.mem_cons_of_mem _ List.mem_cons_self) (by rw [wc_length, hm.len]) (take_wc hm.len) ⟨_, rfl, ?_⟩)
            refine WA.one (i := 4) (by kernel_rfl) ?_
            refine WO.h rfl Wt.none rfl (Hd.load1 (b := bm) (cs := wc m) (by kernel_rfl) rfl (List.mem_cons_of_mem _ List.mem_cons_self) (by simpa using wc_get m j (by have := hm.len; omega)) ⟨_, rfl, ?_⟩)
            refine WA.one (i := 5) (by kernel_rfl) ?_
            refine WO.r rfl Wt.none rfl (Ent.func Try.call42 rfl) (times_reads _ hm.len _ _) ?_
            refine WA.y (i := 6) (NoPanic.block (NoPanic.then (NoPanic.then (NoPanic.block (NoPanic.then (NoPanic.block (NoPanic.then (NoPanic.then (NoPanic.block (NoPanic.then (NoPanic.body))))))))))) rfl (by kernel_rfl) (by kernel_rfl) (by kernel_rfl) rfl (Yd.indexArr (n := 32) (e := 25) (s := 1) (by kernel_rfl) (by kernel_rfl) rfl rfl (by omega) (by omega)) ?_
            refine WA.one (i := 7) (by kernel_rfl) ?_
            refine WO.s rfl Wt.none (Hd.store1 (b := bt) (cs := wc (fillK tw (List.replicate 32 0#32) j)) (T' := 67) (D := row bm (wc m) 67 :: H) (by kernel_rfl) rfl rfl rfl (List.Perm.refl _) (by simp [wc_length, fillK_length]; omega) ⟨rfl, ?_⟩)
            refine WA.done (by kernel_rfl) ?_
            refine DN.block_normal ?_
            refine DN.then_normal ?_
            refine WC.region ?_
            refine WL.y rfl (Yd.add rfl rfl (by omega) (by omega)) ?_
            refine WL.y rfl (Yd.move rfl) ?_
            refine WL.nil ?_
            refine DN.again (j + 1) (by omega) (by omega) ⟨rfl, rfl, rfl, rfl, rfl, rfl, trivial⟩ ?_
            have htwj : tw j = tab m (m.getD j 0#32) := by rw [htw]
            rw [← fillK_succ _ _ _ (by simp; omega), ← wc_set, htwj]
            simp
          · refine WO.h rfl Wt.none rfl (Hd.load1 (b := bm) (cs := wc m) (by kernel_rfl) rfl (List.mem_cons_of_mem _ List.mem_cons_self) (by simpa using wc_get m j (by have := hm.len; omega)) ⟨_, rfl, ?_⟩)
            refine WA.one (i := 1) (by kernel_rfl) ?_
            refine WO.h rfl Wt.none rfl (Hd.loadA (n := 32) (b := bm) (cs := wc m) (vs := wc m) (by kernel_rfl) rfl (List.mem_cons_of_mem _ List.mem_cons_self) (by rw [wc_length, hm.len]) (take_wc hm.len) ⟨_, rfl, ?_⟩)
            refine WA.one (i := 5) (by kernel_rfl) ?_
            refine WO.r rfl Wt.none rfl (Ent.func Try.call42 rfl) (times_reads _ hm.len _ _) ?_
            refine WA.y (i := 6) (NoPanic.block (NoPanic.then (NoPanic.then (NoPanic.block (NoPanic.then (NoPanic.block (NoPanic.then (NoPanic.then (NoPanic.block (NoPanic.then (NoPanic.body))))))))))) rfl (by kernel_rfl) (by kernel_rfl) (by kernel_rfl) rfl (Yd.indexArr (n := 32) (e := 25) (s := 1) (by kernel_rfl) (by kernel_rfl) rfl rfl (by omega) (by omega)) ?_
            refine WA.one (i := 7) (by kernel_rfl) ?_
            refine WO.s rfl Wt.none (Hd.store1 (b := bt) (cs := wc (fillK tw (List.replicate 32 0#32) j)) (T' := 67) (D := row bm (wc m) 67 :: H) (by kernel_rfl) rfl rfl rfl (List.Perm.refl _) (by simp [wc_length, fillK_length]; omega) ⟨rfl, ?_⟩)
            refine WA.done (by kernel_rfl) ?_
            refine DN.block_normal ?_
            refine DN.then_normal ?_
            refine WC.region ?_
            refine WL.y rfl (Yd.add rfl rfl (by omega) (by omega)) ?_
            refine WL.y rfl (Yd.move rfl) ?_
            refine WL.nil ?_
            refine DN.again (j + 1) (by omega) (by omega) ⟨rfl, rfl, rfl, rfl, rfl, rfl, trivial⟩ ?_
            have htwj : tw j = tab m (m.getD j 0#32) := by rw [htw]
            rw [← fillK_succ _ _ _ (by simp; omega), ← wc_set, htwj]
            simp
        · have hj32 : j = 32 := by omega
          subst hj32
          refine WC.exit ?_
          refine DN.then_exit ?_
          refine DN.then_exit ?_
          refine DN.block_exit ?_
          refine DN.then_normal ?_
          refine WC.region ?_
          refine WL.h rfl (Hd.loadA (n := 32) (b := bt) (cs := wc (fillK tw (List.replicate 32 0#32) 32)) (vs := wc (fillK tw (List.replicate 32 0#32) 32)) (by kernel_rfl) rfl List.mem_cons_self (by simp [wc_length, fillK_length]) (take_wc (by simp [fillK_length])) ⟨_, rfl, ?_⟩)
          refine WL.s (Hd.storeN (n := 32) (b := bm) (cs := wc m) (T' := 67) (D := row bt (wc (fillK tw (List.replicate 32 0#32) 32)) 67 :: H) (by kernel_rfl) rfl rfl (by simp [Value.cells, wc_length, fillK_length]) (by simpa [Value.cells] using wc_one _) (List.Perm.swap _ _ _) (by simp [wc_length, hm.len]) ⟨rfl, ?_⟩)
          have hsp : splice (wc m) 0 (Value.cells (.agg (wc (fillK tw (List.replicate 32 0#32) 32)).toArray)).toList = wc (fillK tw (List.replicate 32 0#32) 32) := by simp [splice, Value.cells, wc_length, fillK_length, hm.len]
          rw [hsp]
          refine WL.nil ?_
          refine DN.block_normal ?_
          refine DN.then_normal ?_
          refine WC.region ?_
          refine WL.y rfl (Yd.move rfl) ?_
          refine WL.y rfl (Yd.shr64 _ 1 rfl rfl rfl rfl) ?_
          refine WL.y rfl (Yd.assign rfl) ?_
          refine WL.nil ?_
          have hst : Stands (fillK tw (List.replicate 32 0#32) 32) (crcSteps (8 * 2 ^ (e + 1))) := by
            have h1 : tw = fun j => tab m (m.getD j 0#32) := htw
            exact twice_stands hm h1
          refine DN.forget (row bm (wc (fillK tw (List.replicate 32 0#32) 32)) 67 :: H) (List.Sublist.cons_cons _ (List.sublist_cons_self _ _)) ?_
          exact DN.again (e + 1, a2, n' >>> 1, fillK tw (List.replicate 32 0#32) 32) ⟨hst, hinv⟩ (by show (n' >>> 1).toNat < n'.toNat; rw [BitVec.toNat_ushiftRight, Nat.shiftRight_eq_div_pow]; omega) ⟨rfl, rfl, rfl, rfl, trivial⟩ (List.Perm.refl _)
    · have hn0 : n'.toNat = 0 := by simp at h27; omega
      refine WC.exit ?_
      refine DN.then_exit ?_
      refine DN.then_exit ?_
      refine DN.block_exit ?_
      refine DN.then_normal ?_
      refine WC.seq ?_
      refine WC.region ?_
      refine WL.y rfl (Yd.move rfl) ?_
      refine WL.y rfl (Yd.move rfl) ?_
      refine WL.y rfl (Yd.xor32 _ _ rfl rfl rfl rfl) ?_
      refine WL.y rfl (Yd.assign rfl) ?_
      refine WL.nil ?_
      refine DN.then_normal ?_
      refine WC.ret ?_
      refine DN.forget H (List.sublist_cons_self _ _) ?_
      refine DN.ret1 Try.results23 rfl ?_
      exact ⟨by rw [hn0] at he; simp [crcSteps] at he; rw [crcJoin, ← he], rfl⟩

/-- drayage/sum.Holds -/
theorem holds_reads (v : Value) (bs : List B8) (H : List Ck) (hv : Bs v bs H) (hl : bs.length ≤ 9223372036854775807) : Reads Try.prog 26 [v] H (.bool (crcHolds bs)) := by
  obtain ⟨ao, c, rfl, hc⟩ := Bs.form hv
  refine Tells.enter Try.func26 rfl Try.ntmps26 rfl ?_
  intro w0 R
  refine WC.seq ?_
  refine WC.region ?_
  refine WL.y rfl (Yd.assign rfl) ?_
  refine WL.nil ?_
  refine DN.then_normal ?_
  refine WC.seq ?_
  refine WC.region ?_
  refine WL.y rfl (Yd.move rfl) ?_
  refine WL.y rfl (Yd.len (e := 5) (by kernel_rfl) rfl) ?_
  refine WL.y rfl (Yd.sub rfl rfl (by omega) (by omega)) ?_
  refine WL.y rfl (Yd.assign rfl) ?_
  refine WL.nil ?_
  refine DN.then_normal ?_
  refine WC.seq ?_
  refine WC.seq ?_
  refine WC.region ?_
  refine WL.y rfl (Yd.move rfl) ?_
  refine WL.y rfl (Yd.lss rfl rfl) ?_
  refine WL.nil ?_
  refine DN.then_normal ?_
  refine WC.ite rfl (fun h9 => ?_) (fun h9 => ?_)
  · have h4 : bs.length < 4 := by omega
    refine WC.seq ?_
    refine WC.region ?_
    refine WL.y rfl (Yd.assign rfl) ?_
    refine WL.nil ?_
    refine DN.then_normal ?_
    refine WC.ret ?_
    refine DN.then_ret ?_
    refine DN.ret1 Try.results26 rfl ?_
    exact ⟨by rw [crcHolds_short h4], rfl⟩
  · obtain ⟨k, hk⟩ : ∃ k, bs.length = k + 4 := ⟨bs.length - 4, by omega⟩
    refine WC.skip ?_
    refine DN.then_normal ?_
    refine WC.seq ?_
    refine WC.region ?_
    refine WL.y rfl (Yd.move rfl) ?_
    refine WL.y rfl (Yd.move rfl) ?_
    refine WL.y rfl (Yd.sliceTo (e := 5) (s := 1) (j := k) (by kernel_rfl) (by kernel_rfl) rfl rfl (by omega) (by omega)) ?_
    refine WL.r rfl (Ent.func Try.call19 rfl) (of_reads _ (bs.take k) _ (Bs.upto hv (by omega)) (by simp; omega)) ?_
    refine WL.y rfl (Yd.assign rfl) ?_
    refine WL.nil ?_
    refine DN.then_normal ?_
    refine WC.seq ?_
    refine WC.region ?_
    refine WL.y rfl (Yd.move rfl) ?_
    refine WL.y rfl (Yd.move rfl) ?_
    refine WL.elem (e := 5) (by kernel_rfl) (by kernel_rfl) (by kernel_rfl) rfl rfl (by omega) (hv) (bc_get (i := k) (by omega)) (by omega) rfl rfl ?_
    intro _
    refine WL.y rfl (Yd.move rfl) ?_
    refine WL.y rfl (Yd.conv32_8 _ (by kernel_rfl) (by kernel_rfl) rfl rfl) ?_
    refine WL.y rfl (Yd.eql8 _ _ rfl rfl rfl rfl) ?_
    refine WL.y rfl (Yd.move rfl) ?_
    refine WL.partP (t := 21) rfl (fun hg21 => ?_) (fun hg21 => ?_)
    · refine WL.gy (dj := 21) rfl rfl rfl (Yd.move rfl) ?_
      refine WL.gy (dj := 21) rfl rfl rfl (Yd.move rfl) ?_
      refine WL.gy (dj := 21) rfl rfl rfl (Yd.add rfl rfl (by omega) (by omega)) ?_
      refine WL.elemN (e := 5) (dj := 21) (by kernel_rfl) (by kernel_rfl) (by kernel_rfl) rfl rfl (by omega) (hv) (bc_get (i := k + 1) (by omega)) (by omega) rfl rfl rfl rfl rfl ?_
      intro _
      refine WL.gy (dj := 21) rfl rfl rfl (Yd.move rfl) ?_
      refine WL.gy (dj := 21) rfl rfl rfl (Yd.shr32 _ 8 rfl rfl rfl rfl) ?_
      refine WL.gy (dj := 21) rfl rfl rfl (Yd.conv32_8 _ (by kernel_rfl) (by kernel_rfl) rfl rfl) ?_
      refine WL.gy (dj := 21) rfl rfl rfl (Yd.eql8 _ _ rfl rfl rfl rfl) ?_
      refine WL.y rfl (Yd.pickT rfl rfl) ?_
      refine WL.y rfl (Yd.move rfl) ?_
      refine WL.partP (t := 32) rfl (fun hg32 => ?_) (fun hg32 => ?_)
      · refine WL.gy (dj := 32) rfl rfl rfl (Yd.move rfl) ?_
        refine WL.gy (dj := 32) rfl rfl rfl (Yd.move rfl) ?_
        refine WL.gy (dj := 32) rfl rfl rfl (Yd.add rfl rfl (by omega) (by omega)) ?_
        refine WL.elemN (e := 5) (dj := 32) (by kernel_rfl) (by kernel_rfl) (by kernel_rfl) rfl rfl (by omega) (hv) (bc_get (i := k + 2) (by omega)) (by omega) rfl rfl rfl rfl rfl ?_
        intro _
        refine WL.gy (dj := 32) rfl rfl rfl (Yd.move rfl) ?_
        refine WL.gy (dj := 32) rfl rfl rfl (Yd.shr32 _ 16 rfl rfl rfl rfl) ?_
        refine WL.gy (dj := 32) rfl rfl rfl (Yd.conv32_8 _ (by kernel_rfl) (by kernel_rfl) rfl rfl) ?_
        refine WL.gy (dj := 32) rfl rfl rfl (Yd.eql8 _ _ rfl rfl rfl rfl) ?_
        refine WL.y rfl (Yd.pickT rfl rfl) ?_
        refine WL.y rfl (Yd.move rfl) ?_
        refine WL.partP (t := 43) rfl (fun hg43 => ?_) (fun hg43 => ?_)
        · refine WL.gy (dj := 43) rfl rfl rfl (Yd.move rfl) ?_
          refine WL.gy (dj := 43) rfl rfl rfl (Yd.move rfl) ?_
          refine WL.gy (dj := 43) rfl rfl rfl (Yd.add rfl rfl (by omega) (by omega)) ?_
          refine WL.elemN (e := 5) (dj := 43) (by kernel_rfl) (by kernel_rfl) (by kernel_rfl) rfl rfl (by omega) (hv) (bc_get (i := k + 3) (by omega)) (by omega) rfl rfl rfl rfl rfl ?_
          intro _
          refine WL.gy (dj := 43) rfl rfl rfl (Yd.move rfl) ?_
          refine WL.gy (dj := 43) rfl rfl rfl (Yd.shr32 _ 24 rfl rfl rfl rfl) ?_
          refine WL.gy (dj := 43) rfl rfl rfl (Yd.conv32_8 _ (by kernel_rfl) (by kernel_rfl) rfl rfl) ?_
          refine WL.gy (dj := 43) rfl rfl rfl (Yd.eql8 _ _ rfl rfl rfl rfl) ?_
          refine WL.y rfl (Yd.pickT rfl rfl) ?_
          refine WL.y rfl (Yd.assign rfl) ?_
          refine WL.nil ?_
          refine DN.then_normal ?_
          refine WC.ret ?_
          refine DN.ret1 Try.results26 rfl ?_
          refine ⟨?_, rfl⟩
          rw [crcHolds_eq hk _ rfl]
          simp [*]
        · refine WL.gn (dj := 43) rfl rfl rfl rfl ?_
          refine WL.gn (dj := 43) rfl rfl rfl rfl ?_
          refine WL.gn (dj := 43) rfl rfl rfl rfl ?_
          refine WL.gn (dj := 43) rfl rfl rfl rfl ?_
          refine WL.gn (dj := 43) rfl rfl rfl rfl ?_
          refine WL.gn (dj := 43) rfl rfl rfl rfl ?_
          refine WL.gn (dj := 43) rfl rfl rfl rfl ?_
          refine WL.gn (dj := 43) rfl rfl rfl rfl ?_
          refine WL.gn (dj := 43) rfl rfl rfl rfl ?_
          refine WL.y rfl (Yd.pickF rfl rfl) ?_
          refine WL.y rfl (Yd.assign rfl) ?_
          refine WL.nil ?_
          refine DN.then_normal ?_
          refine WC.ret ?_
          refine DN.ret1 Try.results26 rfl ?_
          refine ⟨?_, rfl⟩
          rw [crcHolds_eq hk _ rfl]
          simp [*]
      · refine WL.gn (dj := 32) rfl rfl rfl rfl ?_
        refine WL.gn (dj := 32) rfl rfl rfl rfl ?_
        refine WL.gn (dj := 32) rfl rfl rfl rfl ?_
        refine WL.gn (dj := 32) rfl rfl rfl rfl ?_
        refine WL.gn (dj := 32) rfl rfl rfl rfl ?_
        refine WL.gn (dj := 32) rfl rfl rfl rfl ?_
        refine WL.gn (dj := 32) rfl rfl rfl rfl ?_
        refine WL.gn (dj := 32) rfl rfl rfl rfl ?_
        refine WL.gn (dj := 32) rfl rfl rfl rfl ?_
        refine WL.y rfl (Yd.pickF rfl rfl) ?_
        refine WL.y rfl (Yd.move rfl) ?_
        refine WL.gn (dj := 43) rfl rfl rfl rfl ?_
        refine WL.gn (dj := 43) rfl rfl rfl rfl ?_
        refine WL.gn (dj := 43) rfl rfl rfl rfl ?_
        refine WL.gn (dj := 43) rfl rfl rfl rfl ?_
        refine WL.gn (dj := 43) rfl rfl rfl rfl ?_
        refine WL.gn (dj := 43) rfl rfl rfl rfl ?_
        refine WL.gn (dj := 43) rfl rfl rfl rfl ?_
        refine WL.gn (dj := 43) rfl rfl rfl rfl ?_
        refine WL.gn (dj := 43) rfl rfl rfl rfl ?_
        refine WL.y rfl (Yd.pickF rfl rfl) ?_
        refine WL.y rfl (Yd.assign rfl) ?_
        refine WL.nil ?_
        refine DN.then_normal ?_
        refine WC.ret ?_
        refine DN.ret1 Try.results26 rfl ?_
        refine ⟨?_, rfl⟩
        rw [crcHolds_eq hk _ rfl]
        simp [*]
    · refine WL.gn (dj := 21) rfl rfl rfl rfl ?_
      refine WL.gn (dj := 21) rfl rfl rfl rfl ?_
      refine WL.gn (dj := 21) rfl rfl rfl rfl ?_
      refine WL.gn (dj := 21) rfl rfl rfl rfl ?_
      refine WL.gn (dj := 21) rfl rfl rfl rfl ?_
      refine WL.gn (dj := 21) rfl rfl rfl rfl ?_
      refine WL.gn (dj := 21) rfl rfl rfl rfl ?_
      refine WL.gn (dj := 21) rfl rfl rfl rfl ?_
      refine WL.gn (dj := 21) rfl rfl rfl rfl ?_
      refine WL.y rfl (Yd.pickF rfl rfl) ?_
      refine WL.y rfl (Yd.move rfl) ?_
      refine WL.gn (dj := 32) rfl rfl rfl rfl ?_
      refine WL.gn (dj := 32) rfl rfl rfl rfl ?_
      refine WL.gn (dj := 32) rfl rfl rfl rfl ?_
      refine WL.gn (dj := 32) rfl rfl rfl rfl ?_
      refine WL.gn (dj := 32) rfl rfl rfl rfl ?_
      refine WL.gn (dj := 32) rfl rfl rfl rfl ?_
      refine WL.gn (dj := 32) rfl rfl rfl rfl ?_
      refine WL.gn (dj := 32) rfl rfl rfl rfl ?_
      refine WL.gn (dj := 32) rfl rfl rfl rfl ?_
      refine WL.y rfl (Yd.pickF rfl rfl) ?_
      refine WL.y rfl (Yd.move rfl) ?_
      refine WL.gn (dj := 43) rfl rfl rfl rfl ?_
      refine WL.gn (dj := 43) rfl rfl rfl rfl ?_
      refine WL.gn (dj := 43) rfl rfl rfl rfl ?_
      refine WL.gn (dj := 43) rfl rfl rfl rfl ?_
      refine WL.gn (dj := 43) rfl rfl rfl rfl ?_
      refine WL.gn (dj := 43) rfl rfl rfl rfl ?_
      refine WL.gn (dj := 43) rfl rfl rfl rfl ?_
      refine WL.gn (dj := 43) rfl rfl rfl rfl ?_
      refine WL.gn (dj := 43) rfl rfl rfl rfl ?_
      refine WL.y rfl (Yd.pickF rfl rfl) ?_
      refine WL.y rfl (Yd.assign rfl) ?_
      refine WL.nil ?_
      refine DN.then_normal ?_
      refine WC.ret ?_
      refine DN.ret1 Try.results26 rfl ?_
      refine ⟨?_, rfl⟩
      rw [crcHolds_eq hk _ rfl]
      simp [*]

/-- drayage/drayagelaw02.known -/
theorem known02 (H : List Ck) : Reads Try.prog 17 [] H (.bool true) := by
  refine Tells.enter Try.func17 rfl Try.ntmps17 rfl ?_
  intro w0 R
  refine WC.seq ?_
  refine WC.region ?_
  refine WL.y rfl (Yd.assign rfl) ?_
  refine WL.nil ?_
  refine DN.then_normal ?_
  refine WC.seq ?_
  refine WC.region ?_
  refine WL.h rfl (Hd.buildBytes (e := 5) [49#8, 50#8, 51#8, 52#8, 53#8, 54#8, 55#8, 56#8, 57#8] (by kernel_rfl) (by kernel_rfl) (by kernel_rfl) rfl rfl (by kernel_rfl) fun b => ⟨_, rfl, ?_⟩)
  refine WL.h rfl (Hd.mark (e := 5) (by kernel_rfl) (by kernel_rfl) rfl (List.Perm.refl _) ⟨_, rfl, ?_⟩)
  refine WL.r rfl (Ent.func Try.call19 rfl) (of_reads _ [49#8, 50#8, 51#8, 52#8, 53#8, 54#8, 55#8, 56#8, 57#8] _ (Bs.block rfl (by decide) List.mem_cons_self) (by decide)) ?_
  refine WL.y rfl (Yd.eql32 _ (3421780262#32) rfl rfl rfl rfl) ?_
  refine WL.renamed (t := 4) (v := .bool true) rfl (congrArg Value.bool (by kernel_rfl)) ?_
  refine WL.y rfl (Yd.move rfl) ?_
  refine WL.gr (dj := 5) rfl rfl rfl (Ent.func Try.call19 rfl) (of_reads _ [] _ (.inl ⟨_, _, rfl, rfl, rfl⟩) (by decide)) ?_
  refine WL.gy (dj := 5) rfl rfl rfl (Yd.eql32 _ (0#32) rfl rfl rfl rfl) ?_
  refine WL.renamed (t := 7) (v := .bool true) rfl (congrArg Value.bool (by kernel_rfl)) ?_
  refine WL.y rfl (Yd.pickT rfl rfl) ?_
  refine WL.y rfl (Yd.move rfl) ?_
  refine WL.gh (dj := 9) rfl rfl rfl (Hd.buildBytes (e := 5) [49#8, 50#8, 51#8, 52#8] (by kernel_rfl) (by kernel_rfl) (by kernel_rfl) rfl rfl (by kernel_rfl) fun b => ⟨_, rfl, ?_⟩)
  refine WL.gh (dj := 9) rfl rfl rfl (Hd.mark (e := 5) (by kernel_rfl) (by kernel_rfl) rfl (List.Perm.refl _) ⟨_, rfl, ?_⟩)
  refine WL.gr (dj := 9) rfl rfl rfl (Ent.func Try.call19 rfl) (of_reads _ [49#8, 50#8, 51#8, 52#8] _ (Bs.block rfl (by decide) List.mem_cons_self) (by decide)) ?_
  refine WL.gh (dj := 9) rfl rfl rfl (Hd.buildBytes (e := 5) [53#8, 54#8, 55#8, 56#8, 57#8] (by kernel_rfl) (by kernel_rfl) (by kernel_rfl) rfl rfl (by kernel_rfl) fun b => ⟨_, rfl, ?_⟩)
  refine WL.gh (dj := 9) rfl rfl rfl (Hd.mark (e := 5) (by kernel_rfl) (by kernel_rfl) rfl (List.Perm.refl _) ⟨_, rfl, ?_⟩)
  refine WL.gr (dj := 9) rfl rfl rfl (Ent.func Try.call19 rfl) (of_reads _ [53#8, 54#8, 55#8, 56#8, 57#8] _ (Bs.block rfl (by decide) List.mem_cons_self) (by decide)) ?_
  refine WL.gr (dj := 9) rfl rfl rfl (Ent.func Try.call23 rfl) (join_reads _ _ 5#64 _) ?_
  refine WL.gy (dj := 9) rfl rfl rfl (Yd.eql32 _ (3421780262#32) rfl rfl rfl rfl) ?_
  refine WL.renamed (t := 17) (v := .bool true) rfl (congrArg Value.bool (by kernel_rfl)) ?_
  refine WL.y rfl (Yd.pickT rfl rfl) ?_
  refine WL.y rfl (Yd.move rfl) ?_
  refine WL.gh (dj := 19) rfl rfl rfl (Hd.buildBytes (e := 5) [49#8, 50#8, 51#8, 52#8, 53#8, 54#8, 55#8, 56#8, 57#8, 38#8, 57#8, 244#8, 203#8] (by kernel_rfl) (by kernel_rfl) (by kernel_rfl) rfl rfl (by kernel_rfl) fun b => ⟨_, rfl, ?_⟩)
  refine WL.gh (dj := 19) rfl rfl rfl (Hd.mark (e := 5) (by kernel_rfl) (by kernel_rfl) rfl (List.Perm.refl _) ⟨_, rfl, ?_⟩)
  refine WL.gr (dj := 19) rfl rfl rfl (Ent.func Try.call26 rfl) (holds_reads _ [49#8, 50#8, 51#8, 52#8, 53#8, 54#8, 55#8, 56#8, 57#8, 38#8, 57#8, 244#8, 203#8] _ (Bs.block rfl (by decide) List.mem_cons_self) (by decide)) ?_
  refine WL.renamed (t := 22) (v := .bool true) rfl (congrArg Value.bool (by kernel_rfl)) ?_
  refine WL.y rfl (Yd.pickT rfl rfl) ?_
  refine WL.y rfl (Yd.assign rfl) ?_
  refine WL.nil ?_
  refine DN.then_normal ?_
  refine WC.ret ?_
  refine DN.forget H (by repeat (first | exact List.Sublist.refl _ | apply List.Sublist.cons)) ?_
  refine DN.ret1 Try.results17 rfl ?_
  exact ⟨rfl, rfl⟩

/-- drayage/drayagelaw02.SumJoins -/
theorem law_SumJoins (a b c : B32) (n m : BitVec 64) (H : List Ck) : Reads Try.prog 5 [.int .u32 a.toNat, .int .u32 b.toNat, .int .u32 c.toNat, .int .u64 n.toNat, .int .u64 m.toNat] H (.bool true) := by
  refine Tells.enter Try.func5 rfl Try.ntmps5 rfl ?_
  intro w0 R
  refine WC.seq ?_
  refine WC.region ?_
  refine WL.y rfl (Yd.assign rfl) ?_
  refine WL.nil ?_
  refine DN.then_normal ?_
  refine WC.seq ?_
  refine WC.region ?_
  refine WL.y rfl (Yd.move rfl) ?_
  refine WL.y rfl (Yd.shr64 _ 2 rfl rfl rfl rfl) ?_
  refine WL.y rfl (Yd.assign rfl) ?_
  refine WL.nil ?_
  refine DN.then_normal ?_
  refine WC.seq ?_
  refine WC.region ?_
  refine WL.y rfl (Yd.move rfl) ?_
  refine WL.y rfl (Yd.shr64 _ 2 rfl rfl rfl rfl) ?_
  refine WL.y rfl (Yd.assign rfl) ?_
  refine WL.nil ?_
  refine DN.then_normal ?_
  refine WC.seq ?_
  refine WC.region ?_
  refine WL.y rfl (Yd.move rfl) ?_
  refine WL.y rfl (Yd.move rfl) ?_
  refine WL.y rfl (Yd.move rfl) ?_
  refine WL.r rfl (Ent.func Try.call23 rfl) (join_reads _ _ _ _) ?_
  refine WL.y rfl (Yd.move rfl) ?_
  refine WL.y rfl (Yd.move rfl) ?_
  refine WL.r rfl (Ent.func Try.call23 rfl) (join_reads _ _ _ _) ?_
  refine WL.y rfl (Yd.assign rfl) ?_
  refine WL.nil ?_
  refine DN.then_normal ?_
  refine WC.seq ?_
  refine WC.region ?_
  refine WL.y rfl (Yd.move rfl) ?_
  refine WL.y rfl (Yd.move rfl) ?_
  refine WL.y rfl (Yd.move rfl) ?_
  refine WL.y rfl (Yd.move rfl) ?_
  refine WL.r rfl (Ent.func Try.call23 rfl) (join_reads _ _ _ _) ?_
  refine WL.y rfl (Yd.move rfl) ?_
  refine WL.y rfl (Yd.move rfl) ?_
  refine WL.y rfl (Yd.add64 _ _ rfl rfl rfl rfl) ?_
  refine WL.r rfl (Ent.func Try.call23 rfl) (join_reads _ _ _ _) ?_
  refine WL.y rfl (Yd.assign rfl) ?_
  refine WL.nil ?_
  refine DN.then_normal ?_
  refine WC.seq ?_
  refine WC.region ?_
  refine WL.y rfl (Yd.move rfl) ?_
  refine WL.y rfl (Yd.move rfl) ?_
  refine WL.y rfl (Yd.eql32 _ _ rfl rfl rfl rfl) ?_
  refine WL.renamed (t := 35) (v := .bool true) rfl (congrArg Value.bool (decide_eq_true (joins_assoc a b c n m))) ?_
  refine WL.y rfl (Yd.move rfl) ?_
  refine WL.gy (dj := 36) rfl rfl rfl (Yd.move rfl) ?_
  refine WL.gr (dj := 36) rfl rfl rfl (Ent.func Try.call23 rfl) (join_reads _ 0#32 0#64 _) ?_
  refine WL.gy (dj := 36) rfl rfl rfl (Yd.move rfl) ?_
  refine WL.gy (dj := 36) rfl rfl rfl (Yd.eql32 _ _ rfl rfl rfl rfl) ?_
  refine WL.renamed (t := 40) (v := .bool true) rfl (congrArg Value.bool (decide_eq_true (join_none a))) ?_
  refine WL.y rfl (Yd.pickT rfl rfl) ?_
  refine WL.y rfl (Yd.move rfl) ?_
  refine WL.gy (dj := 42) rfl rfl rfl (Yd.move rfl) ?_
  refine WL.gy (dj := 42) rfl rfl rfl (Yd.move rfl) ?_
  refine WL.gr (dj := 42) rfl rfl rfl (Ent.func Try.call23 rfl) (join_reads 0#32 _ _ _) ?_
  refine WL.gy (dj := 42) rfl rfl rfl (Yd.move rfl) ?_
  refine WL.gy (dj := 42) rfl rfl rfl (Yd.eql32 _ _ rfl rfl rfl rfl) ?_
  refine WL.renamed (t := 47) (v := .bool true) rfl (congrArg Value.bool (decide_eq_true (join_first b _))) ?_
  refine WL.y rfl (Yd.pickT rfl rfl) ?_
  refine WL.y rfl (Yd.move rfl) ?_
  refine WL.gr (dj := 49) rfl rfl rfl (Ent.func Try.call17 rfl) (known02 _) ?_
  refine WL.y rfl (Yd.pickT rfl rfl) ?_
  refine WL.y rfl (Yd.assign rfl) ?_
  refine WL.nil ?_
  refine DN.then_normal ?_
  refine WC.ret ?_
  refine DN.ret1 Try.results5 rfl ?_
  exact ⟨rfl, rfl⟩

end Go.Proofs.Ytfacofbobmlmiaa
