/-
  The walk of 'what comes out is its owner's' (drayageref00.Own).
-/
import Derived.Test.YtfacofbobmlmiaaRows
import Derived.Test.YtfacofbobmlmiaaSLMore3
import Derived.Test.YtfacofbobmlmiaaOwnMath
set_option linter.unusedVariables false
set_option linter.unusedSimpArgs false
set_option maxHeartbeats 2000000
namespace Go.Proofs.Ytfacofbobmlmiaa
open Go.SL Go.Sum
theorem pat_cell (i n k : Nat) (h : k < n) : (bc (pat i n))[k]? = some (.int .u8 (patB i k).toNat) := by
  simp only [bc, List.getElem?_map, pat_get i n k h, Option.map_some]
theorem ext_cell (i n m k : Nat) (h : k < m) : (bc (pat i n ++ ext i m))[n + k]? = some (.int .u8 (extB i k).toNat) := by
  simp only [bc, List.getElem?_map]
  rw [List.getElem?_append_right (by rw [pat_length]; omega), pat_length, Nat.add_sub_cancel_left, ext_get i m k h]
  rfl
theorem R0_split {u : Value} {m : Nat} {ys : List Value} {A B : List Ck} (h : R0 u m ys (A ++ B)) : R0 u m ys A ∨ R0 u m ys B := by
  rcases h with h | ⟨b, cap, cs, T, fr, ex, h1, h2, h3, h4⟩
  · exact .inl (.inl h)
  · rcases List.mem_append.1 h3 with h3 | h3
    · exact .inl (.inr ⟨b, cap, cs, T, fr, ex, h1, h2, h3, h4⟩)
    · exact .inr (.inr ⟨b, cap, cs, T, fr, ex, h1, h2, h3, h4⟩)
theorem B0_keep {u : Value} {l a : List (BitVec 8)} {C O C2 O2 : List Ck} (h : B0 u l (C ++ O)) (hl : l.length ≤ a.length) (k : ∀ u' c, B0 u' c C → c.length ≤ a.length → B0 u' c (C2 ++ O2)) : B0 u l (C2 ++ (O2 ++ O)) := by
  rcases R0_split h with h | h
  · exact (k u l h hl).mono fun x hx => by rcases List.mem_append.1 hx with hx | hx <;> simp [hx]
  · exact B0.mono h fun x hx => by simp [hx]
/-- what is known of the lists that are done -/
def Did (ls : List (List (BitVec 8))) (vs us : List Value) (i : Nat) (E : List Ck) : Prop :=
  ∀ j, j < i → ∃ a b, vs[j]? = some a ∧ us[j]? = some b ∧ B0 a (pat j (lenAt ls j)) E ∧ B0 b (pat j (lenAt ls j) ++ ext j 4) E
theorem Did.next {ls : List (List (BitVec 8))} {vs us : List Value} {i : Nat} {E F : List Ck} {u x : Value} (h : Did ls vs us i E) (hu : us.length = i) (hv : vs[i]? = some u) (h1 : B0 u (pat i (lenAt ls i)) F) (h2 : B0 x (pat i (lenAt ls i) ++ ext i 4) F) : Did ls vs (us ++ [x]) (i + 1) (E ++ F) := by
  intro j hj
  by_cases e : j = i
  · subst e
    exact ⟨u, x, hv, by rw [List.getElem?_append_right (by omega), hu, Nat.sub_self]; rfl, h1.mono fun y hy => by simp [hy], h2.mono fun y hy => by simp [hy]⟩
  · obtain ⟨a, b, g1, g2, g3, g4⟩ := h j (by omega)
    exact ⟨a, b, g1, by rw [List.getElem?_append_left (by omega)]; exact g2, g3.mono fun y hy => by simp [hy], g4.mono fun y hy => by simp [hy]⟩


/-- drayage/drayageref00.Own -/
theorem own_tells (v : Value) (vs : List Value) (ls : List (List (BitVec 8))) (C D : List Ck) (ho : Own v ls.length vs 22 1 C) (hos : Obs 5 vs ls D) (hl : ls.length ≤ 1000000) (hls : ∀ l ∈ ls, l.length ≤ 1000000) : Tells Try.prog 33 [v] (C ++ D) fun r H' => r = .bool true ∧ H' = [] := by
  refine Tells.enter Try.func33 rfl Try.ntmps33 rfl ?_
  intro w0 R
  obtain ⟨vo, vc, rfl, hvc⟩ := ho.form
  obtain ⟨N, hN⟩ : ∃ N, N = ls.length := ⟨_, rfl⟩
  have hvl : vs.length = N := by rw [hos.length, hN]
  have hrs := ho.rs
  rw [← hN] at hrs hvc hl ⊢
  have hL : ∀ i, lenAt ls i ≤ 1000000 := lenAt_le hls
  refine WC.seq ?_
  refine WC.region ?_
  refine WL.y rfl (Yd.assign rfl) ?_
  refine WL.nil ?_
  refine DN.then_normal ?_
  refine WC.seq ?_
  refine WC.region ?_
  refine WL.y rfl (Yd.assign rfl) ?_
  refine WL.nil ?_
  refine DN.then_normal ?_
  refine WC.seq ?_
  refine WC.seq ?_
  refine WC.region ?_
  refine WL.y rfl (Yd.assign rfl) ?_
  refine WL.nil ?_
  refine DN.then_normal ?_
  refine WC.block ?_
  refine WC.loop (fun z : Nat × List Ck => z.1 ≤ N ∧ Obs 5 vs (fillL ls z.1 0) z.2) (fun z => [(0, .slice vo N vc), (3, .slice none 0 0), (4, .int .i64 z.1)]) (fun z => C ++ z.2) (fun z => N - z.1) (0, D) ⟨Nat.zero_le _, by rw [fillL_zero]; exact hos⟩ ⟨rfl, rfl, rfl, trivial⟩ (List.Perm.refl _) ?_
  rintro ⟨i, D0⟩ ⟨hi, ho0⟩
  simp only at hi ho0
  refine WC.seq ?_
  refine WC.seq ?_
  refine WC.region ?_
  refine WL.y rfl (Yd.move rfl) ?_
  refine WL.y rfl (Yd.move rfl) ?_
  refine WL.y rfl (Yd.len (e := 22) (by kernel_rfl) rfl) ?_
  refine WL.y rfl (Yd.lss rfl rfl) ?_
  refine WL.nil ?_
  refine DN.then_normal ?_
  refine WC.ite rfl (fun h16 => ?_) (fun h16 => ?_)
  · have hiN : i < N := by omega
    refine WC.skip ?_
    refine DN.then_normal ?_
    refine WC.seq ?_
    refine WC.block ?_
    refine WC.seq ?_
    refine WC.region ?_
    refine WL.y rfl (Yd.assign rfl) ?_
    refine WL.nil ?_
    refine DN.then_normal ?_
    refine WC.block ?_
    refine WC.loop (fun z : Nat × List Ck => z.1 ≤ lenAt ls i ∧ Obs 5 vs (fillL ls i z.1) z.2) (fun z => [(0, .slice vo N vc), (3, .slice none 0 0), (4, .int .i64 i), (5, .int .i64 z.1)]) (fun z => C ++ z.2) (fun z => lenAt ls i - z.1) (0, D0) ⟨Nat.zero_le _, ho0⟩ ⟨rfl, rfl, rfl, rfl, trivial⟩ (List.Perm.refl _) ?_
    rintro ⟨k, D2⟩ ⟨hk, ho2⟩
    simp only at hk ho2
    obtain ⟨A1, Ci, A2, u, hD2, hvi, hOb, hset⟩ := ho2.at i (by rw [fillL_length]; omega)
    have hlen := fillL_at_length ls i k (by omega) hk
    obtain ⟨uo, uc, rfl, huc⟩ := hOb.form
    have hLi := hL i
    rw [hlen] at hvi huc hOb hset
    refine WC.seq ?_
    refine WC.seq ?_
    refine WC.region ?_
    refine WL.y rfl (Yd.move rfl) ?_
    refine WL.y rfl (Yd.move rfl) ?_
    refine WL.y rfl (Yd.move rfl) ?_
    refine WL.elem (e := 22) (by kernel_rfl) (by kernel_rfl) (by kernel_rfl) rfl rfl (rfl) (hrs.mono fun y hy => List.mem_append_left _ hy) (hvi) (by omega) rfl rfl ?_
    intro _
    refine WL.y rfl (Yd.len (e := 5) (by kernel_rfl) rfl) ?_
    refine WL.y rfl (Yd.lss rfl rfl) ?_
    refine WL.nil ?_
    refine DN.then_normal ?_
    refine WC.ite rfl (fun h25 => ?_) (fun h25 => ?_)
    · have hkl : k < lenAt ls i := by omega
      rcases hOb with ⟨_, h0, _⟩ | ⟨b, cap, extra, he, hc1, hc2, hx1, hx2, hCi⟩
      · omega
      simp only [Value.slice.injEq] at he
      obtain ⟨rfl, _, rfl⟩ := he
      subst hCi
      rw [hlen] at hc1
      subst hD2
      refine WC.skip ?_
      refine DN.then_normal ?_
      refine WC.seq ?_
      refine WC.block ?_
      refine WC.region ?_
      refine WL.y rfl (Yd.move rfl) ?_
      refine WL.y rfl (Yd.move rfl) ?_
      refine WL.elem (e := 22) (by kernel_rfl) (by kernel_rfl) (by kernel_rfl) rfl rfl (rfl) (hrs.mono fun y hy => List.mem_append_left _ hy) (hvi) (by omega) rfl rfl ?_
      intro _
      refine WL.y rfl (Yd.move rfl) ?_
      refine WL.y rfl (Yd.move rfl) ?_
      refine WL.y rfl (Yd.mul rfl rfl (by omega) (by omega)) ?_
      refine WL.y rfl (Yd.move rfl) ?_
      refine WL.y rfl (Yd.rem rfl rfl (by omega) (by omega)) ?_
      refine WL.y rfl (Yd.add rfl rfl (by omega) (by omega)) ?_
      refine WL.y rfl (Yd.to8 (patB i k) (by kernel_rfl) (by kernel_rfl) rfl rfl) ?_
      refine WL.y rfl (Yd.indexAddr (e := 5) (s := 1) (by kernel_rfl) (by kernel_rfl) rfl rfl (by omega) (by omega)) ?_
      refine WL.s (Hd.store1 (b := b) (cs := bc ((fillL ls i k)[i]'(by rw [fillL_length]; omega)) ++ extra) (T' := 5) (D := C ++ (A1 ++ A2)) (by kernel_rfl) rfl rfl rfl (by classical exact List.perm_iff_count.2 fun q => by simp only [List.count_append, List.count_cons, List.count_nil]; omega) (by simp only [List.length_append, bc_length, hlen]; omega) ⟨rfl, ?_⟩)
      refine WL.nil ?_
      refine DN.block_normal ?_
      refine DN.then_normal ?_
      refine WC.region ?_
      refine WL.y rfl (Yd.move rfl) ?_
      refine WL.y rfl (Yd.add rfl rfl (by omega) (by omega)) ?_
      refine WL.y rfl (Yd.assign rfl) ?_
      refine WL.nil ?_
      refine DN.again (k + 1, A1 ++ ([row b (bc (((fillL ls i k)[i]'(by rw [fillL_length]; omega)).set k (patB i k)) ++ extra) 5] ++ A2)) ⟨by show k + 1 ≤ lenAt ls i; omega, by rw [← fillL_set ls i k (by omega) (by omega)]; exact hset _ _ (.inr ⟨b, uc, extra, by rw [List.length_set, hlen], by rw [List.length_set, hlen]; exact hc1, hc2, by simp [bc_length], by rw [List.length_set, hlen]; rw [hlen] at hx2; exact hx2, rfl⟩)⟩ (by show lenAt ls i - (k + 1) < lenAt ls i - k; omega) ⟨rfl, rfl, rfl, rfl, trivial⟩ ?_
      rw [show 0 + (k : Int).toNat * 1 = k by omega, set_front _ _ _ _ (by rw [bc_length, hlen]; omega), bc_set]
      exact (by classical exact List.perm_iff_count.2 fun q => by simp only [List.count_append, List.count_cons, List.count_nil]; omega)
    · have hke : k = lenAt ls i := by omega
      refine WC.exit ?_
      refine DN.then_exit ?_
      refine DN.then_exit ?_
      refine DN.block_exit ?_
      refine DN.block_normal ?_
      refine DN.then_normal ?_
      refine WC.region ?_
      refine WL.y rfl (Yd.move rfl) ?_
      refine WL.y rfl (Yd.add rfl rfl (by omega) (by omega)) ?_
      refine WL.y rfl (Yd.assign rfl) ?_
      refine WL.nil ?_
      refine DN.again (i + 1, D2) ⟨by show i + 1 ≤ N; omega, by rw [← fillL_row ls i (by omega), ← hke]; exact ho2⟩ (by show N - (i + 1) < N - i; omega) ⟨rfl, rfl, rfl, trivial⟩ (List.Perm.refl _)
  · refine WC.exit ?_
    refine DN.then_exit ?_
    refine DN.then_exit ?_
    refine DN.block_exit ?_
    refine DN.then_normal ?_
    refine WC.seq ?_
    refine WC.seq ?_
    refine WC.region ?_
    refine WL.y rfl (Yd.assign rfl) ?_
    refine WL.nil ?_
    refine DN.then_normal ?_
    refine WC.block ?_
    have hiN : N = i := by omega
    subst hiN
    have hfl : fillL ls N 0 = filled ls := by rw [filled, ← hN]
    rw [hfl] at ho0
    refine WC.loop (fun z : Nat × List Value × Value × List Ck × List Ck × List Ck => z.1 ≤ N ∧ z.2.1.length = z.1 ∧ Own z.2.2.1 z.1 z.2.1 22 1 z.2.2.2.1 ∧ Obs 5 (vs.drop z.1) ((filled ls).drop z.1) z.2.2.2.2.2 ∧ Did ls vs z.2.1 z.1 z.2.2.2.2.1) (fun z => [(0, .slice vo N vc), (3, z.2.2.1), (6, .int .i64 z.1)]) (fun z => C ++ (z.2.2.2.1 ++ (z.2.2.2.2.1 ++ z.2.2.2.2.2))) (fun z => N - z.1) (0, [], .slice none 0 0, [], [], D0) ⟨Nat.zero_le _, rfl, Own.nil _ _, ho0, fun j hj => by omega⟩ ⟨rfl, rfl, rfl, trivial⟩ (List.Perm.refl _) ?_
    rintro ⟨i, us, lv, Cl, E, D3⟩ ⟨hi4, husl, hlv, ho3, hdid⟩
    simp only at hi4 husl hlv ho3 hdid
    refine WC.seq ?_
    refine WC.seq ?_
    refine WC.region ?_
    refine WL.y rfl (Yd.move rfl) ?_
    refine WL.y rfl (Yd.move rfl) ?_
    refine WL.y rfl (Yd.len (e := 22) (by kernel_rfl) rfl) ?_
    refine WL.y rfl (Yd.lss rfl rfl) ?_
    refine WL.nil ?_
    refine DN.then_normal ?_
    refine WC.ite rfl (fun h43 => ?_) (fun h43 => ?_)
    · have hiN : i < N := by omega
      obtain ⟨u, Cu, D4, hvi, hu, ho4, rfl⟩ := Obs.first (by rw [filled_length]; omega) ho3
      rw [filled_at ls i (by omega)] at hu
      have hLi := hL i
      refine WC.skip ?_
      refine DN.then_normal ?_
      refine WC.seq ?_
      refine WC.block ?_
      refine WC.seq ?_
      refine WC.region ?_
      refine WL.y rfl (Yd.move rfl) ?_
      refine WL.y rfl (Yd.move rfl) ?_
      refine WL.elem (e := 22) (by kernel_rfl) (by kernel_rfl) (by kernel_rfl) rfl rfl (rfl) (hrs.mono fun y hy => List.mem_append_left _ hy) (hvi) (by omega) rfl rfl ?_
      intro _
      refine WL.y rfl (Yd.assign rfl) ?_
      refine WL.nil ?_
      refine DN.then_normal ?_
      refine WC.seq ?_
      refine WC.seq ?_
      refine WC.region ?_
      refine WL.y rfl (Yd.assign rfl) ?_
      refine WL.nil ?_
      refine DN.then_normal ?_
      refine WC.block ?_
      refine WC.loop (fun z : Nat × Value × List Ck × List Ck => z.1 ≤ 4 ∧ Ob 5 z.2.1 (pat i (lenAt ls i) ++ (ext i 4).take z.1) z.2.2.1 ∧ B0 u (pat i (lenAt ls i)) (z.2.2.1 ++ z.2.2.2)) (fun z => [(0, .slice vo N vc), (3, lv), (6, .int .i64 i), (7, z.2.1), (8, .int .i64 z.1)]) (fun z => z.2.2.1 ++ (z.2.2.2 ++ (C ++ (Cl ++ (E ++ D4))))) (fun z => 4 - z.1) (0, u, Cu, []) ⟨Nat.zero_le _, by simpa using hu, by simpa using hu.b0⟩ ⟨rfl, rfl, rfl, rfl, rfl, trivial⟩ (by classical exact List.perm_iff_count.2 fun q => by simp only [List.count_append, List.count_cons, List.count_nil]; omega) ?_
      rintro ⟨k, x, Cx, O⟩ ⟨hk, hx, hB⟩
      simp only at hk hx hB
      refine WC.seq ?_
      refine WC.seq ?_
      refine WC.region ?_
      refine WL.y rfl (Yd.move rfl) ?_
      refine WL.y rfl (Yd.lss rfl rfl) ?_
      refine WL.nil ?_
      refine DN.then_normal ?_
      refine WC.ite rfl (fun h51 => ?_) (fun h51 => ?_)
      · have hk4 : k < 4 := by omega
        have hnx : (ext i 4).take (k + 1) = (ext i 4).take k ++ [extB i k] := by rw [List.take_add_one, ext_get i 4 k hk4]; rfl
        have hbd : (pat i (lenAt ls i) ++ (ext i 4).take k).length ≤ 1000004 := by simp only [List.length_append, pat_length, List.length_take, ext_length]; omega
        refine WC.skip ?_
        refine DN.then_normal ?_
        refine WC.seq ?_
        refine WC.block ?_
        refine WC.region ?_
        refine WL.y rfl (Yd.move rfl) ?_
        refine WL.y rfl (Yd.move rfl) ?_
        refine WL.y rfl (Yd.mul rfl rfl (by omega) (by omega)) ?_
        refine WL.y rfl (Yd.add rfl rfl (by omega) (by omega)) ?_
        refine WL.y rfl (Yd.move rfl) ?_
        refine WL.y rfl (Yd.add rfl rfl (by omega) (by omega)) ?_
        refine WL.y rfl (Yd.to8 (extB i k) (by kernel_rfl) (by kernel_rfl) rfl rfl) ?_
        refine WL.h rfl (Hd.build1 (e := 5) (z := .int .u8 0) (by kernel_rfl) (by kernel_rfl) (by kernel_rfl) rfl rfl fun rb => ⟨_, rfl, ?_⟩)
        refine WL.h rfl (Hd.appendBKeep (e := 5) (zs := [.int .u8 0]) (C := Cx) (D := row rb (bc [extB i k]) 5 :: (O ++ (C ++ (Cl ++ (E ++ D4))))) (by kernel_rfl) (by kernel_rfl) rfl rfl rfl hx (Bs.block (bs := [extB i k]) rfl (by simp) (List.mem_append_right _ List.mem_cons_self)) (by simp only [List.length_cons, List.length_nil]; omega) (List.perm_middle).symm fun x2 C2 O2 hx2 hkeep => ⟨_, rfl, ?_⟩)
        refine WL.y rfl (Yd.assign rfl) ?_
        refine WL.nil ?_
        refine DN.block_normal ?_
        refine DN.then_normal ?_
        refine WC.region ?_
        refine WL.y rfl (Yd.move rfl) ?_
        refine WL.y rfl (Yd.add rfl rfl (by omega) (by omega)) ?_
        refine WL.y rfl (Yd.assign rfl) ?_
        refine WL.nil ?_
        refine DN.forget (C2 ++ (O2 ++ (O ++ (C ++ (Cl ++ (E ++ D4)))))) (List.Sublist.append (List.Sublist.refl _) (List.Sublist.append (List.Sublist.refl _) (List.sublist_cons_self _ _))) ?_
        refine DN.again (k + 1, x2, C2, O2 ++ O) ⟨by show k + 1 ≤ 4; omega, by rw [hnx, ← List.append_assoc]; exact hx2, B0_keep hB (by simp) hkeep⟩ (by show 4 - (k + 1) < 4 - k; omega) ⟨rfl, rfl, rfl, rfl, rfl, trivial⟩ (by classical exact List.perm_iff_count.2 fun q => by simp only [List.count_append, List.count_cons, List.count_nil]; omega)
      · have hk4 : k = 4 := by omega
        refine WC.exit ?_
        refine DN.then_exit ?_
        refine DN.then_exit ?_
        refine DN.block_exit ?_
        refine DN.then_normal ?_
        refine WC.region ?_
        refine WL.y rfl (Yd.move rfl) ?_
        refine WL.y rfl (Yd.move rfl) ?_
        refine WL.h rfl (Hd.build1 (e := 22) (z := .slice none 0 0) (by kernel_rfl) (by kernel_rfl) (by kernel_rfl) rfl hx.one_cell fun rc => ⟨_, rfl, ?_⟩)
        refine WL.h rfl (Hd.append (e := 22) (sz := 1) (bytes := 24) (zs := [.slice none 0 0]) (C := Cl) (D := row rc [x] 22 :: (Cx ++ (O ++ (C ++ (E ++ D4))))) (m := 1) (news := [x]) (by kernel_rfl) (by kernel_rfl) rfl (by omega) rfl rfl hlv (.inr ⟨rc, 0, 1, [x], 22, (0, 0), true, rfl, by omega, List.mem_append_right _ List.mem_cons_self, rfl⟩) rfl (by intro y hy; rw [List.mem_singleton.1 hy]; exact hx.one_cell) (by simp only [maxLen]; omega) (by omega) (by classical exact List.perm_iff_count.2 fun q => by simp only [List.count_append, List.count_cons, List.count_nil]; omega) fun lv2 Cl2 hlv2 _ => ⟨_, rfl, ?_⟩)
        refine WL.y rfl (Yd.assign rfl) ?_
        refine WL.nil ?_
        refine DN.block_normal ?_
        refine DN.then_normal ?_
        refine WC.region ?_
        refine WL.y rfl (Yd.move rfl) ?_
        refine WL.y rfl (Yd.add rfl rfl (by omega) (by omega)) ?_
        refine WL.y rfl (Yd.assign rfl) ?_
        refine WL.nil ?_
        refine DN.forget (Cl2 ++ (Cx ++ (O ++ (C ++ (E ++ D4))))) (List.Sublist.append (List.Sublist.refl _) (List.sublist_cons_self _ _)) ?_
        refine DN.again (i + 1, us ++ [x], lv2, Cl2, E ++ (Cx ++ O), D4) ⟨by show i + 1 ≤ N; omega, by simp [husl], hlv2, ho4, hdid.next husl hvi hB ((by rw [hk4, List.take_of_length_le (by rw [ext_length]; omega)] at hx; exact hx.b0.mono fun y hy => by simp [hy]))⟩ (by show N - (i + 1) < N - i; omega) ⟨rfl, rfl, rfl, trivial⟩ (by classical exact List.perm_iff_count.2 fun q => by simp only [List.count_append, List.count_cons, List.count_nil]; omega)
    · obtain ⟨lo, lc, rfl, hlc⟩ := hlv.form
      refine WC.exit ?_
      refine DN.then_exit ?_
      refine DN.then_exit ?_
      refine DN.block_exit ?_
      refine DN.then_normal ?_
      refine WC.seq ?_
      refine WC.seq ?_
      refine WC.region ?_
      refine WL.y rfl (Yd.assign rfl) ?_
      refine WL.nil ?_
      refine DN.then_normal ?_
      refine WC.block ?_
      have hi4N : N = i := by omega
      subst hi4N
      refine WC.loop (fun j : Nat => j ≤ N) (fun j => [(0, .slice vo N vc), (3, .slice lo N lc), (9, .int .i64 j)]) (fun _ => C ++ (Cl ++ (E ++ D3))) (fun j => N - j) 0 (Nat.zero_le _) ⟨rfl, rfl, rfl, trivial⟩ (List.Perm.refl _) ?_
      intro j hj
      refine WC.seq ?_
      refine WC.seq ?_
      refine WC.region ?_
      refine WL.y rfl (Yd.move rfl) ?_
      refine WL.y rfl (Yd.move rfl) ?_
      refine WL.y rfl (Yd.len (e := 22) (by kernel_rfl) rfl) ?_
      refine WL.y rfl (Yd.lss rfl rfl) ?_
      refine WL.nil ?_
      refine DN.then_normal ?_
      refine WC.ite rfl (fun h70 => ?_) (fun h70 => ?_)
      · have hjN : j < N := by omega
        obtain ⟨a, w, hva, hwa, hBa, hBw⟩ := hdid j (by omega)
        obtain ⟨ao, ac, rfl, hac⟩ := hBa.bs.form
        obtain ⟨wo, wc, rfl, hwc⟩ := hBw.bs.form
        rw [pat_length] at hva hac hBa
        rw [List.length_append, pat_length, ext_length] at hwa hwc hBw
        have hLj := hL j
        have hBa2 := hBa.bs.mono (B := C ++ (Cl ++ (E ++ D3))) fun y hy => by simp [hy]
        have hBw2 := hBw.bs.mono (B := C ++ (Cl ++ (E ++ D3))) fun y hy => by simp [hy]
        have hlrs := hlv.rs
        refine WC.skip ?_
        refine DN.then_normal ?_
        refine WC.seq ?_
        refine WC.block ?_
        refine WC.seq ?_
        refine WC.region ?_
        refine WL.y rfl (Yd.move rfl) ?_
        refine WL.y rfl (Yd.move rfl) ?_
        refine WL.elem (e := 22) (by kernel_rfl) (by kernel_rfl) (by kernel_rfl) rfl rfl (rfl) (hrs.mono fun y hy => List.mem_append_left _ hy) (hva) (by omega) rfl rfl ?_
        intro _
        refine WL.y rfl (Yd.len (e := 5) (by kernel_rfl) rfl) ?_
        refine WL.y rfl (Yd.assign rfl) ?_
        refine WL.nil ?_
        refine DN.then_normal ?_
        refine WC.seq ?_
        refine WC.seq ?_
        refine WC.region ?_
        refine WL.y rfl (Yd.assign rfl) ?_
        refine WL.nil ?_
        refine DN.then_normal ?_
        refine WC.block ?_
        refine WC.loop (fun k : Nat => k ≤ lenAt ls j) (fun k => [(0, .slice vo N vc), (3, .slice lo N lc), (9, .int .i64 j), (10, .int .i64 (lenAt ls j)), (11, .int .i64 k)]) (fun _ => C ++ (Cl ++ (E ++ D3))) (fun k => lenAt ls j - k) 0 (Nat.zero_le _) ⟨rfl, rfl, rfl, rfl, rfl, trivial⟩ (List.Perm.refl _) ?_
        intro k hk
        refine WC.seq ?_
        refine WC.seq ?_
        refine WC.region ?_
        refine WL.y rfl (Yd.move rfl) ?_
        refine WL.y rfl (Yd.move rfl) ?_
        refine WL.y rfl (Yd.lss rfl rfl) ?_
        refine WL.nil ?_
        refine DN.then_normal ?_
        refine WC.ite rfl (fun h80 => ?_) (fun h80 => ?_)
        · have hkl : k < lenAt ls j := by omega
          refine WC.skip ?_
          refine DN.then_normal ?_
          refine WC.seq ?_
          refine WC.block ?_
          refine WC.seq ?_
          refine WC.region ?_
          refine WL.y rfl (Yd.move rfl) ?_
          refine WL.y rfl (Yd.move rfl) ?_
          refine WL.elem (e := 22) (by kernel_rfl) (by kernel_rfl) (by kernel_rfl) rfl rfl (rfl) (hrs.mono fun y hy => List.mem_append_left _ hy) (hva) (by omega) rfl rfl ?_
          intro _
          refine WL.y rfl (Yd.move rfl) ?_
          refine WL.elem (e := 5) (by kernel_rfl) (by kernel_rfl) (by kernel_rfl) rfl rfl (rfl) (hBa2) (pat_cell j (lenAt ls j) k hkl) (hkl) rfl rfl ?_
          intro _
          refine WL.y rfl (Yd.move rfl) ?_
          refine WL.y rfl (Yd.mul rfl rfl (by omega) (by omega)) ?_
          refine WL.y rfl (Yd.move rfl) ?_
          refine WL.y rfl (Yd.rem rfl rfl (by omega) (by omega)) ?_
          refine WL.y rfl (Yd.add rfl rfl (by omega) (by omega)) ?_
          refine WL.y rfl (Yd.to8 (patB j k) (by kernel_rfl) (by kernel_rfl) rfl rfl) ?_
          refine WL.y rfl (Yd.neq8 _ _ rfl rfl rfl rfl) ?_
          refine WL.renamed (t := 96) (v := .bool false) rfl (congrArg Value.bool (decide_eq_false (fun h => h rfl))) ?_
          refine WL.nil ?_
          refine DN.then_normal ?_
          refine WC.no rfl ?_
          refine WC.skip ?_
          refine DN.block_normal ?_
          refine DN.then_normal ?_
          refine WC.region ?_
          refine WL.y rfl (Yd.move rfl) ?_
          refine WL.y rfl (Yd.add rfl rfl (by omega) (by omega)) ?_
          refine WL.y rfl (Yd.assign rfl) ?_
          refine WL.nil ?_
          exact DN.again (k + 1) (by omega) (by omega) ⟨rfl, rfl, rfl, rfl, rfl, trivial⟩ (List.Perm.refl _)
        · refine WC.exit ?_
          refine DN.then_exit ?_
          refine DN.then_exit ?_
          refine DN.block_exit ?_
          refine DN.then_normal ?_
          refine WC.seq ?_
          refine WC.region ?_
          refine WL.y rfl (Yd.assign rfl) ?_
          refine WL.nil ?_
          refine DN.then_normal ?_
          refine WC.block ?_
          refine WC.loop (fun k : Nat => k ≤ 4) (fun k => [(0, .slice vo N vc), (3, .slice lo N lc), (9, .int .i64 j), (10, .int .i64 (lenAt ls j)), (12, .int .i64 k)]) (fun _ => C ++ (Cl ++ (E ++ D3))) (fun k => 4 - k) 0 (Nat.zero_le _) ⟨rfl, rfl, rfl, rfl, rfl, trivial⟩ (List.Perm.refl _) ?_
          intro m hm
          refine WC.seq ?_
          refine WC.seq ?_
          refine WC.region ?_
          refine WL.y rfl (Yd.move rfl) ?_
          refine WL.y rfl (Yd.lss rfl rfl) ?_
          refine WL.nil ?_
          refine DN.then_normal ?_
          refine WC.ite rfl (fun h98 => ?_) (fun h98 => ?_)
          · have hm4 : m < 4 := by omega
            refine WC.skip ?_
            refine DN.then_normal ?_
            refine WC.seq ?_
            refine WC.block ?_
            refine WC.seq ?_
            refine WC.region ?_
            refine WL.y rfl (Yd.move rfl) ?_
            refine WL.y rfl (Yd.move rfl) ?_
            refine WL.elem (e := 22) (by kernel_rfl) (by kernel_rfl) (by kernel_rfl) rfl rfl (rfl) (hlrs.mono fun y hy => by simp [hy]) (hwa) (by omega) rfl rfl ?_
            intro _
            refine WL.y rfl (Yd.move rfl) ?_
            refine WL.y rfl (Yd.move rfl) ?_
            refine WL.y rfl (Yd.add rfl rfl (by omega) (by omega)) ?_
            refine WL.renamed (t := 107) (v := .int .i64 ((lenAt ls j + m : Nat) : Int)) rfl (congrArg (Value.int .i64) (by omega)) ?_
            refine WL.elem (e := 5) (by kernel_rfl) (by kernel_rfl) (by kernel_rfl) rfl rfl (rfl) (hBw2) (ext_cell j (lenAt ls j) 4 m hm4) (by omega) rfl rfl ?_
            intro _
            refine WL.y rfl (Yd.move rfl) ?_
            refine WL.y rfl (Yd.mul rfl rfl (by omega) (by omega)) ?_
            refine WL.y rfl (Yd.add rfl rfl (by omega) (by omega)) ?_
            refine WL.y rfl (Yd.move rfl) ?_
            refine WL.y rfl (Yd.add rfl rfl (by omega) (by omega)) ?_
            refine WL.y rfl (Yd.to8 (extB j m) (by kernel_rfl) (by kernel_rfl) rfl rfl) ?_
            refine WL.y rfl (Yd.neq8 _ _ rfl rfl rfl rfl) ?_
            refine WL.renamed (t := 116) (v := .bool false) rfl (congrArg Value.bool (decide_eq_false (fun h => h rfl))) ?_
            refine WL.nil ?_
            refine DN.then_normal ?_
            refine WC.no rfl ?_
            refine WC.skip ?_
            refine DN.block_normal ?_
            refine DN.then_normal ?_
            refine WC.region ?_
            refine WL.y rfl (Yd.move rfl) ?_
            refine WL.y rfl (Yd.add rfl rfl (by omega) (by omega)) ?_
            refine WL.y rfl (Yd.assign rfl) ?_
            refine WL.nil ?_
            exact DN.again (m + 1) (by omega) (by omega) ⟨rfl, rfl, rfl, rfl, rfl, trivial⟩ (List.Perm.refl _)
          · refine WC.exit ?_
            refine DN.then_exit ?_
            refine DN.then_exit ?_
            refine DN.block_exit ?_
            refine DN.block_normal ?_
            refine DN.then_normal ?_
            refine WC.region ?_
            refine WL.y rfl (Yd.move rfl) ?_
            refine WL.y rfl (Yd.add rfl rfl (by omega) (by omega)) ?_
            refine WL.y rfl (Yd.assign rfl) ?_
            refine WL.nil ?_
            exact DN.again (j + 1) (by omega) (by omega) ⟨rfl, rfl, rfl, trivial⟩ (List.Perm.refl _)
      · refine WC.exit ?_
        refine DN.then_exit ?_
        refine DN.then_exit ?_
        refine DN.block_exit ?_
        refine DN.then_normal ?_
        refine WC.seq ?_
        refine WC.region ?_
        refine WL.y rfl (Yd.assign rfl) ?_
        refine WL.nil ?_
        refine DN.then_normal ?_
        refine WC.ret ?_
        refine DN.forget [] (List.nil_sublist _) ?_
        refine DN.ret1 Try.results33 rfl ?_
        exact ⟨rfl, rfl⟩

end Go.Proofs.Ytfacofbobmlmiaa
