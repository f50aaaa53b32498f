/-
  The walks of the document's frames (drayageref03), the last of them, and of more of the lists' functions.
-/
import Derived.Test.YtfacofbobmlmiaaRef3b
set_option linter.unusedVariables false
set_option linter.unusedSimpArgs false
set_option maxHeartbeats 2000000
namespace Go.Proofs.Ytfacofbobmlmiaa
open Go.SL Go.Sum
theorem lists_step {xs bs : List (List B8')} {i : Nat} (ha : i < xs.length) (hb : i < bs.length) (h : xs.take i = bs.take i) (e : xs[i] = bs[i]) : xs.take (i + 1) = bs.take (i + 1) := by
  rw [List.take_succ_eq_append_getElem ha, List.take_succ_eq_append_getElem hb, h, e]
theorem spoil_len (l : List B8') (i : Nat) (x : B8') : (l.set i x).length = l.length := by simp


/-- drayage/drayageref03.All -/
theorem rall_tells (v : Value) (b : List B8') (H : List Ck) (hv : Bs v b H) (hl : b.length ≤ 1000000) : Tells Try.prog 37 [v] H fun r H' => ∃ u vs C D, r = .tuple #[u, .int .i64 (allOf b).2.1, .int .i64 (allOf b).2.2] ∧ Own u (allOf b).1.length vs 22 1 C ∧ Obs 5 vs (allOf b).1 D ∧ H' = C ++ (D ++ H) := by
  refine Tells.enter Try.func37 rfl Try.ntmps37 rfl ?_
  intro w0 R
  obtain ⟨vo, vc, rfl, hvc⟩ := hv.form
  refine WC.seq ?_
  refine WC.region ?_
  refine WL.y rfl (Yd.assign rfl) ?_
  refine WL.y rfl (Yd.assign rfl) ?_
  refine WL.y rfl (Yd.assign rfl) ?_
  refine WL.nil ?_
  refine DN.then_normal ?_
  refine WC.seq ?_
  refine WC.region ?_
  refine WL.y rfl (Yd.assign rfl) ?_
  refine WL.nil ?_
  refine DN.then_normal ?_
  refine WC.seq ?_
  refine WC.region ?_
  refine WL.y rfl (Yd.assign rfl) ?_
  refine WL.nil ?_
  refine DN.then_normal ?_
  refine WC.block ?_
  refine WC.loop (fun z : Nat × Nat × List (List B8') × Value × List Value × List Ck × List Ck => FrRest b z.2.2.1 z.1 z.2.1 ∧ Own z.2.2.2.1 z.2.2.1.length z.2.2.2.2.1 22 1 z.2.2.2.2.2.1 ∧ Obs 5 z.2.2.2.2.1 z.2.2.1 z.2.2.2.2.2.2) (fun z => [(0, .slice vo b.length vc), (5, z.2.2.2.1), (6, .int .i64 z.2.1)]) (fun z => z.2.2.2.2.2.1 ++ (z.2.2.2.2.2.2 ++ H)) (fun z => z.1) (b.length + 1, 0, [], .slice none 0 0, [], [], []) ⟨FrRest.start b, Own.nil _ _, Obs.nil⟩ ⟨rfl, rfl, rfl, trivial⟩ (List.Perm.refl _) ?_
  rintro ⟨f, k, acc, u, vs, C, D⟩ ⟨hr, ho, hos⟩
  simp only at hr ho hos
  have hkl := hr.here
  have hfew := hr.few
  refine WC.block ?_
  refine WC.seq ?_
  refine WC.region ?_
  refine WL.y rfl (Yd.move rfl) ?_
  refine WL.y rfl (Yd.move rfl) ?_
  refine WL.ca rfl (Ent.func Try.call35 rfl) (rget_tells _ b k _ (hv.mono fun x hx => by simp [hx]) hl (by omega)) ?_
  rintro q H1 ⟨x, G, rfl, hx, rfl⟩
  refine WL.y rfl (Yd.move rfl) ?_
  refine WL.y rfl (Yd.extract rfl rfl) ?_
  refine WL.y rfl (Yd.extract rfl rfl) ?_
  refine WL.y rfl (Yd.extract rfl rfl) ?_
  refine WL.y rfl (Yd.assign rfl) ?_
  refine WL.y rfl (Yd.assign rfl) ?_
  refine WL.y rfl (Yd.assign rfl) ?_
  refine WL.nil ?_
  refine DN.then_normal ?_
  refine WC.seq ?_
  refine WC.seq ?_
  refine WC.region ?_
  refine WL.y rfl (Yd.move rfl) ?_
  refine WL.y rfl (Yd.eql rfl rfl) ?_
  refine WL.nil ?_
  refine DN.then_normal ?_
  refine WC.ite rfl (fun h18 => ?_) (fun h18 => ?_)
  · refine WC.seq ?_
    refine WC.region ?_
    refine WL.y rfl (Yd.move rfl) ?_
    refine WL.y rfl (Yd.move rfl) ?_
    refine WL.y rfl (Yd.assign rfl) ?_
    refine WL.y rfl (Yd.assign rfl) ?_
    refine WL.y rfl (Yd.assign rfl) ?_
    refine WL.nil ?_
    refine DN.then_normal ?_
    refine WC.ret ?_
    refine DN.then_ret ?_
    refine DN.block_ret ?_
    refine DN.then_ret ?_
    refine DN.block_ret ?_
    refine DN.forget (C ++ (D ++ H)) (List.sublist_append_right _ _) ?_
    refine DN.ret3 Try.results37 rfl rfl rfl ?_
    have hall := hr.stop h18
    rw [hall]
    exact ⟨u, vs, C, D, rfl, ho, hos, rfl⟩
  · refine WC.skip ?_
    refine DN.then_normal ?_
    refine WC.seq ?_
    refine WC.seq ?_
    refine WC.region ?_
    refine WL.y rfl (Yd.move rfl) ?_
    refine WL.y rfl (Yd.neq rfl rfl) ?_
    refine WL.nil ?_
    refine DN.then_normal ?_
    refine WC.ite rfl (fun h22 => ?_) (fun h22 => ?_)
    · refine WC.seq ?_
      refine WC.region ?_
      refine WL.y rfl (Yd.move rfl) ?_
      refine WL.y rfl (Yd.move rfl) ?_
      refine WL.y rfl (Yd.assign rfl) ?_
      refine WL.y rfl (Yd.assign rfl) ?_
      refine WL.y rfl (Yd.assign rfl) ?_
      refine WL.nil ?_
      refine DN.then_normal ?_
      refine WC.ret ?_
      refine DN.then_ret ?_
      refine DN.block_ret ?_
      refine DN.then_ret ?_
      refine DN.block_ret ?_
      refine DN.forget (C ++ (D ++ H)) (List.sublist_append_right _ _) ?_
      refine DN.ret3 Try.results37 rfl rfl rfl ?_
      have hall := hr.bad (by simpa using h22) h18
      rw [hall]
      exact ⟨u, vs, C, D, rfl, ho, hos, rfl⟩
    · obtain ⟨k', f', hk2, hf2, hr2, hlt⟩ := hr.next (by simpa using h22)
      refine WC.skip ?_
      refine DN.then_normal ?_
      refine WC.seq ?_
      refine WC.region ?_
      refine WL.y rfl (Yd.move rfl) ?_
      refine WL.y rfl (Yd.move rfl) ?_
      refine WL.h rfl (Hd.build1 (e := 22) (z := .slice none 0 0) (by kernel_rfl) (by kernel_rfl) (by kernel_rfl) rfl hx.one_cell fun rb => ⟨_, rfl, ?_⟩)
      refine WL.h rfl (Hd.append (e := 22) (sz := 1) (bytes := 24) (zs := [.slice none 0 0]) (C := C) (D := row rb [x] 22 :: (G ++ (D ++ H))) (m := 1) (news := [x]) (by kernel_rfl) (by kernel_rfl) rfl (by omega) rfl rfl ho (.inr ⟨rb, 0, 1, [x], 22, (0, 0), true, rfl, by omega, List.mem_append_right _ List.mem_cons_self, rfl⟩) rfl (by intro y hy; rw [List.mem_singleton.1 hy]; exact hx.one_cell) (by simp only [maxLen]; omega) (by omega) (perm_out _ _ _ _) fun u2 C2 ho2 _ => ⟨_, rfl, ?_⟩)
      refine WL.y rfl (Yd.assign rfl) ?_
      refine WL.nil ?_
      refine DN.then_normal ?_
      refine WC.region ?_
      refine WL.y rfl (Yd.move rfl) ?_
      refine WL.y rfl (Yd.assign rfl) ?_
      refine WL.nil ?_
      refine DN.block_normal ?_
      refine DN.forget (C2 ++ (G ++ (D ++ H))) (List.Sublist.append (List.Sublist.refl _) (List.sublist_cons_self _ _)) ?_
      refine DN.again (f', k', acc ++ [(getOf b k).1], u2, vs ++ [x], C2, D ++ G) ⟨hr2, by simpa using ho2, hos.append (.one hx)⟩ (by show f' < f; omega) ⟨rfl, rfl, by rw [hk2]; rfl, trivial⟩ (perm_in _ _ _ _)

/-- drayage/drayageref00.Spoil -/
theorem spoil_tells (xo : Option Addr) (xc n k : Nat) (l : List B8') (C : List Ck) (hC : Ob 5 (.slice xo (n + k) xc) l C) (hn : l.length = n + k) (hl : n ≤ 1000000) : Tells Try.prog 29 [.slice xo n xc] C fun r H' => H' = [] := by
  refine Tells.enter Try.func29 rfl Try.ntmps29 rfl ?_
  intro w0 R
  have hex : n = 0 ∨ ∃ b extra, xo = some ⟨b, 0, none⟩ ∧ C = [row b (bc l ++ extra) 5] := by
    rcases hC with ⟨he, h0, _⟩ | ⟨b, cap, extra, he, _, _, _, _, hCC⟩
    · left; omega
    · simp only [Value.slice.injEq] at he
      obtain ⟨rfl, _, _⟩ := he
      exact .inr ⟨b, extra, rfl, hCC⟩
  refine WC.seq ?_
  refine WC.region ?_
  refine WL.y rfl (Yd.assign rfl) ?_
  refine WL.nil ?_
  refine DN.then_normal ?_
  refine WC.block ?_
  refine WC.loop (fun z : Nat × List B8' × List Ck => z.1 ≤ n ∧ z.2.1.length = n + k ∧ (n = 0 ∨ ∃ b extra, xo = some ⟨b, 0, none⟩ ∧ z.2.2 = [row b (bc z.2.1 ++ extra) 5])) (fun z => [(0, .slice xo n xc), (2, .int .i64 z.1)]) (fun z => z.2.2) (fun z => n - z.1) (0, l, C) ⟨Nat.zero_le _, hn, hex⟩ ⟨rfl, rfl, trivial⟩ (List.Perm.refl _) ?_
  rintro ⟨i, ys, E⟩ ⟨hi, hys, he⟩
  simp only at hi hys he
  refine WC.seq ?_
  refine WC.seq ?_
  refine WC.region ?_
  refine WL.y rfl (Yd.move rfl) ?_
  refine WL.y rfl (Yd.move rfl) ?_
  refine WL.y rfl (Yd.len (e := 5) (by kernel_rfl) rfl) ?_
  refine WL.y rfl (Yd.lss rfl rfl) ?_
  refine WL.nil ?_
  refine DN.then_normal ?_
  refine WC.ite rfl (fun h6 => ?_) (fun h6 => ?_)
  · have hlt : i < n := by omega
    obtain ⟨b, extra, rfl, rfl⟩ := he.resolve_left (by omega)
    refine WC.skip ?_
    refine DN.then_normal ?_
    refine WC.seq ?_
    refine WC.block ?_
    refine WC.region ?_
    refine WL.y rfl (Yd.move rfl) ?_
    refine WL.y rfl (Yd.move rfl) ?_
    refine WL.y rfl (Yd.move rfl) ?_
    refine WL.y rfl (Yd.move rfl) ?_
    refine WL.y rfl (Yd.indexAddr (e := 5) (s := 1) (by kernel_rfl) (by kernel_rfl) rfl rfl (by omega) (by omega)) ?_
    refine WL.h rfl (Hd.load1 (v := .int .u8 (ys.getD i 0#8).toNat) (b := b) (cs := bc ys ++ extra) (by kernel_rfl) rfl List.mem_cons_self (by rw [show 0 + (i : Int).toNat * 1 = i by omega, List.getElem?_append_left (by rw [bc_length]; omega)]; exact bc_getD (by omega)) ⟨_, rfl, ?_⟩)
    refine WL.y rfl (Yd.xor8 _ (165#8) rfl rfl rfl rfl) ?_
    refine WL.y rfl (Yd.indexAddr (e := 5) (s := 1) (by kernel_rfl) (by kernel_rfl) rfl rfl (by omega) (by omega)) ?_
    refine WL.s (Hd.store1 (b := b) (cs := bc ys ++ extra) (T' := 5) (D := []) (by kernel_rfl) rfl rfl rfl (List.Perm.refl _) (by simp [bc_length]; omega) ⟨rfl, ?_⟩)
    refine WL.nil ?_
    refine DN.block_normal ?_
    refine DN.then_normal ?_
    refine WC.region ?_
    refine WL.y rfl (Yd.move rfl) ?_
    refine WL.y rfl (Yd.add rfl rfl (by omega) (by omega)) ?_
    refine WL.y rfl (Yd.assign rfl) ?_
    refine WL.nil ?_
    refine DN.again (i + 1, ys.set i (ys.getD i 0#8 ^^^ 165#8), [row b (bc (ys.set i (ys.getD i 0#8 ^^^ 165#8)) ++ extra) 5]) ⟨by show i + 1 ≤ n; omega, by simp [hys], .inr ⟨b, extra, rfl, rfl⟩⟩ (by show n - (i + 1) < n - i; omega) ⟨rfl, rfl, trivial⟩ ?_
    rw [show 0 + (i : Int).toNat * 1 = i by omega, set_front _ _ _ _ (by rw [bc_length]; omega), bc_set]
    try exact List.Perm.refl _
  · refine WC.exit ?_
    refine DN.then_exit ?_
    refine DN.then_exit ?_
    refine DN.block_exit ?_
    refine DN.forget [] (List.nil_sublist _) ?_
    refine DN.end0 Try.results29 ?_
    exact rfl

/-- drayage/drayageref00.SameLists -/
theorem sameLists_reads (u v : Value) (xs bs : List (List B8')) (H : List Ck) (hu : Bss u xs H) (hv : Bss v bs H) (hl : xs.length ≤ 9223372036854775807) : Reads Try.prog 38 [u, v] H (.bool (decide (xs = bs))) := by
  refine Tells.enter Try.func38 rfl Try.ntmps38 rfl ?_
  intro w0 R
  obtain ⟨uo, uc, rfl, huc⟩ := Bss.form hu
  obtain ⟨vo, vc, rfl, hvc⟩ := Bss.form hv
  obtain ⟨us, hru, hul, hus⟩ := hu.open
  obtain ⟨vs, hrv, hvl, hvs⟩ := hv.open
  refine WC.seq ?_
  refine WC.region ?_
  refine WL.y rfl (Yd.assign rfl) ?_
  refine WL.nil ?_
  refine DN.then_normal ?_
  refine WC.seq ?_
  refine WC.seq ?_
  refine WC.region ?_
  refine WL.y rfl (Yd.move rfl) ?_
  refine WL.y rfl (Yd.len (e := 22) (by kernel_rfl) rfl) ?_
  refine WL.y rfl (Yd.move rfl) ?_
  refine WL.y rfl (Yd.len (e := 22) (by kernel_rfl) rfl) ?_
  refine WL.y rfl (Yd.neq rfl rfl) ?_
  refine WL.nil ?_
  refine DN.then_normal ?_
  refine WC.ite rfl (fun h10 => ?_) (fun h10 => ?_)
  · have hne : xs ≠ bs := by rintro rfl; exact h10 rfl
    refine WC.seq ?_
    refine WC.region ?_
    refine WL.y rfl (Yd.assign rfl) ?_
    refine WL.nil ?_
    refine DN.then_normal ?_
    refine WC.ret ?_
    refine DN.then_ret ?_
    refine DN.ret1 Try.results38 rfl ?_
    exact ⟨by rw [decide_eq_false hne], rfl⟩
  · have hlen : xs.length = bs.length := by omega
    refine WC.skip ?_
    refine DN.then_normal ?_
    refine WC.seq ?_
    refine WC.seq ?_
    refine WC.region ?_
    refine WL.y rfl (Yd.assign rfl) ?_
    refine WL.nil ?_
    refine DN.then_normal ?_
    refine WC.block ?_
    refine WC.loop (fun i : Nat => i ≤ xs.length ∧ xs.take i = bs.take i) (fun i => [(0, .slice uo xs.length uc), (1, .slice vo bs.length vc), (5, .int .i64 i)]) (fun _ => H) (fun i => xs.length - i) 0 ⟨Nat.zero_le _, rfl⟩ ⟨rfl, rfl, rfl, trivial⟩ (List.Perm.refl _) ?_
    rintro i ⟨hi, hsame⟩
    refine WC.seq ?_
    refine WC.seq ?_
    refine WC.region ?_
    refine WL.y rfl (Yd.move rfl) ?_
    refine WL.y rfl (Yd.move rfl) ?_
    refine WL.y rfl (Yd.len (e := 22) (by kernel_rfl) rfl) ?_
    refine WL.y rfl (Yd.lss rfl rfl) ?_
    refine WL.nil ?_
    refine DN.then_normal ?_
    refine WC.ite rfl (fun h14 => ?_) (fun h14 => ?_)
    · have hia : i < xs.length := by omega
      have hib : i < bs.length := by omega
      obtain ⟨a1, c1, hga, hxs⟩ := hus i hia
      obtain ⟨a2, c2, hgb, hbs⟩ := hvs i hib
      obtain ⟨ba, oa, csa, Ta, fra, exa, ea, hma, hca⟩ := hru.at (by intro e; have h9 := congrArg List.length e; simp only [List.length_nil] at h9; omega)
      obtain ⟨bb, ob, csb, Tb, frb, exb, eb, hmb, hcb⟩ := hrv.at (by intro e; have h9 := congrArg List.length e; simp only [List.length_nil] at h9; omega)
      subst ea eb
      have hla := hca i _ hga
      have hlb := hcb i _ hgb
      refine WC.skip ?_
      refine DN.then_normal ?_
      refine WC.seq ?_
      refine WC.block ?_
      refine WC.seq ?_
      refine WC.draw 11 (by kernel_rfl) rfl ?_
      refine WA.y (i := 0) (NoPanic.then (NoPanic.block (NoPanic.then (NoPanic.then (NoPanic.block (NoPanic.then (NoPanic.body))))))) rfl (by kernel_rfl) (by kernel_rfl) (by kernel_rfl) rfl (Yd.move rfl) ?_
      refine WA.y (i := 1) (NoPanic.then (NoPanic.block (NoPanic.then (NoPanic.then (NoPanic.block (NoPanic.then (NoPanic.body))))))) rfl (by kernel_rfl) (by kernel_rfl) (by kernel_rfl) rfl (Yd.move rfl) ?_
      refine WA.y (i := 2) (NoPanic.then (NoPanic.block (NoPanic.then (NoPanic.then (NoPanic.block (NoPanic.then (NoPanic.body))))))) rfl (by kernel_rfl) (by kernel_rfl) (by kernel_rfl) rfl (Yd.indexAddr (e := 22) (s := 1) (by kernel_rfl) (by kernel_rfl) rfl rfl (by omega) (by omega)) ?_
      refine WA.y (i := 5) (NoPanic.then (NoPanic.block (NoPanic.then (NoPanic.then (NoPanic.block (NoPanic.then (NoPanic.body))))))) rfl (by kernel_rfl) (by kernel_rfl) (by kernel_rfl) rfl (Yd.move rfl) ?_
      refine WA.y (i := 6) (NoPanic.then (NoPanic.block (NoPanic.then (NoPanic.then (NoPanic.block (NoPanic.then (NoPanic.body))))))) rfl (by kernel_rfl) (by kernel_rfl) (by kernel_rfl) rfl (Yd.move rfl) ?_
      refine WA.y (i := 7) (NoPanic.then (NoPanic.block (NoPanic.then (NoPanic.then (NoPanic.block (NoPanic.then (NoPanic.body))))))) rfl (by kernel_rfl) (by kernel_rfl) (by kernel_rfl) rfl (Yd.indexAddr (e := 22) (s := 1) (by kernel_rfl) (by kernel_rfl) rfl rfl (by omega) (by omega)) ?_
      refine WA.two (i := 3) (j := 8) (by kernel_rfl) ?_ ?_
      · refine WO.h rfl Wt.none rfl (Hd.load1 (b := ba) (cs := csa.toList) (by kernel_rfl) rfl (by simpa using hma) (by simpa using hla) ⟨_, rfl, ?_⟩)
        refine WA.two (i := 4) (j := 8) (by kernel_rfl) ?_ ?_
        · refine WO.h rfl Wt.none rfl (Hd.toStr (e := 5) (bs := xs[i]) (by kernel_rfl) (by kernel_rfl) Try.underlying9 rfl hxs ⟨_, rfl, ?_⟩)
          refine WA.one (i := 8) (by kernel_rfl) ?_
          refine WO.h rfl Wt.none rfl (Hd.load1 (b := bb) (cs := csb.toList) (by kernel_rfl) rfl (by simpa using hmb) (by simpa using hlb) ⟨_, rfl, ?_⟩)
          refine WA.one (i := 9) (by kernel_rfl) ?_
          refine WO.h rfl Wt.none rfl (Hd.toStr (e := 5) (bs := bs[i]) (by kernel_rfl) (by kernel_rfl) Try.underlying9 rfl hbs ⟨_, rfl, ?_⟩)
          refine WA.y (i := 10) (NoPanic.then (NoPanic.block (NoPanic.then (NoPanic.then (NoPanic.block (NoPanic.then (NoPanic.body))))))) rfl (by kernel_rfl) (by kernel_rfl) (by kernel_rfl) rfl (Yd.neqS rfl rfl) ?_
          refine WA.done (by kernel_rfl) ?_
          refine DN.then_normal ?_
          refine WC.ite rfl (fun h27 => ?_) (fun h27 => ?_)
          · refine WC.seq ?_
            refine WC.region ?_
            refine WL.y rfl (Yd.assign rfl) ?_
            refine WL.nil ?_
            refine DN.then_normal ?_
            refine WC.ret ?_
            refine DN.block_ret ?_
            refine DN.then_ret ?_
            refine DN.then_ret ?_
            refine DN.block_ret ?_
            refine DN.then_ret ?_
            refine DN.ret1 Try.results38 rfl ?_
            exact ⟨by rw [decide_eq_false]; rintro rfl; exact h27 rfl, rfl⟩
          · refine WC.skip ?_
            refine DN.block_normal ?_
            refine DN.then_normal ?_
            refine WC.region ?_
            refine WL.y rfl (Yd.move rfl) ?_
            refine WL.y rfl (Yd.add rfl rfl (by omega) (by omega)) ?_
            refine WL.y rfl (Yd.assign rfl) ?_
            refine WL.nil ?_
            exact DN.again (i + 1) ⟨by omega, lists_step hia hib hsame (by simpa [str_inj] using h27)⟩ (by omega) ⟨rfl, rfl, rfl, trivial⟩ (List.Perm.refl _)
        · refine WO.h rfl Wt.none rfl (Hd.load1 (b := bb) (cs := csb.toList) (by kernel_rfl) rfl (by simpa using hmb) (by simpa using hlb) ⟨_, rfl, ?_⟩)
          refine WA.two (i := 4) (j := 9) (by kernel_rfl) ?_ ?_
          · refine WO.h rfl Wt.none rfl (Hd.toStr (e := 5) (bs := xs[i]) (by kernel_rfl) (by kernel_rfl) Try.underlying9 rfl hxs ⟨_, rfl, ?_⟩)
            refine WA.one (i := 9) (by kernel_rfl) ?_
            refine WO.h rfl Wt.none rfl (Hd.toStr (e := 5) (bs := bs[i]) (by kernel_rfl) (by kernel_rfl) Try.underlying9 rfl hbs ⟨_, rfl, ?_⟩)
            refine WA.y (i := 10) (NoPanic.then (NoPanic.block (NoPanic.then (NoPanic.then (NoPanic.block (NoPanic.then (NoPanic.body))))))) rfl (by kernel_rfl) (by kernel_rfl) (by kernel_rfl) rfl (Yd.neqS rfl rfl) ?_
            refine WA.done (by kernel_rfl) ?_
            refine DN.then_normal ?_
            refine WC.ite rfl (fun h27 => ?_) (fun h27 => ?_)
            · refine WC.seq ?_
              refine WC.region ?_
              refine WL.y rfl (Yd.assign rfl) ?_
              refine WL.nil ?_
              refine DN.then_normal ?_
              refine WC.ret ?_
              refine DN.block_ret ?_
              refine DN.then_ret ?_
              refine DN.then_ret ?_
              refine DN.block_ret ?_
              refine DN.then_ret ?_
              refine DN.ret1 Try.results38 rfl ?_
              exact ⟨by rw [decide_eq_false]; rintro rfl; exact h27 rfl, rfl⟩
            · refine WC.skip ?_
              refine DN.block_normal ?_
              refine DN.then_normal ?_
              refine WC.region ?_
              refine WL.y rfl (Yd.move rfl) ?_
              refine WL.y rfl (Yd.add rfl rfl (by omega) (by omega)) ?_
              refine WL.y rfl (Yd.assign rfl) ?_
              refine WL.nil ?_
              exact DN.again (i + 1) ⟨by omega, lists_step hia hib hsame (by simpa [str_inj] using h27)⟩ (by omega) ⟨rfl, rfl, rfl, trivial⟩ (List.Perm.refl _)
          · refine WO.h rfl Wt.none rfl (Hd.toStr (e := 5) (bs := bs[i]) (by kernel_rfl) (by kernel_rfl) Try.underlying9 rfl hbs ⟨_, rfl, ?_⟩)
            refine WA.one (i := 4) (by kernel_rfl) ?_
            refine WO.h rfl Wt.none rfl (Hd.toStr (e := 5) (bs := xs[i]) (by kernel_rfl) (by kernel_rfl) Try.underlying9 rfl hxs ⟨_, rfl, ?_⟩)
            refine WA.y (i := 10) (NoPanic.then (NoPanic.block (NoPanic.then (NoPanic.then (NoPanic.block (NoPanic.then (NoPanic.body))))))) rfl (by kernel_rfl) (by kernel_rfl) (by kernel_rfl) rfl (Yd.neqS rfl rfl) ?_
            refine WA.done (by kernel_rfl) ?_
            refine DN.then_normal ?_
            refine WC.ite rfl (fun h27 => ?_) (fun h27 => ?_)
            · refine WC.seq ?_
              refine WC.region ?_
              refine WL.y rfl (Yd.assign rfl) ?_
              refine WL.nil ?_
              refine DN.then_normal ?_
              refine WC.ret ?_
              refine DN.block_ret ?_
              refine DN.then_ret ?_
              refine DN.then_ret ?_
              refine DN.block_ret ?_
              refine DN.then_ret ?_
              refine DN.ret1 Try.results38 rfl ?_
              exact ⟨by rw [decide_eq_false]; rintro rfl; exact h27 rfl, rfl⟩
            · refine WC.skip ?_
              refine DN.block_normal ?_
              refine DN.then_normal ?_
              refine WC.region ?_
              refine WL.y rfl (Yd.move rfl) ?_
              refine WL.y rfl (Yd.add rfl rfl (by omega) (by omega)) ?_
              refine WL.y rfl (Yd.assign rfl) ?_
              refine WL.nil ?_
              exact DN.again (i + 1) ⟨by omega, lists_step hia hib hsame (by simpa [str_inj] using h27)⟩ (by omega) ⟨rfl, rfl, rfl, trivial⟩ (List.Perm.refl _)
      · refine WO.h rfl Wt.none rfl (Hd.load1 (b := bb) (cs := csb.toList) (by kernel_rfl) rfl (by simpa using hmb) (by simpa using hlb) ⟨_, rfl, ?_⟩)
        refine WA.two (i := 3) (j := 9) (by kernel_rfl) ?_ ?_
        · refine WO.h rfl Wt.none rfl (Hd.load1 (b := ba) (cs := csa.toList) (by kernel_rfl) rfl (by simpa using hma) (by simpa using hla) ⟨_, rfl, ?_⟩)
          refine WA.two (i := 4) (j := 9) (by kernel_rfl) ?_ ?_
          · refine WO.h rfl Wt.none rfl (Hd.toStr (e := 5) (bs := xs[i]) (by kernel_rfl) (by kernel_rfl) Try.underlying9 rfl hxs ⟨_, rfl, ?_⟩)
            refine WA.one (i := 9) (by kernel_rfl) ?_
            refine WO.h rfl Wt.none rfl (Hd.toStr (e := 5) (bs := bs[i]) (by kernel_rfl) (by kernel_rfl) Try.underlying9 rfl hbs ⟨_, rfl, ?_⟩)
            refine WA.y (i := 10) (NoPanic.then (NoPanic.block (NoPanic.then (NoPanic.then (NoPanic.block (NoPanic.then (NoPanic.body))))))) rfl (by kernel_rfl) (by kernel_rfl) (by kernel_rfl) rfl (Yd.neqS rfl rfl) ?_
            refine WA.done (by kernel_rfl) ?_
            refine DN.then_normal ?_
            refine WC.ite rfl (fun h27 => ?_) (fun h27 => ?_)
            · refine WC.seq ?_
              refine WC.region ?_
              refine WL.y rfl (Yd.assign rfl) ?_
              refine WL.nil ?_
              refine DN.then_normal ?_
              refine WC.ret ?_
              refine DN.block_ret ?_
              refine DN.then_ret ?_
              refine DN.then_ret ?_
              refine DN.block_ret ?_
              refine DN.then_ret ?_
              refine DN.ret1 Try.results38 rfl ?_
              exact ⟨by rw [decide_eq_false]; rintro rfl; exact h27 rfl, rfl⟩
            · refine WC.skip ?_
              refine DN.block_normal ?_
              refine DN.then_normal ?_
              refine WC.region ?_
              refine WL.y rfl (Yd.move rfl) ?_
              refine WL.y rfl (Yd.add rfl rfl (by omega) (by omega)) ?_
              refine WL.y rfl (Yd.assign rfl) ?_
              refine WL.nil ?_
              exact DN.again (i + 1) ⟨by omega, lists_step hia hib hsame (by simpa [str_inj] using h27)⟩ (by omega) ⟨rfl, rfl, rfl, trivial⟩ (List.Perm.refl _)
          · refine WO.h rfl Wt.none rfl (Hd.toStr (e := 5) (bs := bs[i]) (by kernel_rfl) (by kernel_rfl) Try.underlying9 rfl hbs ⟨_, rfl, ?_⟩)
            refine WA.one (i := 4) (by kernel_rfl) ?_
            refine WO.h rfl Wt.none rfl (Hd.toStr (e := 5) (bs := xs[i]) (by kernel_rfl) (by kernel_rfl) Try.underlying9 rfl hxs ⟨_, rfl, ?_⟩)
            refine WA.y (i := 10) (NoPanic.then (NoPanic.block (NoPanic.then (NoPanic.then (NoPanic.block (NoPanic.then (NoPanic.body))))))) rfl (by kernel_rfl) (by kernel_rfl) (by kernel_rfl) rfl (Yd.neqS rfl rfl) ?_
            refine WA.done (by kernel_rfl) ?_
            refine DN.then_normal ?_
            refine WC.ite rfl (fun h27 => ?_) (fun h27 => ?_)
            · refine WC.seq ?_
              refine WC.region ?_
              refine WL.y rfl (Yd.assign rfl) ?_
              refine WL.nil ?_
              refine DN.then_normal ?_
              refine WC.ret ?_
              refine DN.block_ret ?_
              refine DN.then_ret ?_
              refine DN.then_ret ?_
              refine DN.block_ret ?_
              refine DN.then_ret ?_
              refine DN.ret1 Try.results38 rfl ?_
              exact ⟨by rw [decide_eq_false]; rintro rfl; exact h27 rfl, rfl⟩
            · refine WC.skip ?_
              refine DN.block_normal ?_
              refine DN.then_normal ?_
              refine WC.region ?_
              refine WL.y rfl (Yd.move rfl) ?_
              refine WL.y rfl (Yd.add rfl rfl (by omega) (by omega)) ?_
              refine WL.y rfl (Yd.assign rfl) ?_
              refine WL.nil ?_
              exact DN.again (i + 1) ⟨by omega, lists_step hia hib hsame (by simpa [str_inj] using h27)⟩ (by omega) ⟨rfl, rfl, rfl, trivial⟩ (List.Perm.refl _)
        · refine WO.h rfl Wt.none rfl (Hd.toStr (e := 5) (bs := bs[i]) (by kernel_rfl) (by kernel_rfl) Try.underlying9 rfl hbs ⟨_, rfl, ?_⟩)
          refine WA.one (i := 3) (by kernel_rfl) ?_
          refine WO.h rfl Wt.none rfl (Hd.load1 (b := ba) (cs := csa.toList) (by kernel_rfl) rfl (by simpa using hma) (by simpa using hla) ⟨_, rfl, ?_⟩)
          refine WA.one (i := 4) (by kernel_rfl) ?_
          refine WO.h rfl Wt.none rfl (Hd.toStr (e := 5) (bs := xs[i]) (by kernel_rfl) (by kernel_rfl) Try.underlying9 rfl hxs ⟨_, rfl, ?_⟩)
          refine WA.y (i := 10) (NoPanic.then (NoPanic.block (NoPanic.then (NoPanic.then (NoPanic.block (NoPanic.then (NoPanic.body))))))) rfl (by kernel_rfl) (by kernel_rfl) (by kernel_rfl) rfl (Yd.neqS rfl rfl) ?_
          refine WA.done (by kernel_rfl) ?_
          refine DN.then_normal ?_
          refine WC.ite rfl (fun h27 => ?_) (fun h27 => ?_)
          · refine WC.seq ?_
            refine WC.region ?_
            refine WL.y rfl (Yd.assign rfl) ?_
            refine WL.nil ?_
            refine DN.then_normal ?_
            refine WC.ret ?_
            refine DN.block_ret ?_
            refine DN.then_ret ?_
            refine DN.then_ret ?_
            refine DN.block_ret ?_
            refine DN.then_ret ?_
            refine DN.ret1 Try.results38 rfl ?_
            exact ⟨by rw [decide_eq_false]; rintro rfl; exact h27 rfl, rfl⟩
          · refine WC.skip ?_
            refine DN.block_normal ?_
            refine DN.then_normal ?_
            refine WC.region ?_
            refine WL.y rfl (Yd.move rfl) ?_
            refine WL.y rfl (Yd.add rfl rfl (by omega) (by omega)) ?_
            refine WL.y rfl (Yd.assign rfl) ?_
            refine WL.nil ?_
            exact DN.again (i + 1) ⟨by omega, lists_step hia hib hsame (by simpa [str_inj] using h27)⟩ (by omega) ⟨rfl, rfl, rfl, trivial⟩ (List.Perm.refl _)
    · have hii : i = xs.length := by omega
      subst hii
      rw [List.take_length, hlen, List.take_length] at hsame
      refine WC.exit ?_
      refine DN.then_exit ?_
      refine DN.then_exit ?_
      refine DN.block_exit ?_
      refine DN.then_normal ?_
      refine WC.seq ?_
      refine WC.region ?_
      refine WL.y rfl (Yd.assign rfl) ?_
      refine WL.nil ?_
      refine DN.then_normal ?_
      refine WC.ret ?_
      refine DN.ret1 Try.results38 rfl ?_
      exact ⟨by rw [decide_eq_true hsame], rfl⟩

end Go.Proofs.Ytfacofbobmlmiaa
