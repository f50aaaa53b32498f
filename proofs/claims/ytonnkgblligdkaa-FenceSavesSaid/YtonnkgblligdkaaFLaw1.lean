/-
  The laws of the fence: how much is looked at; writing over bytes.
-/
import Derived.Test.YtonnkgblligdkaaFRef1
import Derived.Test.YtonnkgblligdkaaFence7
import Derived.Test.YtonnkgblligdkaaFenceMath4
set_option linter.unusedVariables false
set_option linter.unusedSimpArgs false
set_option maxHeartbeats 4000000
namespace Go.Proofs.Ytonnkgblligdkaa
open Go.SL


/-- drayage/drayagelaw08.many -/
theorem many_tells (e : BitVec 32) (v : Value) (ks : List Kp) (H : List Ck) (hv : KV v ks H) (hl : ks.length ≤ maxLen) (n : Nt) (vk vd : Value) (hvk : Bs vk n.key H) (hvd : Bs vd n.data H) (hd : n.data.length ≤ maxLen) : Tells Try.prog 11 [.agg #[.int .u32 e.toNat, v], .agg (ntc n vk vd).toArray] H fun r H' => ∃ b, r = .bool b ∧ (b = false → ks.length ≤ 300 ∧ (∀ k ∈ ks, k.asked.length ≤ 30000 ∧ k.reply.length ≤ 30000) ∧ n.data.length ≤ 31000) ∧ H' = H := by
  refine Tells.enter Try.func11 rfl Try.ntmps11 rfl ?_
  intro w0 R
  simp only [maxLen] at hl hd
  obtain ⟨cs, hr, hk⟩ := hv
  obtain ⟨ao, c, rfl, hc⟩ := hr.form
  obtain ⟨ko, kcap, rfl, hkc⟩ := hvk.form
  obtain ⟨do_, dc, rfl, hdc⟩ := hvd.form
  have hcl := hk.len
  refine WC.seq ?_
  refine WC.region ?_
  refine WL.h rfl (Hd.boxA rfl fun b2 => ⟨_, rfl, ?_⟩)
  refine WL.h rfl (Hd.boxA rfl fun b3 => ⟨_, rfl, ?_⟩)
  refine WL.y rfl (Yd.assign rfl) ?_
  refine WL.nil ?_
  refine DN.then_normal ?_
  refine WC.seq ?_
  refine WC.region ?_
  refine WL.y rfl (Yd.fieldAddr (k := 10) kr_ rfl) ?_
  refine WL.h rfl (Hd.load1 kr_ rfl mem_ (by rfl) ⟨_, rfl, ?_⟩)
  refine WL.y rfl (Yd.len (e := 5) kr_ rfl) ?_
  refine WL.y rfl (Yd.quo rfl rfl (by omega) (by omega) (by omega)) ?_
  refine WL.y rfl (Yd.assign rfl) ?_
  refine WL.nil ?_
  refine DN.then_normal ?_
  refine WC.seq ?_
  refine WC.seq ?_
  refine WC.region ?_
  refine WL.y rfl (Yd.assign rfl) ?_
  refine WL.nil ?_
  refine DN.then_normal ?_
  refine WC.block ?_
  refine WC.loopS (fun z : Nat × Int => z.1 ≤ ks.length ∧ (z.1 : Int) ≤ z.2 ∧ (n.data.length : Int) / 100 ≤ z.2 ∧ z.2 ≤ (n.data.length : Int) / 100 + 1000 ∧ ∀ k ∈ ks.take z.1, fewK k z.2) (fun z : Nat × Int => [(6, .int .i64 (z.1 : Int)), (5, .int .i64 z.2)]) (fun z : Nat × Int => row b3 (ntc n (.slice ko n.key.length kcap) (.slice do_ n.data.length dc)) 29 :: row b2 [.int .u32 e.toNat, .slice ao ks.length c] 25 :: H) (fun z : Nat × Int => ks.length - z.1) (⟨0, ((n.data.length : Int) / 100)⟩) (show 0 ≤ ks.length ∧ (0 : Int) ≤ (((n.data.length : Int) / 100)) ∧ (n.data.length : Int) / 100 ≤ (((n.data.length : Int) / 100)) ∧ (((n.data.length : Int) / 100)) ≤ (n.data.length : Int) / 100 + 1000 ∧ ∀ k ∈ ks.take 0, fewK k (((n.data.length : Int) / 100)) from ⟨Nat.zero_le _, by show ((0 : Nat) : Int) ≤ _; omega, Int.le_refl _, by omega, by simp⟩) (Sx.put rfl (Sx.put rfl (sx_))) sp_ ?_
  rintro ⟨i, m⟩ hI
  replace hI : i ≤ ks.length ∧ (i : Int) ≤ m ∧ (n.data.length : Int) / 100 ≤ m ∧ m ≤ (n.data.length : Int) / 100 + 1000 ∧ ∀ k ∈ ks.take i, fewK k m := hI
  obtain ⟨hi, him, hdm, hmm, hall⟩ := hI
  change WC _ _ _ _ _ _ ([(6, .int .i64 (i : Int)), (5, .int .i64 m)] ++ _) (row b3 (ntc n (.slice ko n.key.length kcap) (.slice do_ n.data.length dc)) 29 :: row b2 [.int .u32 e.toNat, .slice ao ks.length c] 25 :: H)
  refine WC.seq ?_
  refine WC.seq ?_
  refine WC.region ?_
  refine WL.y rfl (Yd.move rfl) ?_
  refine WL.y rfl (Yd.fieldAddr (k := 1) kr_ rfl) ?_
  refine WL.h rfl (Hd.load1 kr_ rfl mem_ (by rfl) ⟨_, rfl, ?_⟩)
  refine WL.y rfl (Yd.len (e := 43) kr_ rfl) ?_
  refine WL.y rfl (Yd.lss rfl rfl) ?_
  refine WL.y rfl (Yd.move rfl) ?_
  refine WL.partP (t := 16) rfl (fun hg16 => ?_) (fun hg16 => ?_)
  · refine WL.gy (dj := 16) rfl rfl rfl (Yd.move rfl) ?_
    refine WL.gy (dj := 16) rfl rfl rfl (Yd.leq rfl rfl) ?_
    refine WL.y rfl (Yd.pickT rfl rfl) ?_
    refine WL.nil ?_
    refine DN.then_normal ?_
    refine WC.ite rfl (fun h19 => ?_) (fun h19 => ?_)
    · have hlt : i < ks.length := by omega
      obtain ⟨va, vr, hg, hva, hvr⟩ := hk.at i hlt
      obtain ⟨ao1, ac1, rfl, _⟩ := hva.form
      obtain ⟨ro1, rc1, rfl, _⟩ := hvr.form
      obtain ⟨lb, lf, lcs, lT, lfr, lex, elo, _, hlm, hlcs⟩ := hr.lies (by omega)
      refine WC.skip ?_
      refine DN.then_normal ?_
      refine WC.seq ?_
      refine WC.block ?_
      refine WC.draw 23 kr_ rfl ?_
      refine WA.quiet 23 0 rfl rfl kr_ kr_ kr_ rfl ?_
      refine WQ.y rfl (Yd.move rfl) ?_
      refine WQ.y rfl (Yd.fieldAddr (k := 1) kr_ rfl) ?_
      refine WQ.rd rfl Wt.none (Rd.load1 kr_ rfl mem_ (by rfl)) ?_
      refine WQ.y rfl (Yd.move rfl) ?_
      refine WQ.y rfl (Yd.indexAddr (e := 43) (s := 6) (b := lb) (o := lf) (n := ks.length) (c := c) kr_ kr_ (congrArg (fun q => some (Value.slice q ks.length c)) elo) rfl (by omega) (by omega)) ?_
      refine WQ.y rfl (Yd.fieldAddr (k := 3) kr_ rfl) ?_
      refine WQ.rd rfl Wt.none (Rd.load1 (v := .slice ao1 ks[i].asked.length ac1) (b := lb) (o := lf + (i : Int).toNat * 6 + 3) (cs := lcs) kr_ rfl (Gr.get gr_ hlm) (kc_cell hlcs (by omega) hg rfl)) ?_
      refine WQ.y rfl (Yd.len (e := 5) kr_ rfl) ?_
      refine WQ.y rfl (Yd.min2 rfl rfl) ?_
      refine WQ.y rfl (Yd.quo rfl rfl (by omega) (by omega) (by omega)) ?_
      refine WQ.y rfl (Yd.add rfl rfl (by omega) (by omega)) ?_
      refine WQ.y rfl (Yd.fieldAddr (k := 1) kr_ rfl) ?_
      refine WQ.rd rfl Wt.none (Rd.load1 kr_ rfl mem_ (by rfl)) ?_
      refine WQ.y rfl (Yd.move rfl) ?_
      refine WQ.y rfl (Yd.indexAddr (e := 43) (s := 6) (b := lb) (o := lf) (n := ks.length) (c := c) kr_ kr_ (congrArg (fun q => some (Value.slice q ks.length c)) elo) rfl (by omega) (by omega)) ?_
      refine WQ.y rfl (Yd.fieldAddr (k := 5) kr_ rfl) ?_
      refine WQ.rd rfl Wt.none (Rd.load1 (v := .slice ro1 ks[i].reply.length rc1) (b := lb) (o := lf + (i : Int).toNat * 6 + 5) (cs := lcs) kr_ rfl (Gr.get gr_ hlm) (kc_cell hlcs (by omega) hg rfl)) ?_
      refine WQ.y rfl (Yd.len (e := 5) kr_ rfl) ?_
      refine WQ.y rfl (Yd.min2 rfl rfl) ?_
      refine WQ.y rfl (Yd.quo rfl rfl (by omega) (by omega) (by omega)) ?_
      refine WQ.y rfl (Yd.add rfl rfl (by omega) (by omega)) ?_
      refine WQ.y rfl (Yd.add rfl rfl (by omega) (by omega)) ?_
      refine WQ.y rfl (Yd.assign rfl) ?_
      refine WQ.nil ?_
      refine WA.done kr_ ?_
      refine DN.block_normal ?_
      refine DN.then_normal ?_
      refine WC.region ?_
      refine WL.y rfl (Yd.move rfl) ?_
      refine WL.y rfl (Yd.add rfl rfl (by omega) (by omega)) ?_
      refine WL.y rfl (Yd.assign rfl) ?_
      refine WL.nil ?_
      have hfew : fewK ks[i] (m + (1 + min (ks[i].asked.length : Int) 30000 / 100 + min (ks[i].reply.length : Int) 30000 / 100)) := by
        unfold fewK
        have h1 : 0 ≤ min (ks[i].asked.length : Int) 30000 / 100 := by omega
        have h2 : 0 ≤ min (ks[i].reply.length : Int) 30000 / 100 := by omega
        omega
      exact DN.againS (⟨i + 1, (m + (1 + min (ks[i].asked.length : Int) 30000 / 100 + min (ks[i].reply.length : Int) 30000 / 100))⟩) (show (i + 1) ≤ ks.length ∧ ((i + 1) : Int) ≤ ((m + (1 + min (ks[i].asked.length : Int) 30000 / 100 + min (ks[i].reply.length : Int) 30000 / 100))) ∧ (n.data.length : Int) / 100 ≤ ((m + (1 + min (ks[i].asked.length : Int) 30000 / 100 + min (ks[i].reply.length : Int) 30000 / 100))) ∧ ((m + (1 + min (ks[i].asked.length : Int) 30000 / 100 + min (ks[i].reply.length : Int) 30000 / 100))) ≤ (n.data.length : Int) / 100 + 1000 ∧ ∀ k ∈ ks.take (i + 1), fewK k ((m + (1 + min (ks[i].asked.length : Int) 30000 / 100 + min (ks[i].reply.length : Int) 30000 / 100))) from ⟨by omega, by omega, by omega, by omega, few_next hlt hall (by omega) hfew⟩) (show ks.length - (i + 1) < ks.length - i by omega) (Sx.put rfl (Sx.put rfl (sx_))) sp_
    · refine WC.exit ?_
      refine DN.then_exit ?_
      refine DN.then_exit ?_
      refine DN.block_exit ?_
      refine DN.then_normal ?_
      refine WC.seq ?_
      refine WC.region ?_
      refine WL.y rfl (Yd.move rfl) ?_
      refine WL.y rfl (Yd.gtr rfl rfl) ?_
      refine WL.y rfl (Yd.assign rfl) ?_
      refine WL.nil ?_
      refine DN.then_normal ?_
      refine WC.ret ?_
      refine DN.fit (C := H) sp_ ?_
      refine DN.ret1 Try.results11 rfl ?_
      refine ⟨_, rfl, fun h => ?_, rfl⟩
      have h9 := of_decide_eq_false h
      have hm300 : m ≤ 300 := by omega
      obtain rfl : i = ks.length := by omega
      rw [List.take_length] at hall
      exact ⟨by omega, fun k hk => few_bound (hall k hk) hm300, by omega⟩
  · refine WL.gn (dj := 16) rfl rfl rfl rfl ?_
    refine WL.gn (dj := 16) rfl rfl rfl rfl ?_
    refine WL.y rfl (Yd.pickF rfl rfl) ?_
    refine WL.nil ?_
    refine DN.then_normal ?_
    refine WC.no rfl ?_
    refine WC.exit ?_
    refine DN.then_exit ?_
    refine DN.then_exit ?_
    refine DN.block_exit ?_
    refine DN.then_normal ?_
    refine WC.seq ?_
    refine WC.region ?_
    refine WL.y rfl (Yd.move rfl) ?_
    refine WL.y rfl (Yd.gtr rfl rfl) ?_
    refine WL.y rfl (Yd.assign rfl) ?_
    refine WL.nil ?_
    refine DN.then_normal ?_
    refine WC.ret ?_
    refine DN.fit (C := H) sp_ ?_
    refine DN.ret1 Try.results11 rfl ?_
    refine ⟨_, rfl, fun h => ?_, rfl⟩
    have h9 := of_decide_eq_false h
    have hm300 : m ≤ 300 := by omega
    obtain rfl : i = ks.length := by omega
    rw [List.take_length] at hall
    exact ⟨by omega, fun k hk => few_bound (hall k hk) hm300, by omega⟩

/-- drayage/drayageref00.Spoil -/
theorem spoil_tells (xo : Option Addr) (xc n k : Nat) (l : List (BitVec 8)) (C : List Ck) (hC : Ob 5 (.slice xo (n + k) xc) l C) (hn : l.length = n + k) (hl : n ≤ 1000000) : Tells Try.prog 18 [.slice xo n xc] C fun r H' => H' = [] := by
  refine Tells.enter Try.func18 rfl Try.ntmps18 rfl ?_
  intro w0 R
  have hex : n = 0 ∨ ∃ b extra, xo = some ⟨b, 0, none⟩ ∧ C = [row b (bc l ++ extra) 5] := by
    rcases hC with ⟨he, h0, _⟩ | ⟨b, cap, extra, he, _, _, _, _, hCC⟩
    · left; omega
    · simp only [Value.slice.injEq] at he
      obtain ⟨rfl, _, _⟩ := he
      exact .inr ⟨b, extra, rfl, hCC⟩
  refine WC.seq ?_
  refine WC.region ?_
  refine WL.y rfl (Yd.assign rfl) ?_
  refine WL.nil ?_
  refine DN.then_normal ?_
  refine WC.block ?_
  refine WC.loop (fun z : Nat × List (BitVec 8) × List Ck => z.1 ≤ n ∧ z.2.1.length = n + k ∧ (n = 0 ∨ ∃ b extra, xo = some ⟨b, 0, none⟩ ∧ z.2.2 = [row b (bc z.2.1 ++ extra) 5])) (fun z => [(0, .slice xo n xc), (2, .int .i64 z.1)]) (fun z => z.2.2) (fun z => n - z.1) (0, l, C) ⟨Nat.zero_le _, hn, hex⟩ ⟨rfl, rfl, trivial⟩ (List.Perm.refl _) ?_
  rintro ⟨i, ys, E⟩ ⟨hi, hys, he⟩
  simp only at hi hys he
  refine WC.seq ?_
  refine WC.seq ?_
  refine WC.region ?_
  refine WL.y rfl (Yd.move rfl) ?_
  refine WL.y rfl (Yd.move rfl) ?_
  refine WL.y rfl (Yd.len (e := 5) kr_ rfl) ?_
  refine WL.y rfl (Yd.lss rfl rfl) ?_
  refine WL.nil ?_
  refine DN.then_normal ?_
  refine WC.ite rfl (fun h6 => ?_) (fun h6 => ?_)
  · have hlt : i < n := by omega
    obtain ⟨b, extra, rfl, rfl⟩ := he.resolve_left (by omega)
    refine WC.skip ?_
    refine DN.then_normal ?_
    refine WC.seq ?_
    refine WC.block ?_
    refine WC.region ?_
    refine WL.y rfl (Yd.move rfl) ?_
    refine WL.y rfl (Yd.move rfl) ?_
    refine WL.y rfl (Yd.move rfl) ?_
    refine WL.y rfl (Yd.move rfl) ?_
    refine WL.y rfl (Yd.indexAddr (e := 5) (s := 1) kr_ kr_ rfl rfl (by omega) (by omega)) ?_
    refine WL.h rfl (Hd.load1 (v := .int .u8 (ys.getD i 0#8).toNat) (b := b) (cs := bc ys ++ extra) kr_ rfl List.mem_cons_self (by rw [show 0 + (i : Int).toNat * 1 = i by omega, List.getElem?_append_left (by rw [bc_length]; omega)]; exact bc_getD (by omega)) ⟨_, rfl, ?_⟩)
    refine WL.y rfl (Yd.xor8 _ (165#8) rfl rfl rfl rfl) ?_
    refine WL.y rfl (Yd.indexAddr (e := 5) (s := 1) kr_ kr_ rfl rfl (by omega) (by omega)) ?_
    refine WL.s (Hd.store1 (b := b) (cs := bc ys ++ extra) (T' := 5) (D := []) kr_ rfl rfl rfl (List.Perm.refl _) (by simp [bc_length]; omega) ⟨rfl, ?_⟩)
    refine WL.nil ?_
    refine DN.block_normal ?_
    refine DN.then_normal ?_
    refine WC.region ?_
    refine WL.y rfl (Yd.move rfl) ?_
    refine WL.y rfl (Yd.add rfl rfl (by omega) (by omega)) ?_
    refine WL.y rfl (Yd.assign rfl) ?_
    refine WL.nil ?_
    refine DN.again (i + 1, ys.set i (ys.getD i 0#8 ^^^ 165#8), [row b (bc (ys.set i (ys.getD i 0#8 ^^^ 165#8)) ++ extra) 5]) ⟨by show i + 1 ≤ n; omega, by simp [hys], .inr ⟨b, extra, rfl, rfl⟩⟩ (by show n - (i + 1) < n - i; omega) ⟨rfl, rfl, trivial⟩ ?_
    rw [show 0 + (i : Int).toNat * 1 = i by omega, set_front _ _ _ _ (by rw [bc_length]; omega), bc_set]
    try exact List.Perm.refl _
  · refine WC.exit ?_
    refine DN.then_exit ?_
    refine DN.then_exit ?_
    refine DN.block_exit ?_
    refine DN.forget [] (List.nil_sublist _) ?_
    refine DN.end0 Try.results18 ?_
    exact rfl

theorem spoil_own (xo : Option Addr) (xc : Nat) (l : List (BitVec 8)) (C : List Ck) (hC : Ob 5 (.slice xo l.length xc) l C) (hl : l.length ≤ 1000000) : Tells Try.prog 18 [.slice xo l.length xc] C fun r H' => H' = [] := spoil_tells xo xc l.length 0 l C hC rfl hl
end Go.Proofs.Ytonnkgblligdkaa
