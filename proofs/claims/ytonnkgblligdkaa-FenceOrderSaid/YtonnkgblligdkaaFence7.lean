/-
  The laws of the fence: what the chapter's example fixes.
-/
import Derived.Test.YtonnkgblligdkaaFence6
import Derived.Test.YtonnkgblligdkaaFenceMath2
set_option linter.unusedVariables false
set_option linter.unusedSimpArgs false
set_option maxHeartbeats 4000000
namespace Go.Proofs.Ytonnkgblligdkaa
open Go.SL


/-- drayage/drayagelaw08.step -/
theorem step_tells (e o : BitVec 32) (s : Int) (u : Bool) (d : List (BitVec 8)) : Tells Try.prog 23 [.int .u32 e.toNat, .int .u32 o.toNat, .int .i64 s, .bool u, .string (str d)] [] fun r H' => ∃ b c blk, r = .agg (ntc (stepN e o s u d) (.slice none 0 0) (.slice (some ⟨b, 0, none⟩) d.length c)).toArray ∧ Bs (.slice (some ⟨b, 0, none⟩) d.length c) d [blk] ∧ H' = [blk] := by
  refine Tells.enter Try.func23 rfl Try.ntmps23 rfl ?_
  intro w0 R
  refine WC.seq ?_
  refine WC.region ?_
  refine WL.h rfl (Hd.alloc (zs := [.int .i64 0, .int .u32 0, .int .u32 0, .int .u64 0, .int .u64 0, .int .u32 0, .int .i64 0, .bool false, .int .i64 0, .slice none 0 0, .slice none 0 0]) kr_ fun b10 => ⟨_, rfl, ?_⟩)
  refine WL.nil ?_
  refine DN.then_normal ?_
  refine WC.seq ?_
  refine WC.region ?_
  refine WL.y rfl (Yd.move rfl) ?_
  refine WL.y rfl (Yd.move rfl) ?_
  refine WL.y rfl (Yd.move rfl) ?_
  refine WL.y rfl (Yd.move rfl) ?_
  refine WL.y rfl (Yd.move rfl) ?_
  refine WL.h rfl (Hd.ofStr (e := 5) Try.underlying9 kr_ kr_ rfl fun bd cd blk hblk => ⟨_, rfl, ?_⟩)
  refine WL.y rfl (Yd.buildL (pl := [(0, 1), (1, 1), (2, 1), (3, 1), (4, 1), (5, 1), (6, 1), (7, 1), (8, 1), (9, 1), (10, 1)]) (zs := [.int .i64 0, .int .u32 0, .int .u32 0, .int .u64 0, .int .u64 0, .int .u32 0, .int .i64 0, .bool false, .int .i64 0, .slice none 0 0, .slice none 0 0]) (parts := [(0, .const (.int .i64 7)), (1, .tmp 11), (5, .tmp 12), (6, .tmp 13), (7, .tmp 14), (10, .tmp 16)]) (vs := [(0, _), (1, _), (5, _), (6, _), (7, _), (10, _)]) (cells := [_, _, .int .u32 0, .int .u64 0, .int .u64 0, _, _, _, .int .i64 0, .slice none 0 0, _]) kr_ kr_ rfl rfl) ?_
  refine WL.s (Hd.storeAll (n := 11) kr_ rfl rfl (by rfl) one_ fr_ (by rfl) ⟨rfl, ?_⟩)
  refine WL.nil ?_
  refine DN.then_normal ?_
  refine WC.ret ?_
  refine DN.retCS (s := 11) [blk] Try.results23 kr_ rfl mem_ (by rfl) sp_ ?_
  exact ⟨bd, cd, blk, rfl, hblk, rfl⟩

/-- drayage/drayagelaw08.known -/
theorem known_reads : Reads Try.prog 12 [] [] (.bool true) := by
  refine Tells.enter Try.func12 rfl Try.ntmps12 rfl ?_
  intro w0 R
  refine WC.seq ?_
  refine WC.region ?_
  refine WL.y rfl (Yd.assign rfl) ?_
  refine WL.nil ?_
  refine DN.then_normal ?_
  refine WC.seq ?_
  refine WC.region ?_
  refine WL.y rfl (Yd.buildL (pl := [(0, 1), (1, 1)]) (zs := [.int .u32 0, .slice none 0 0]) (parts := []) (vs := []) (cells := [.int .u32 0, .slice none 0 0]) kr_ kr_ rfl rfl) ?_
  refine WL.c rfl (Ent.func Try.call23 rfl) (step_tells 2#32 1#32 0 false [97#8]) (Sp.p sp_) ?_
  rintro x1 H1 ⟨bd1, cd1, blk1, rfl, hbk1, rfl⟩
  refine WL.c rfl (Ent.func Try.call24 rfl) (ask_tells 0#32 (.slice none 0 0) [] (blk1 :: []) (KV_nil _) (by decide) (stepN 2#32 1#32 0 false [97#8]) (.slice none 0 0) _ (Bs_nil _) (hbk1.mono gr_)) (Sp.p sp_) ?_
  rintro xa1 Ha1 ⟨wa1, wr1, A1, B1, rfl, hA1, hB1, rfl⟩
  rw [kn1] at hA1 hB1 ⊢
  obtain ⟨oa1, ca1, rfl, _⟩ := hA1.form
  obtain ⟨or1, cr1, rfl, _⟩ := hB1.form
  refine WL.y rfl (Yd.move rfl) ?_
  refine WL.y rfl (Yd.extract rfl rfl) ?_
  refine WL.y rfl (Yd.extract rfl rfl) ?_
  refine WL.y rfl (Yd.extract rfl rfl) ?_
  refine WL.h rfl (Hd.alloc (zs := [.int .u32 0, .int .i64 0, .bool false, .slice none 0 0, .int .i64 0, .slice none 0 0]) kr_ fun b2 => ⟨_, rfl, ?_⟩)
  refine WL.y rfl (Yd.assign rfl) ?_
  refine WL.s (Hd.storeAll (n := 6) kr_ rfl rfl (by rfl) (kc_one rfl rfl) fr_ (by rfl) ⟨rfl, ?_⟩)
  refine WL.y rfl (Yd.assign rfl) ?_
  refine WL.nil ?_
  refine DN.then_normal ?_
  refine WC.seq ?_
  refine WC.region ?_
  refine WL.y rfl (Yd.buildL (pl := [(0, 1), (1, 1)]) (zs := [.int .u32 0, .slice none 0 0]) (parts := []) (vs := []) (cells := [.int .u32 0, .slice none 0 0]) kr_ kr_ rfl rfl) ?_
  refine WL.c rfl (Ent.func Try.call23 rfl) (step_tells 2#32 1#32 0 false [97#8]) (Sp.p sp_) ?_
  rintro x2 H2 ⟨bd2, cd2, blk2, rfl, hbk2, rfl⟩
  refine WL.h rfl (Hd.buildBytes (e := 5) [114#8] kr_ kr_ kr_ rfl rfl kr_ fun b => ⟨_, rfl, ?_⟩)
  refine WL.h rfl (Hd.mark (e := 5) kr_ kr_ rfl (List.Perm.refl _) ⟨_, rfl, ?_⟩)
  refine WL.c rfl (Ent.func Try.call15 rfl) (keep_tells 0#32 (.slice none 0 0) [] (blk2 :: (⟨b, .cells (bc [114#8]).toArray 5 (1, 2), true⟩ :: [])) (KV_nil _) (by decide) (stepN 2#32 1#32 0 false [97#8]) (.slice none 0 0) _ (Bs_nil _) (hbk2.mono gr_) 1 (.slice (some ⟨b, 0, none⟩) 1 1) [114#8] (.inr ⟨b, 0, 1, bc [114#8], 5, _, true, rfl, Nat.le_refl _, mem_, rfl⟩)) (Sp.p sp_) ?_
  rintro xa2 Ha2 ⟨w2, D2, rfl, hF2, rfl⟩
  rw [kn2] at hF2 ⊢
  obtain ⟨wo2, wc2, rfl⟩ := hF2.form
  refine WL.y rfl (Yd.move rfl) ?_
  refine WL.y rfl (Yd.extract rfl rfl) ?_
  refine WL.y rfl (Yd.extract rfl rfl) ?_
  refine WL.h rfl (Hd.alloc (zs := [.int .u32 0, .slice none 0 0]) kr_ fun b4 => ⟨_, rfl, ?_⟩)
  refine WL.s (Hd.storeAll (n := 2) kr_ rfl rfl (by rfl) one_ fr_ (by rfl) ⟨rfl, ?_⟩)
  refine WL.y rfl (Yd.assign rfl) ?_
  refine WL.nil ?_
  refine DN.then_normal ?_
  refine WC.cutK (fun z : Nat × (Option Addr × Nat) × (Option Addr × Nat) × List Ck => Ob 5 (.slice z.2.2.1.1 1 z.2.2.1.2) [114#8] z.2.2.2) (fun z : Nat × (Option Addr × Nat) × (Option Addr × Nat) × List Ck => [(6, .int .i64 2), (7, .pointer (some ⟨z.1, 0, none⟩)), (8, .int .i64 0)]) (fun z : Nat × (Option Addr × Nat) × (Option Addr × Nat) × List Ck => row z.1 (kc kx1 (.slice z.2.1.1 1 z.2.1.2) (.slice z.2.2.1.1 1 z.2.2.1.2)) 43 :: (z.2.2.2 ++ (row b4 [.int .u32 (2#32).toNat, (.slice wo2 1 wc2)] 25 :: D2))) ?_ ?_
  · refine WC.draw 11 kr_ rfl ?_
    refine WA.three (i := 0) (j := 1) (k := 7) kr_ ?_ ?_ ?_
    · refine WO.h rfl Wt.none rfl (Hd.loadAll (n := 2) kr_ rfl mem_ (by rfl) ⟨_, rfl, ?_⟩)
      refine WA.two (i := 1) (j := 7) kr_ ?_ ?_
      · refine WO.c rfl Wt.none rfl (Ent.func Try.call23 rfl) (step_tells 2#32 1#32 0 false [97#8]) (Sp.p sp_) ?_
        rintro x3 H3 ⟨bd3, cd3, blk3, rfl, hbk3, rfl⟩
        refine WA.two (i := 2) (j := 7) kr_ ?_ ?_
        · refine WO.c rfl Wt.none rfl (Ent.func Try.call24 rfl) (ask_tells 2#32 (.slice wo2 1 wc2) [kx1] (blk3 :: D2) (hF2.kv.mono gr_) (by decide) (stepN 2#32 1#32 0 false [97#8]) (.slice none 0 0) _ (Bs_nil _) (hbk3.mono gr_)) (Sp.p sp_) ?_
          rintro xa3 Ha3 ⟨wa3, wr3, A3, B3, rfl, hA3, hB3, rfl⟩
          rw [kn3] at hA3 hB3 ⊢
          obtain ⟨oa3, ca3, rfl, _⟩ := hA3.form
          obtain ⟨or3, cr3, rfl, _⟩ := hB3.form
          refine WA.y (i := 3) (NoPanic.then (NoPanic.body)) rfl kr_ kr_ kr_ rfl (Yd.move rfl) ?_
          refine WA.y (i := 4) (NoPanic.then (NoPanic.body)) rfl kr_ kr_ kr_ rfl (Yd.extract rfl rfl) ?_
          refine WA.y (i := 5) (NoPanic.then (NoPanic.body)) rfl kr_ kr_ kr_ rfl (Yd.extract rfl rfl) ?_
          refine WA.y (i := 6) (NoPanic.then (NoPanic.body)) rfl kr_ kr_ kr_ rfl (Yd.extract rfl rfl) ?_
          refine WA.one (i := 7) kr_ ?_
          refine WO.h rfl Wt.none rfl (Hd.alloc (zs := [.int .u32 0, .int .i64 0, .bool false, .slice none 0 0, .int .i64 0, .slice none 0 0]) kr_ fun b7 => ⟨_, rfl, ?_⟩)
          refine WA.y (i := 8) (NoPanic.then (NoPanic.body)) rfl kr_ kr_ kr_ rfl (Yd.assign rfl) ?_
          refine WA.one (i := 9) kr_ ?_
          refine WO.s rfl Wt.none (Hd.storeAll (n := 6) kr_ rfl rfl (by rfl) (kc_one rfl rfl) fr_ (by rfl) ⟨rfl, ?_⟩)
          refine WA.y (i := 10) (NoPanic.then (NoPanic.body)) rfl kr_ kr_ kr_ rfl (Yd.assign rfl) ?_
          refine WA.done kr_ ?_
          exact DN.reachS ((b7, (oa3, ca3), (or3, cr3), B3)) (hB3) (Sx.put rfl (Sx.put rfl (Sx.put rfl (sx_)))) sp_
        · refine WO.h rfl Wt.none rfl (Hd.alloc (zs := [.int .u32 0, .int .i64 0, .bool false, .slice none 0 0, .int .i64 0, .slice none 0 0]) kr_ fun b7 => ⟨_, rfl, ?_⟩)
          refine WA.one (i := 2) kr_ ?_
          refine WO.c rfl Wt.none rfl (Ent.func Try.call24 rfl) (ask_tells 2#32 (.slice wo2 1 wc2) [kx1] (blk3 :: D2) (hF2.kv.mono gr_) (by decide) (stepN 2#32 1#32 0 false [97#8]) (.slice none 0 0) _ (Bs_nil _) (hbk3.mono gr_)) (Sp.p sp_) ?_
          rintro xa3 Ha3 ⟨wa3, wr3, A3, B3, rfl, hA3, hB3, rfl⟩
          rw [kn3] at hA3 hB3 ⊢
          obtain ⟨oa3, ca3, rfl, _⟩ := hA3.form
          obtain ⟨or3, cr3, rfl, _⟩ := hB3.form
          refine WA.y (i := 3) (NoPanic.then (NoPanic.body)) rfl kr_ kr_ kr_ rfl (Yd.move rfl) ?_
          refine WA.y (i := 4) (NoPanic.then (NoPanic.body)) rfl kr_ kr_ kr_ rfl (Yd.extract rfl rfl) ?_
          refine WA.y (i := 5) (NoPanic.then (NoPanic.body)) rfl kr_ kr_ kr_ rfl (Yd.extract rfl rfl) ?_
          refine WA.y (i := 6) (NoPanic.then (NoPanic.body)) rfl kr_ kr_ kr_ rfl (Yd.extract rfl rfl) ?_
          refine WA.y (i := 8) (NoPanic.then (NoPanic.body)) rfl kr_ kr_ kr_ rfl (Yd.assign rfl) ?_
          refine WA.one (i := 9) kr_ ?_
          refine WO.s rfl Wt.none (Hd.storeAll (n := 6) kr_ rfl rfl (by rfl) (kc_one rfl rfl) fr_ (by rfl) ⟨rfl, ?_⟩)
          refine WA.y (i := 10) (NoPanic.then (NoPanic.body)) rfl kr_ kr_ kr_ rfl (Yd.assign rfl) ?_
          refine WA.done kr_ ?_
          exact DN.reachS ((b7, (oa3, ca3), (or3, cr3), B3)) (hB3) (Sx.put rfl (Sx.put rfl (Sx.put rfl (sx_)))) sp_
      · refine WO.h rfl Wt.none rfl (Hd.alloc (zs := [.int .u32 0, .int .i64 0, .bool false, .slice none 0 0, .int .i64 0, .slice none 0 0]) kr_ fun b7 => ⟨_, rfl, ?_⟩)
        refine WA.one (i := 1) kr_ ?_
        refine WO.c rfl Wt.none rfl (Ent.func Try.call23 rfl) (step_tells 2#32 1#32 0 false [97#8]) (Sp.p sp_) ?_
        rintro x3 H3 ⟨bd3, cd3, blk3, rfl, hbk3, rfl⟩
        refine WA.one (i := 2) kr_ ?_
        refine WO.c rfl Wt.none rfl (Ent.func Try.call24 rfl) (ask_tells 2#32 (.slice wo2 1 wc2) [kx1] (blk3 :: D2) (hF2.kv.mono gr_) (by decide) (stepN 2#32 1#32 0 false [97#8]) (.slice none 0 0) _ (Bs_nil _) (hbk3.mono gr_)) (Sp.p sp_) ?_
        rintro xa3 Ha3 ⟨wa3, wr3, A3, B3, rfl, hA3, hB3, rfl⟩
        rw [kn3] at hA3 hB3 ⊢
        obtain ⟨oa3, ca3, rfl, _⟩ := hA3.form
        obtain ⟨or3, cr3, rfl, _⟩ := hB3.form
        refine WA.y (i := 3) (NoPanic.then (NoPanic.body)) rfl kr_ kr_ kr_ rfl (Yd.move rfl) ?_
        refine WA.y (i := 4) (NoPanic.then (NoPanic.body)) rfl kr_ kr_ kr_ rfl (Yd.extract rfl rfl) ?_
        refine WA.y (i := 5) (NoPanic.then (NoPanic.body)) rfl kr_ kr_ kr_ rfl (Yd.extract rfl rfl) ?_
        refine WA.y (i := 6) (NoPanic.then (NoPanic.body)) rfl kr_ kr_ kr_ rfl (Yd.extract rfl rfl) ?_
        refine WA.y (i := 8) (NoPanic.then (NoPanic.body)) rfl kr_ kr_ kr_ rfl (Yd.assign rfl) ?_
        refine WA.one (i := 9) kr_ ?_
        refine WO.s rfl Wt.none (Hd.storeAll (n := 6) kr_ rfl rfl (by rfl) (kc_one rfl rfl) fr_ (by rfl) ⟨rfl, ?_⟩)
        refine WA.y (i := 10) (NoPanic.then (NoPanic.body)) rfl kr_ kr_ kr_ rfl (Yd.assign rfl) ?_
        refine WA.done kr_ ?_
        exact DN.reachS ((b7, (oa3, ca3), (or3, cr3), B3)) (hB3) (Sx.put rfl (Sx.put rfl (Sx.put rfl (sx_)))) sp_
    · refine WO.c rfl Wt.none rfl (Ent.func Try.call23 rfl) (step_tells 2#32 1#32 0 false [97#8]) (Sp.p sp_) ?_
      rintro x3 H3 ⟨bd3, cd3, blk3, rfl, hbk3, rfl⟩
      refine WA.two (i := 0) (j := 7) kr_ ?_ ?_
      · refine WO.h rfl Wt.none rfl (Hd.loadAll (n := 2) kr_ rfl mem_ (by rfl) ⟨_, rfl, ?_⟩)
        refine WA.two (i := 2) (j := 7) kr_ ?_ ?_
        · refine WO.c rfl Wt.none rfl (Ent.func Try.call24 rfl) (ask_tells 2#32 (.slice wo2 1 wc2) [kx1] (blk3 :: D2) (hF2.kv.mono gr_) (by decide) (stepN 2#32 1#32 0 false [97#8]) (.slice none 0 0) _ (Bs_nil _) (hbk3.mono gr_)) (Sp.p sp_) ?_
          rintro xa3 Ha3 ⟨wa3, wr3, A3, B3, rfl, hA3, hB3, rfl⟩
          rw [kn3] at hA3 hB3 ⊢
          obtain ⟨oa3, ca3, rfl, _⟩ := hA3.form
          obtain ⟨or3, cr3, rfl, _⟩ := hB3.form
          refine WA.y (i := 3) (NoPanic.then (NoPanic.body)) rfl kr_ kr_ kr_ rfl (Yd.move rfl) ?_
          refine WA.y (i := 4) (NoPanic.then (NoPanic.body)) rfl kr_ kr_ kr_ rfl (Yd.extract rfl rfl) ?_
          refine WA.y (i := 5) (NoPanic.then (NoPanic.body)) rfl kr_ kr_ kr_ rfl (Yd.extract rfl rfl) ?_
          refine WA.y (i := 6) (NoPanic.then (NoPanic.body)) rfl kr_ kr_ kr_ rfl (Yd.extract rfl rfl) ?_
          refine WA.one (i := 7) kr_ ?_
          refine WO.h rfl Wt.none rfl (Hd.alloc (zs := [.int .u32 0, .int .i64 0, .bool false, .slice none 0 0, .int .i64 0, .slice none 0 0]) kr_ fun b7 => ⟨_, rfl, ?_⟩)
          refine WA.y (i := 8) (NoPanic.then (NoPanic.body)) rfl kr_ kr_ kr_ rfl (Yd.assign rfl) ?_
          refine WA.one (i := 9) kr_ ?_
          refine WO.s rfl Wt.none (Hd.storeAll (n := 6) kr_ rfl rfl (by rfl) (kc_one rfl rfl) fr_ (by rfl) ⟨rfl, ?_⟩)
          refine WA.y (i := 10) (NoPanic.then (NoPanic.body)) rfl kr_ kr_ kr_ rfl (Yd.assign rfl) ?_
          refine WA.done kr_ ?_
          exact DN.reachS ((b7, (oa3, ca3), (or3, cr3), B3)) (hB3) (Sx.put rfl (Sx.put rfl (Sx.put rfl (sx_)))) sp_
        · refine WO.h rfl Wt.none rfl (Hd.alloc (zs := [.int .u32 0, .int .i64 0, .bool false, .slice none 0 0, .int .i64 0, .slice none 0 0]) kr_ fun b7 => ⟨_, rfl, ?_⟩)
          refine WA.one (i := 2) kr_ ?_
          refine WO.c rfl Wt.none rfl (Ent.func Try.call24 rfl) (ask_tells 2#32 (.slice wo2 1 wc2) [kx1] (blk3 :: D2) (hF2.kv.mono gr_) (by decide) (stepN 2#32 1#32 0 false [97#8]) (.slice none 0 0) _ (Bs_nil _) (hbk3.mono gr_)) (Sp.p sp_) ?_
          rintro xa3 Ha3 ⟨wa3, wr3, A3, B3, rfl, hA3, hB3, rfl⟩
          rw [kn3] at hA3 hB3 ⊢
          obtain ⟨oa3, ca3, rfl, _⟩ := hA3.form
          obtain ⟨or3, cr3, rfl, _⟩ := hB3.form
          refine WA.y (i := 3) (NoPanic.then (NoPanic.body)) rfl kr_ kr_ kr_ rfl (Yd.move rfl) ?_
          refine WA.y (i := 4) (NoPanic.then (NoPanic.body)) rfl kr_ kr_ kr_ rfl (Yd.extract rfl rfl) ?_
          refine WA.y (i := 5) (NoPanic.then (NoPanic.body)) rfl kr_ kr_ kr_ rfl (Yd.extract rfl rfl) ?_
          refine WA.y (i := 6) (NoPanic.then (NoPanic.body)) rfl kr_ kr_ kr_ rfl (Yd.extract rfl rfl) ?_
          refine WA.y (i := 8) (NoPanic.then (NoPanic.body)) rfl kr_ kr_ kr_ rfl (Yd.assign rfl) ?_
          refine WA.one (i := 9) kr_ ?_
          refine WO.s rfl Wt.none (Hd.storeAll (n := 6) kr_ rfl rfl (by rfl) (kc_one rfl rfl) fr_ (by rfl) ⟨rfl, ?_⟩)
          refine WA.y (i := 10) (NoPanic.then (NoPanic.body)) rfl kr_ kr_ kr_ rfl (Yd.assign rfl) ?_
          refine WA.done kr_ ?_
          exact DN.reachS ((b7, (oa3, ca3), (or3, cr3), B3)) (hB3) (Sx.put rfl (Sx.put rfl (Sx.put rfl (sx_)))) sp_
      · refine WO.h rfl Wt.none rfl (Hd.alloc (zs := [.int .u32 0, .int .i64 0, .bool false, .slice none 0 0, .int .i64 0, .slice none 0 0]) kr_ fun b7 => ⟨_, rfl, ?_⟩)
        refine WA.one (i := 0) kr_ ?_
        refine WO.h rfl Wt.none rfl (Hd.loadAll (n := 2) kr_ rfl mem_ (by rfl) ⟨_, rfl, ?_⟩)
        refine WA.one (i := 2) kr_ ?_
        refine WO.c rfl Wt.none rfl (Ent.func Try.call24 rfl) (ask_tells 2#32 (.slice wo2 1 wc2) [kx1] (blk3 :: D2) (hF2.kv.mono gr_) (by decide) (stepN 2#32 1#32 0 false [97#8]) (.slice none 0 0) _ (Bs_nil _) (hbk3.mono gr_)) (Sp.p sp_) ?_
        rintro xa3 Ha3 ⟨wa3, wr3, A3, B3, rfl, hA3, hB3, rfl⟩
        rw [kn3] at hA3 hB3 ⊢
        obtain ⟨oa3, ca3, rfl, _⟩ := hA3.form
        obtain ⟨or3, cr3, rfl, _⟩ := hB3.form
        refine WA.y (i := 3) (NoPanic.then (NoPanic.body)) rfl kr_ kr_ kr_ rfl (Yd.move rfl) ?_
        refine WA.y (i := 4) (NoPanic.then (NoPanic.body)) rfl kr_ kr_ kr_ rfl (Yd.extract rfl rfl) ?_
        refine WA.y (i := 5) (NoPanic.then (NoPanic.body)) rfl kr_ kr_ kr_ rfl (Yd.extract rfl rfl) ?_
        refine WA.y (i := 6) (NoPanic.then (NoPanic.body)) rfl kr_ kr_ kr_ rfl (Yd.extract rfl rfl) ?_
        refine WA.y (i := 8) (NoPanic.then (NoPanic.body)) rfl kr_ kr_ kr_ rfl (Yd.assign rfl) ?_
        refine WA.one (i := 9) kr_ ?_
        refine WO.s rfl Wt.none (Hd.storeAll (n := 6) kr_ rfl rfl (by rfl) (kc_one rfl rfl) fr_ (by rfl) ⟨rfl, ?_⟩)
        refine WA.y (i := 10) (NoPanic.then (NoPanic.body)) rfl kr_ kr_ kr_ rfl (Yd.assign rfl) ?_
        refine WA.done kr_ ?_
        exact DN.reachS ((b7, (oa3, ca3), (or3, cr3), B3)) (hB3) (Sx.put rfl (Sx.put rfl (Sx.put rfl (sx_)))) sp_
    · refine WO.h rfl Wt.none rfl (Hd.alloc (zs := [.int .u32 0, .int .i64 0, .bool false, .slice none 0 0, .int .i64 0, .slice none 0 0]) kr_ fun b7 => ⟨_, rfl, ?_⟩)
      refine WA.two (i := 0) (j := 1) kr_ ?_ ?_
      · refine WO.h rfl Wt.none rfl (Hd.loadAll (n := 2) kr_ rfl mem_ (by rfl) ⟨_, rfl, ?_⟩)
        refine WA.one (i := 1) kr_ ?_
        refine WO.c rfl Wt.none rfl (Ent.func Try.call23 rfl) (step_tells 2#32 1#32 0 false [97#8]) (Sp.p sp_) ?_
        rintro x3 H3 ⟨bd3, cd3, blk3, rfl, hbk3, rfl⟩
        refine WA.one (i := 2) kr_ ?_
        refine WO.c rfl Wt.none rfl (Ent.func Try.call24 rfl) (ask_tells 2#32 (.slice wo2 1 wc2) [kx1] (blk3 :: D2) (hF2.kv.mono gr_) (by decide) (stepN 2#32 1#32 0 false [97#8]) (.slice none 0 0) _ (Bs_nil _) (hbk3.mono gr_)) (Sp.p sp_) ?_
        rintro xa3 Ha3 ⟨wa3, wr3, A3, B3, rfl, hA3, hB3, rfl⟩
        rw [kn3] at hA3 hB3 ⊢
        obtain ⟨oa3, ca3, rfl, _⟩ := hA3.form
        obtain ⟨or3, cr3, rfl, _⟩ := hB3.form
        refine WA.y (i := 3) (NoPanic.then (NoPanic.body)) rfl kr_ kr_ kr_ rfl (Yd.move rfl) ?_
        refine WA.y (i := 4) (NoPanic.then (NoPanic.body)) rfl kr_ kr_ kr_ rfl (Yd.extract rfl rfl) ?_
        refine WA.y (i := 5) (NoPanic.then (NoPanic.body)) rfl kr_ kr_ kr_ rfl (Yd.extract rfl rfl) ?_
        refine WA.y (i := 6) (NoPanic.then (NoPanic.body)) rfl kr_ kr_ kr_ rfl (Yd.extract rfl rfl) ?_
        refine WA.y (i := 8) (NoPanic.then (NoPanic.body)) rfl kr_ kr_ kr_ rfl (Yd.assign rfl) ?_
        refine WA.one (i := 9) kr_ ?_
        refine WO.s rfl Wt.none (Hd.storeAll (n := 6) kr_ rfl rfl (by rfl) (kc_one rfl rfl) fr_ (by rfl) ⟨rfl, ?_⟩)
        refine WA.y (i := 10) (NoPanic.then (NoPanic.body)) rfl kr_ kr_ kr_ rfl (Yd.assign rfl) ?_
        refine WA.done kr_ ?_
        exact DN.reachS ((b7, (oa3, ca3), (or3, cr3), B3)) (hB3) (Sx.put rfl (Sx.put rfl (Sx.put rfl (sx_)))) sp_
      · refine WO.c rfl Wt.none rfl (Ent.func Try.call23 rfl) (step_tells 2#32 1#32 0 false [97#8]) (Sp.p sp_) ?_
        rintro x3 H3 ⟨bd3, cd3, blk3, rfl, hbk3, rfl⟩
        refine WA.one (i := 0) kr_ ?_
        refine WO.h rfl Wt.none rfl (Hd.loadAll (n := 2) kr_ rfl mem_ (by rfl) ⟨_, rfl, ?_⟩)
        refine WA.one (i := 2) kr_ ?_
        refine WO.c rfl Wt.none rfl (Ent.func Try.call24 rfl) (ask_tells 2#32 (.slice wo2 1 wc2) [kx1] (blk3 :: D2) (hF2.kv.mono gr_) (by decide) (stepN 2#32 1#32 0 false [97#8]) (.slice none 0 0) _ (Bs_nil _) (hbk3.mono gr_)) (Sp.p sp_) ?_
        rintro xa3 Ha3 ⟨wa3, wr3, A3, B3, rfl, hA3, hB3, rfl⟩
        rw [kn3] at hA3 hB3 ⊢
        obtain ⟨oa3, ca3, rfl, _⟩ := hA3.form
        obtain ⟨or3, cr3, rfl, _⟩ := hB3.form
        refine WA.y (i := 3) (NoPanic.then (NoPanic.body)) rfl kr_ kr_ kr_ rfl (Yd.move rfl) ?_
        refine WA.y (i := 4) (NoPanic.then (NoPanic.body)) rfl kr_ kr_ kr_ rfl (Yd.extract rfl rfl) ?_
        refine WA.y (i := 5) (NoPanic.then (NoPanic.body)) rfl kr_ kr_ kr_ rfl (Yd.extract rfl rfl) ?_
        refine WA.y (i := 6) (NoPanic.then (NoPanic.body)) rfl kr_ kr_ kr_ rfl (Yd.extract rfl rfl) ?_
        refine WA.y (i := 8) (NoPanic.then (NoPanic.body)) rfl kr_ kr_ kr_ rfl (Yd.assign rfl) ?_
        refine WA.one (i := 9) kr_ ?_
        refine WO.s rfl Wt.none (Hd.storeAll (n := 6) kr_ rfl rfl (by rfl) (kc_one rfl rfl) fr_ (by rfl) ⟨rfl, ?_⟩)
        refine WA.y (i := 10) (NoPanic.then (NoPanic.body)) rfl kr_ kr_ kr_ rfl (Yd.assign rfl) ?_
        refine WA.done kr_ ?_
        exact DN.reachS ((b7, (oa3, ca3), (or3, cr3), B3)) (hB3) (Sx.put rfl (Sx.put rfl (Sx.put rfl (sx_)))) sp_
  · rintro ⟨b7, ⟨ao7, ac7⟩, ⟨ro7, rc7⟩, B7⟩ hB7
    dsimp only at hB7 ⊢
    refine WC.cutK (fun z : Unit => True) (fun z : Unit => [(11, .int .i64 80)]) (fun z : Unit => row b7 (kc kx1 (.slice ao7 1 ac7) (.slice ro7 1 rc7)) 43 :: (B7 ++ (row b4 [.int .u32 (2#32).toNat, (.slice wo2 1 wc2)] 25 :: D2))) ?_ ?_
    · refine WC.draw 11 kr_ rfl ?_
      refine WA.three (i := 0) (j := 1) (k := 7) kr_ ?_ ?_ ?_
      · refine WO.h rfl Wt.none rfl (Hd.loadAll (n := 2) kr_ rfl mem_ (by rfl) ⟨_, rfl, ?_⟩)
        refine WA.two (i := 1) (j := 7) kr_ ?_ ?_
        · refine WO.c rfl Wt.none rfl (Ent.func Try.call23 rfl) (step_tells 2#32 1#32 0 false [98#8]) (Sp.p sp_) ?_
          rintro x4 H4 ⟨bd4, cd4, blk4, rfl, hbk4, rfl⟩
          refine WA.two (i := 2) (j := 7) kr_ ?_ ?_
          · refine WO.c rfl Wt.none rfl (Ent.func Try.call24 rfl) (ask_tells 2#32 (.slice wo2 1 wc2) [kx1] (blk4 :: D2) (hF2.kv.mono gr_) (by decide) (stepN 2#32 1#32 0 false [98#8]) (.slice none 0 0) _ (Bs_nil _) (hbk4.mono gr_)) (Sp.p sp_) ?_
            rintro xa4 Ha4 ⟨wa4, wr4, A4, B4, rfl, hA4, hB4, rfl⟩
            rw [kn4] at hA4 hB4 ⊢
            obtain ⟨oa4, ca4, rfl, _⟩ := hA4.form
            obtain ⟨or4, cr4, rfl, _⟩ := hB4.form
            refine WA.y (i := 3) (NoPanic.then (NoPanic.body)) rfl kr_ kr_ kr_ rfl (Yd.move rfl) ?_
            refine WA.y (i := 4) (NoPanic.then (NoPanic.body)) rfl kr_ kr_ kr_ rfl (Yd.extract rfl rfl) ?_
            refine WA.y (i := 5) (NoPanic.then (NoPanic.body)) rfl kr_ kr_ kr_ rfl (Yd.extract rfl rfl) ?_
            refine WA.y (i := 6) (NoPanic.then (NoPanic.body)) rfl kr_ kr_ kr_ rfl (Yd.extract rfl rfl) ?_
            refine WA.one (i := 7) kr_ ?_
            refine WO.h rfl Wt.none rfl (Hd.alloc (zs := [.int .u32 0, .int .i64 0, .bool false, .slice none 0 0, .int .i64 0, .slice none 0 0]) kr_ fun b10 => ⟨_, rfl, ?_⟩)
            refine WA.y (i := 8) (NoPanic.then (NoPanic.body)) rfl kr_ kr_ kr_ rfl (Yd.assign rfl) ?_
            refine WA.one (i := 9) kr_ ?_
            refine WO.s rfl Wt.none (Hd.storeAll (n := 6) kr_ rfl rfl (by rfl) (kc_one rfl rfl) fr_ (by rfl) ⟨rfl, ?_⟩)
            refine WA.y (i := 10) (NoPanic.then (NoPanic.body)) rfl kr_ kr_ kr_ rfl (Yd.assign rfl) ?_
            refine WA.done kr_ ?_
            exact DN.reachS (()) (trivial) (Sx.put rfl (sx_)) sp_
          · refine WO.h rfl Wt.none rfl (Hd.alloc (zs := [.int .u32 0, .int .i64 0, .bool false, .slice none 0 0, .int .i64 0, .slice none 0 0]) kr_ fun b10 => ⟨_, rfl, ?_⟩)
            refine WA.one (i := 2) kr_ ?_
            refine WO.c rfl Wt.none rfl (Ent.func Try.call24 rfl) (ask_tells 2#32 (.slice wo2 1 wc2) [kx1] (blk4 :: D2) (hF2.kv.mono gr_) (by decide) (stepN 2#32 1#32 0 false [98#8]) (.slice none 0 0) _ (Bs_nil _) (hbk4.mono gr_)) (Sp.p sp_) ?_
            rintro xa4 Ha4 ⟨wa4, wr4, A4, B4, rfl, hA4, hB4, rfl⟩
            rw [kn4] at hA4 hB4 ⊢
            obtain ⟨oa4, ca4, rfl, _⟩ := hA4.form
            obtain ⟨or4, cr4, rfl, _⟩ := hB4.form
            refine WA.y (i := 3) (NoPanic.then (NoPanic.body)) rfl kr_ kr_ kr_ rfl (Yd.move rfl) ?_
            refine WA.y (i := 4) (NoPanic.then (NoPanic.body)) rfl kr_ kr_ kr_ rfl (Yd.extract rfl rfl) ?_
            refine WA.y (i := 5) (NoPanic.then (NoPanic.body)) rfl kr_ kr_ kr_ rfl (Yd.extract rfl rfl) ?_
            refine WA.y (i := 6) (NoPanic.then (NoPanic.body)) rfl kr_ kr_ kr_ rfl (Yd.extract rfl rfl) ?_
            refine WA.y (i := 8) (NoPanic.then (NoPanic.body)) rfl kr_ kr_ kr_ rfl (Yd.assign rfl) ?_
            refine WA.one (i := 9) kr_ ?_
            refine WO.s rfl Wt.none (Hd.storeAll (n := 6) kr_ rfl rfl (by rfl) (kc_one rfl rfl) fr_ (by rfl) ⟨rfl, ?_⟩)
            refine WA.y (i := 10) (NoPanic.then (NoPanic.body)) rfl kr_ kr_ kr_ rfl (Yd.assign rfl) ?_
            refine WA.done kr_ ?_
            exact DN.reachS (()) (trivial) (Sx.put rfl (sx_)) sp_
        · refine WO.h rfl Wt.none rfl (Hd.alloc (zs := [.int .u32 0, .int .i64 0, .bool false, .slice none 0 0, .int .i64 0, .slice none 0 0]) kr_ fun b10 => ⟨_, rfl, ?_⟩)
          refine WA.one (i := 1) kr_ ?_
          refine WO.c rfl Wt.none rfl (Ent.func Try.call23 rfl) (step_tells 2#32 1#32 0 false [98#8]) (Sp.p sp_) ?_
          rintro x4 H4 ⟨bd4, cd4, blk4, rfl, hbk4, rfl⟩
          refine WA.one (i := 2) kr_ ?_
          refine WO.c rfl Wt.none rfl (Ent.func Try.call24 rfl) (ask_tells 2#32 (.slice wo2 1 wc2) [kx1] (blk4 :: D2) (hF2.kv.mono gr_) (by decide) (stepN 2#32 1#32 0 false [98#8]) (.slice none 0 0) _ (Bs_nil _) (hbk4.mono gr_)) (Sp.p sp_) ?_
          rintro xa4 Ha4 ⟨wa4, wr4, A4, B4, rfl, hA4, hB4, rfl⟩
          rw [kn4] at hA4 hB4 ⊢
          obtain ⟨oa4, ca4, rfl, _⟩ := hA4.form
          obtain ⟨or4, cr4, rfl, _⟩ := hB4.form
          refine WA.y (i := 3) (NoPanic.then (NoPanic.body)) rfl kr_ kr_ kr_ rfl (Yd.move rfl) ?_
          refine WA.y (i := 4) (NoPanic.then (NoPanic.body)) rfl kr_ kr_ kr_ rfl (Yd.extract rfl rfl) ?_
          refine WA.y (i := 5) (NoPanic.then (NoPanic.body)) rfl kr_ kr_ kr_ rfl (Yd.extract rfl rfl) ?_
          refine WA.y (i := 6) (NoPanic.then (NoPanic.body)) rfl kr_ kr_ kr_ rfl (Yd.extract rfl rfl) ?_
          refine WA.y (i := 8) (NoPanic.then (NoPanic.body)) rfl kr_ kr_ kr_ rfl (Yd.assign rfl) ?_
          refine WA.one (i := 9) kr_ ?_
          refine WO.s rfl Wt.none (Hd.storeAll (n := 6) kr_ rfl rfl (by rfl) (kc_one rfl rfl) fr_ (by rfl) ⟨rfl, ?_⟩)
          refine WA.y (i := 10) (NoPanic.then (NoPanic.body)) rfl kr_ kr_ kr_ rfl (Yd.assign rfl) ?_
          refine WA.done kr_ ?_
          exact DN.reachS (()) (trivial) (Sx.put rfl (sx_)) sp_
      · refine WO.c rfl Wt.none rfl (Ent.func Try.call23 rfl) (step_tells 2#32 1#32 0 false [98#8]) (Sp.p sp_) ?_
        rintro x4 H4 ⟨bd4, cd4, blk4, rfl, hbk4, rfl⟩
        refine WA.two (i := 0) (j := 7) kr_ ?_ ?_
        · refine WO.h rfl Wt.none rfl (Hd.loadAll (n := 2) kr_ rfl mem_ (by rfl) ⟨_, rfl, ?_⟩)
          refine WA.two (i := 2) (j := 7) kr_ ?_ ?_
          · refine WO.c rfl Wt.none rfl (Ent.func Try.call24 rfl) (ask_tells 2#32 (.slice wo2 1 wc2) [kx1] (blk4 :: D2) (hF2.kv.mono gr_) (by decide) (stepN 2#32 1#32 0 false [98#8]) (.slice none 0 0) _ (Bs_nil _) (hbk4.mono gr_)) (Sp.p sp_) ?_
            rintro xa4 Ha4 ⟨wa4, wr4, A4, B4, rfl, hA4, hB4, rfl⟩
            rw [kn4] at hA4 hB4 ⊢
            obtain ⟨oa4, ca4, rfl, _⟩ := hA4.form
            obtain ⟨or4, cr4, rfl, _⟩ := hB4.form
            refine WA.y (i := 3) (NoPanic.then (NoPanic.body)) rfl kr_ kr_ kr_ rfl (Yd.move rfl) ?_
            refine WA.y (i := 4) (NoPanic.then (NoPanic.body)) rfl kr_ kr_ kr_ rfl (Yd.extract rfl rfl) ?_
            refine WA.y (i := 5) (NoPanic.then (NoPanic.body)) rfl kr_ kr_ kr_ rfl (Yd.extract rfl rfl) ?_
            refine WA.y (i := 6) (NoPanic.then (NoPanic.body)) rfl kr_ kr_ kr_ rfl (Yd.extract rfl rfl) ?_
            refine WA.one (i := 7) kr_ ?_
            refine WO.h rfl Wt.none rfl (Hd.alloc (zs := [.int .u32 0, .int .i64 0, .bool false, .slice none 0 0, .int .i64 0, .slice none 0 0]) kr_ fun b10 => ⟨_, rfl, ?_⟩)
            refine WA.y (i := 8) (NoPanic.then (NoPanic.body)) rfl kr_ kr_ kr_ rfl (Yd.assign rfl) ?_
            refine WA.one (i := 9) kr_ ?_
            refine WO.s rfl Wt.none (Hd.storeAll (n := 6) kr_ rfl rfl (by rfl) (kc_one rfl rfl) fr_ (by rfl) ⟨rfl, ?_⟩)
            refine WA.y (i := 10) (NoPanic.then (NoPanic.body)) rfl kr_ kr_ kr_ rfl (Yd.assign rfl) ?_
            refine WA.done kr_ ?_
            exact DN.reachS (()) (trivial) (Sx.put rfl (sx_)) sp_
          · refine WO.h rfl Wt.none rfl (Hd.alloc (zs := [.int .u32 0, .int .i64 0, .bool false, .slice none 0 0, .int .i64 0, .slice none 0 0]) kr_ fun b10 => ⟨_, rfl, ?_⟩)
            refine WA.one (i := 2) kr_ ?_
            refine WO.c rfl Wt.none rfl (Ent.func Try.call24 rfl) (ask_tells 2#32 (.slice wo2 1 wc2) [kx1] (blk4 :: D2) (hF2.kv.mono gr_) (by decide) (stepN 2#32 1#32 0 false [98#8]) (.slice none 0 0) _ (Bs_nil _) (hbk4.mono gr_)) (Sp.p sp_) ?_
            rintro xa4 Ha4 ⟨wa4, wr4, A4, B4, rfl, hA4, hB4, rfl⟩
            rw [kn4] at hA4 hB4 ⊢
            obtain ⟨oa4, ca4, rfl, _⟩ := hA4.form
            obtain ⟨or4, cr4, rfl, _⟩ := hB4.form
            refine WA.y (i := 3) (NoPanic.then (NoPanic.body)) rfl kr_ kr_ kr_ rfl (Yd.move rfl) ?_
            refine WA.y (i := 4) (NoPanic.then (NoPanic.body)) rfl kr_ kr_ kr_ rfl (Yd.extract rfl rfl) ?_
            refine WA.y (i := 5) (NoPanic.then (NoPanic.body)) rfl kr_ kr_ kr_ rfl (Yd.extract rfl rfl) ?_
            refine WA.y (i := 6) (NoPanic.then (NoPanic.body)) rfl kr_ kr_ kr_ rfl (Yd.extract rfl rfl) ?_
            refine WA.y (i := 8) (NoPanic.then (NoPanic.body)) rfl kr_ kr_ kr_ rfl (Yd.assign rfl) ?_
            refine WA.one (i := 9) kr_ ?_
            refine WO.s rfl Wt.none (Hd.storeAll (n := 6) kr_ rfl rfl (by rfl) (kc_one rfl rfl) fr_ (by rfl) ⟨rfl, ?_⟩)
            refine WA.y (i := 10) (NoPanic.then (NoPanic.body)) rfl kr_ kr_ kr_ rfl (Yd.assign rfl) ?_
            refine WA.done kr_ ?_
            exact DN.reachS (()) (trivial) (Sx.put rfl (sx_)) sp_
        · refine WO.h rfl Wt.none rfl (Hd.alloc (zs := [.int .u32 0, .int .i64 0, .bool false, .slice none 0 0, .int .i64 0, .slice none 0 0]) kr_ fun b10 => ⟨_, rfl, ?_⟩)
          refine WA.one (i := 0) kr_ ?_
          refine WO.h rfl Wt.none rfl (Hd.loadAll (n := 2) kr_ rfl mem_ (by rfl) ⟨_, rfl, ?_⟩)
          refine WA.one (i := 2) kr_ ?_
          refine WO.c rfl Wt.none rfl (Ent.func Try.call24 rfl) (ask_tells 2#32 (.slice wo2 1 wc2) [kx1] (blk4 :: D2) (hF2.kv.mono gr_) (by decide) (stepN 2#32 1#32 0 false [98#8]) (.slice none 0 0) _ (Bs_nil _) (hbk4.mono gr_)) (Sp.p sp_) ?_
          rintro xa4 Ha4 ⟨wa4, wr4, A4, B4, rfl, hA4, hB4, rfl⟩
          rw [kn4] at hA4 hB4 ⊢
          obtain ⟨oa4, ca4, rfl, _⟩ := hA4.form
          obtain ⟨or4, cr4, rfl, _⟩ := hB4.form
          refine WA.y (i := 3) (NoPanic.then (NoPanic.body)) rfl kr_ kr_ kr_ rfl (Yd.move rfl) ?_
          refine WA.y (i := 4) (NoPanic.then (NoPanic.body)) rfl kr_ kr_ kr_ rfl (Yd.extract rfl rfl) ?_
          refine WA.y (i := 5) (NoPanic.then (NoPanic.body)) rfl kr_ kr_ kr_ rfl (Yd.extract rfl rfl) ?_
          refine WA.y (i := 6) (NoPanic.then (NoPanic.body)) rfl kr_ kr_ kr_ rfl (Yd.extract rfl rfl) ?_
          refine WA.y (i := 8) (NoPanic.then (NoPanic.body)) rfl kr_ kr_ kr_ rfl (Yd.assign rfl) ?_
          refine WA.one (i := 9) kr_ ?_
          refine WO.s rfl Wt.none (Hd.storeAll (n := 6) kr_ rfl rfl (by rfl) (kc_one rfl rfl) fr_ (by rfl) ⟨rfl, ?_⟩)
          refine WA.y (i := 10) (NoPanic.then (NoPanic.body)) rfl kr_ kr_ kr_ rfl (Yd.assign rfl) ?_
          refine WA.done kr_ ?_
          exact DN.reachS (()) (trivial) (Sx.put rfl (sx_)) sp_
      · refine WO.h rfl Wt.none rfl (Hd.alloc (zs := [.int .u32 0, .int .i64 0, .bool false, .slice none 0 0, .int .i64 0, .slice none 0 0]) kr_ fun b10 => ⟨_, rfl, ?_⟩)
        refine WA.two (i := 0) (j := 1) kr_ ?_ ?_
        · refine WO.h rfl Wt.none rfl (Hd.loadAll (n := 2) kr_ rfl mem_ (by rfl) ⟨_, rfl, ?_⟩)
          refine WA.one (i := 1) kr_ ?_
          refine WO.c rfl Wt.none rfl (Ent.func Try.call23 rfl) (step_tells 2#32 1#32 0 false [98#8]) (Sp.p sp_) ?_
          rintro x4 H4 ⟨bd4, cd4, blk4, rfl, hbk4, rfl⟩
          refine WA.one (i := 2) kr_ ?_
          refine WO.c rfl Wt.none rfl (Ent.func Try.call24 rfl) (ask_tells 2#32 (.slice wo2 1 wc2) [kx1] (blk4 :: D2) (hF2.kv.mono gr_) (by decide) (stepN 2#32 1#32 0 false [98#8]) (.slice none 0 0) _ (Bs_nil _) (hbk4.mono gr_)) (Sp.p sp_) ?_
          rintro xa4 Ha4 ⟨wa4, wr4, A4, B4, rfl, hA4, hB4, rfl⟩
          rw [kn4] at hA4 hB4 ⊢
          obtain ⟨oa4, ca4, rfl, _⟩ := hA4.form
          obtain ⟨or4, cr4, rfl, _⟩ := hB4.form
          refine WA.y (i := 3) (NoPanic.then (NoPanic.body)) rfl kr_ kr_ kr_ rfl (Yd.move rfl) ?_
          refine WA.y (i := 4) (NoPanic.then (NoPanic.body)) rfl kr_ kr_ kr_ rfl (Yd.extract rfl rfl) ?_
          refine WA.y (i := 5) (NoPanic.then (NoPanic.body)) rfl kr_ kr_ kr_ rfl (Yd.extract rfl rfl) ?_
          refine WA.y (i := 6) (NoPanic.then (NoPanic.body)) rfl kr_ kr_ kr_ rfl (Yd.extract rfl rfl) ?_
          refine WA.y (i := 8) (NoPanic.then (NoPanic.body)) rfl kr_ kr_ kr_ rfl (Yd.assign rfl) ?_
          refine WA.one (i := 9) kr_ ?_
          refine WO.s rfl Wt.none (Hd.storeAll (n := 6) kr_ rfl rfl (by rfl) (kc_one rfl rfl) fr_ (by rfl) ⟨rfl, ?_⟩)
          refine WA.y (i := 10) (NoPanic.then (NoPanic.body)) rfl kr_ kr_ kr_ rfl (Yd.assign rfl) ?_
          refine WA.done kr_ ?_
          exact DN.reachS (()) (trivial) (Sx.put rfl (sx_)) sp_
        · refine WO.c rfl Wt.none rfl (Ent.func Try.call23 rfl) (step_tells 2#32 1#32 0 false [98#8]) (Sp.p sp_) ?_
          rintro x4 H4 ⟨bd4, cd4, blk4, rfl, hbk4, rfl⟩
          refine WA.one (i := 0) kr_ ?_
          refine WO.h rfl Wt.none rfl (Hd.loadAll (n := 2) kr_ rfl mem_ (by rfl) ⟨_, rfl, ?_⟩)
          refine WA.one (i := 2) kr_ ?_
          refine WO.c rfl Wt.none rfl (Ent.func Try.call24 rfl) (ask_tells 2#32 (.slice wo2 1 wc2) [kx1] (blk4 :: D2) (hF2.kv.mono gr_) (by decide) (stepN 2#32 1#32 0 false [98#8]) (.slice none 0 0) _ (Bs_nil _) (hbk4.mono gr_)) (Sp.p sp_) ?_
          rintro xa4 Ha4 ⟨wa4, wr4, A4, B4, rfl, hA4, hB4, rfl⟩
          rw [kn4] at hA4 hB4 ⊢
          obtain ⟨oa4, ca4, rfl, _⟩ := hA4.form
          obtain ⟨or4, cr4, rfl, _⟩ := hB4.form
          refine WA.y (i := 3) (NoPanic.then (NoPanic.body)) rfl kr_ kr_ kr_ rfl (Yd.move rfl) ?_
          refine WA.y (i := 4) (NoPanic.then (NoPanic.body)) rfl kr_ kr_ kr_ rfl (Yd.extract rfl rfl) ?_
          refine WA.y (i := 5) (NoPanic.then (NoPanic.body)) rfl kr_ kr_ kr_ rfl (Yd.extract rfl rfl) ?_
          refine WA.y (i := 6) (NoPanic.then (NoPanic.body)) rfl kr_ kr_ kr_ rfl (Yd.extract rfl rfl) ?_
          refine WA.y (i := 8) (NoPanic.then (NoPanic.body)) rfl kr_ kr_ kr_ rfl (Yd.assign rfl) ?_
          refine WA.one (i := 9) kr_ ?_
          refine WO.s rfl Wt.none (Hd.storeAll (n := 6) kr_ rfl rfl (by rfl) (kc_one rfl rfl) fr_ (by rfl) ⟨rfl, ?_⟩)
          refine WA.y (i := 10) (NoPanic.then (NoPanic.body)) rfl kr_ kr_ kr_ rfl (Yd.assign rfl) ?_
          refine WA.done kr_ ?_
          exact DN.reachS (()) (trivial) (Sx.put rfl (sx_)) sp_
    · intro z hz
      refine WC.cutK (fun z : Unit => True) (fun z : Unit => [(14, .int .i64 72)]) (fun z : Unit => row b7 (kc kx1 (.slice ao7 1 ac7) (.slice ro7 1 rc7)) 43 :: (B7 ++ (row b4 [.int .u32 (2#32).toNat, (.slice wo2 1 wc2)] 25 :: D2))) ?_ ?_
      · refine WC.draw 11 kr_ rfl ?_
        refine WA.three (i := 0) (j := 1) (k := 7) kr_ ?_ ?_ ?_
        · refine WO.h rfl Wt.none rfl (Hd.loadAll (n := 2) kr_ rfl mem_ (by rfl) ⟨_, rfl, ?_⟩)
          refine WA.two (i := 1) (j := 7) kr_ ?_ ?_
          · refine WO.c rfl Wt.none rfl (Ent.func Try.call23 rfl) (step_tells 1#32 1#32 0 false [97#8]) (Sp.p sp_) ?_
            rintro x5 H5 ⟨bd5, cd5, blk5, rfl, hbk5, rfl⟩
            refine WA.two (i := 2) (j := 7) kr_ ?_ ?_
            · refine WO.c rfl Wt.none rfl (Ent.func Try.call24 rfl) (ask_tells 2#32 (.slice wo2 1 wc2) [kx1] (blk5 :: D2) (hF2.kv.mono gr_) (by decide) (stepN 1#32 1#32 0 false [97#8]) (.slice none 0 0) _ (Bs_nil _) (hbk5.mono gr_)) (Sp.p sp_) ?_
              rintro xa5 Ha5 ⟨wa5, wr5, A5, B5, rfl, hA5, hB5, rfl⟩
              rw [kn5] at hA5 hB5 ⊢
              obtain ⟨oa5, ca5, rfl, _⟩ := hA5.form
              obtain ⟨or5, cr5, rfl, _⟩ := hB5.form
              refine WA.y (i := 3) (NoPanic.then (NoPanic.body)) rfl kr_ kr_ kr_ rfl (Yd.move rfl) ?_
              refine WA.y (i := 4) (NoPanic.then (NoPanic.body)) rfl kr_ kr_ kr_ rfl (Yd.extract rfl rfl) ?_
              refine WA.y (i := 5) (NoPanic.then (NoPanic.body)) rfl kr_ kr_ kr_ rfl (Yd.extract rfl rfl) ?_
              refine WA.y (i := 6) (NoPanic.then (NoPanic.body)) rfl kr_ kr_ kr_ rfl (Yd.extract rfl rfl) ?_
              refine WA.one (i := 7) kr_ ?_
              refine WO.h rfl Wt.none rfl (Hd.alloc (zs := [.int .u32 0, .int .i64 0, .bool false, .slice none 0 0, .int .i64 0, .slice none 0 0]) kr_ fun b13 => ⟨_, rfl, ?_⟩)
              refine WA.y (i := 8) (NoPanic.then (NoPanic.body)) rfl kr_ kr_ kr_ rfl (Yd.assign rfl) ?_
              refine WA.one (i := 9) kr_ ?_
              refine WO.s rfl Wt.none (Hd.storeAll (n := 6) kr_ rfl rfl (by rfl) (kc_one rfl rfl) fr_ (by rfl) ⟨rfl, ?_⟩)
              refine WA.y (i := 10) (NoPanic.then (NoPanic.body)) rfl kr_ kr_ kr_ rfl (Yd.assign rfl) ?_
              refine WA.done kr_ ?_
              exact DN.reachS (()) (trivial) (Sx.put rfl (sx_)) sp_
            · refine WO.h rfl Wt.none rfl (Hd.alloc (zs := [.int .u32 0, .int .i64 0, .bool false, .slice none 0 0, .int .i64 0, .slice none 0 0]) kr_ fun b13 => ⟨_, rfl, ?_⟩)
              refine WA.one (i := 2) kr_ ?_
              refine WO.c rfl Wt.none rfl (Ent.func Try.call24 rfl) (ask_tells 2#32 (.slice wo2 1 wc2) [kx1] (blk5 :: D2) (hF2.kv.mono gr_) (by decide) (stepN 1#32 1#32 0 false [97#8]) (.slice none 0 0) _ (Bs_nil _) (hbk5.mono gr_)) (Sp.p sp_) ?_
              rintro xa5 Ha5 ⟨wa5, wr5, A5, B5, rfl, hA5, hB5, rfl⟩
              rw [kn5] at hA5 hB5 ⊢
              obtain ⟨oa5, ca5, rfl, _⟩ := hA5.form
              obtain ⟨or5, cr5, rfl, _⟩ := hB5.form
              refine WA.y (i := 3) (NoPanic.then (NoPanic.body)) rfl kr_ kr_ kr_ rfl (Yd.move rfl) ?_
              refine WA.y (i := 4) (NoPanic.then (NoPanic.body)) rfl kr_ kr_ kr_ rfl (Yd.extract rfl rfl) ?_
              refine WA.y (i := 5) (NoPanic.then (NoPanic.body)) rfl kr_ kr_ kr_ rfl (Yd.extract rfl rfl) ?_
              refine WA.y (i := 6) (NoPanic.then (NoPanic.body)) rfl kr_ kr_ kr_ rfl (Yd.extract rfl rfl) ?_
              refine WA.y (i := 8) (NoPanic.then (NoPanic.body)) rfl kr_ kr_ kr_ rfl (Yd.assign rfl) ?_
              refine WA.one (i := 9) kr_ ?_
              refine WO.s rfl Wt.none (Hd.storeAll (n := 6) kr_ rfl rfl (by rfl) (kc_one rfl rfl) fr_ (by rfl) ⟨rfl, ?_⟩)
              refine WA.y (i := 10) (NoPanic.then (NoPanic.body)) rfl kr_ kr_ kr_ rfl (Yd.assign rfl) ?_
              refine WA.done kr_ ?_
              exact DN.reachS (()) (trivial) (Sx.put rfl (sx_)) sp_
          · refine WO.h rfl Wt.none rfl (Hd.alloc (zs := [.int .u32 0, .int .i64 0, .bool false, .slice none 0 0, .int .i64 0, .slice none 0 0]) kr_ fun b13 => ⟨_, rfl, ?_⟩)
            refine WA.one (i := 1) kr_ ?_
            refine WO.c rfl Wt.none rfl (Ent.func Try.call23 rfl) (step_tells 1#32 1#32 0 false [97#8]) (Sp.p sp_) ?_
            rintro x5 H5 ⟨bd5, cd5, blk5, rfl, hbk5, rfl⟩
            refine WA.one (i := 2) kr_ ?_
            refine WO.c rfl Wt.none rfl (Ent.func Try.call24 rfl) (ask_tells 2#32 (.slice wo2 1 wc2) [kx1] (blk5 :: D2) (hF2.kv.mono gr_) (by decide) (stepN 1#32 1#32 0 false [97#8]) (.slice none 0 0) _ (Bs_nil _) (hbk5.mono gr_)) (Sp.p sp_) ?_
            rintro xa5 Ha5 ⟨wa5, wr5, A5, B5, rfl, hA5, hB5, rfl⟩
            rw [kn5] at hA5 hB5 ⊢
            obtain ⟨oa5, ca5, rfl, _⟩ := hA5.form
            obtain ⟨or5, cr5, rfl, _⟩ := hB5.form
            refine WA.y (i := 3) (NoPanic.then (NoPanic.body)) rfl kr_ kr_ kr_ rfl (Yd.move rfl) ?_
            refine WA.y (i := 4) (NoPanic.then (NoPanic.body)) rfl kr_ kr_ kr_ rfl (Yd.extract rfl rfl) ?_
            refine WA.y (i := 5) (NoPanic.then (NoPanic.body)) rfl kr_ kr_ kr_ rfl (Yd.extract rfl rfl) ?_
            refine WA.y (i := 6) (NoPanic.then (NoPanic.body)) rfl kr_ kr_ kr_ rfl (Yd.extract rfl rfl) ?_
            refine WA.y (i := 8) (NoPanic.then (NoPanic.body)) rfl kr_ kr_ kr_ rfl (Yd.assign rfl) ?_
            refine WA.one (i := 9) kr_ ?_
            refine WO.s rfl Wt.none (Hd.storeAll (n := 6) kr_ rfl rfl (by rfl) (kc_one rfl rfl) fr_ (by rfl) ⟨rfl, ?_⟩)
            refine WA.y (i := 10) (NoPanic.then (NoPanic.body)) rfl kr_ kr_ kr_ rfl (Yd.assign rfl) ?_
            refine WA.done kr_ ?_
            exact DN.reachS (()) (trivial) (Sx.put rfl (sx_)) sp_
        · refine WO.c rfl Wt.none rfl (Ent.func Try.call23 rfl) (step_tells 1#32 1#32 0 false [97#8]) (Sp.p sp_) ?_
          rintro x5 H5 ⟨bd5, cd5, blk5, rfl, hbk5, rfl⟩
          refine WA.two (i := 0) (j := 7) kr_ ?_ ?_
          · refine WO.h rfl Wt.none rfl (Hd.loadAll (n := 2) kr_ rfl mem_ (by rfl) ⟨_, rfl, ?_⟩)
            refine WA.two (i := 2) (j := 7) kr_ ?_ ?_
            · refine WO.c rfl Wt.none rfl (Ent.func Try.call24 rfl) (ask_tells 2#32 (.slice wo2 1 wc2) [kx1] (blk5 :: D2) (hF2.kv.mono gr_) (by decide) (stepN 1#32 1#32 0 false [97#8]) (.slice none 0 0) _ (Bs_nil _) (hbk5.mono gr_)) (Sp.p sp_) ?_
              rintro xa5 Ha5 ⟨wa5, wr5, A5, B5, rfl, hA5, hB5, rfl⟩
              rw [kn5] at hA5 hB5 ⊢
              obtain ⟨oa5, ca5, rfl, _⟩ := hA5.form
              obtain ⟨or5, cr5, rfl, _⟩ := hB5.form
              refine WA.y (i := 3) (NoPanic.then (NoPanic.body)) rfl kr_ kr_ kr_ rfl (Yd.move rfl) ?_
              refine WA.y (i := 4) (NoPanic.then (NoPanic.body)) rfl kr_ kr_ kr_ rfl (Yd.extract rfl rfl) ?_
              refine WA.y (i := 5) (NoPanic.then (NoPanic.body)) rfl kr_ kr_ kr_ rfl (Yd.extract rfl rfl) ?_
              refine WA.y (i := 6) (NoPanic.then (NoPanic.body)) rfl kr_ kr_ kr_ rfl (Yd.extract rfl rfl) ?_
              refine WA.one (i := 7) kr_ ?_
              refine WO.h rfl Wt.none rfl (Hd.alloc (zs := [.int .u32 0, .int .i64 0, .bool false, .slice none 0 0, .int .i64 0, .slice none 0 0]) kr_ fun b13 => ⟨_, rfl, ?_⟩)
              refine WA.y (i := 8) (NoPanic.then (NoPanic.body)) rfl kr_ kr_ kr_ rfl (Yd.assign rfl) ?_
              refine WA.one (i := 9) kr_ ?_
              refine WO.s rfl Wt.none (Hd.storeAll (n := 6) kr_ rfl rfl (by rfl) (kc_one rfl rfl) fr_ (by rfl) ⟨rfl, ?_⟩)
              refine WA.y (i := 10) (NoPanic.then (NoPanic.body)) rfl kr_ kr_ kr_ rfl (Yd.assign rfl) ?_
              refine WA.done kr_ ?_
              exact DN.reachS (()) (trivial) (Sx.put rfl (sx_)) sp_
            · refine WO.h rfl Wt.none rfl (Hd.alloc (zs := [.int .u32 0, .int .i64 0, .bool false, .slice none 0 0, .int .i64 0, .slice none 0 0]) kr_ fun b13 => ⟨_, rfl, ?_⟩)
              refine WA.one (i := 2) kr_ ?_
              refine WO.c rfl Wt.none rfl (Ent.func Try.call24 rfl) (ask_tells 2#32 (.slice wo2 1 wc2) [kx1] (blk5 :: D2) (hF2.kv.mono gr_) (by decide) (stepN 1#32 1#32 0 false [97#8]) (.slice none 0 0) _ (Bs_nil _) (hbk5.mono gr_)) (Sp.p sp_) ?_
              rintro xa5 Ha5 ⟨wa5, wr5, A5, B5, rfl, hA5, hB5, rfl⟩
              rw [kn5] at hA5 hB5 ⊢
              obtain ⟨oa5, ca5, rfl, _⟩ := hA5.form
              obtain ⟨or5, cr5, rfl, _⟩ := hB5.form
              refine WA.y (i := 3) (NoPanic.then (NoPanic.body)) rfl kr_ kr_ kr_ rfl (Yd.move rfl) ?_
              refine WA.y (i := 4) (NoPanic.then (NoPanic.body)) rfl kr_ kr_ kr_ rfl (Yd.extract rfl rfl) ?_
              refine WA.y (i := 5) (NoPanic.then (NoPanic.body)) rfl kr_ kr_ kr_ rfl (Yd.extract rfl rfl) ?_
              refine WA.y (i := 6) (NoPanic.then (NoPanic.body)) rfl kr_ kr_ kr_ rfl (Yd.extract rfl rfl) ?_
              refine WA.y (i := 8) (NoPanic.then (NoPanic.body)) rfl kr_ kr_ kr_ rfl (Yd.assign rfl) ?_
              refine WA.one (i := 9) kr_ ?_
              refine WO.s rfl Wt.none (Hd.storeAll (n := 6) kr_ rfl rfl (by rfl) (kc_one rfl rfl) fr_ (by rfl) ⟨rfl, ?_⟩)
              refine WA.y (i := 10) (NoPanic.then (NoPanic.body)) rfl kr_ kr_ kr_ rfl (Yd.assign rfl) ?_
              refine WA.done kr_ ?_
              exact DN.reachS (()) (trivial) (Sx.put rfl (sx_)) sp_
          · refine WO.h rfl Wt.none rfl (Hd.alloc (zs := [.int .u32 0, .int .i64 0, .bool false, .slice none 0 0, .int .i64 0, .slice none 0 0]) kr_ fun b13 => ⟨_, rfl, ?_⟩)
            refine WA.one (i := 0) kr_ ?_
            refine WO.h rfl Wt.none rfl (Hd.loadAll (n := 2) kr_ rfl mem_ (by rfl) ⟨_, rfl, ?_⟩)
            refine WA.one (i := 2) kr_ ?_
            refine WO.c rfl Wt.none rfl (Ent.func Try.call24 rfl) (ask_tells 2#32 (.slice wo2 1 wc2) [kx1] (blk5 :: D2) (hF2.kv.mono gr_) (by decide) (stepN 1#32 1#32 0 false [97#8]) (.slice none 0 0) _ (Bs_nil _) (hbk5.mono gr_)) (Sp.p sp_) ?_
            rintro xa5 Ha5 ⟨wa5, wr5, A5, B5, rfl, hA5, hB5, rfl⟩
            rw [kn5] at hA5 hB5 ⊢
            obtain ⟨oa5, ca5, rfl, _⟩ := hA5.form
            obtain ⟨or5, cr5, rfl, _⟩ := hB5.form
            refine WA.y (i := 3) (NoPanic.then (NoPanic.body)) rfl kr_ kr_ kr_ rfl (Yd.move rfl) ?_
            refine WA.y (i := 4) (NoPanic.then (NoPanic.body)) rfl kr_ kr_ kr_ rfl (Yd.extract rfl rfl) ?_
            refine WA.y (i := 5) (NoPanic.then (NoPanic.body)) rfl kr_ kr_ kr_ rfl (Yd.extract rfl rfl) ?_
            refine WA.y (i := 6) (NoPanic.then (NoPanic.body)) rfl kr_ kr_ kr_ rfl (Yd.extract rfl rfl) ?_
            refine WA.y (i := 8) (NoPanic.then (NoPanic.body)) rfl kr_ kr_ kr_ rfl (Yd.assign rfl) ?_
            refine WA.one (i := 9) kr_ ?_
            refine WO.s rfl Wt.none (Hd.storeAll (n := 6) kr_ rfl rfl (by rfl) (kc_one rfl rfl) fr_ (by rfl) ⟨rfl, ?_⟩)
            refine WA.y (i := 10) (NoPanic.then (NoPanic.body)) rfl kr_ kr_ kr_ rfl (Yd.assign rfl) ?_
            refine WA.done kr_ ?_
            exact DN.reachS (()) (trivial) (Sx.put rfl (sx_)) sp_
        · refine WO.h rfl Wt.none rfl (Hd.alloc (zs := [.int .u32 0, .int .i64 0, .bool false, .slice none 0 0, .int .i64 0, .slice none 0 0]) kr_ fun b13 => ⟨_, rfl, ?_⟩)
          refine WA.two (i := 0) (j := 1) kr_ ?_ ?_
          · refine WO.h rfl Wt.none rfl (Hd.loadAll (n := 2) kr_ rfl mem_ (by rfl) ⟨_, rfl, ?_⟩)
            refine WA.one (i := 1) kr_ ?_
            refine WO.c rfl Wt.none rfl (Ent.func Try.call23 rfl) (step_tells 1#32 1#32 0 false [97#8]) (Sp.p sp_) ?_
            rintro x5 H5 ⟨bd5, cd5, blk5, rfl, hbk5, rfl⟩
            refine WA.one (i := 2) kr_ ?_
            refine WO.c rfl Wt.none rfl (Ent.func Try.call24 rfl) (ask_tells 2#32 (.slice wo2 1 wc2) [kx1] (blk5 :: D2) (hF2.kv.mono gr_) (by decide) (stepN 1#32 1#32 0 false [97#8]) (.slice none 0 0) _ (Bs_nil _) (hbk5.mono gr_)) (Sp.p sp_) ?_
            rintro xa5 Ha5 ⟨wa5, wr5, A5, B5, rfl, hA5, hB5, rfl⟩
            rw [kn5] at hA5 hB5 ⊢
            obtain ⟨oa5, ca5, rfl, _⟩ := hA5.form
            obtain ⟨or5, cr5, rfl, _⟩ := hB5.form
            refine WA.y (i := 3) (NoPanic.then (NoPanic.body)) rfl kr_ kr_ kr_ rfl (Yd.move rfl) ?_
            refine WA.y (i := 4) (NoPanic.then (NoPanic.body)) rfl kr_ kr_ kr_ rfl (Yd.extract rfl rfl) ?_
            refine WA.y (i := 5) (NoPanic.then (NoPanic.body)) rfl kr_ kr_ kr_ rfl (Yd.extract rfl rfl) ?_
            refine WA.y (i := 6) (NoPanic.then (NoPanic.body)) rfl kr_ kr_ kr_ rfl (Yd.extract rfl rfl) ?_
            refine WA.y (i := 8) (NoPanic.then (NoPanic.body)) rfl kr_ kr_ kr_ rfl (Yd.assign rfl) ?_
            refine WA.one (i := 9) kr_ ?_
            refine WO.s rfl Wt.none (Hd.storeAll (n := 6) kr_ rfl rfl (by rfl) (kc_one rfl rfl) fr_ (by rfl) ⟨rfl, ?_⟩)
            refine WA.y (i := 10) (NoPanic.then (NoPanic.body)) rfl kr_ kr_ kr_ rfl (Yd.assign rfl) ?_
            refine WA.done kr_ ?_
            exact DN.reachS (()) (trivial) (Sx.put rfl (sx_)) sp_
          · refine WO.c rfl Wt.none rfl (Ent.func Try.call23 rfl) (step_tells 1#32 1#32 0 false [97#8]) (Sp.p sp_) ?_
            rintro x5 H5 ⟨bd5, cd5, blk5, rfl, hbk5, rfl⟩
            refine WA.one (i := 0) kr_ ?_
            refine WO.h rfl Wt.none rfl (Hd.loadAll (n := 2) kr_ rfl mem_ (by rfl) ⟨_, rfl, ?_⟩)
            refine WA.one (i := 2) kr_ ?_
            refine WO.c rfl Wt.none rfl (Ent.func Try.call24 rfl) (ask_tells 2#32 (.slice wo2 1 wc2) [kx1] (blk5 :: D2) (hF2.kv.mono gr_) (by decide) (stepN 1#32 1#32 0 false [97#8]) (.slice none 0 0) _ (Bs_nil _) (hbk5.mono gr_)) (Sp.p sp_) ?_
            rintro xa5 Ha5 ⟨wa5, wr5, A5, B5, rfl, hA5, hB5, rfl⟩
            rw [kn5] at hA5 hB5 ⊢
            obtain ⟨oa5, ca5, rfl, _⟩ := hA5.form
            obtain ⟨or5, cr5, rfl, _⟩ := hB5.form
            refine WA.y (i := 3) (NoPanic.then (NoPanic.body)) rfl kr_ kr_ kr_ rfl (Yd.move rfl) ?_
            refine WA.y (i := 4) (NoPanic.then (NoPanic.body)) rfl kr_ kr_ kr_ rfl (Yd.extract rfl rfl) ?_
            refine WA.y (i := 5) (NoPanic.then (NoPanic.body)) rfl kr_ kr_ kr_ rfl (Yd.extract rfl rfl) ?_
            refine WA.y (i := 6) (NoPanic.then (NoPanic.body)) rfl kr_ kr_ kr_ rfl (Yd.extract rfl rfl) ?_
            refine WA.y (i := 8) (NoPanic.then (NoPanic.body)) rfl kr_ kr_ kr_ rfl (Yd.assign rfl) ?_
            refine WA.one (i := 9) kr_ ?_
            refine WO.s rfl Wt.none (Hd.storeAll (n := 6) kr_ rfl rfl (by rfl) (kc_one rfl rfl) fr_ (by rfl) ⟨rfl, ?_⟩)
            refine WA.y (i := 10) (NoPanic.then (NoPanic.body)) rfl kr_ kr_ kr_ rfl (Yd.assign rfl) ?_
            refine WA.done kr_ ?_
            exact DN.reachS (()) (trivial) (Sx.put rfl (sx_)) sp_
      · intro z hz
        refine WC.cutK (fun z : Unit => True) (fun z : Unit => [(15, .int .i64 1)]) (fun z : Unit => row b7 (kc kx1 (.slice ao7 1 ac7) (.slice ro7 1 rc7)) 43 :: (B7 ++ (row b4 [.int .u32 (2#32).toNat, (.slice wo2 1 wc2)] 25 :: D2))) ?_ ?_
        · refine WC.draw 11 kr_ rfl ?_
          refine WA.three (i := 0) (j := 1) (k := 7) kr_ ?_ ?_ ?_
          · refine WO.h rfl Wt.none rfl (Hd.loadAll (n := 2) kr_ rfl mem_ (by rfl) ⟨_, rfl, ?_⟩)
            refine WA.two (i := 1) (j := 7) kr_ ?_ ?_
            · refine WO.c rfl Wt.none rfl (Ent.func Try.call23 rfl) (step_tells 2#32 1#32 0 true []) (Sp.p sp_) ?_
              rintro x6 H6 ⟨bd6, cd6, blk6, rfl, hbk6, rfl⟩
              refine WA.two (i := 2) (j := 7) kr_ ?_ ?_
              · refine WO.c rfl Wt.none rfl (Ent.func Try.call24 rfl) (ask_tells 2#32 (.slice wo2 1 wc2) [kx1] (blk6 :: D2) (hF2.kv.mono gr_) (by decide) (stepN 2#32 1#32 0 true []) (.slice none 0 0) _ (Bs_nil _) (hbk6.mono gr_)) (Sp.p sp_) ?_
                rintro xa6 Ha6 ⟨wa6, wr6, A6, B6, rfl, hA6, hB6, rfl⟩
                rw [kn6] at hA6 hB6 ⊢
                obtain ⟨oa6, ca6, rfl, _⟩ := hA6.form
                obtain ⟨or6, cr6, rfl, _⟩ := hB6.form
                refine WA.y (i := 3) (NoPanic.then (NoPanic.body)) rfl kr_ kr_ kr_ rfl (Yd.move rfl) ?_
                refine WA.y (i := 4) (NoPanic.then (NoPanic.body)) rfl kr_ kr_ kr_ rfl (Yd.extract rfl rfl) ?_
                refine WA.y (i := 5) (NoPanic.then (NoPanic.body)) rfl kr_ kr_ kr_ rfl (Yd.extract rfl rfl) ?_
                refine WA.y (i := 6) (NoPanic.then (NoPanic.body)) rfl kr_ kr_ kr_ rfl (Yd.extract rfl rfl) ?_
                refine WA.one (i := 7) kr_ ?_
                refine WO.h rfl Wt.none rfl (Hd.alloc (zs := [.int .u32 0, .int .i64 0, .bool false, .slice none 0 0, .int .i64 0, .slice none 0 0]) kr_ fun b16 => ⟨_, rfl, ?_⟩)
                refine WA.y (i := 8) (NoPanic.then (NoPanic.body)) rfl kr_ kr_ kr_ rfl (Yd.assign rfl) ?_
                refine WA.one (i := 9) kr_ ?_
                refine WO.s rfl Wt.none (Hd.storeAll (n := 6) kr_ rfl rfl (by rfl) (kc_one rfl rfl) fr_ (by rfl) ⟨rfl, ?_⟩)
                refine WA.y (i := 10) (NoPanic.then (NoPanic.body)) rfl kr_ kr_ kr_ rfl (Yd.assign rfl) ?_
                refine WA.done kr_ ?_
                exact DN.reachS (()) (trivial) (Sx.put rfl (sx_)) sp_
              · refine WO.h rfl Wt.none rfl (Hd.alloc (zs := [.int .u32 0, .int .i64 0, .bool false, .slice none 0 0, .int .i64 0, .slice none 0 0]) kr_ fun b16 => ⟨_, rfl, ?_⟩)
                refine WA.one (i := 2) kr_ ?_
                refine WO.c rfl Wt.none rfl (Ent.func Try.call24 rfl) (ask_tells 2#32 (.slice wo2 1 wc2) [kx1] (blk6 :: D2) (hF2.kv.mono gr_) (by decide) (stepN 2#32 1#32 0 true []) (.slice none 0 0) _ (Bs_nil _) (hbk6.mono gr_)) (Sp.p sp_) ?_
                rintro xa6 Ha6 ⟨wa6, wr6, A6, B6, rfl, hA6, hB6, rfl⟩
                rw [kn6] at hA6 hB6 ⊢
                obtain ⟨oa6, ca6, rfl, _⟩ := hA6.form
                obtain ⟨or6, cr6, rfl, _⟩ := hB6.form
                refine WA.y (i := 3) (NoPanic.then (NoPanic.body)) rfl kr_ kr_ kr_ rfl (Yd.move rfl) ?_
                refine WA.y (i := 4) (NoPanic.then (NoPanic.body)) rfl kr_ kr_ kr_ rfl (Yd.extract rfl rfl) ?_
                refine WA.y (i := 5) (NoPanic.then (NoPanic.body)) rfl kr_ kr_ kr_ rfl (Yd.extract rfl rfl) ?_
                refine WA.y (i := 6) (NoPanic.then (NoPanic.body)) rfl kr_ kr_ kr_ rfl (Yd.extract rfl rfl) ?_
                refine WA.y (i := 8) (NoPanic.then (NoPanic.body)) rfl kr_ kr_ kr_ rfl (Yd.assign rfl) ?_
                refine WA.one (i := 9) kr_ ?_
                refine WO.s rfl Wt.none (Hd.storeAll (n := 6) kr_ rfl rfl (by rfl) (kc_one rfl rfl) fr_ (by rfl) ⟨rfl, ?_⟩)
                refine WA.y (i := 10) (NoPanic.then (NoPanic.body)) rfl kr_ kr_ kr_ rfl (Yd.assign rfl) ?_
                refine WA.done kr_ ?_
                exact DN.reachS (()) (trivial) (Sx.put rfl (sx_)) sp_
            · refine WO.h rfl Wt.none rfl (Hd.alloc (zs := [.int .u32 0, .int .i64 0, .bool false, .slice none 0 0, .int .i64 0, .slice none 0 0]) kr_ fun b16 => ⟨_, rfl, ?_⟩)
              refine WA.one (i := 1) kr_ ?_
              refine WO.c rfl Wt.none rfl (Ent.func Try.call23 rfl) (step_tells 2#32 1#32 0 true []) (Sp.p sp_) ?_
              rintro x6 H6 ⟨bd6, cd6, blk6, rfl, hbk6, rfl⟩
              refine WA.one (i := 2) kr_ ?_
              refine WO.c rfl Wt.none rfl (Ent.func Try.call24 rfl) (ask_tells 2#32 (.slice wo2 1 wc2) [kx1] (blk6 :: D2) (hF2.kv.mono gr_) (by decide) (stepN 2#32 1#32 0 true []) (.slice none 0 0) _ (Bs_nil _) (hbk6.mono gr_)) (Sp.p sp_) ?_
              rintro xa6 Ha6 ⟨wa6, wr6, A6, B6, rfl, hA6, hB6, rfl⟩
              rw [kn6] at hA6 hB6 ⊢
              obtain ⟨oa6, ca6, rfl, _⟩ := hA6.form
              obtain ⟨or6, cr6, rfl, _⟩ := hB6.form
              refine WA.y (i := 3) (NoPanic.then (NoPanic.body)) rfl kr_ kr_ kr_ rfl (Yd.move rfl) ?_
              refine WA.y (i := 4) (NoPanic.then (NoPanic.body)) rfl kr_ kr_ kr_ rfl (Yd.extract rfl rfl) ?_
              refine WA.y (i := 5) (NoPanic.then (NoPanic.body)) rfl kr_ kr_ kr_ rfl (Yd.extract rfl rfl) ?_
              refine WA.y (i := 6) (NoPanic.then (NoPanic.body)) rfl kr_ kr_ kr_ rfl (Yd.extract rfl rfl) ?_
              refine WA.y (i := 8) (NoPanic.then (NoPanic.body)) rfl kr_ kr_ kr_ rfl (Yd.assign rfl) ?_
              refine WA.one (i := 9) kr_ ?_
              refine WO.s rfl Wt.none (Hd.storeAll (n := 6) kr_ rfl rfl (by rfl) (kc_one rfl rfl) fr_ (by rfl) ⟨rfl, ?_⟩)
              refine WA.y (i := 10) (NoPanic.then (NoPanic.body)) rfl kr_ kr_ kr_ rfl (Yd.assign rfl) ?_
              refine WA.done kr_ ?_
              exact DN.reachS (()) (trivial) (Sx.put rfl (sx_)) sp_
          · refine WO.c rfl Wt.none rfl (Ent.func Try.call23 rfl) (step_tells 2#32 1#32 0 true []) (Sp.p sp_) ?_
            rintro x6 H6 ⟨bd6, cd6, blk6, rfl, hbk6, rfl⟩
            refine WA.two (i := 0) (j := 7) kr_ ?_ ?_
            · refine WO.h rfl Wt.none rfl (Hd.loadAll (n := 2) kr_ rfl mem_ (by rfl) ⟨_, rfl, ?_⟩)
              refine WA.two (i := 2) (j := 7) kr_ ?_ ?_
              · refine WO.c rfl Wt.none rfl (Ent.func Try.call24 rfl) (ask_tells 2#32 (.slice wo2 1 wc2) [kx1] (blk6 :: D2) (hF2.kv.mono gr_) (by decide) (stepN 2#32 1#32 0 true []) (.slice none 0 0) _ (Bs_nil _) (hbk6.mono gr_)) (Sp.p sp_) ?_
                rintro xa6 Ha6 ⟨wa6, wr6, A6, B6, rfl, hA6, hB6, rfl⟩
                rw [kn6] at hA6 hB6 ⊢
                obtain ⟨oa6, ca6, rfl, _⟩ := hA6.form
                obtain ⟨or6, cr6, rfl, _⟩ := hB6.form
                refine WA.y (i := 3) (NoPanic.then (NoPanic.body)) rfl kr_ kr_ kr_ rfl (Yd.move rfl) ?_
                refine WA.y (i := 4) (NoPanic.then (NoPanic.body)) rfl kr_ kr_ kr_ rfl (Yd.extract rfl rfl) ?_
                refine WA.y (i := 5) (NoPanic.then (NoPanic.body)) rfl kr_ kr_ kr_ rfl (Yd.extract rfl rfl) ?_
                refine WA.y (i := 6) (NoPanic.then (NoPanic.body)) rfl kr_ kr_ kr_ rfl (Yd.extract rfl rfl) ?_
                refine WA.one (i := 7) kr_ ?_
                refine WO.h rfl Wt.none rfl (Hd.alloc (zs := [.int .u32 0, .int .i64 0, .bool false, .slice none 0 0, .int .i64 0, .slice none 0 0]) kr_ fun b16 => ⟨_, rfl, ?_⟩)
                refine WA.y (i := 8) (NoPanic.then (NoPanic.body)) rfl kr_ kr_ kr_ rfl (Yd.assign rfl) ?_
                refine WA.one (i := 9) kr_ ?_
                refine WO.s rfl Wt.none (Hd.storeAll (n := 6) kr_ rfl rfl (by rfl) (kc_one rfl rfl) fr_ (by rfl) ⟨rfl, ?_⟩)
                refine WA.y (i := 10) (NoPanic.then (NoPanic.body)) rfl kr_ kr_ kr_ rfl (Yd.assign rfl) ?_
                refine WA.done kr_ ?_
                exact DN.reachS (()) (trivial) (Sx.put rfl (sx_)) sp_
              · refine WO.h rfl Wt.none rfl (Hd.alloc (zs := [.int .u32 0, .int .i64 0, .bool false, .slice none 0 0, .int .i64 0, .slice none 0 0]) kr_ fun b16 => ⟨_, rfl, ?_⟩)
                refine WA.one (i := 2) kr_ ?_
                refine WO.c rfl Wt.none rfl (Ent.func Try.call24 rfl) (ask_tells 2#32 (.slice wo2 1 wc2) [kx1] (blk6 :: D2) (hF2.kv.mono gr_) (by decide) (stepN 2#32 1#32 0 true []) (.slice none 0 0) _ (Bs_nil _) (hbk6.mono gr_)) (Sp.p sp_) ?_
                rintro xa6 Ha6 ⟨wa6, wr6, A6, B6, rfl, hA6, hB6, rfl⟩
                rw [kn6] at hA6 hB6 ⊢
                obtain ⟨oa6, ca6, rfl, _⟩ := hA6.form
                obtain ⟨or6, cr6, rfl, _⟩ := hB6.form
                refine WA.y (i := 3) (NoPanic.then (NoPanic.body)) rfl kr_ kr_ kr_ rfl (Yd.move rfl) ?_
                refine WA.y (i := 4) (NoPanic.then (NoPanic.body)) rfl kr_ kr_ kr_ rfl (Yd.extract rfl rfl) ?_
                refine WA.y (i := 5) (NoPanic.then (NoPanic.body)) rfl kr_ kr_ kr_ rfl (Yd.extract rfl rfl) ?_
                refine WA.y (i := 6) (NoPanic.then (NoPanic.body)) rfl kr_ kr_ kr_ rfl (Yd.extract rfl rfl) ?_
                refine WA.y (i := 8) (NoPanic.then (NoPanic.body)) rfl kr_ kr_ kr_ rfl (Yd.assign rfl) ?_
                refine WA.one (i := 9) kr_ ?_
                refine WO.s rfl Wt.none (Hd.storeAll (n := 6) kr_ rfl rfl (by rfl) (kc_one rfl rfl) fr_ (by rfl) ⟨rfl, ?_⟩)
                refine WA.y (i := 10) (NoPanic.then (NoPanic.body)) rfl kr_ kr_ kr_ rfl (Yd.assign rfl) ?_
                refine WA.done kr_ ?_
                exact DN.reachS (()) (trivial) (Sx.put rfl (sx_)) sp_
            · refine WO.h rfl Wt.none rfl (Hd.alloc (zs := [.int .u32 0, .int .i64 0, .bool false, .slice none 0 0, .int .i64 0, .slice none 0 0]) kr_ fun b16 => ⟨_, rfl, ?_⟩)
              refine WA.one (i := 0) kr_ ?_
              refine WO.h rfl Wt.none rfl (Hd.loadAll (n := 2) kr_ rfl mem_ (by rfl) ⟨_, rfl, ?_⟩)
              refine WA.one (i := 2) kr_ ?_
              refine WO.c rfl Wt.none rfl (Ent.func Try.call24 rfl) (ask_tells 2#32 (.slice wo2 1 wc2) [kx1] (blk6 :: D2) (hF2.kv.mono gr_) (by decide) (stepN 2#32 1#32 0 true []) (.slice none 0 0) _ (Bs_nil _) (hbk6.mono gr_)) (Sp.p sp_) ?_
              rintro xa6 Ha6 ⟨wa6, wr6, A6, B6, rfl, hA6, hB6, rfl⟩
              rw [kn6] at hA6 hB6 ⊢
              obtain ⟨oa6, ca6, rfl, _⟩ := hA6.form
              obtain ⟨or6, cr6, rfl, _⟩ := hB6.form
              refine WA.y (i := 3) (NoPanic.then (NoPanic.body)) rfl kr_ kr_ kr_ rfl (Yd.move rfl) ?_
              refine WA.y (i := 4) (NoPanic.then (NoPanic.body)) rfl kr_ kr_ kr_ rfl (Yd.extract rfl rfl) ?_
              refine WA.y (i := 5) (NoPanic.then (NoPanic.body)) rfl kr_ kr_ kr_ rfl (Yd.extract rfl rfl) ?_
              refine WA.y (i := 6) (NoPanic.then (NoPanic.body)) rfl kr_ kr_ kr_ rfl (Yd.extract rfl rfl) ?_
              refine WA.y (i := 8) (NoPanic.then (NoPanic.body)) rfl kr_ kr_ kr_ rfl (Yd.assign rfl) ?_
              refine WA.one (i := 9) kr_ ?_
              refine WO.s rfl Wt.none (Hd.storeAll (n := 6) kr_ rfl rfl (by rfl) (kc_one rfl rfl) fr_ (by rfl) ⟨rfl, ?_⟩)
              refine WA.y (i := 10) (NoPanic.then (NoPanic.body)) rfl kr_ kr_ kr_ rfl (Yd.assign rfl) ?_
              refine WA.done kr_ ?_
              exact DN.reachS (()) (trivial) (Sx.put rfl (sx_)) sp_
          · refine WO.h rfl Wt.none rfl (Hd.alloc (zs := [.int .u32 0, .int .i64 0, .bool false, .slice none 0 0, .int .i64 0, .slice none 0 0]) kr_ fun b16 => ⟨_, rfl, ?_⟩)
            refine WA.two (i := 0) (j := 1) kr_ ?_ ?_
            · refine WO.h rfl Wt.none rfl (Hd.loadAll (n := 2) kr_ rfl mem_ (by rfl) ⟨_, rfl, ?_⟩)
              refine WA.one (i := 1) kr_ ?_
              refine WO.c rfl Wt.none rfl (Ent.func Try.call23 rfl) (step_tells 2#32 1#32 0 true []) (Sp.p sp_) ?_
              rintro x6 H6 ⟨bd6, cd6, blk6, rfl, hbk6, rfl⟩
              refine WA.one (i := 2) kr_ ?_
              refine WO.c rfl Wt.none rfl (Ent.func Try.call24 rfl) (ask_tells 2#32 (.slice wo2 1 wc2) [kx1] (blk6 :: D2) (hF2.kv.mono gr_) (by decide) (stepN 2#32 1#32 0 true []) (.slice none 0 0) _ (Bs_nil _) (hbk6.mono gr_)) (Sp.p sp_) ?_
              rintro xa6 Ha6 ⟨wa6, wr6, A6, B6, rfl, hA6, hB6, rfl⟩
              rw [kn6] at hA6 hB6 ⊢
              obtain ⟨oa6, ca6, rfl, _⟩ := hA6.form
              obtain ⟨or6, cr6, rfl, _⟩ := hB6.form
              refine WA.y (i := 3) (NoPanic.then (NoPanic.body)) rfl kr_ kr_ kr_ rfl (Yd.move rfl) ?_
              refine WA.y (i := 4) (NoPanic.then (NoPanic.body)) rfl kr_ kr_ kr_ rfl (Yd.extract rfl rfl) ?_
              refine WA.y (i := 5) (NoPanic.then (NoPanic.body)) rfl kr_ kr_ kr_ rfl (Yd.extract rfl rfl) ?_
              refine WA.y (i := 6) (NoPanic.then (NoPanic.body)) rfl kr_ kr_ kr_ rfl (Yd.extract rfl rfl) ?_
              refine WA.y (i := 8) (NoPanic.then (NoPanic.body)) rfl kr_ kr_ kr_ rfl (Yd.assign rfl) ?_
              refine WA.one (i := 9) kr_ ?_
              refine WO.s rfl Wt.none (Hd.storeAll (n := 6) kr_ rfl rfl (by rfl) (kc_one rfl rfl) fr_ (by rfl) ⟨rfl, ?_⟩)
              refine WA.y (i := 10) (NoPanic.then (NoPanic.body)) rfl kr_ kr_ kr_ rfl (Yd.assign rfl) ?_
              refine WA.done kr_ ?_
              exact DN.reachS (()) (trivial) (Sx.put rfl (sx_)) sp_
            · refine WO.c rfl Wt.none rfl (Ent.func Try.call23 rfl) (step_tells 2#32 1#32 0 true []) (Sp.p sp_) ?_
              rintro x6 H6 ⟨bd6, cd6, blk6, rfl, hbk6, rfl⟩
              refine WA.one (i := 0) kr_ ?_
              refine WO.h rfl Wt.none rfl (Hd.loadAll (n := 2) kr_ rfl mem_ (by rfl) ⟨_, rfl, ?_⟩)
              refine WA.one (i := 2) kr_ ?_
              refine WO.c rfl Wt.none rfl (Ent.func Try.call24 rfl) (ask_tells 2#32 (.slice wo2 1 wc2) [kx1] (blk6 :: D2) (hF2.kv.mono gr_) (by decide) (stepN 2#32 1#32 0 true []) (.slice none 0 0) _ (Bs_nil _) (hbk6.mono gr_)) (Sp.p sp_) ?_
              rintro xa6 Ha6 ⟨wa6, wr6, A6, B6, rfl, hA6, hB6, rfl⟩
              rw [kn6] at hA6 hB6 ⊢
              obtain ⟨oa6, ca6, rfl, _⟩ := hA6.form
              obtain ⟨or6, cr6, rfl, _⟩ := hB6.form
              refine WA.y (i := 3) (NoPanic.then (NoPanic.body)) rfl kr_ kr_ kr_ rfl (Yd.move rfl) ?_
              refine WA.y (i := 4) (NoPanic.then (NoPanic.body)) rfl kr_ kr_ kr_ rfl (Yd.extract rfl rfl) ?_
              refine WA.y (i := 5) (NoPanic.then (NoPanic.body)) rfl kr_ kr_ kr_ rfl (Yd.extract rfl rfl) ?_
              refine WA.y (i := 6) (NoPanic.then (NoPanic.body)) rfl kr_ kr_ kr_ rfl (Yd.extract rfl rfl) ?_
              refine WA.y (i := 8) (NoPanic.then (NoPanic.body)) rfl kr_ kr_ kr_ rfl (Yd.assign rfl) ?_
              refine WA.one (i := 9) kr_ ?_
              refine WO.s rfl Wt.none (Hd.storeAll (n := 6) kr_ rfl rfl (by rfl) (kc_one rfl rfl) fr_ (by rfl) ⟨rfl, ?_⟩)
              refine WA.y (i := 10) (NoPanic.then (NoPanic.body)) rfl kr_ kr_ kr_ rfl (Yd.assign rfl) ?_
              refine WA.done kr_ ?_
              exact DN.reachS (()) (trivial) (Sx.put rfl (sx_)) sp_
        · intro z hz
          refine WC.cutK (fun z : Unit => True) (fun z : Unit => [(18, .int .i64 4)]) (fun z : Unit => row b7 (kc kx1 (.slice ao7 1 ac7) (.slice ro7 1 rc7)) 43 :: (B7 ++ (row b4 [.int .u32 (2#32).toNat, (.slice wo2 1 wc2)] 25 :: D2))) ?_ ?_
          · refine WC.draw 11 kr_ rfl ?_
            refine WA.three (i := 0) (j := 1) (k := 7) kr_ ?_ ?_ ?_
            · refine WO.h rfl Wt.none rfl (Hd.loadAll (n := 2) kr_ rfl mem_ (by rfl) ⟨_, rfl, ?_⟩)
              refine WA.two (i := 1) (j := 7) kr_ ?_ ?_
              · refine WO.c rfl Wt.none rfl (Ent.func Try.call23 rfl) (step_tells 2#32 1#32 1 true []) (Sp.p sp_) ?_
                rintro x7 H7 ⟨bd7, cd7, blk7, rfl, hbk7, rfl⟩
                refine WA.two (i := 2) (j := 7) kr_ ?_ ?_
                · refine WO.c rfl Wt.none rfl (Ent.func Try.call24 rfl) (ask_tells 2#32 (.slice wo2 1 wc2) [kx1] (blk7 :: D2) (hF2.kv.mono gr_) (by decide) (stepN 2#32 1#32 1 true []) (.slice none 0 0) _ (Bs_nil _) (hbk7.mono gr_)) (Sp.p sp_) ?_
                  rintro xa7 Ha7 ⟨wa7, wr7, A7, B7, rfl, hA7, hB7, rfl⟩
                  rw [kn7] at hA7 hB7 ⊢
                  obtain ⟨oa7, ca7, rfl, _⟩ := hA7.form
                  obtain ⟨or7, cr7, rfl, _⟩ := hB7.form
                  refine WA.y (i := 3) (NoPanic.then (NoPanic.body)) rfl kr_ kr_ kr_ rfl (Yd.move rfl) ?_
                  refine WA.y (i := 4) (NoPanic.then (NoPanic.body)) rfl kr_ kr_ kr_ rfl (Yd.extract rfl rfl) ?_
                  refine WA.y (i := 5) (NoPanic.then (NoPanic.body)) rfl kr_ kr_ kr_ rfl (Yd.extract rfl rfl) ?_
                  refine WA.y (i := 6) (NoPanic.then (NoPanic.body)) rfl kr_ kr_ kr_ rfl (Yd.extract rfl rfl) ?_
                  refine WA.one (i := 7) kr_ ?_
                  refine WO.h rfl Wt.none rfl (Hd.alloc (zs := [.int .u32 0, .int .i64 0, .bool false, .slice none 0 0, .int .i64 0, .slice none 0 0]) kr_ fun b19 => ⟨_, rfl, ?_⟩)
                  refine WA.y (i := 8) (NoPanic.then (NoPanic.body)) rfl kr_ kr_ kr_ rfl (Yd.assign rfl) ?_
                  refine WA.one (i := 9) kr_ ?_
                  refine WO.s rfl Wt.none (Hd.storeAll (n := 6) kr_ rfl rfl (by rfl) (kc_one rfl rfl) fr_ (by rfl) ⟨rfl, ?_⟩)
                  refine WA.y (i := 10) (NoPanic.then (NoPanic.body)) rfl kr_ kr_ kr_ rfl (Yd.assign rfl) ?_
                  refine WA.done kr_ ?_
                  exact DN.reachS (()) (trivial) (Sx.put rfl (sx_)) sp_
                · refine WO.h rfl Wt.none rfl (Hd.alloc (zs := [.int .u32 0, .int .i64 0, .bool false, .slice none 0 0, .int .i64 0, .slice none 0 0]) kr_ fun b19 => ⟨_, rfl, ?_⟩)
                  refine WA.one (i := 2) kr_ ?_
                  refine WO.c rfl Wt.none rfl (Ent.func Try.call24 rfl) (ask_tells 2#32 (.slice wo2 1 wc2) [kx1] (blk7 :: D2) (hF2.kv.mono gr_) (by decide) (stepN 2#32 1#32 1 true []) (.slice none 0 0) _ (Bs_nil _) (hbk7.mono gr_)) (Sp.p sp_) ?_
                  rintro xa7 Ha7 ⟨wa7, wr7, A7, B7, rfl, hA7, hB7, rfl⟩
                  rw [kn7] at hA7 hB7 ⊢
                  obtain ⟨oa7, ca7, rfl, _⟩ := hA7.form
                  obtain ⟨or7, cr7, rfl, _⟩ := hB7.form
                  refine WA.y (i := 3) (NoPanic.then (NoPanic.body)) rfl kr_ kr_ kr_ rfl (Yd.move rfl) ?_
                  refine WA.y (i := 4) (NoPanic.then (NoPanic.body)) rfl kr_ kr_ kr_ rfl (Yd.extract rfl rfl) ?_
                  refine WA.y (i := 5) (NoPanic.then (NoPanic.body)) rfl kr_ kr_ kr_ rfl (Yd.extract rfl rfl) ?_
                  refine WA.y (i := 6) (NoPanic.then (NoPanic.body)) rfl kr_ kr_ kr_ rfl (Yd.extract rfl rfl) ?_
                  refine WA.y (i := 8) (NoPanic.then (NoPanic.body)) rfl kr_ kr_ kr_ rfl (Yd.assign rfl) ?_
                  refine WA.one (i := 9) kr_ ?_
                  refine WO.s rfl Wt.none (Hd.storeAll (n := 6) kr_ rfl rfl (by rfl) (kc_one rfl rfl) fr_ (by rfl) ⟨rfl, ?_⟩)
                  refine WA.y (i := 10) (NoPanic.then (NoPanic.body)) rfl kr_ kr_ kr_ rfl (Yd.assign rfl) ?_
                  refine WA.done kr_ ?_
                  exact DN.reachS (()) (trivial) (Sx.put rfl (sx_)) sp_
              · refine WO.h rfl Wt.none rfl (Hd.alloc (zs := [.int .u32 0, .int .i64 0, .bool false, .slice none 0 0, .int .i64 0, .slice none 0 0]) kr_ fun b19 => ⟨_, rfl, ?_⟩)
                refine WA.one (i := 1) kr_ ?_
                refine WO.c rfl Wt.none rfl (Ent.func Try.call23 rfl) (step_tells 2#32 1#32 1 true []) (Sp.p sp_) ?_
                rintro x7 H7 ⟨bd7, cd7, blk7, rfl, hbk7, rfl⟩
                refine WA.one (i := 2) kr_ ?_
                refine WO.c rfl Wt.none rfl (Ent.func Try.call24 rfl) (ask_tells 2#32 (.slice wo2 1 wc2) [kx1] (blk7 :: D2) (hF2.kv.mono gr_) (by decide) (stepN 2#32 1#32 1 true []) (.slice none 0 0) _ (Bs_nil _) (hbk7.mono gr_)) (Sp.p sp_) ?_
                rintro xa7 Ha7 ⟨wa7, wr7, A7, B7, rfl, hA7, hB7, rfl⟩
                rw [kn7] at hA7 hB7 ⊢
                obtain ⟨oa7, ca7, rfl, _⟩ := hA7.form
                obtain ⟨or7, cr7, rfl, _⟩ := hB7.form
                refine WA.y (i := 3) (NoPanic.then (NoPanic.body)) rfl kr_ kr_ kr_ rfl (Yd.move rfl) ?_
                refine WA.y (i := 4) (NoPanic.then (NoPanic.body)) rfl kr_ kr_ kr_ rfl (Yd.extract rfl rfl) ?_
                refine WA.y (i := 5) (NoPanic.then (NoPanic.body)) rfl kr_ kr_ kr_ rfl (Yd.extract rfl rfl) ?_
                refine WA.y (i := 6) (NoPanic.then (NoPanic.body)) rfl kr_ kr_ kr_ rfl (Yd.extract rfl rfl) ?_
                refine WA.y (i := 8) (NoPanic.then (NoPanic.body)) rfl kr_ kr_ kr_ rfl (Yd.assign rfl) ?_
                refine WA.one (i := 9) kr_ ?_
                refine WO.s rfl Wt.none (Hd.storeAll (n := 6) kr_ rfl rfl (by rfl) (kc_one rfl rfl) fr_ (by rfl) ⟨rfl, ?_⟩)
                refine WA.y (i := 10) (NoPanic.then (NoPanic.body)) rfl kr_ kr_ kr_ rfl (Yd.assign rfl) ?_
                refine WA.done kr_ ?_
                exact DN.reachS (()) (trivial) (Sx.put rfl (sx_)) sp_
            · refine WO.c rfl Wt.none rfl (Ent.func Try.call23 rfl) (step_tells 2#32 1#32 1 true []) (Sp.p sp_) ?_
              rintro x7 H7 ⟨bd7, cd7, blk7, rfl, hbk7, rfl⟩
              refine WA.two (i := 0) (j := 7) kr_ ?_ ?_
              · refine WO.h rfl Wt.none rfl (Hd.loadAll (n := 2) kr_ rfl mem_ (by rfl) ⟨_, rfl, ?_⟩)
                refine WA.two (i := 2) (j := 7) kr_ ?_ ?_
                · refine WO.c rfl Wt.none rfl (Ent.func Try.call24 rfl) (ask_tells 2#32 (.slice wo2 1 wc2) [kx1] (blk7 :: D2) (hF2.kv.mono gr_) (by decide) (stepN 2#32 1#32 1 true []) (.slice none 0 0) _ (Bs_nil _) (hbk7.mono gr_)) (Sp.p sp_) ?_
                  rintro xa7 Ha7 ⟨wa7, wr7, A7, B7, rfl, hA7, hB7, rfl⟩
                  rw [kn7] at hA7 hB7 ⊢
                  obtain ⟨oa7, ca7, rfl, _⟩ := hA7.form
                  obtain ⟨or7, cr7, rfl, _⟩ := hB7.form
                  refine WA.y (i := 3) (NoPanic.then (NoPanic.body)) rfl kr_ kr_ kr_ rfl (Yd.move rfl) ?_
                  refine WA.y (i := 4) (NoPanic.then (NoPanic.body)) rfl kr_ kr_ kr_ rfl (Yd.extract rfl rfl) ?_
                  refine WA.y (i := 5) (NoPanic.then (NoPanic.body)) rfl kr_ kr_ kr_ rfl (Yd.extract rfl rfl) ?_
                  refine WA.y (i := 6) (NoPanic.then (NoPanic.body)) rfl kr_ kr_ kr_ rfl (Yd.extract rfl rfl) ?_
                  refine WA.one (i := 7) kr_ ?_
                  refine WO.h rfl Wt.none rfl (Hd.alloc (zs := [.int .u32 0, .int .i64 0, .bool false, .slice none 0 0, .int .i64 0, .slice none 0 0]) kr_ fun b19 => ⟨_, rfl, ?_⟩)
                  refine WA.y (i := 8) (NoPanic.then (NoPanic.body)) rfl kr_ kr_ kr_ rfl (Yd.assign rfl) ?_
                  refine WA.one (i := 9) kr_ ?_
                  refine WO.s rfl Wt.none (Hd.storeAll (n := 6) kr_ rfl rfl (by rfl) (kc_one rfl rfl) fr_ (by rfl) ⟨rfl, ?_⟩)
                  refine WA.y (i := 10) (NoPanic.then (NoPanic.body)) rfl kr_ kr_ kr_ rfl (Yd.assign rfl) ?_
                  refine WA.done kr_ ?_
                  exact DN.reachS (()) (trivial) (Sx.put rfl (sx_)) sp_
                · refine WO.h rfl Wt.none rfl (Hd.alloc (zs := [.int .u32 0, .int .i64 0, .bool false, .slice none 0 0, .int .i64 0, .slice none 0 0]) kr_ fun b19 => ⟨_, rfl, ?_⟩)
                  refine WA.one (i := 2) kr_ ?_
                  refine WO.c rfl Wt.none rfl (Ent.func Try.call24 rfl) (ask_tells 2#32 (.slice wo2 1 wc2) [kx1] (blk7 :: D2) (hF2.kv.mono gr_) (by decide) (stepN 2#32 1#32 1 true []) (.slice none 0 0) _ (Bs_nil _) (hbk7.mono gr_)) (Sp.p sp_) ?_
                  rintro xa7 Ha7 ⟨wa7, wr7, A7, B7, rfl, hA7, hB7, rfl⟩
                  rw [kn7] at hA7 hB7 ⊢
                  obtain ⟨oa7, ca7, rfl, _⟩ := hA7.form
                  obtain ⟨or7, cr7, rfl, _⟩ := hB7.form
                  refine WA.y (i := 3) (NoPanic.then (NoPanic.body)) rfl kr_ kr_ kr_ rfl (Yd.move rfl) ?_
                  refine WA.y (i := 4) (NoPanic.then (NoPanic.body)) rfl kr_ kr_ kr_ rfl (Yd.extract rfl rfl) ?_
                  refine WA.y (i := 5) (NoPanic.then (NoPanic.body)) rfl kr_ kr_ kr_ rfl (Yd.extract rfl rfl) ?_
                  refine WA.y (i := 6) (NoPanic.then (NoPanic.body)) rfl kr_ kr_ kr_ rfl (Yd.extract rfl rfl) ?_
                  refine WA.y (i := 8) (NoPanic.then (NoPanic.body)) rfl kr_ kr_ kr_ rfl (Yd.assign rfl) ?_
                  refine WA.one (i := 9) kr_ ?_
                  refine WO.s rfl Wt.none (Hd.storeAll (n := 6) kr_ rfl rfl (by rfl) (kc_one rfl rfl) fr_ (by rfl) ⟨rfl, ?_⟩)
                  refine WA.y (i := 10) (NoPanic.then (NoPanic.body)) rfl kr_ kr_ kr_ rfl (Yd.assign rfl) ?_
                  refine WA.done kr_ ?_
                  exact DN.reachS (()) (trivial) (Sx.put rfl (sx_)) sp_
              · refine WO.h rfl Wt.none rfl (Hd.alloc (zs := [.int .u32 0, .int .i64 0, .bool false, .slice none 0 0, .int .i64 0, .slice none 0 0]) kr_ fun b19 => ⟨_, rfl, ?_⟩)
                refine WA.one (i := 0) kr_ ?_
                refine WO.h rfl Wt.none rfl (Hd.loadAll (n := 2) kr_ rfl mem_ (by rfl) ⟨_, rfl, ?_⟩)
                refine WA.one (i := 2) kr_ ?_
                refine WO.c rfl Wt.none rfl (Ent.func Try.call24 rfl) (ask_tells 2#32 (.slice wo2 1 wc2) [kx1] (blk7 :: D2) (hF2.kv.mono gr_) (by decide) (stepN 2#32 1#32 1 true []) (.slice none 0 0) _ (Bs_nil _) (hbk7.mono gr_)) (Sp.p sp_) ?_
                rintro xa7 Ha7 ⟨wa7, wr7, A7, B7, rfl, hA7, hB7, rfl⟩
                rw [kn7] at hA7 hB7 ⊢
                obtain ⟨oa7, ca7, rfl, _⟩ := hA7.form
                obtain ⟨or7, cr7, rfl, _⟩ := hB7.form
                refine WA.y (i := 3) (NoPanic.then (NoPanic.body)) rfl kr_ kr_ kr_ rfl (Yd.move rfl) ?_
                refine WA.y (i := 4) (NoPanic.then (NoPanic.body)) rfl kr_ kr_ kr_ rfl (Yd.extract rfl rfl) ?_
                refine WA.y (i := 5) (NoPanic.then (NoPanic.body)) rfl kr_ kr_ kr_ rfl (Yd.extract rfl rfl) ?_
                refine WA.y (i := 6) (NoPanic.then (NoPanic.body)) rfl kr_ kr_ kr_ rfl (Yd.extract rfl rfl) ?_
                refine WA.y (i := 8) (NoPanic.then (NoPanic.body)) rfl kr_ kr_ kr_ rfl (Yd.assign rfl) ?_
                refine WA.one (i := 9) kr_ ?_
                refine WO.s rfl Wt.none (Hd.storeAll (n := 6) kr_ rfl rfl (by rfl) (kc_one rfl rfl) fr_ (by rfl) ⟨rfl, ?_⟩)
                refine WA.y (i := 10) (NoPanic.then (NoPanic.body)) rfl kr_ kr_ kr_ rfl (Yd.assign rfl) ?_
                refine WA.done kr_ ?_
                exact DN.reachS (()) (trivial) (Sx.put rfl (sx_)) sp_
            · refine WO.h rfl Wt.none rfl (Hd.alloc (zs := [.int .u32 0, .int .i64 0, .bool false, .slice none 0 0, .int .i64 0, .slice none 0 0]) kr_ fun b19 => ⟨_, rfl, ?_⟩)
              refine WA.two (i := 0) (j := 1) kr_ ?_ ?_
              · refine WO.h rfl Wt.none rfl (Hd.loadAll (n := 2) kr_ rfl mem_ (by rfl) ⟨_, rfl, ?_⟩)
                refine WA.one (i := 1) kr_ ?_
                refine WO.c rfl Wt.none rfl (Ent.func Try.call23 rfl) (step_tells 2#32 1#32 1 true []) (Sp.p sp_) ?_
                rintro x7 H7 ⟨bd7, cd7, blk7, rfl, hbk7, rfl⟩
                refine WA.one (i := 2) kr_ ?_
                refine WO.c rfl Wt.none rfl (Ent.func Try.call24 rfl) (ask_tells 2#32 (.slice wo2 1 wc2) [kx1] (blk7 :: D2) (hF2.kv.mono gr_) (by decide) (stepN 2#32 1#32 1 true []) (.slice none 0 0) _ (Bs_nil _) (hbk7.mono gr_)) (Sp.p sp_) ?_
                rintro xa7 Ha7 ⟨wa7, wr7, A7, B7, rfl, hA7, hB7, rfl⟩
                rw [kn7] at hA7 hB7 ⊢
                obtain ⟨oa7, ca7, rfl, _⟩ := hA7.form
                obtain ⟨or7, cr7, rfl, _⟩ := hB7.form
                refine WA.y (i := 3) (NoPanic.then (NoPanic.body)) rfl kr_ kr_ kr_ rfl (Yd.move rfl) ?_
                refine WA.y (i := 4) (NoPanic.then (NoPanic.body)) rfl kr_ kr_ kr_ rfl (Yd.extract rfl rfl) ?_
                refine WA.y (i := 5) (NoPanic.then (NoPanic.body)) rfl kr_ kr_ kr_ rfl (Yd.extract rfl rfl) ?_
                refine WA.y (i := 6) (NoPanic.then (NoPanic.body)) rfl kr_ kr_ kr_ rfl (Yd.extract rfl rfl) ?_
                refine WA.y (i := 8) (NoPanic.then (NoPanic.body)) rfl kr_ kr_ kr_ rfl (Yd.assign rfl) ?_
                refine WA.one (i := 9) kr_ ?_
                refine WO.s rfl Wt.none (Hd.storeAll (n := 6) kr_ rfl rfl (by rfl) (kc_one rfl rfl) fr_ (by rfl) ⟨rfl, ?_⟩)
                refine WA.y (i := 10) (NoPanic.then (NoPanic.body)) rfl kr_ kr_ kr_ rfl (Yd.assign rfl) ?_
                refine WA.done kr_ ?_
                exact DN.reachS (()) (trivial) (Sx.put rfl (sx_)) sp_
              · refine WO.c rfl Wt.none rfl (Ent.func Try.call23 rfl) (step_tells 2#32 1#32 1 true []) (Sp.p sp_) ?_
                rintro x7 H7 ⟨bd7, cd7, blk7, rfl, hbk7, rfl⟩
                refine WA.one (i := 0) kr_ ?_
                refine WO.h rfl Wt.none rfl (Hd.loadAll (n := 2) kr_ rfl mem_ (by rfl) ⟨_, rfl, ?_⟩)
                refine WA.one (i := 2) kr_ ?_
                refine WO.c rfl Wt.none rfl (Ent.func Try.call24 rfl) (ask_tells 2#32 (.slice wo2 1 wc2) [kx1] (blk7 :: D2) (hF2.kv.mono gr_) (by decide) (stepN 2#32 1#32 1 true []) (.slice none 0 0) _ (Bs_nil _) (hbk7.mono gr_)) (Sp.p sp_) ?_
                rintro xa7 Ha7 ⟨wa7, wr7, A7, B7, rfl, hA7, hB7, rfl⟩
                rw [kn7] at hA7 hB7 ⊢
                obtain ⟨oa7, ca7, rfl, _⟩ := hA7.form
                obtain ⟨or7, cr7, rfl, _⟩ := hB7.form
                refine WA.y (i := 3) (NoPanic.then (NoPanic.body)) rfl kr_ kr_ kr_ rfl (Yd.move rfl) ?_
                refine WA.y (i := 4) (NoPanic.then (NoPanic.body)) rfl kr_ kr_ kr_ rfl (Yd.extract rfl rfl) ?_
                refine WA.y (i := 5) (NoPanic.then (NoPanic.body)) rfl kr_ kr_ kr_ rfl (Yd.extract rfl rfl) ?_
                refine WA.y (i := 6) (NoPanic.then (NoPanic.body)) rfl kr_ kr_ kr_ rfl (Yd.extract rfl rfl) ?_
                refine WA.y (i := 8) (NoPanic.then (NoPanic.body)) rfl kr_ kr_ kr_ rfl (Yd.assign rfl) ?_
                refine WA.one (i := 9) kr_ ?_
                refine WO.s rfl Wt.none (Hd.storeAll (n := 6) kr_ rfl rfl (by rfl) (kc_one rfl rfl) fr_ (by rfl) ⟨rfl, ?_⟩)
                refine WA.y (i := 10) (NoPanic.then (NoPanic.body)) rfl kr_ kr_ kr_ rfl (Yd.assign rfl) ?_
                refine WA.done kr_ ?_
                exact DN.reachS (()) (trivial) (Sx.put rfl (sx_)) sp_
          · intro z hz
            refine WC.cutK (fun z : Nat × (Option Addr × Nat) × List Ck => FAt 5 43 (.slice z.2.1.1 2 z.2.1.2) [kx1, kx2] z.2.2) (fun z : Nat × (Option Addr × Nat) × List Ck => [(21, .pointer (some ⟨z.1, 0, none⟩)), (22, .int .i64 0)]) (fun z : Nat × (Option Addr × Nat) × List Ck => row z.1 [.int .u32 (3#32).toNat, .slice z.2.1.1 2 z.2.1.2] 25 :: (z.2.2 ++ (row b7 (kc kx1 (.slice ao7 1 ac7) (.slice ro7 1 rc7)) 43 :: (B7 ++ (row b4 [.int .u32 (2#32).toNat, (.slice wo2 1 wc2)] 25 :: D2))))) ?_ ?_
            · refine WC.draw 9 kr_ rfl ?_
              refine WA.three (i := 0) (j := 1) (k := 6) kr_ ?_ ?_ ?_
              · refine WO.h rfl Wt.none rfl (Hd.loadAll (n := 2) kr_ rfl mem_ (by rfl) ⟨_, rfl, ?_⟩)
                refine WA.two (i := 1) (j := 6) kr_ ?_ ?_
                · refine WO.c rfl Wt.none rfl (Ent.func Try.call23 rfl) (step_tells 3#32 1#32 1 true []) (Sp.p sp_) ?_
                  rintro x8 H8 ⟨bd8, cd8, blk8, rfl, hbk8, rfl⟩
                  refine WA.two (i := 2) (j := 6) kr_ ?_ ?_
                  · refine WO.c rfl Wt.none rfl (Ent.func Try.call15 rfl) (keep_tells 2#32 (.slice wo2 1 wc2) [kx1] (blk8 :: (D2)) (hF2.kv.mono gr_) (by decide) (stepN 3#32 1#32 1 true []) (.slice none 0 0) _ (Bs_nil _) (hbk8.mono gr_) 1 (.slice none 0 0) [] (Bs_nil _)) (Sp.p sp_) ?_
                    rintro xa8 Ha8 ⟨w8, D8, rfl, hF8, rfl⟩
                    rw [kn8] at hF8 ⊢
                    obtain ⟨wo8, wc8, rfl⟩ := hF8.form
                    refine WA.y (i := 3) (NoPanic.then (NoPanic.body)) rfl kr_ kr_ kr_ rfl (Yd.move rfl) ?_
                    refine WA.y (i := 4) (NoPanic.then (NoPanic.body)) rfl kr_ kr_ kr_ rfl (Yd.extract rfl rfl) ?_
                    refine WA.y (i := 5) (NoPanic.then (NoPanic.body)) rfl kr_ kr_ kr_ rfl (Yd.extract rfl rfl) ?_
                    refine WA.one (i := 6) kr_ ?_
                    refine WO.h rfl Wt.none rfl (Hd.alloc (zs := [.int .u32 0, .slice none 0 0]) kr_ fun b21 => ⟨_, rfl, ?_⟩)
                    refine WA.one (i := 7) kr_ ?_
                    refine WO.s rfl Wt.none (Hd.storeAll (n := 2) kr_ rfl rfl (by rfl) one_ fr_ (by rfl) ⟨rfl, ?_⟩)
                    refine WA.y (i := 8) (NoPanic.then (NoPanic.body)) rfl kr_ kr_ kr_ rfl (Yd.assign rfl) ?_
                    refine WA.done kr_ ?_
                    exact DN.reachS ((b21, (wo8, wc8), D8)) (hF8) (Sx.put rfl (Sx.put rfl (sx_))) sp_
                  · refine WO.h rfl Wt.none rfl (Hd.alloc (zs := [.int .u32 0, .slice none 0 0]) kr_ fun b21 => ⟨_, rfl, ?_⟩)
                    refine WA.one (i := 2) kr_ ?_
                    refine WO.c rfl Wt.none rfl (Ent.func Try.call15 rfl) (keep_tells 2#32 (.slice wo2 1 wc2) [kx1] (blk8 :: (D2)) (hF2.kv.mono gr_) (by decide) (stepN 3#32 1#32 1 true []) (.slice none 0 0) _ (Bs_nil _) (hbk8.mono gr_) 1 (.slice none 0 0) [] (Bs_nil _)) (Sp.p sp_) ?_
                    rintro xa8 Ha8 ⟨w8, D8, rfl, hF8, rfl⟩
                    rw [kn8] at hF8 ⊢
                    obtain ⟨wo8, wc8, rfl⟩ := hF8.form
                    refine WA.y (i := 3) (NoPanic.then (NoPanic.body)) rfl kr_ kr_ kr_ rfl (Yd.move rfl) ?_
                    refine WA.y (i := 4) (NoPanic.then (NoPanic.body)) rfl kr_ kr_ kr_ rfl (Yd.extract rfl rfl) ?_
                    refine WA.y (i := 5) (NoPanic.then (NoPanic.body)) rfl kr_ kr_ kr_ rfl (Yd.extract rfl rfl) ?_
                    refine WA.one (i := 7) kr_ ?_
                    refine WO.s rfl Wt.none (Hd.storeAll (n := 2) kr_ rfl rfl (by rfl) one_ fr_ (by rfl) ⟨rfl, ?_⟩)
                    refine WA.y (i := 8) (NoPanic.then (NoPanic.body)) rfl kr_ kr_ kr_ rfl (Yd.assign rfl) ?_
                    refine WA.done kr_ ?_
                    exact DN.reachS ((b21, (wo8, wc8), D8)) (hF8) (Sx.put rfl (Sx.put rfl (sx_))) sp_
                · refine WO.h rfl Wt.none rfl (Hd.alloc (zs := [.int .u32 0, .slice none 0 0]) kr_ fun b21 => ⟨_, rfl, ?_⟩)
                  refine WA.one (i := 1) kr_ ?_
                  refine WO.c rfl Wt.none rfl (Ent.func Try.call23 rfl) (step_tells 3#32 1#32 1 true []) (Sp.p sp_) ?_
                  rintro x8 H8 ⟨bd8, cd8, blk8, rfl, hbk8, rfl⟩
                  refine WA.one (i := 2) kr_ ?_
                  refine WO.c rfl Wt.none rfl (Ent.func Try.call15 rfl) (keep_tells 2#32 (.slice wo2 1 wc2) [kx1] (blk8 :: (D2)) (hF2.kv.mono gr_) (by decide) (stepN 3#32 1#32 1 true []) (.slice none 0 0) _ (Bs_nil _) (hbk8.mono gr_) 1 (.slice none 0 0) [] (Bs_nil _)) (Sp.p sp_) ?_
                  rintro xa8 Ha8 ⟨w8, D8, rfl, hF8, rfl⟩
                  rw [kn8] at hF8 ⊢
                  obtain ⟨wo8, wc8, rfl⟩ := hF8.form
                  refine WA.y (i := 3) (NoPanic.then (NoPanic.body)) rfl kr_ kr_ kr_ rfl (Yd.move rfl) ?_
                  refine WA.y (i := 4) (NoPanic.then (NoPanic.body)) rfl kr_ kr_ kr_ rfl (Yd.extract rfl rfl) ?_
                  refine WA.y (i := 5) (NoPanic.then (NoPanic.body)) rfl kr_ kr_ kr_ rfl (Yd.extract rfl rfl) ?_
                  refine WA.one (i := 7) kr_ ?_
                  refine WO.s rfl Wt.none (Hd.storeAll (n := 2) kr_ rfl rfl (by rfl) one_ fr_ (by rfl) ⟨rfl, ?_⟩)
                  refine WA.y (i := 8) (NoPanic.then (NoPanic.body)) rfl kr_ kr_ kr_ rfl (Yd.assign rfl) ?_
                  refine WA.done kr_ ?_
                  exact DN.reachS ((b21, (wo8, wc8), D8)) (hF8) (Sx.put rfl (Sx.put rfl (sx_))) sp_
              · refine WO.c rfl Wt.none rfl (Ent.func Try.call23 rfl) (step_tells 3#32 1#32 1 true []) (Sp.p sp_) ?_
                rintro x8 H8 ⟨bd8, cd8, blk8, rfl, hbk8, rfl⟩
                refine WA.two (i := 0) (j := 6) kr_ ?_ ?_
                · refine WO.h rfl Wt.none rfl (Hd.loadAll (n := 2) kr_ rfl mem_ (by rfl) ⟨_, rfl, ?_⟩)
                  refine WA.two (i := 2) (j := 6) kr_ ?_ ?_
                  · refine WO.c rfl Wt.none rfl (Ent.func Try.call15 rfl) (keep_tells 2#32 (.slice wo2 1 wc2) [kx1] (blk8 :: (D2)) (hF2.kv.mono gr_) (by decide) (stepN 3#32 1#32 1 true []) (.slice none 0 0) _ (Bs_nil _) (hbk8.mono gr_) 1 (.slice none 0 0) [] (Bs_nil _)) (Sp.p sp_) ?_
                    rintro xa8 Ha8 ⟨w8, D8, rfl, hF8, rfl⟩
                    rw [kn8] at hF8 ⊢
                    obtain ⟨wo8, wc8, rfl⟩ := hF8.form
                    refine WA.y (i := 3) (NoPanic.then (NoPanic.body)) rfl kr_ kr_ kr_ rfl (Yd.move rfl) ?_
                    refine WA.y (i := 4) (NoPanic.then (NoPanic.body)) rfl kr_ kr_ kr_ rfl (Yd.extract rfl rfl) ?_
                    refine WA.y (i := 5) (NoPanic.then (NoPanic.body)) rfl kr_ kr_ kr_ rfl (Yd.extract rfl rfl) ?_
                    refine WA.one (i := 6) kr_ ?_
                    refine WO.h rfl Wt.none rfl (Hd.alloc (zs := [.int .u32 0, .slice none 0 0]) kr_ fun b21 => ⟨_, rfl, ?_⟩)
                    refine WA.one (i := 7) kr_ ?_
                    refine WO.s rfl Wt.none (Hd.storeAll (n := 2) kr_ rfl rfl (by rfl) one_ fr_ (by rfl) ⟨rfl, ?_⟩)
                    refine WA.y (i := 8) (NoPanic.then (NoPanic.body)) rfl kr_ kr_ kr_ rfl (Yd.assign rfl) ?_
                    refine WA.done kr_ ?_
                    exact DN.reachS ((b21, (wo8, wc8), D8)) (hF8) (Sx.put rfl (Sx.put rfl (sx_))) sp_
                  · refine WO.h rfl Wt.none rfl (Hd.alloc (zs := [.int .u32 0, .slice none 0 0]) kr_ fun b21 => ⟨_, rfl, ?_⟩)
                    refine WA.one (i := 2) kr_ ?_
                    refine WO.c rfl Wt.none rfl (Ent.func Try.call15 rfl) (keep_tells 2#32 (.slice wo2 1 wc2) [kx1] (blk8 :: (D2)) (hF2.kv.mono gr_) (by decide) (stepN 3#32 1#32 1 true []) (.slice none 0 0) _ (Bs_nil _) (hbk8.mono gr_) 1 (.slice none 0 0) [] (Bs_nil _)) (Sp.p sp_) ?_
                    rintro xa8 Ha8 ⟨w8, D8, rfl, hF8, rfl⟩
                    rw [kn8] at hF8 ⊢
                    obtain ⟨wo8, wc8, rfl⟩ := hF8.form
                    refine WA.y (i := 3) (NoPanic.then (NoPanic.body)) rfl kr_ kr_ kr_ rfl (Yd.move rfl) ?_
                    refine WA.y (i := 4) (NoPanic.then (NoPanic.body)) rfl kr_ kr_ kr_ rfl (Yd.extract rfl rfl) ?_
                    refine WA.y (i := 5) (NoPanic.then (NoPanic.body)) rfl kr_ kr_ kr_ rfl (Yd.extract rfl rfl) ?_
                    refine WA.one (i := 7) kr_ ?_
                    refine WO.s rfl Wt.none (Hd.storeAll (n := 2) kr_ rfl rfl (by rfl) one_ fr_ (by rfl) ⟨rfl, ?_⟩)
                    refine WA.y (i := 8) (NoPanic.then (NoPanic.body)) rfl kr_ kr_ kr_ rfl (Yd.assign rfl) ?_
                    refine WA.done kr_ ?_
                    exact DN.reachS ((b21, (wo8, wc8), D8)) (hF8) (Sx.put rfl (Sx.put rfl (sx_))) sp_
                · refine WO.h rfl Wt.none rfl (Hd.alloc (zs := [.int .u32 0, .slice none 0 0]) kr_ fun b21 => ⟨_, rfl, ?_⟩)
                  refine WA.one (i := 0) kr_ ?_
                  refine WO.h rfl Wt.none rfl (Hd.loadAll (n := 2) kr_ rfl mem_ (by rfl) ⟨_, rfl, ?_⟩)
                  refine WA.one (i := 2) kr_ ?_
                  refine WO.c rfl Wt.none rfl (Ent.func Try.call15 rfl) (keep_tells 2#32 (.slice wo2 1 wc2) [kx1] (blk8 :: (D2)) (hF2.kv.mono gr_) (by decide) (stepN 3#32 1#32 1 true []) (.slice none 0 0) _ (Bs_nil _) (hbk8.mono gr_) 1 (.slice none 0 0) [] (Bs_nil _)) (Sp.p sp_) ?_
                  rintro xa8 Ha8 ⟨w8, D8, rfl, hF8, rfl⟩
                  rw [kn8] at hF8 ⊢
                  obtain ⟨wo8, wc8, rfl⟩ := hF8.form
                  refine WA.y (i := 3) (NoPanic.then (NoPanic.body)) rfl kr_ kr_ kr_ rfl (Yd.move rfl) ?_
                  refine WA.y (i := 4) (NoPanic.then (NoPanic.body)) rfl kr_ kr_ kr_ rfl (Yd.extract rfl rfl) ?_
                  refine WA.y (i := 5) (NoPanic.then (NoPanic.body)) rfl kr_ kr_ kr_ rfl (Yd.extract rfl rfl) ?_
                  refine WA.one (i := 7) kr_ ?_
                  refine WO.s rfl Wt.none (Hd.storeAll (n := 2) kr_ rfl rfl (by rfl) one_ fr_ (by rfl) ⟨rfl, ?_⟩)
                  refine WA.y (i := 8) (NoPanic.then (NoPanic.body)) rfl kr_ kr_ kr_ rfl (Yd.assign rfl) ?_
                  refine WA.done kr_ ?_
                  exact DN.reachS ((b21, (wo8, wc8), D8)) (hF8) (Sx.put rfl (Sx.put rfl (sx_))) sp_
              · refine WO.h rfl Wt.none rfl (Hd.alloc (zs := [.int .u32 0, .slice none 0 0]) kr_ fun b21 => ⟨_, rfl, ?_⟩)
                refine WA.two (i := 0) (j := 1) kr_ ?_ ?_
                · refine WO.h rfl Wt.none rfl (Hd.loadAll (n := 2) kr_ rfl mem_ (by rfl) ⟨_, rfl, ?_⟩)
                  refine WA.one (i := 1) kr_ ?_
                  refine WO.c rfl Wt.none rfl (Ent.func Try.call23 rfl) (step_tells 3#32 1#32 1 true []) (Sp.p sp_) ?_
                  rintro x8 H8 ⟨bd8, cd8, blk8, rfl, hbk8, rfl⟩
                  refine WA.one (i := 2) kr_ ?_
                  refine WO.c rfl Wt.none rfl (Ent.func Try.call15 rfl) (keep_tells 2#32 (.slice wo2 1 wc2) [kx1] (blk8 :: (D2)) (hF2.kv.mono gr_) (by decide) (stepN 3#32 1#32 1 true []) (.slice none 0 0) _ (Bs_nil _) (hbk8.mono gr_) 1 (.slice none 0 0) [] (Bs_nil _)) (Sp.p sp_) ?_
                  rintro xa8 Ha8 ⟨w8, D8, rfl, hF8, rfl⟩
                  rw [kn8] at hF8 ⊢
                  obtain ⟨wo8, wc8, rfl⟩ := hF8.form
                  refine WA.y (i := 3) (NoPanic.then (NoPanic.body)) rfl kr_ kr_ kr_ rfl (Yd.move rfl) ?_
                  refine WA.y (i := 4) (NoPanic.then (NoPanic.body)) rfl kr_ kr_ kr_ rfl (Yd.extract rfl rfl) ?_
                  refine WA.y (i := 5) (NoPanic.then (NoPanic.body)) rfl kr_ kr_ kr_ rfl (Yd.extract rfl rfl) ?_
                  refine WA.one (i := 7) kr_ ?_
                  refine WO.s rfl Wt.none (Hd.storeAll (n := 2) kr_ rfl rfl (by rfl) one_ fr_ (by rfl) ⟨rfl, ?_⟩)
                  refine WA.y (i := 8) (NoPanic.then (NoPanic.body)) rfl kr_ kr_ kr_ rfl (Yd.assign rfl) ?_
                  refine WA.done kr_ ?_
                  exact DN.reachS ((b21, (wo8, wc8), D8)) (hF8) (Sx.put rfl (Sx.put rfl (sx_))) sp_
                · refine WO.c rfl Wt.none rfl (Ent.func Try.call23 rfl) (step_tells 3#32 1#32 1 true []) (Sp.p sp_) ?_
                  rintro x8 H8 ⟨bd8, cd8, blk8, rfl, hbk8, rfl⟩
                  refine WA.one (i := 0) kr_ ?_
                  refine WO.h rfl Wt.none rfl (Hd.loadAll (n := 2) kr_ rfl mem_ (by rfl) ⟨_, rfl, ?_⟩)
                  refine WA.one (i := 2) kr_ ?_
                  refine WO.c rfl Wt.none rfl (Ent.func Try.call15 rfl) (keep_tells 2#32 (.slice wo2 1 wc2) [kx1] (blk8 :: (D2)) (hF2.kv.mono gr_) (by decide) (stepN 3#32 1#32 1 true []) (.slice none 0 0) _ (Bs_nil _) (hbk8.mono gr_) 1 (.slice none 0 0) [] (Bs_nil _)) (Sp.p sp_) ?_
                  rintro xa8 Ha8 ⟨w8, D8, rfl, hF8, rfl⟩
                  rw [kn8] at hF8 ⊢
                  obtain ⟨wo8, wc8, rfl⟩ := hF8.form
                  refine WA.y (i := 3) (NoPanic.then (NoPanic.body)) rfl kr_ kr_ kr_ rfl (Yd.move rfl) ?_
                  refine WA.y (i := 4) (NoPanic.then (NoPanic.body)) rfl kr_ kr_ kr_ rfl (Yd.extract rfl rfl) ?_
                  refine WA.y (i := 5) (NoPanic.then (NoPanic.body)) rfl kr_ kr_ kr_ rfl (Yd.extract rfl rfl) ?_
                  refine WA.one (i := 7) kr_ ?_
                  refine WO.s rfl Wt.none (Hd.storeAll (n := 2) kr_ rfl rfl (by rfl) one_ fr_ (by rfl) ⟨rfl, ?_⟩)
                  refine WA.y (i := 8) (NoPanic.then (NoPanic.body)) rfl kr_ kr_ kr_ rfl (Yd.assign rfl) ?_
                  refine WA.done kr_ ?_
                  exact DN.reachS ((b21, (wo8, wc8), D8)) (hF8) (Sx.put rfl (Sx.put rfl (sx_))) sp_
            · rintro ⟨b21, ⟨wo8, wc8⟩, D8⟩ hF8
              dsimp only at hF8 ⊢
              refine WC.cutK (fun z : Unit => True) (fun z : Unit => [(23, .int .i64 3)]) (fun z : Unit => row b21 [.int .u32 (3#32).toNat, .slice wo8 2 wc8] 25 :: (D8 ++ (row b7 (kc kx1 (.slice ao7 1 ac7) (.slice ro7 1 rc7)) 43 :: (B7 ++ (row b4 [.int .u32 (2#32).toNat, (.slice wo2 1 wc2)] 25 :: D2))))) ?_ ?_
              · refine WC.draw 11 kr_ rfl ?_
                refine WA.three (i := 0) (j := 1) (k := 7) kr_ ?_ ?_ ?_
                · refine WO.h rfl Wt.none rfl (Hd.loadAll (n := 2) kr_ rfl mem_ (by rfl) ⟨_, rfl, ?_⟩)
                  refine WA.two (i := 1) (j := 7) kr_ ?_ ?_
                  · refine WO.c rfl Wt.none rfl (Ent.func Try.call23 rfl) (step_tells 3#32 1#32 1 false [120#8]) (Sp.p sp_) ?_
                    rintro x9 H9 ⟨bd9, cd9, blk9, rfl, hbk9, rfl⟩
                    refine WA.two (i := 2) (j := 7) kr_ ?_ ?_
                    · refine WO.c rfl Wt.none rfl (Ent.func Try.call24 rfl) (ask_tells 3#32 (.slice wo8 2 wc8) [kx1, kx2] (blk9 :: D8) (hF8.kv.mono gr_) (by decide) (stepN 3#32 1#32 1 false [120#8]) (.slice none 0 0) _ (Bs_nil _) (hbk9.mono gr_)) (Sp.p sp_) ?_
                      rintro xa9 Ha9 ⟨wa9, wr9, A9, B9, rfl, hA9, hB9, rfl⟩
                      rw [kn9] at hA9 hB9 ⊢
                      obtain ⟨oa9, ca9, rfl, _⟩ := hA9.form
                      obtain ⟨or9, cr9, rfl, _⟩ := hB9.form
                      refine WA.y (i := 3) (NoPanic.then (NoPanic.body)) rfl kr_ kr_ kr_ rfl (Yd.move rfl) ?_
                      refine WA.y (i := 4) (NoPanic.then (NoPanic.body)) rfl kr_ kr_ kr_ rfl (Yd.extract rfl rfl) ?_
                      refine WA.y (i := 5) (NoPanic.then (NoPanic.body)) rfl kr_ kr_ kr_ rfl (Yd.extract rfl rfl) ?_
                      refine WA.y (i := 6) (NoPanic.then (NoPanic.body)) rfl kr_ kr_ kr_ rfl (Yd.extract rfl rfl) ?_
                      refine WA.one (i := 7) kr_ ?_
                      refine WO.h rfl Wt.none rfl (Hd.alloc (zs := [.int .u32 0, .int .i64 0, .bool false, .slice none 0 0, .int .i64 0, .slice none 0 0]) kr_ fun b24 => ⟨_, rfl, ?_⟩)
                      refine WA.y (i := 8) (NoPanic.then (NoPanic.body)) rfl kr_ kr_ kr_ rfl (Yd.assign rfl) ?_
                      refine WA.one (i := 9) kr_ ?_
                      refine WO.s rfl Wt.none (Hd.storeAll (n := 6) kr_ rfl rfl (by rfl) (kc_one rfl rfl) fr_ (by rfl) ⟨rfl, ?_⟩)
                      refine WA.y (i := 10) (NoPanic.then (NoPanic.body)) rfl kr_ kr_ kr_ rfl (Yd.assign rfl) ?_
                      refine WA.done kr_ ?_
                      exact DN.reachS (()) (trivial) (Sx.put rfl (sx_)) sp_
                    · refine WO.h rfl Wt.none rfl (Hd.alloc (zs := [.int .u32 0, .int .i64 0, .bool false, .slice none 0 0, .int .i64 0, .slice none 0 0]) kr_ fun b24 => ⟨_, rfl, ?_⟩)
                      refine WA.one (i := 2) kr_ ?_
                      refine WO.c rfl Wt.none rfl (Ent.func Try.call24 rfl) (ask_tells 3#32 (.slice wo8 2 wc8) [kx1, kx2] (blk9 :: D8) (hF8.kv.mono gr_) (by decide) (stepN 3#32 1#32 1 false [120#8]) (.slice none 0 0) _ (Bs_nil _) (hbk9.mono gr_)) (Sp.p sp_) ?_
                      rintro xa9 Ha9 ⟨wa9, wr9, A9, B9, rfl, hA9, hB9, rfl⟩
                      rw [kn9] at hA9 hB9 ⊢
                      obtain ⟨oa9, ca9, rfl, _⟩ := hA9.form
                      obtain ⟨or9, cr9, rfl, _⟩ := hB9.form
                      refine WA.y (i := 3) (NoPanic.then (NoPanic.body)) rfl kr_ kr_ kr_ rfl (Yd.move rfl) ?_
                      refine WA.y (i := 4) (NoPanic.then (NoPanic.body)) rfl kr_ kr_ kr_ rfl (Yd.extract rfl rfl) ?_
                      refine WA.y (i := 5) (NoPanic.then (NoPanic.body)) rfl kr_ kr_ kr_ rfl (Yd.extract rfl rfl) ?_
                      refine WA.y (i := 6) (NoPanic.then (NoPanic.body)) rfl kr_ kr_ kr_ rfl (Yd.extract rfl rfl) ?_
                      refine WA.y (i := 8) (NoPanic.then (NoPanic.body)) rfl kr_ kr_ kr_ rfl (Yd.assign rfl) ?_
                      refine WA.one (i := 9) kr_ ?_
                      refine WO.s rfl Wt.none (Hd.storeAll (n := 6) kr_ rfl rfl (by rfl) (kc_one rfl rfl) fr_ (by rfl) ⟨rfl, ?_⟩)
                      refine WA.y (i := 10) (NoPanic.then (NoPanic.body)) rfl kr_ kr_ kr_ rfl (Yd.assign rfl) ?_
                      refine WA.done kr_ ?_
                      exact DN.reachS (()) (trivial) (Sx.put rfl (sx_)) sp_
                  · refine WO.h rfl Wt.none rfl (Hd.alloc (zs := [.int .u32 0, .int .i64 0, .bool false, .slice none 0 0, .int .i64 0, .slice none 0 0]) kr_ fun b24 => ⟨_, rfl, ?_⟩)
                    refine WA.one (i := 1) kr_ ?_
                    refine WO.c rfl Wt.none rfl (Ent.func Try.call23 rfl) (step_tells 3#32 1#32 1 false [120#8]) (Sp.p sp_) ?_
                    rintro x9 H9 ⟨bd9, cd9, blk9, rfl, hbk9, rfl⟩
                    refine WA.one (i := 2) kr_ ?_
                    refine WO.c rfl Wt.none rfl (Ent.func Try.call24 rfl) (ask_tells 3#32 (.slice wo8 2 wc8) [kx1, kx2] (blk9 :: D8) (hF8.kv.mono gr_) (by decide) (stepN 3#32 1#32 1 false [120#8]) (.slice none 0 0) _ (Bs_nil _) (hbk9.mono gr_)) (Sp.p sp_) ?_
                    rintro xa9 Ha9 ⟨wa9, wr9, A9, B9, rfl, hA9, hB9, rfl⟩
                    rw [kn9] at hA9 hB9 ⊢
                    obtain ⟨oa9, ca9, rfl, _⟩ := hA9.form
                    obtain ⟨or9, cr9, rfl, _⟩ := hB9.form
                    refine WA.y (i := 3) (NoPanic.then (NoPanic.body)) rfl kr_ kr_ kr_ rfl (Yd.move rfl) ?_
                    refine WA.y (i := 4) (NoPanic.then (NoPanic.body)) rfl kr_ kr_ kr_ rfl (Yd.extract rfl rfl) ?_
                    refine WA.y (i := 5) (NoPanic.then (NoPanic.body)) rfl kr_ kr_ kr_ rfl (Yd.extract rfl rfl) ?_
                    refine WA.y (i := 6) (NoPanic.then (NoPanic.body)) rfl kr_ kr_ kr_ rfl (Yd.extract rfl rfl) ?_
                    refine WA.y (i := 8) (NoPanic.then (NoPanic.body)) rfl kr_ kr_ kr_ rfl (Yd.assign rfl) ?_
                    refine WA.one (i := 9) kr_ ?_
                    refine WO.s rfl Wt.none (Hd.storeAll (n := 6) kr_ rfl rfl (by rfl) (kc_one rfl rfl) fr_ (by rfl) ⟨rfl, ?_⟩)
                    refine WA.y (i := 10) (NoPanic.then (NoPanic.body)) rfl kr_ kr_ kr_ rfl (Yd.assign rfl) ?_
                    refine WA.done kr_ ?_
                    exact DN.reachS (()) (trivial) (Sx.put rfl (sx_)) sp_
                · refine WO.c rfl Wt.none rfl (Ent.func Try.call23 rfl) (step_tells 3#32 1#32 1 false [120#8]) (Sp.p sp_) ?_
                  rintro x9 H9 ⟨bd9, cd9, blk9, rfl, hbk9, rfl⟩
                  refine WA.two (i := 0) (j := 7) kr_ ?_ ?_
                  · refine WO.h rfl Wt.none rfl (Hd.loadAll (n := 2) kr_ rfl mem_ (by rfl) ⟨_, rfl, ?_⟩)
                    refine WA.two (i := 2) (j := 7) kr_ ?_ ?_
                    · refine WO.c rfl Wt.none rfl (Ent.func Try.call24 rfl) (ask_tells 3#32 (.slice wo8 2 wc8) [kx1, kx2] (blk9 :: D8) (hF8.kv.mono gr_) (by decide) (stepN 3#32 1#32 1 false [120#8]) (.slice none 0 0) _ (Bs_nil _) (hbk9.mono gr_)) (Sp.p sp_) ?_
                      rintro xa9 Ha9 ⟨wa9, wr9, A9, B9, rfl, hA9, hB9, rfl⟩
                      rw [kn9] at hA9 hB9 ⊢
                      obtain ⟨oa9, ca9, rfl, _⟩ := hA9.form
                      obtain ⟨or9, cr9, rfl, _⟩ := hB9.form
                      refine WA.y (i := 3) (NoPanic.then (NoPanic.body)) rfl kr_ kr_ kr_ rfl (Yd.move rfl) ?_
                      refine WA.y (i := 4) (NoPanic.then (NoPanic.body)) rfl kr_ kr_ kr_ rfl (Yd.extract rfl rfl) ?_
                      refine WA.y (i := 5) (NoPanic.then (NoPanic.body)) rfl kr_ kr_ kr_ rfl (Yd.extract rfl rfl) ?_
                      refine WA.y (i := 6) (NoPanic.then (NoPanic.body)) rfl kr_ kr_ kr_ rfl (Yd.extract rfl rfl) ?_
                      refine WA.one (i := 7) kr_ ?_
                      refine WO.h rfl Wt.none rfl (Hd.alloc (zs := [.int .u32 0, .int .i64 0, .bool false, .slice none 0 0, .int .i64 0, .slice none 0 0]) kr_ fun b24 => ⟨_, rfl, ?_⟩)
                      refine WA.y (i := 8) (NoPanic.then (NoPanic.body)) rfl kr_ kr_ kr_ rfl (Yd.assign rfl) ?_
                      refine WA.one (i := 9) kr_ ?_
                      refine WO.s rfl Wt.none (Hd.storeAll (n := 6) kr_ rfl rfl (by rfl) (kc_one rfl rfl) fr_ (by rfl) ⟨rfl, ?_⟩)
                      refine WA.y (i := 10) (NoPanic.then (NoPanic.body)) rfl kr_ kr_ kr_ rfl (Yd.assign rfl) ?_
                      refine WA.done kr_ ?_
                      exact DN.reachS (()) (trivial) (Sx.put rfl (sx_)) sp_
                    · refine WO.h rfl Wt.none rfl (Hd.alloc (zs := [.int .u32 0, .int .i64 0, .bool false, .slice none 0 0, .int .i64 0, .slice none 0 0]) kr_ fun b24 => ⟨_, rfl, ?_⟩)
                      refine WA.one (i := 2) kr_ ?_
                      refine WO.c rfl Wt.none rfl (Ent.func Try.call24 rfl) (ask_tells 3#32 (.slice wo8 2 wc8) [kx1, kx2] (blk9 :: D8) (hF8.kv.mono gr_) (by decide) (stepN 3#32 1#32 1 false [120#8]) (.slice none 0 0) _ (Bs_nil _) (hbk9.mono gr_)) (Sp.p sp_) ?_
                      rintro xa9 Ha9 ⟨wa9, wr9, A9, B9, rfl, hA9, hB9, rfl⟩
                      rw [kn9] at hA9 hB9 ⊢
                      obtain ⟨oa9, ca9, rfl, _⟩ := hA9.form
                      obtain ⟨or9, cr9, rfl, _⟩ := hB9.form
                      refine WA.y (i := 3) (NoPanic.then (NoPanic.body)) rfl kr_ kr_ kr_ rfl (Yd.move rfl) ?_
                      refine WA.y (i := 4) (NoPanic.then (NoPanic.body)) rfl kr_ kr_ kr_ rfl (Yd.extract rfl rfl) ?_
                      refine WA.y (i := 5) (NoPanic.then (NoPanic.body)) rfl kr_ kr_ kr_ rfl (Yd.extract rfl rfl) ?_
                      refine WA.y (i := 6) (NoPanic.then (NoPanic.body)) rfl kr_ kr_ kr_ rfl (Yd.extract rfl rfl) ?_
                      refine WA.y (i := 8) (NoPanic.then (NoPanic.body)) rfl kr_ kr_ kr_ rfl (Yd.assign rfl) ?_
                      refine WA.one (i := 9) kr_ ?_
                      refine WO.s rfl Wt.none (Hd.storeAll (n := 6) kr_ rfl rfl (by rfl) (kc_one rfl rfl) fr_ (by rfl) ⟨rfl, ?_⟩)
                      refine WA.y (i := 10) (NoPanic.then (NoPanic.body)) rfl kr_ kr_ kr_ rfl (Yd.assign rfl) ?_
                      refine WA.done kr_ ?_
                      exact DN.reachS (()) (trivial) (Sx.put rfl (sx_)) sp_
                  · refine WO.h rfl Wt.none rfl (Hd.alloc (zs := [.int .u32 0, .int .i64 0, .bool false, .slice none 0 0, .int .i64 0, .slice none 0 0]) kr_ fun b24 => ⟨_, rfl, ?_⟩)
                    refine WA.one (i := 0) kr_ ?_
                    refine WO.h rfl Wt.none rfl (Hd.loadAll (n := 2) kr_ rfl mem_ (by rfl) ⟨_, rfl, ?_⟩)
                    refine WA.one (i := 2) kr_ ?_
                    refine WO.c rfl Wt.none rfl (Ent.func Try.call24 rfl) (ask_tells 3#32 (.slice wo8 2 wc8) [kx1, kx2] (blk9 :: D8) (hF8.kv.mono gr_) (by decide) (stepN 3#32 1#32 1 false [120#8]) (.slice none 0 0) _ (Bs_nil _) (hbk9.mono gr_)) (Sp.p sp_) ?_
                    rintro xa9 Ha9 ⟨wa9, wr9, A9, B9, rfl, hA9, hB9, rfl⟩
                    rw [kn9] at hA9 hB9 ⊢
                    obtain ⟨oa9, ca9, rfl, _⟩ := hA9.form
                    obtain ⟨or9, cr9, rfl, _⟩ := hB9.form
                    refine WA.y (i := 3) (NoPanic.then (NoPanic.body)) rfl kr_ kr_ kr_ rfl (Yd.move rfl) ?_
                    refine WA.y (i := 4) (NoPanic.then (NoPanic.body)) rfl kr_ kr_ kr_ rfl (Yd.extract rfl rfl) ?_
                    refine WA.y (i := 5) (NoPanic.then (NoPanic.body)) rfl kr_ kr_ kr_ rfl (Yd.extract rfl rfl) ?_
                    refine WA.y (i := 6) (NoPanic.then (NoPanic.body)) rfl kr_ kr_ kr_ rfl (Yd.extract rfl rfl) ?_
                    refine WA.y (i := 8) (NoPanic.then (NoPanic.body)) rfl kr_ kr_ kr_ rfl (Yd.assign rfl) ?_
                    refine WA.one (i := 9) kr_ ?_
                    refine WO.s rfl Wt.none (Hd.storeAll (n := 6) kr_ rfl rfl (by rfl) (kc_one rfl rfl) fr_ (by rfl) ⟨rfl, ?_⟩)
                    refine WA.y (i := 10) (NoPanic.then (NoPanic.body)) rfl kr_ kr_ kr_ rfl (Yd.assign rfl) ?_
                    refine WA.done kr_ ?_
                    exact DN.reachS (()) (trivial) (Sx.put rfl (sx_)) sp_
                · refine WO.h rfl Wt.none rfl (Hd.alloc (zs := [.int .u32 0, .int .i64 0, .bool false, .slice none 0 0, .int .i64 0, .slice none 0 0]) kr_ fun b24 => ⟨_, rfl, ?_⟩)
                  refine WA.two (i := 0) (j := 1) kr_ ?_ ?_
                  · refine WO.h rfl Wt.none rfl (Hd.loadAll (n := 2) kr_ rfl mem_ (by rfl) ⟨_, rfl, ?_⟩)
                    refine WA.one (i := 1) kr_ ?_
                    refine WO.c rfl Wt.none rfl (Ent.func Try.call23 rfl) (step_tells 3#32 1#32 1 false [120#8]) (Sp.p sp_) ?_
                    rintro x9 H9 ⟨bd9, cd9, blk9, rfl, hbk9, rfl⟩
                    refine WA.one (i := 2) kr_ ?_
                    refine WO.c rfl Wt.none rfl (Ent.func Try.call24 rfl) (ask_tells 3#32 (.slice wo8 2 wc8) [kx1, kx2] (blk9 :: D8) (hF8.kv.mono gr_) (by decide) (stepN 3#32 1#32 1 false [120#8]) (.slice none 0 0) _ (Bs_nil _) (hbk9.mono gr_)) (Sp.p sp_) ?_
                    rintro xa9 Ha9 ⟨wa9, wr9, A9, B9, rfl, hA9, hB9, rfl⟩
                    rw [kn9] at hA9 hB9 ⊢
                    obtain ⟨oa9, ca9, rfl, _⟩ := hA9.form
                    obtain ⟨or9, cr9, rfl, _⟩ := hB9.form
                    refine WA.y (i := 3) (NoPanic.then (NoPanic.body)) rfl kr_ kr_ kr_ rfl (Yd.move rfl) ?_
                    refine WA.y (i := 4) (NoPanic.then (NoPanic.body)) rfl kr_ kr_ kr_ rfl (Yd.extract rfl rfl) ?_
                    refine WA.y (i := 5) (NoPanic.then (NoPanic.body)) rfl kr_ kr_ kr_ rfl (Yd.extract rfl rfl) ?_
                    refine WA.y (i := 6) (NoPanic.then (NoPanic.body)) rfl kr_ kr_ kr_ rfl (Yd.extract rfl rfl) ?_
                    refine WA.y (i := 8) (NoPanic.then (NoPanic.body)) rfl kr_ kr_ kr_ rfl (Yd.assign rfl) ?_
                    refine WA.one (i := 9) kr_ ?_
                    refine WO.s rfl Wt.none (Hd.storeAll (n := 6) kr_ rfl rfl (by rfl) (kc_one rfl rfl) fr_ (by rfl) ⟨rfl, ?_⟩)
                    refine WA.y (i := 10) (NoPanic.then (NoPanic.body)) rfl kr_ kr_ kr_ rfl (Yd.assign rfl) ?_
                    refine WA.done kr_ ?_
                    exact DN.reachS (()) (trivial) (Sx.put rfl (sx_)) sp_
                  · refine WO.c rfl Wt.none rfl (Ent.func Try.call23 rfl) (step_tells 3#32 1#32 1 false [120#8]) (Sp.p sp_) ?_
                    rintro x9 H9 ⟨bd9, cd9, blk9, rfl, hbk9, rfl⟩
                    refine WA.one (i := 0) kr_ ?_
                    refine WO.h rfl Wt.none rfl (Hd.loadAll (n := 2) kr_ rfl mem_ (by rfl) ⟨_, rfl, ?_⟩)
                    refine WA.one (i := 2) kr_ ?_
                    refine WO.c rfl Wt.none rfl (Ent.func Try.call24 rfl) (ask_tells 3#32 (.slice wo8 2 wc8) [kx1, kx2] (blk9 :: D8) (hF8.kv.mono gr_) (by decide) (stepN 3#32 1#32 1 false [120#8]) (.slice none 0 0) _ (Bs_nil _) (hbk9.mono gr_)) (Sp.p sp_) ?_
                    rintro xa9 Ha9 ⟨wa9, wr9, A9, B9, rfl, hA9, hB9, rfl⟩
                    rw [kn9] at hA9 hB9 ⊢
                    obtain ⟨oa9, ca9, rfl, _⟩ := hA9.form
                    obtain ⟨or9, cr9, rfl, _⟩ := hB9.form
                    refine WA.y (i := 3) (NoPanic.then (NoPanic.body)) rfl kr_ kr_ kr_ rfl (Yd.move rfl) ?_
                    refine WA.y (i := 4) (NoPanic.then (NoPanic.body)) rfl kr_ kr_ kr_ rfl (Yd.extract rfl rfl) ?_
                    refine WA.y (i := 5) (NoPanic.then (NoPanic.body)) rfl kr_ kr_ kr_ rfl (Yd.extract rfl rfl) ?_
                    refine WA.y (i := 6) (NoPanic.then (NoPanic.body)) rfl kr_ kr_ kr_ rfl (Yd.extract rfl rfl) ?_
                    refine WA.y (i := 8) (NoPanic.then (NoPanic.body)) rfl kr_ kr_ kr_ rfl (Yd.assign rfl) ?_
                    refine WA.one (i := 9) kr_ ?_
                    refine WO.s rfl Wt.none (Hd.storeAll (n := 6) kr_ rfl rfl (by rfl) (kc_one rfl rfl) fr_ (by rfl) ⟨rfl, ?_⟩)
                    refine WA.y (i := 10) (NoPanic.then (NoPanic.body)) rfl kr_ kr_ kr_ rfl (Yd.assign rfl) ?_
                    refine WA.done kr_ ?_
                    exact DN.reachS (()) (trivial) (Sx.put rfl (sx_)) sp_
              · intro z hz
                refine WC.seq ?_
                refine WC.region ?_
                refine WL.y rfl (Yd.move rfl) ?_
                refine WL.y rfl (Yd.eql rfl rfl) ?_
                refine WL.y rfl (Yd.move rfl) ?_
                refine WL.renamed (t := 92) (v := .bool true) rfl (congrArg Value.bool (decide_eq_true rfl)) ?_
                refine WL.gy (dj := 92) rfl rfl rfl (Yd.move rfl) ?_
                refine WL.gy (dj := 92) rfl rfl rfl (Yd.eql rfl rfl) ?_
                refine WL.y rfl (Yd.pickT rfl rfl) ?_
                refine WL.y rfl (Yd.move rfl) ?_
                refine WL.renamed (t := 96) (v := .bool true) rfl (congrArg Value.bool (decide_eq_true rfl)) ?_
                refine WL.gy (dj := 96) rfl rfl rfl (Yd.move rfl) ?_
                refine WL.gy (dj := 96) rfl rfl rfl (Yd.eql rfl rfl) ?_
                refine WL.y rfl (Yd.pickT rfl rfl) ?_
                refine WL.y rfl (Yd.move rfl) ?_
                refine WL.renamed (t := 100) (v := .bool true) rfl (congrArg Value.bool (decide_eq_true rfl)) ?_
                refine WL.gy (dj := 100) rfl rfl rfl (Yd.move rfl) ?_
                refine WL.gy (dj := 100) rfl rfl rfl (Yd.eql rfl rfl) ?_
                refine WL.y rfl (Yd.pickT rfl rfl) ?_
                refine WL.y rfl (Yd.move rfl) ?_
                refine WL.renamed (t := 104) (v := .bool true) rfl (congrArg Value.bool (decide_eq_true rfl)) ?_
                refine WL.gy (dj := 104) rfl rfl rfl (Yd.fieldAddr (k := 5) kr_ rfl) ?_
                refine WL.gh (dj := 104) rfl rfl rfl (Hd.load1 kr_ rfl mem_ (by rfl) ⟨_, rfl, ?_⟩)
                refine WL.gh (dj := 104) rfl rfl rfl (Hd.toStr (e := 5) (bs := [114#8]) kr_ kr_ Try.underlying9 rfl (hB7.bs.mono gr_) ⟨_, rfl, ?_⟩)
                refine WL.gy (dj := 104) rfl rfl rfl (Yd.eqlS rfl rfl) ?_
                refine WL.y rfl (Yd.pickT rfl rfl) ?_
                refine WL.y rfl (Yd.move rfl) ?_
                refine WL.renamed (t := 110) (v := .bool true) rfl (congrArg Value.bool (decide_eq_true rfl)) ?_
                refine WL.gy (dj := 110) rfl rfl rfl (Yd.move rfl) ?_
                refine WL.gy (dj := 110) rfl rfl rfl (Yd.eql rfl rfl) ?_
                refine WL.y rfl (Yd.pickT rfl rfl) ?_
                refine WL.y rfl (Yd.move rfl) ?_
                refine WL.renamed (t := 114) (v := .bool true) rfl (congrArg Value.bool (decide_eq_true rfl)) ?_
                refine WL.gy (dj := 114) rfl rfl rfl (Yd.move rfl) ?_
                refine WL.gy (dj := 114) rfl rfl rfl (Yd.eql rfl rfl) ?_
                refine WL.y rfl (Yd.pickT rfl rfl) ?_
                refine WL.y rfl (Yd.move rfl) ?_
                refine WL.renamed (t := 118) (v := .bool true) rfl (congrArg Value.bool (decide_eq_true rfl)) ?_
                refine WL.gy (dj := 118) rfl rfl rfl (Yd.move rfl) ?_
                refine WL.gy (dj := 118) rfl rfl rfl (Yd.eql rfl rfl) ?_
                refine WL.y rfl (Yd.pickT rfl rfl) ?_
                refine WL.y rfl (Yd.assign rfl) ?_
                refine WL.nil ?_
                refine DN.then_normal ?_
                refine WC.seq ?_
                refine WC.region ?_
                refine WL.y rfl (Yd.move rfl) ?_
                refine WL.y rfl (Yd.move rfl) ?_
                refine WL.renamed (t := 123) (v := .bool true) rfl (congrArg Value.bool (decide_eq_true rfl)) ?_
                refine WL.gy (dj := 123) rfl rfl rfl (Yd.move rfl) ?_
                refine WL.gy (dj := 123) rfl rfl rfl (Yd.eql rfl rfl) ?_
                refine WL.y rfl (Yd.pickT rfl rfl) ?_
                refine WL.y rfl (Yd.move rfl) ?_
                refine WL.renamed (t := 127) (v := .bool true) rfl (congrArg Value.bool (decide_eq_true rfl)) ?_
                refine WL.gy (dj := 127) rfl rfl rfl (Yd.move rfl) ?_
                refine WL.gy (dj := 127) rfl rfl rfl (Yd.eql rfl rfl) ?_
                refine WL.y rfl (Yd.pickT rfl rfl) ?_
                refine WL.y rfl (Yd.move rfl) ?_
                refine WL.renamed (t := 131) (v := .bool true) rfl (congrArg Value.bool (decide_eq_true rfl)) ?_
                refine WL.gy (dj := 131) rfl rfl rfl (Yd.move rfl) ?_
                refine WL.gy (dj := 131) rfl rfl rfl (Yd.eql rfl rfl) ?_
                refine WL.y rfl (Yd.pickT rfl rfl) ?_
                refine WL.y rfl (Yd.move rfl) ?_
                refine WL.renamed (t := 135) (v := .bool true) rfl (congrArg Value.bool (decide_eq_true rfl)) ?_
                refine WL.gy (dj := 135) rfl rfl rfl (Yd.fieldAddr (k := 0) kr_ rfl) ?_
                refine WL.gh (dj := 135) rfl rfl rfl (Hd.load1 kr_ rfl mem_ (by rfl) ⟨_, rfl, ?_⟩)
                refine WL.gy (dj := 135) rfl rfl rfl (Yd.eql32 _ (3#32) rfl rfl rfl rfl) ?_
                refine WL.y rfl (Yd.pickT rfl rfl) ?_
                refine WL.y rfl (Yd.move rfl) ?_
                refine WL.renamed (t := 140) (v := .bool true) rfl (congrArg Value.bool (decide_eq_true rfl)) ?_
                refine WL.gy (dj := 140) rfl rfl rfl (Yd.fieldAddr (k := 1) kr_ rfl) ?_
                refine WL.gh (dj := 140) rfl rfl rfl (Hd.load1 kr_ rfl mem_ (by rfl) ⟨_, rfl, ?_⟩)
                refine WL.gy (dj := 140) rfl rfl rfl (Yd.len (e := 43) kr_ rfl) ?_
                refine WL.gy (dj := 140) rfl rfl rfl (Yd.eql rfl rfl) ?_
                refine WL.y rfl (Yd.pickT rfl rfl) ?_
                refine WL.y rfl (Yd.move rfl) ?_
                refine WL.renamed (t := 146) (v := .bool true) rfl (congrArg Value.bool (decide_eq_true rfl)) ?_
                refine WL.gy (dj := 146) rfl rfl rfl (Yd.move rfl) ?_
                refine WL.gy (dj := 146) rfl rfl rfl (Yd.eql rfl rfl) ?_
                refine WL.y rfl (Yd.pickT rfl rfl) ?_
                refine WL.y rfl (Yd.assign rfl) ?_
                refine WL.nil ?_
                refine DN.then_normal ?_
                refine WC.ret ?_
                refine DN.fit (C := []) sp_ ?_
                refine DN.ret1 Try.results12 rfl ?_
                exact ⟨congrArg Value.bool (decide_eq_true rfl), rfl⟩

end Go.Proofs.Ytonnkgblligdkaa
