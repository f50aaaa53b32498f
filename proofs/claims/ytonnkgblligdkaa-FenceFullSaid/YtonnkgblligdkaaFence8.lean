/-
  FenceFull: just as many steps are kept as the limit says.
-/
import Derived.Test.YtonnkgblligdkaaFence7
set_option linter.unusedVariables false
set_option linter.unusedSimpArgs false
set_option maxHeartbeats 4000000
namespace Go.Proofs.Ytonnkgblligdkaa
open Go.SL


/-- drayage/drayagelaw08.FenceFull -/
theorem law_FenceFull (order : BitVec 32) (d : BitVec 8) : Reads Try.prog 6 [.int .u32 order.toNat, .int .u8 d.toNat] [] (.bool true) := by
  refine Tells.enter Try.func6 rfl Try.ntmps6 rfl ?_
  intro w0 R
  have hf0 : 0 < (1#32 + order % 1000000#32).toNat := by rw [first_eq]; omega
  have hf : (1#32 + order % 1000000#32).toNat ≤ 1000000 := by rw [first_eq]; omega
  refine WC.seq ?_
  refine WC.region ?_
  refine WL.y rfl (Yd.assign rfl) ?_
  refine WL.nil ?_
  refine DN.then_normal ?_
  refine WC.seq ?_
  refine WC.region ?_
  refine WL.y rfl (Yd.buildL (pl := [(0, 1), (1, 1)]) (zs := [.int .u32 0, .slice none 0 0]) (parts := []) (vs := []) (cells := [.int .u32 0, .slice none 0 0]) (by kernel_rfl) (by kernel_rfl) rfl rfl) ?_
  refine WL.h rfl (Hd.alloc (zs := [.int .u32 0, .slice none 0 0]) (by kernel_rfl) fun b5 => ⟨_, rfl, ?_⟩)
  refine WL.s (Hd.storeAll (n := 2) (by kernel_rfl) rfl rfl (by rfl) (by repeat (first | exact fun _ h => absurd h List.not_mem_nil | refine List.forall_mem_cons.2 ⟨by first | rfl | assumption, ?_⟩)) (by repeat (first | exact Fr.here | apply Fr.fc | apply Fr.al | apply Fr.fa)) (by rfl) ⟨rfl, ?_⟩)
  refine WL.nil ?_
  refine DN.then_normal ?_
  refine WC.seq ?_
  refine WC.region ?_
  refine WL.y rfl (Yd.move rfl) ?_
  refine WL.y rfl (Yd.rem32 _ (1000000#32) rfl rfl rfl rfl (by decide)) ?_
  refine WL.y rfl (Yd.add32 (1#32) _ rfl rfl rfl rfl) ?_
  refine WL.y rfl (Yd.assign rfl) ?_
  refine WL.nil ?_
  refine DN.then_normal ?_
  refine WC.seq ?_
  refine WC.seq ?_
  refine WC.region ?_
  refine WL.y rfl (Yd.assign (v := .int .u32 ((0#32).toNat : Int)) rfl) ?_
  refine WL.nil ?_
  refine DN.then_normal ?_
  refine WC.block ?_
  refine WC.loopS (fun z : Nat × Value × List Ck => z.1 ≤ 200 ∧ FAt 5 43 z.2.1 (fullK (1#32 + order % 1000000#32) d z.1) z.2.2) (fun z : Nat × Value × List Ck => [(7, .int .u32 (BitVec.ofNat 32 z.1).toNat)]) (fun z : Nat × Value × List Ck => row b5 [.int .u32 (eN z.1).toNat, z.2.1] 25 :: z.2.2) (fun z : Nat × Value × List Ck => 200 - z.1) (⟨0, .slice none 0 0, []⟩) (show 0 ≤ 200 ∧ FAt 5 43 (.slice none 0 0) (fullK (1#32 + order % 1000000#32) d 0) [] from ⟨Nat.zero_le _, FAt.nil _ _⟩) (Sx.put rfl ((by repeat (first | exact Sx.refl | refine Sx.skip rfl ?_)))) (by repeat (first | exact Sp.here | exact Sp.sn | exact Sp.s0 | exact Fr.here | apply Sp.s2 | apply Sp.sx | apply Fr.fc | apply Fr.al | apply Fr.fa | apply Sp.sc | apply Sp.al | apply Sp.sa)) ?_
  rintro ⟨i, w, D⟩ hI
  replace hI : i ≤ 200 ∧ FAt 5 43 w (fullK (1#32 + order % 1000000#32) d i) D := hI
  obtain ⟨hi, hF⟩ := hI
  change WC _ _ _ _ _ _ ([(7, .int .u32 (BitVec.ofNat 32 i).toNat)] ++ _) (row b5 [.int .u32 (eN i).toNat, w] 25 :: D)
  obtain ⟨wo, wc, rfl⟩ := hF.form
  rw [fullK_len] at hF ⊢
  have hiN : (BitVec.ofNat 32 i).toNat = i := by rw [BitVec.toNat_ofNat]; omega
  refine WC.seq ?_
  refine WC.seq ?_
  refine WC.region ?_
  refine WL.y rfl (Yd.move rfl) ?_
  refine WL.y rfl (Yd.lss rfl rfl) ?_
  refine WL.nil ?_
  refine DN.then_normal ?_
  refine WC.ite rfl (fun h23 => ?_) (fun h23 => ?_)
  · have hlt : i < 200 := by omega
    refine WC.skip ?_
    refine DN.then_normal ?_
    refine WC.seq ?_
    refine WC.block ?_
    refine WC.cutK (fun z : Nat × (Option Addr × Nat) × List Ck => FAt 5 43 (.slice z.2.1.1 (i + 1) z.2.1.2) (fullK (1#32 + order % 1000000#32) d (i + 1)) z.2.2) (fun z : Nat × (Option Addr × Nat) × List Ck => [(8, .pointer (some ⟨z.1, 0, none⟩)), (9, .int .i64 0)]) (fun z : Nat × (Option Addr × Nat) × List Ck => row z.1 [.int .u32 (eN (i + 1)).toNat, .slice z.2.1.1 (i + 1) z.2.1.2] 25 :: (z.2.2 ++ (row b5 [.int .u32 (eN i).toNat, (.slice wo i wc)] 25 :: D))) ?_ ?_
    · refine WC.draw 14 (by kernel_rfl) rfl ?_
      refine WA.y (i := 1) (NoPanic.then (NoPanic.block (NoPanic.then (NoPanic.then (NoPanic.block (NoPanic.then (NoPanic.body))))))) rfl (by kernel_rfl) (by kernel_rfl) (by kernel_rfl) rfl (Yd.move rfl) ?_
      refine WA.y (i := 2) (NoPanic.then (NoPanic.block (NoPanic.then (NoPanic.then (NoPanic.block (NoPanic.then (NoPanic.body))))))) rfl (by kernel_rfl) (by kernel_rfl) (by kernel_rfl) rfl (Yd.move rfl) ?_
      refine WA.y (i := 3) (NoPanic.then (NoPanic.block (NoPanic.then (NoPanic.then (NoPanic.block (NoPanic.then (NoPanic.body))))))) rfl (by kernel_rfl) (by kernel_rfl) (by kernel_rfl) rfl (Yd.add32 _ _ rfl rfl rfl rfl) ?_
      refine WA.y (i := 5) (NoPanic.then (NoPanic.block (NoPanic.then (NoPanic.then (NoPanic.block (NoPanic.then (NoPanic.body))))))) rfl (by kernel_rfl) (by kernel_rfl) (by kernel_rfl) rfl (Yd.move rfl) ?_
      refine WA.four (i1 := 0) (i2 := 4) (i3 := 6) (i4 := 11) (by kernel_rfl) ?_ ?_ ?_ ?_
      · refine WO.h rfl Wt.none rfl (Hd.loadAll (n := 2) (by kernel_rfl) rfl (by repeat (first | exact List.mem_cons_self | apply List.mem_cons_of_mem | apply List.mem_append_right)) (by rfl) ⟨_, rfl, ?_⟩)
        refine WA.three (i := 4) (j := 6) (k := 11) (by kernel_rfl) ?_ ?_ ?_
        · refine WO.c rfl Wt.none rfl (Ent.func Try.call23 rfl) (step_tells 1#32 ((1#32 + order % 1000000#32) + BitVec.ofNat 32 i) 0 false [120#8]) (Sp.p (by repeat (first | exact Sp.here | exact Sp.sn | exact Sp.s0 | exact Fr.here | apply Sp.s2 | apply Sp.sx | apply Fr.fc | apply Fr.al | apply Fr.fa | apply Sp.sc | apply Sp.al | apply Sp.sa))) ?_
          rintro x2 H2 ⟨bd2, cd2, blk2, rfl, hbk2, rfl⟩
          refine WA.two (i := 6) (j := 11) (by kernel_rfl) ?_ ?_
          · refine WO.h rfl Wt.none rfl (Hd.build1 (e := 5) (z := .int .u8 0) (by kernel_rfl) (by kernel_rfl) (by kernel_rfl) rfl (by rfl) fun b33 => ⟨_, rfl, ?_⟩)
            refine WA.two (i := 7) (j := 11) (by kernel_rfl) ?_ ?_
            · refine WO.c rfl Wt.none rfl (Ent.func Try.call15 rfl) (keep_tells (eN i) (.slice wo i wc) (fullK (1#32 + order % 1000000#32) d i) (blk2 :: (row b33 (bc [d]) 5 :: D)) (hF.kv.mono (by repeat (first | exact Gr.refl | exact Gr.left Gr.refl | exact Gr.left (Gr.left Gr.refl) | exact Gr.left (Gr.app Gr.refl) | exact Gr.left (Gr.app (Gr.app Gr.refl)) | exact Gr.left (Gr.app (Gr.left Gr.refl)) | exact Gr.left (Gr.left (Gr.left Gr.refl)) | exact Gr.nil | exact Gr.app (Gr.left Gr.refl) | refine Gr.cons ?_ | refine Gr.app ?_ | refine Gr.both ?_ ?_ | refine Gr.put (by repeat (first | exact List.mem_cons_self | apply List.mem_cons_of_mem | apply List.mem_append_right)) ?_))) (by rw [fullK_len]; omega) (stepN 1#32 ((1#32 + order % 1000000#32) + BitVec.ofNat 32 i) 0 false [120#8]) (.slice none 0 0) _ (Bs_nil _) (hbk2.mono (by repeat (first | exact Gr.refl | exact Gr.left Gr.refl | exact Gr.left (Gr.left Gr.refl) | exact Gr.left (Gr.app Gr.refl) | exact Gr.left (Gr.app (Gr.app Gr.refl)) | exact Gr.left (Gr.app (Gr.left Gr.refl)) | exact Gr.left (Gr.left (Gr.left Gr.refl)) | exact Gr.nil | exact Gr.app (Gr.left Gr.refl) | refine Gr.cons ?_ | refine Gr.app ?_ | refine Gr.both ?_ ?_ | refine Gr.put (by repeat (first | exact List.mem_cons_self | apply List.mem_cons_of_mem | apply List.mem_append_right)) ?_))) 1 (.slice (some ⟨b33, 0, none⟩) 1 1) [d] (.inr ⟨b33, 0, 1, bc [d], 5, (0, 0), true, rfl, Nat.le_refl _, (by repeat (first | exact List.mem_cons_self | apply List.mem_cons_of_mem | apply List.mem_append_right)), rfl⟩)) (Sp.p (by repeat (first | exact Sp.here | exact Sp.sn | exact Sp.s0 | exact Fr.here | apply Sp.s2 | apply Sp.sx | apply Fr.fc | apply Fr.al | apply Fr.fa | apply Sp.sc | apply Sp.al | apply Sp.sa))) ?_
              rintro xa2 Ha2 ⟨w2, D2, rfl, hF2, rfl⟩
              rw [full_keep hf0 hf hlt] at hF2 ⊢
              obtain ⟨wo2, wc2, rfl⟩ := hF2.form
              dsimp only at hF2 ⊢
              rw [fullK_len] at hF2 ⊢
              refine WA.y (i := 8) (NoPanic.then (NoPanic.block (NoPanic.then (NoPanic.then (NoPanic.block (NoPanic.then (NoPanic.body))))))) rfl (by kernel_rfl) (by kernel_rfl) (by kernel_rfl) rfl (Yd.move rfl) ?_
              refine WA.y (i := 9) (NoPanic.then (NoPanic.block (NoPanic.then (NoPanic.then (NoPanic.block (NoPanic.then (NoPanic.body))))))) rfl (by kernel_rfl) (by kernel_rfl) (by kernel_rfl) rfl (Yd.extract rfl rfl) ?_
              refine WA.y (i := 10) (NoPanic.then (NoPanic.block (NoPanic.then (NoPanic.then (NoPanic.block (NoPanic.then (NoPanic.body))))))) rfl (by kernel_rfl) (by kernel_rfl) (by kernel_rfl) rfl (Yd.extract rfl rfl) ?_
              refine WA.one (i := 11) (by kernel_rfl) ?_
              refine WO.h rfl Wt.none rfl (Hd.alloc (zs := [.int .u32 0, .slice none 0 0]) (by kernel_rfl) fun b8 => ⟨_, rfl, ?_⟩)
              refine WA.one (i := 12) (by kernel_rfl) ?_
              refine WO.s rfl Wt.none (Hd.storeAll (n := 2) (by kernel_rfl) rfl rfl (by rfl) (by repeat (first | exact fun _ h => absurd h List.not_mem_nil | refine List.forall_mem_cons.2 ⟨by first | rfl | assumption, ?_⟩)) (by repeat (first | exact Fr.here | apply Fr.fc | apply Fr.al | apply Fr.fa)) (by rfl) ⟨rfl, ?_⟩)
              refine WA.y (i := 13) (NoPanic.then (NoPanic.block (NoPanic.then (NoPanic.then (NoPanic.block (NoPanic.then (NoPanic.body))))))) rfl (by kernel_rfl) (by kernel_rfl) (by kernel_rfl) rfl (Yd.assign rfl) ?_
              refine WA.done (by kernel_rfl) ?_
              exact DN.reachS ((b8, (wo2, wc2), D2)) (hF2) (Sx.put rfl (Sx.put rfl ((by repeat (first | exact Sx.refl | refine Sx.skip rfl ?_))))) (by repeat (first | exact Sp.here | exact Sp.sn | exact Sp.s0 | exact Fr.here | apply Sp.s2 | apply Sp.sx | apply Fr.fc | apply Fr.al | apply Fr.fa | apply Sp.sc | apply Sp.al | apply Sp.sa))
            · refine WO.h rfl Wt.none rfl (Hd.alloc (zs := [.int .u32 0, .slice none 0 0]) (by kernel_rfl) fun b8 => ⟨_, rfl, ?_⟩)
              refine WA.one (i := 7) (by kernel_rfl) ?_
              refine WO.c rfl Wt.none rfl (Ent.func Try.call15 rfl) (keep_tells (eN i) (.slice wo i wc) (fullK (1#32 + order % 1000000#32) d i) (blk2 :: (row b33 (bc [d]) 5 :: D)) (hF.kv.mono (by repeat (first | exact Gr.refl | exact Gr.left Gr.refl | exact Gr.left (Gr.left Gr.refl) | exact Gr.left (Gr.app Gr.refl) | exact Gr.left (Gr.app (Gr.app Gr.refl)) | exact Gr.left (Gr.app (Gr.left Gr.refl)) | exact Gr.left (Gr.left (Gr.left Gr.refl)) | exact Gr.nil | exact Gr.app (Gr.left Gr.refl) | refine Gr.cons ?_ | refine Gr.app ?_ | refine Gr.both ?_ ?_ | refine Gr.put (by repeat (first | exact List.mem_cons_self | apply List.mem_cons_of_mem | apply List.mem_append_right)) ?_))) (by rw [fullK_len]; omega) (stepN 1#32 ((1#32 + order % 1000000#32) + BitVec.ofNat 32 i) 0 false [120#8]) (.slice none 0 0) _ (Bs_nil _) (hbk2.mono (by repeat (first | exact Gr.refl | exact Gr.left Gr.refl | exact Gr.left (Gr.left Gr.refl) | exact Gr.left (Gr.app Gr.refl) | exact Gr.left (Gr.app (Gr.app Gr.refl)) | exact Gr.left (Gr.app (Gr.left Gr.refl)) | exact Gr.left (Gr.left (Gr.left Gr.refl)) | exact Gr.nil | exact Gr.app (Gr.left Gr.refl) | refine Gr.cons ?_ | refine Gr.app ?_ | refine Gr.both ?_ ?_ | refine Gr.put (by repeat (first | exact List.mem_cons_self | apply List.mem_cons_of_mem | apply List.mem_append_right)) ?_))) 1 (.slice (some ⟨b33, 0, none⟩) 1 1) [d] (.inr ⟨b33, 0, 1, bc [d], 5, (0, 0), true, rfl, Nat.le_refl _, (by repeat (first | exact List.mem_cons_self | apply List.mem_cons_of_mem | apply List.mem_append_right)), rfl⟩)) (Sp.p (by repeat (first | exact Sp.here | exact Sp.sn | exact Sp.s0 | exact Fr.here | apply Sp.s2 | apply Sp.sx | apply Fr.fc | apply Fr.al | apply Fr.fa | apply Sp.sc | apply Sp.al | apply Sp.sa))) ?_
              rintro xa2 Ha2 ⟨w2, D2, rfl, hF2, rfl⟩
              rw [full_keep hf0 hf hlt] at hF2 ⊢
              obtain ⟨wo2, wc2, rfl⟩ := hF2.form
              dsimp only at hF2 ⊢
              rw [fullK_len] at hF2 ⊢
              refine WA.y (i := 8) (NoPanic.then (NoPanic.block (NoPanic.then (NoPanic.then (NoPanic.block (NoPanic.then (NoPanic.body))))))) rfl (by kernel_rfl) (by kernel_rfl) (by kernel_rfl) rfl (Yd.move rfl) ?_
              refine WA.y (i := 9) (NoPanic.then (NoPanic.block (NoPanic.then (NoPanic.then (NoPanic.block (NoPanic.then (NoPanic.body))))))) rfl (by kernel_rfl) (by kernel_rfl) (by kernel_rfl) rfl (Yd.extract rfl rfl) ?_
              refine WA.y (i := 10) (NoPanic.then (NoPanic.block (NoPanic.then (NoPanic.then (NoPanic.block (NoPanic.then (NoPanic.body))))))) rfl (by kernel_rfl) (by kernel_rfl) (by kernel_rfl) rfl (Yd.extract rfl rfl) ?_
              refine WA.one (i := 12) (by kernel_rfl) ?_
              refine WO.s rfl Wt.none (Hd.storeAll (n := 2) (by kernel_rfl) rfl rfl (by rfl) (by repeat (first | exact fun _ h => absurd h List.not_mem_nil | refine List.forall_mem_cons.2 ⟨by first | rfl | assumption, ?_⟩)) (by repeat (first | exact Fr.here | apply Fr.fc | apply Fr.al | apply Fr.fa)) (by rfl) ⟨rfl, ?_⟩)
              refine WA.y (i := 13) (NoPanic.then (NoPanic.block (NoPanic.then (NoPanic.then (NoPanic.block (NoPanic.then (NoPanic.body))))))) rfl (by kernel_rfl) (by kernel_rfl) (by kernel_rfl) rfl (Yd.assign rfl) ?_
              refine WA.done (by kernel_rfl) ?_
              exact DN.reachS ((b8, (wo2, wc2), D2)) (hF2) (Sx.put rfl (Sx.put rfl ((by repeat (first | exact Sx.refl | refine Sx.skip rfl ?_))))) (by repeat (first | exact Sp.here | exact Sp.sn | exact Sp.s0 | exact Fr.here | apply Sp.s2 | apply Sp.sx | apply Fr.fc | apply Fr.al | apply Fr.fa | apply Sp.sc | apply Sp.al | apply Sp.sa))
          · refine WO.h rfl Wt.none rfl (Hd.alloc (zs := [.int .u32 0, .slice none 0 0]) (by kernel_rfl) fun b8 => ⟨_, rfl, ?_⟩)
            refine WA.one (i := 6) (by kernel_rfl) ?_
            refine WO.h rfl Wt.none rfl (Hd.build1 (e := 5) (z := .int .u8 0) (by kernel_rfl) (by kernel_rfl) (by kernel_rfl) rfl (by rfl) fun b33 => ⟨_, rfl, ?_⟩)
            refine WA.one (i := 7) (by kernel_rfl) ?_
            refine WO.c rfl Wt.none rfl (Ent.func Try.call15 rfl) (keep_tells (eN i) (.slice wo i wc) (fullK (1#32 + order % 1000000#32) d i) (blk2 :: (row b33 (bc [d]) 5 :: D)) (hF.kv.mono (by repeat (first | exact Gr.refl | exact Gr.left Gr.refl | exact Gr.left (Gr.left Gr.refl) | exact Gr.left (Gr.app Gr.refl) | exact Gr.left (Gr.app (Gr.app Gr.refl)) | exact Gr.left (Gr.app (Gr.left Gr.refl)) | exact Gr.left (Gr.left (Gr.left Gr.refl)) | exact Gr.nil | exact Gr.app (Gr.left Gr.refl) | refine Gr.cons ?_ | refine Gr.app ?_ | refine Gr.both ?_ ?_ | refine Gr.put (by repeat (first | exact List.mem_cons_self | apply List.mem_cons_of_mem | apply List.mem_append_right)) ?_))) (by rw [fullK_len]; omega) (stepN 1#32 ((1#32 + order % 1000000#32) + BitVec.ofNat 32 i) 0 false [120#8]) (.slice none 0 0) _ (Bs_nil _) (hbk2.mono (by repeat (first | exact Gr.refl | exact Gr.left Gr.refl | exact Gr.left (Gr.left Gr.refl) | exact Gr.left (Gr.app Gr.refl) | exact Gr.left (Gr.app (Gr.app Gr.refl)) | exact Gr.left (Gr.app (Gr.left Gr.refl)) | exact Gr.left (Gr.left (Gr.left Gr.refl)) | exact Gr.nil | exact Gr.app (Gr.left Gr.refl) | refine Gr.cons ?_ | refine Gr.app ?_ | refine Gr.both ?_ ?_ | refine Gr.put (by repeat (first | exact List.mem_cons_self | apply List.mem_cons_of_mem | apply List.mem_append_right)) ?_))) 1 (.slice (some ⟨b33, 0, none⟩) 1 1) [d] (.inr ⟨b33, 0, 1, bc [d], 5, (0, 0), true, rfl, Nat.le_refl _, (by repeat (first | exact List.mem_cons_self | apply List.mem_cons_of_mem | apply List.mem_append_right)), rfl⟩)) (Sp.p (by repeat (first | exact Sp.here | exact Sp.sn | exact Sp.s0 | exact Fr.here | apply Sp.s2 | apply Sp.sx | apply Fr.fc | apply Fr.al | apply Fr.fa | apply Sp.sc | apply Sp.al | apply Sp.sa))) ?_
            rintro xa2 Ha2 ⟨w2, D2, rfl, hF2, rfl⟩
            rw [full_keep hf0 hf hlt] at hF2 ⊢
            obtain ⟨wo2, wc2, rfl⟩ := hF2.form
            dsimp only at hF2 ⊢
            rw [fullK_len] at hF2 ⊢
            refine WA.y (i := 8) (NoPanic.then (NoPanic.block (NoPanic.then (NoPanic.then (NoPanic.block (NoPanic.then (NoPanic.body))))))) rfl (by kernel_rfl) (by kernel_rfl) (by kernel_rfl) rfl (Yd.move rfl) ?_
            refine WA.y (i := 9) (NoPanic.then (NoPanic.block (NoPanic.then (NoPanic.then (NoPanic.block (NoPanic.then (NoPanic.body))))))) rfl (by kernel_rfl) (by kernel_rfl) (by kernel_rfl) rfl (Yd.extract rfl rfl) ?_
            refine WA.y (i := 10) (NoPanic.then (NoPanic.block (NoPanic.then (NoPanic.then (NoPanic.block (NoPanic.then (NoPanic.body))))))) rfl (by kernel_rfl) (by kernel_rfl) (by kernel_rfl) rfl (Yd.extract rfl rfl) ?_
            refine WA.one (i := 12) (by kernel_rfl) ?_
            refine WO.s rfl Wt.none (Hd.storeAll (n := 2) (by kernel_rfl) rfl rfl (by rfl) (by repeat (first | exact fun _ h => absurd h List.not_mem_nil | refine List.forall_mem_cons.2 ⟨by first | rfl | assumption, ?_⟩)) (by repeat (first | exact Fr.here | apply Fr.fc | apply Fr.al | apply Fr.fa)) (by rfl) ⟨rfl, ?_⟩)
            refine WA.y (i := 13) (NoPanic.then (NoPanic.block (NoPanic.then (NoPanic.then (NoPanic.block (NoPanic.then (NoPanic.body))))))) rfl (by kernel_rfl) (by kernel_rfl) (by kernel_rfl) rfl (Yd.assign rfl) ?_
            refine WA.done (by kernel_rfl) ?_
            exact DN.reachS ((b8, (wo2, wc2), D2)) (hF2) (Sx.put rfl (Sx.put rfl ((by repeat (first | exact Sx.refl | refine Sx.skip rfl ?_))))) (by repeat (first | exact Sp.here | exact Sp.sn | exact Sp.s0 | exact Fr.here | apply Sp.s2 | apply Sp.sx | apply Fr.fc | apply Fr.al | apply Fr.fa | apply Sp.sc | apply Sp.al | apply Sp.sa))
        · refine WO.h rfl Wt.none rfl (Hd.build1 (e := 5) (z := .int .u8 0) (by kernel_rfl) (by kernel_rfl) (by kernel_rfl) rfl (by rfl) fun b33 => ⟨_, rfl, ?_⟩)
          refine WA.two (i := 4) (j := 11) (by kernel_rfl) ?_ ?_
          · refine WO.c rfl Wt.none rfl (Ent.func Try.call23 rfl) (step_tells 1#32 ((1#32 + order % 1000000#32) + BitVec.ofNat 32 i) 0 false [120#8]) (Sp.p (by repeat (first | exact Sp.here | exact Sp.sn | exact Sp.s0 | exact Fr.here | apply Sp.s2 | apply Sp.sx | apply Fr.fc | apply Fr.al | apply Fr.fa | apply Sp.sc | apply Sp.al | apply Sp.sa))) ?_
            rintro x2 H2 ⟨bd2, cd2, blk2, rfl, hbk2, rfl⟩
            refine WA.two (i := 7) (j := 11) (by kernel_rfl) ?_ ?_
            · refine WO.c rfl Wt.none rfl (Ent.func Try.call15 rfl) (keep_tells (eN i) (.slice wo i wc) (fullK (1#32 + order % 1000000#32) d i) (blk2 :: (row b33 (bc [d]) 5 :: D)) (hF.kv.mono (by repeat (first | exact Gr.refl | exact Gr.left Gr.refl | exact Gr.left (Gr.left Gr.refl) | exact Gr.left (Gr.app Gr.refl) | exact Gr.left (Gr.app (Gr.app Gr.refl)) | exact Gr.left (Gr.app (Gr.left Gr.refl)) | exact Gr.left (Gr.left (Gr.left Gr.refl)) | exact Gr.nil | exact Gr.app (Gr.left Gr.refl) | refine Gr.cons ?_ | refine Gr.app ?_ | refine Gr.both ?_ ?_ | refine Gr.put (by repeat (first | exact List.mem_cons_self | apply List.mem_cons_of_mem | apply List.mem_append_right)) ?_))) (by rw [fullK_len]; omega) (stepN 1#32 ((1#32 + order % 1000000#32) + BitVec.ofNat 32 i) 0 false [120#8]) (.slice none 0 0) _ (Bs_nil _) (hbk2.mono (by repeat (first | exact Gr.refl | exact Gr.left Gr.refl | exact Gr.left (Gr.left Gr.refl) | exact Gr.left (Gr.app Gr.refl) | exact Gr.left (Gr.app (Gr.app Gr.refl)) | exact Gr.left (Gr.app (Gr.left Gr.refl)) | exact Gr.left (Gr.left (Gr.left Gr.refl)) | exact Gr.nil | exact Gr.app (Gr.left Gr.refl) | refine Gr.cons ?_ | refine Gr.app ?_ | refine Gr.both ?_ ?_ | refine Gr.put (by repeat (first | exact List.mem_cons_self | apply List.mem_cons_of_mem | apply List.mem_append_right)) ?_))) 1 (.slice (some ⟨b33, 0, none⟩) 1 1) [d] (.inr ⟨b33, 0, 1, bc [d], 5, (0, 0), true, rfl, Nat.le_refl _, (by repeat (first | exact List.mem_cons_self | apply List.mem_cons_of_mem | apply List.mem_append_right)), rfl⟩)) (Sp.p (by repeat (first | exact Sp.here | exact Sp.sn | exact Sp.s0 | exact Fr.here | apply Sp.s2 | apply Sp.sx | apply Fr.fc | apply Fr.al | apply Fr.fa | apply Sp.sc | apply Sp.al | apply Sp.sa))) ?_
              rintro xa2 Ha2 ⟨w2, D2, rfl, hF2, rfl⟩
              rw [full_keep hf0 hf hlt] at hF2 ⊢
              obtain ⟨wo2, wc2, rfl⟩ := hF2.form
              dsimp only at hF2 ⊢
              rw [fullK_len] at hF2 ⊢
              refine WA.y (i := 8) (NoPanic.then (NoPanic.block (NoPanic.then (NoPanic.then (NoPanic.block (NoPanic.then (NoPanic.body))))))) rfl (by kernel_rfl) (by kernel_rfl) (by kernel_rfl) rfl (Yd.move rfl) ?_
              refine WA.y (i := 9) (NoPanic.then (NoPanic.block (NoPanic.then (NoPanic.then (NoPanic.block (NoPanic.then (NoPanic.body))))))) rfl (by kernel_rfl) (by kernel_rfl) (by kernel_rfl) rfl (Yd.extract rfl rfl) ?_
              refine WA.y (i := 10) (NoPanic.then (NoPanic.block (NoPanic.then (NoPanic.then (NoPanic.block (NoPanic.then (NoPanic.body))))))) rfl (by kernel_rfl) (by kernel_rfl) (by kernel_rfl) rfl (Yd.extract rfl rfl) ?_
              refine WA.one (i := 11) (by kernel_rfl) ?_
              refine WO.h rfl Wt.none rfl (Hd.alloc (zs := [.int .u32 0, .slice none 0 0]) (by kernel_rfl) fun b8 => ⟨_, rfl, ?_⟩)
              refine WA.one (i := 12) (by kernel_rfl) ?_
              refine WO.s rfl Wt.none (Hd.storeAll (n := 2) (by kernel_rfl) rfl rfl (by rfl) (by repeat (first | exact fun _ h => absurd h List.not_mem_nil | refine List.forall_mem_cons.2 ⟨by first | rfl | assumption, ?_⟩)) (by repeat (first | exact Fr.here | apply Fr.fc | apply Fr.al | apply Fr.fa)) (by rfl) ⟨rfl, ?_⟩)
              refine WA.y (i := 13) (NoPanic.then (NoPanic.block (NoPanic.then (NoPanic.then (NoPanic.block (NoPanic.then (NoPanic.body))))))) rfl (by kernel_rfl) (by kernel_rfl) (by kernel_rfl) rfl (Yd.assign rfl) ?_
              refine WA.done (by kernel_rfl) ?_
              exact DN.reachS ((b8, (wo2, wc2), D2)) (hF2) (Sx.put rfl (Sx.put rfl ((by repeat (first | exact Sx.refl | refine Sx.skip rfl ?_))))) (by repeat (first | exact Sp.here | exact Sp.sn | exact Sp.s0 | exact Fr.here | apply Sp.s2 | apply Sp.sx | apply Fr.fc | apply Fr.al | apply Fr.fa | apply Sp.sc | apply Sp.al | apply Sp.sa))
            · refine WO.h rfl Wt.none rfl (Hd.alloc (zs := [.int .u32 0, .slice none 0 0]) (by kernel_rfl) fun b8 => ⟨_, rfl, ?_⟩)
              refine WA.one (i := 7) (by kernel_rfl) ?_
              refine WO.c rfl Wt.none rfl (Ent.func Try.call15 rfl) (keep_tells (eN i) (.slice wo i wc) (fullK (1#32 + order % 1000000#32) d i) (blk2 :: (row b33 (bc [d]) 5 :: D)) (hF.kv.mono (by repeat (first | exact Gr.refl | exact Gr.left Gr.refl | exact Gr.left (Gr.left Gr.refl) | exact Gr.left (Gr.app Gr.refl) | exact Gr.left (Gr.app (Gr.app Gr.refl)) | exact Gr.left (Gr.app (Gr.left Gr.refl)) | exact Gr.left (Gr.left (Gr.left Gr.refl)) | exact Gr.nil | exact Gr.app (Gr.left Gr.refl) | refine Gr.cons ?_ | refine Gr.app ?_ | refine Gr.both ?_ ?_ | refine Gr.put (by repeat (first | exact List.mem_cons_self | apply List.mem_cons_of_mem | apply List.mem_append_right)) ?_))) (by rw [fullK_len]; omega) (stepN 1#32 ((1#32 + order % 1000000#32) + BitVec.ofNat 32 i) 0 false [120#8]) (.slice none 0 0) _ (Bs_nil _) (hbk2.mono (by repeat (first | exact Gr.refl | exact Gr.left Gr.refl | exact Gr.left (Gr.left Gr.refl) | exact Gr.left (Gr.app Gr.refl) | exact Gr.left (Gr.app (Gr.app Gr.refl)) | exact Gr.left (Gr.app (Gr.left Gr.refl)) | exact Gr.left (Gr.left (Gr.left Gr.refl)) | exact Gr.nil | exact Gr.app (Gr.left Gr.refl) | refine Gr.cons ?_ | refine Gr.app ?_ | refine Gr.both ?_ ?_ | refine Gr.put (by repeat (first | exact List.mem_cons_self | apply List.mem_cons_of_mem | apply List.mem_append_right)) ?_))) 1 (.slice (some ⟨b33, 0, none⟩) 1 1) [d] (.inr ⟨b33, 0, 1, bc [d], 5, (0, 0), true, rfl, Nat.le_refl _, (by repeat (first | exact List.mem_cons_self | apply List.mem_cons_of_mem | apply List.mem_append_right)), rfl⟩)) (Sp.p (by repeat (first | exact Sp.here | exact Sp.sn | exact Sp.s0 | exact Fr.here | apply Sp.s2 | apply Sp.sx | apply Fr.fc | apply Fr.al | apply Fr.fa | apply Sp.sc | apply Sp.al | apply Sp.sa))) ?_
              rintro xa2 Ha2 ⟨w2, D2, rfl, hF2, rfl⟩
              rw [full_keep hf0 hf hlt] at hF2 ⊢
              obtain ⟨wo2, wc2, rfl⟩ := hF2.form
              dsimp only at hF2 ⊢
              rw [fullK_len] at hF2 ⊢
              refine WA.y (i := 8) (NoPanic.then (NoPanic.block (NoPanic.then (NoPanic.then (NoPanic.block (NoPanic.then (NoPanic.body))))))) rfl (by kernel_rfl) (by kernel_rfl) (by kernel_rfl) rfl (Yd.move rfl) ?_
              refine WA.y (i := 9) (NoPanic.then (NoPanic.block (NoPanic.then (NoPanic.then (NoPanic.block (NoPanic.then (NoPanic.body))))))) rfl (by kernel_rfl) (by kernel_rfl) (by kernel_rfl) rfl (Yd.extract rfl rfl) ?_
              refine WA.y (i := 10) (NoPanic.then (NoPanic.block (NoPanic.then (NoPanic.then (NoPanic.block (NoPanic.then (NoPanic.body))))))) rfl (by kernel_rfl) (by kernel_rfl) (by kernel_rfl) rfl (Yd.extract rfl rfl) ?_
              refine WA.one (i := 12) (by kernel_rfl) ?_
              refine WO.s rfl Wt.none (Hd.storeAll (n := 2) (by kernel_rfl) rfl rfl (by rfl) (by repeat (first | exact fun _ h => absurd h List.not_mem_nil | refine List.forall_mem_cons.2 ⟨by first | rfl | assumption, ?_⟩)) (by repeat (first | exact Fr.here | apply Fr.fc | apply Fr.al | apply Fr.fa)) (by rfl) ⟨rfl, ?_⟩)
              refine WA.y (i := 13) (NoPanic.then (NoPanic.block (NoPanic.then (NoPanic.then (NoPanic.block (NoPanic.then (NoPanic.body))))))) rfl (by kernel_rfl) (by kernel_rfl) (by kernel_rfl) rfl (Yd.assign rfl) ?_
              refine WA.done (by kernel_rfl) ?_
              exact DN.reachS ((b8, (wo2, wc2), D2)) (hF2) (Sx.put rfl (Sx.put rfl ((by repeat (first | exact Sx.refl | refine Sx.skip rfl ?_))))) (by repeat (first | exact Sp.here | exact Sp.sn | exact Sp.s0 | exact Fr.here | apply Sp.s2 | apply Sp.sx | apply Fr.fc | apply Fr.al | apply Fr.fa | apply Sp.sc | apply Sp.al | apply Sp.sa))
          · refine WO.h rfl Wt.none rfl (Hd.alloc (zs := [.int .u32 0, .slice none 0 0]) (by kernel_rfl) fun b8 => ⟨_, rfl, ?_⟩)
            refine WA.one (i := 4) (by kernel_rfl) ?_
            refine WO.c rfl Wt.none rfl (Ent.func Try.call23 rfl) (step_tells 1#32 ((1#32 + order % 1000000#32) + BitVec.ofNat 32 i) 0 false [120#8]) (Sp.p (by repeat (first | exact Sp.here | exact Sp.sn | exact Sp.s0 | exact Fr.here | apply Sp.s2 | apply Sp.sx | apply Fr.fc | apply Fr.al | apply Fr.fa | apply Sp.sc | apply Sp.al | apply Sp.sa))) ?_
            rintro x2 H2 ⟨bd2, cd2, blk2, rfl, hbk2, rfl⟩
            refine WA.one (i := 7) (by kernel_rfl) ?_
            refine WO.c rfl Wt.none rfl (Ent.func Try.call15 rfl) (keep_tells (eN i) (.slice wo i wc) (fullK (1#32 + order % 1000000#32) d i) (blk2 :: (row b33 (bc [d]) 5 :: D)) (hF.kv.mono (by repeat (first | exact Gr.refl | exact Gr.left Gr.refl | exact Gr.left (Gr.left Gr.refl) | exact Gr.left (Gr.app Gr.refl) | exact Gr.left (Gr.app (Gr.app Gr.refl)) | exact Gr.left (Gr.app (Gr.left Gr.refl)) | exact Gr.left (Gr.left (Gr.left Gr.refl)) | exact Gr.nil | exact Gr.app (Gr.left Gr.refl) | refine Gr.cons ?_ | refine Gr.app ?_ | refine Gr.both ?_ ?_ | refine Gr.put (by repeat (first | exact List.mem_cons_self | apply List.mem_cons_of_mem | apply List.mem_append_right)) ?_))) (by rw [fullK_len]; omega) (stepN 1#32 ((1#32 + order % 1000000#32) + BitVec.ofNat 32 i) 0 false [120#8]) (.slice none 0 0) _ (Bs_nil _) (hbk2.mono (by repeat (first | exact Gr.refl | exact Gr.left Gr.refl | exact Gr.left (Gr.left Gr.refl) | exact Gr.left (Gr.app Gr.refl) | exact Gr.left (Gr.app (Gr.app Gr.refl)) | exact Gr.left (Gr.app (Gr.left Gr.refl)) | exact Gr.left (Gr.left (Gr.left Gr.refl)) | exact Gr.nil | exact Gr.app (Gr.left Gr.refl) | refine Gr.cons ?_ | refine Gr.app ?_ | refine Gr.both ?_ ?_ | refine Gr.put (by repeat (first | exact List.mem_cons_self | apply List.mem_cons_of_mem | apply List.mem_append_right)) ?_))) 1 (.slice (some ⟨b33, 0, none⟩) 1 1) [d] (.inr ⟨b33, 0, 1, bc [d], 5, (0, 0), true, rfl, Nat.le_refl _, (by repeat (first | exact List.mem_cons_self | apply List.mem_cons_of_mem | apply List.mem_append_right)), rfl⟩)) (Sp.p (by repeat (first | exact Sp.here | exact Sp.sn | exact Sp.s0 | exact Fr.here | apply Sp.s2 | apply Sp.sx | apply Fr.fc | apply Fr.al | apply Fr.fa | apply Sp.sc | apply Sp.al | apply Sp.sa))) ?_
            rintro xa2 Ha2 ⟨w2, D2, rfl, hF2, rfl⟩
            rw [full_keep hf0 hf hlt] at hF2 ⊢
            obtain ⟨wo2, wc2, rfl⟩ := hF2.form
            dsimp only at hF2 ⊢
            rw [fullK_len] at hF2 ⊢
            refine WA.y (i := 8) (NoPanic.then (NoPanic.block (NoPanic.then (NoPanic.then (NoPanic.block (NoPanic.then (NoPanic.body))))))) rfl (by kernel_rfl) (by kernel_rfl) (by kernel_rfl) rfl (Yd.move rfl) ?_
            refine WA.y (i := 9) (NoPanic.then (NoPanic.block (NoPanic.then (NoPanic.then (NoPanic.block (NoPanic.then (NoPanic.body))))))) rfl (by kernel_rfl) (by kernel_rfl) (by kernel_rfl) rfl (Yd.extract rfl rfl) ?_
            refine WA.y (i := 10) (NoPanic.then (NoPanic.block (NoPanic.then (NoPanic.then (NoPanic.block (NoPanic.then (NoPanic.body))))))) rfl (by kernel_rfl) (by kernel_rfl) (by kernel_rfl) rfl (Yd.extract rfl rfl) ?_
            refine WA.one (i := 12) (by kernel_rfl) ?_
            refine WO.s rfl Wt.none (Hd.storeAll (n := 2) (by kernel_rfl) rfl rfl (by rfl) (by repeat (first | exact fun _ h => absurd h List.not_mem_nil | refine List.forall_mem_cons.2 ⟨by first | rfl | assumption, ?_⟩)) (by repeat (first | exact Fr.here | apply Fr.fc | apply Fr.al | apply Fr.fa)) (by rfl) ⟨rfl, ?_⟩)
            refine WA.y (i := 13) (NoPanic.then (NoPanic.block (NoPanic.then (NoPanic.then (NoPanic.block (NoPanic.then (NoPanic.body))))))) rfl (by kernel_rfl) (by kernel_rfl) (by kernel_rfl) rfl (Yd.assign rfl) ?_
            refine WA.done (by kernel_rfl) ?_
            exact DN.reachS ((b8, (wo2, wc2), D2)) (hF2) (Sx.put rfl (Sx.put rfl ((by repeat (first | exact Sx.refl | refine Sx.skip rfl ?_))))) (by repeat (first | exact Sp.here | exact Sp.sn | exact Sp.s0 | exact Fr.here | apply Sp.s2 | apply Sp.sx | apply Fr.fc | apply Fr.al | apply Fr.fa | apply Sp.sc | apply Sp.al | apply Sp.sa))
        · refine WO.h rfl Wt.none rfl (Hd.alloc (zs := [.int .u32 0, .slice none 0 0]) (by kernel_rfl) fun b8 => ⟨_, rfl, ?_⟩)
          refine WA.two (i := 4) (j := 6) (by kernel_rfl) ?_ ?_
          · refine WO.c rfl Wt.none rfl (Ent.func Try.call23 rfl) (step_tells 1#32 ((1#32 + order % 1000000#32) + BitVec.ofNat 32 i) 0 false [120#8]) (Sp.p (by repeat (first | exact Sp.here | exact Sp.sn | exact Sp.s0 | exact Fr.here | apply Sp.s2 | apply Sp.sx | apply Fr.fc | apply Fr.al | apply Fr.fa | apply Sp.sc | apply Sp.al | apply Sp.sa))) ?_
            rintro x2 H2 ⟨bd2, cd2, blk2, rfl, hbk2, rfl⟩
            refine WA.one (i := 6) (by kernel_rfl) ?_
            refine WO.h rfl Wt.none rfl (Hd.build1 (e := 5) (z := .int .u8 0) (by kernel_rfl) (by kernel_rfl) (by kernel_rfl) rfl (by rfl) fun b33 => ⟨_, rfl, ?_⟩)
            refine WA.one (i := 7) (by kernel_rfl) ?_
            refine WO.c rfl Wt.none rfl (Ent.func Try.call15 rfl) (keep_tells (eN i) (.slice wo i wc) (fullK (1#32 + order % 1000000#32) d i) (blk2 :: (row b33 (bc [d]) 5 :: D)) (hF.kv.mono (by repeat (first | exact Gr.refl | exact Gr.left Gr.refl | exact Gr.left (Gr.left Gr.refl) | exact Gr.left (Gr.app Gr.refl) | exact Gr.left (Gr.app (Gr.app Gr.refl)) | exact Gr.left (Gr.app (Gr.left Gr.refl)) | exact Gr.left (Gr.left (Gr.left Gr.refl)) | exact Gr.nil | exact Gr.app (Gr.left Gr.refl) | refine Gr.cons ?_ | refine Gr.app ?_ | refine Gr.both ?_ ?_ | refine Gr.put (by repeat (first | exact List.mem_cons_self | apply List.mem_cons_of_mem | apply List.mem_append_right)) ?_))) (by rw [fullK_len]; omega) (stepN 1#32 ((1#32 + order % 1000000#32) + BitVec.ofNat 32 i) 0 false [120#8]) (.slice none 0 0) _ (Bs_nil _) (hbk2.mono (by repeat (first | exact Gr.refl | exact Gr.left Gr.refl | exact Gr.left (Gr.left Gr.refl) | exact Gr.left (Gr.app Gr.refl) | exact Gr.left (Gr.app (Gr.app Gr.refl)) | exact Gr.left (Gr.app (Gr.left Gr.refl)) | exact Gr.left (Gr.left (Gr.left Gr.refl)) | exact Gr.nil | exact Gr.app (Gr.left Gr.refl) | refine Gr.cons ?_ | refine Gr.app ?_ | refine Gr.both ?_ ?_ | refine Gr.put (by repeat (first | exact List.mem_cons_self | apply List.mem_cons_of_mem | apply List.mem_append_right)) ?_))) 1 (.slice (some ⟨b33, 0, none⟩) 1 1) [d] (.inr ⟨b33, 0, 1, bc [d], 5, (0, 0), true, rfl, Nat.le_refl _, (by repeat (first | exact List.mem_cons_self | apply List.mem_cons_of_mem | apply List.mem_append_right)), rfl⟩)) (Sp.p (by repeat (first | exact Sp.here | exact Sp.sn | exact Sp.s0 | exact Fr.here | apply Sp.s2 | apply Sp.sx | apply Fr.fc | apply Fr.al | apply Fr.fa | apply Sp.sc | apply Sp.al | apply Sp.sa))) ?_
            rintro xa2 Ha2 ⟨w2, D2, rfl, hF2, rfl⟩
            rw [full_keep hf0 hf hlt] at hF2 ⊢
            obtain ⟨wo2, wc2, rfl⟩ := hF2.form
            dsimp only at hF2 ⊢
            rw [fullK_len] at hF2 ⊢
            refine WA.y (i := 8) (NoPanic.then (NoPanic.block (NoPanic.then (NoPanic.then (NoPanic.block (NoPanic.then (NoPanic.body))))))) rfl (by kernel_rfl) (by kernel_rfl) (by kernel_rfl) rfl (Yd.move rfl) ?_
            refine WA.y (i := 9) (NoPanic.then (NoPanic.block (NoPanic.then (NoPanic.then (NoPanic.block (NoPanic.then (NoPanic.body))))))) rfl (by kernel_rfl) (by kernel_rfl) (by kernel_rfl) rfl (Yd.extract rfl rfl) ?_
            refine WA.y (i := 10) (NoPanic.then (NoPanic.block (NoPanic.then (NoPanic.then (NoPanic.block (NoPanic.then (NoPanic.body))))))) rfl (by kernel_rfl) (by kernel_rfl) (by kernel_rfl) rfl (Yd.extract rfl rfl) ?_
            refine WA.one (i := 12) (by kernel_rfl) ?_
            refine WO.s rfl Wt.none (Hd.storeAll (n := 2) (by kernel_rfl) rfl rfl (by rfl) (by repeat (first | exact fun _ h => absurd h List.not_mem_nil | refine List.forall_mem_cons.2 ⟨by first | rfl | assumption, ?_⟩)) (by repeat (first | exact Fr.here | apply Fr.fc | apply Fr.al | apply Fr.fa)) (by rfl) ⟨rfl, ?_⟩)
            refine WA.y (i := 13) (NoPanic.then (NoPanic.block (NoPanic.then (NoPanic.then (NoPanic.block (NoPanic.then (NoPanic.body))))))) rfl (by kernel_rfl) (by kernel_rfl) (by kernel_rfl) rfl (Yd.assign rfl) ?_
            refine WA.done (by kernel_rfl) ?_
            exact DN.reachS ((b8, (wo2, wc2), D2)) (hF2) (Sx.put rfl (Sx.put rfl ((by repeat (first | exact Sx.refl | refine Sx.skip rfl ?_))))) (by repeat (first | exact Sp.here | exact Sp.sn | exact Sp.s0 | exact Fr.here | apply Sp.s2 | apply Sp.sx | apply Fr.fc | apply Fr.al | apply Fr.fa | apply Sp.sc | apply Sp.al | apply Sp.sa))
          · refine WO.h rfl Wt.none rfl (Hd.build1 (e := 5) (z := .int .u8 0) (by kernel_rfl) (by kernel_rfl) (by kernel_rfl) rfl (by rfl) fun b33 => ⟨_, rfl, ?_⟩)
            refine WA.one (i := 4) (by kernel_rfl) ?_
            refine WO.c rfl Wt.none rfl (Ent.func Try.call23 rfl) (step_tells 1#32 ((1#32 + order % 1000000#32) + BitVec.ofNat 32 i) 0 false [120#8]) (Sp.p (by repeat (first | exact Sp.here | exact Sp.sn | exact Sp.s0 | exact Fr.here | apply Sp.s2 | apply Sp.sx | apply Fr.fc | apply Fr.al | apply Fr.fa | apply Sp.sc | apply Sp.al | apply Sp.sa))) ?_
            rintro x2 H2 ⟨bd2, cd2, blk2, rfl, hbk2, rfl⟩
            refine WA.one (i := 7) (by kernel_rfl) ?_
            refine WO.c rfl Wt.none rfl (Ent.func Try.call15 rfl) (keep_tells (eN i) (.slice wo i wc) (fullK (1#32 + order % 1000000#32) d i) (blk2 :: (row b33 (bc [d]) 5 :: D)) (hF.kv.mono (by repeat (first | exact Gr.refl | exact Gr.left Gr.refl | exact Gr.left (Gr.left Gr.refl) | exact Gr.left (Gr.app Gr.refl) | exact Gr.left (Gr.app (Gr.app Gr.refl)) | exact Gr.left (Gr.app (Gr.left Gr.refl)) | exact Gr.left (Gr.left (Gr.left Gr.refl)) | exact Gr.nil | exact Gr.app (Gr.left Gr.refl) | refine Gr.cons ?_ | refine Gr.app ?_ | refine Gr.both ?_ ?_ | refine Gr.put (by repeat (first | exact List.mem_cons_self | apply List.mem_cons_of_mem | apply List.mem_append_right)) ?_))) (by rw [fullK_len]; omega) (stepN 1#32 ((1#32 + order % 1000000#32) + BitVec.ofNat 32 i) 0 false [120#8]) (.slice none 0 0) _ (Bs_nil _) (hbk2.mono (by repeat (first | exact Gr.refl | exact Gr.left Gr.refl | exact Gr.left (Gr.left Gr.refl) | exact Gr.left (Gr.app Gr.refl) | exact Gr.left (Gr.app (Gr.app Gr.refl)) | exact Gr.left (Gr.app (Gr.left Gr.refl)) | exact Gr.left (Gr.left (Gr.left Gr.refl)) | exact Gr.nil | exact Gr.app (Gr.left Gr.refl) | refine Gr.cons ?_ | refine Gr.app ?_ | refine Gr.both ?_ ?_ | refine Gr.put (by repeat (first | exact List.mem_cons_self | apply List.mem_cons_of_mem | apply List.mem_append_right)) ?_))) 1 (.slice (some ⟨b33, 0, none⟩) 1 1) [d] (.inr ⟨b33, 0, 1, bc [d], 5, (0, 0), true, rfl, Nat.le_refl _, (by repeat (first | exact List.mem_cons_self | apply List.mem_cons_of_mem | apply List.mem_append_right)), rfl⟩)) (Sp.p (by repeat (first | exact Sp.here | exact Sp.sn | exact Sp.s0 | exact Fr.here | apply Sp.s2 | apply Sp.sx | apply Fr.fc | apply Fr.al | apply Fr.fa | apply Sp.sc | apply Sp.al | apply Sp.sa))) ?_
            rintro xa2 Ha2 ⟨w2, D2, rfl, hF2, rfl⟩
            rw [full_keep hf0 hf hlt] at hF2 ⊢
            obtain ⟨wo2, wc2, rfl⟩ := hF2.form
            dsimp only at hF2 ⊢
            rw [fullK_len] at hF2 ⊢
            refine WA.y (i := 8) (NoPanic.then (NoPanic.block (NoPanic.then (NoPanic.then (NoPanic.block (NoPanic.then (NoPanic.body))))))) rfl (by kernel_rfl) (by kernel_rfl) (by kernel_rfl) rfl (Yd.move rfl) ?_
            refine WA.y (i := 9) (NoPanic.then (NoPanic.block (NoPanic.then (NoPanic.then (NoPanic.block (NoPanic.then (NoPanic.body))))))) rfl (by kernel_rfl) (by kernel_rfl) (by kernel_rfl) rfl (Yd.extract rfl rfl) ?_
            refine WA.y (i := 10) (NoPanic.then (NoPanic.block (NoPanic.then (NoPanic.then (NoPanic.block (NoPanic.then (NoPanic.body))))))) rfl (by kernel_rfl) (by kernel_rfl) (by kernel_rfl) rfl (Yd.extract rfl rfl) ?_
            refine WA.one (i := 12) (by kernel_rfl) ?_
            refine WO.s rfl Wt.none (Hd.storeAll (n := 2) (by kernel_rfl) rfl rfl (by rfl) (by repeat (first | exact fun _ h => absurd h List.not_mem_nil | refine List.forall_mem_cons.2 ⟨by first | rfl | assumption, ?_⟩)) (by repeat (first | exact Fr.here | apply Fr.fc | apply Fr.al | apply Fr.fa)) (by rfl) ⟨rfl, ?_⟩)
            refine WA.y (i := 13) (NoPanic.then (NoPanic.block (NoPanic.then (NoPanic.then (NoPanic.block (NoPanic.then (NoPanic.body))))))) rfl (by kernel_rfl) (by kernel_rfl) (by kernel_rfl) rfl (Yd.assign rfl) ?_
            refine WA.done (by kernel_rfl) ?_
            exact DN.reachS ((b8, (wo2, wc2), D2)) (hF2) (Sx.put rfl (Sx.put rfl ((by repeat (first | exact Sx.refl | refine Sx.skip rfl ?_))))) (by repeat (first | exact Sp.here | exact Sp.sn | exact Sp.s0 | exact Fr.here | apply Sp.s2 | apply Sp.sx | apply Fr.fc | apply Fr.al | apply Fr.fa | apply Sp.sc | apply Sp.al | apply Sp.sa))
      · refine WO.c rfl Wt.none rfl (Ent.func Try.call23 rfl) (step_tells 1#32 ((1#32 + order % 1000000#32) + BitVec.ofNat 32 i) 0 false [120#8]) (Sp.p (by repeat (first | exact Sp.here | exact Sp.sn | exact Sp.s0 | exact Fr.here | apply Sp.s2 | apply Sp.sx | apply Fr.fc | apply Fr.al | apply Fr.fa | apply Sp.sc | apply Sp.al | apply Sp.sa))) ?_
        rintro x2 H2 ⟨bd2, cd2, blk2, rfl, hbk2, rfl⟩
        refine WA.three (i := 0) (j := 6) (k := 11) (by kernel_rfl) ?_ ?_ ?_
        · refine WO.h rfl Wt.none rfl (Hd.loadAll (n := 2) (by kernel_rfl) rfl (by repeat (first | exact List.mem_cons_self | apply List.mem_cons_of_mem | apply List.mem_append_right)) (by rfl) ⟨_, rfl, ?_⟩)
          refine WA.two (i := 6) (j := 11) (by kernel_rfl) ?_ ?_
          · refine WO.h rfl Wt.none rfl (Hd.build1 (e := 5) (z := .int .u8 0) (by kernel_rfl) (by kernel_rfl) (by kernel_rfl) rfl (by rfl) fun b33 => ⟨_, rfl, ?_⟩)
            refine WA.two (i := 7) (j := 11) (by kernel_rfl) ?_ ?_
            · refine WO.c rfl Wt.none rfl (Ent.func Try.call15 rfl) (keep_tells (eN i) (.slice wo i wc) (fullK (1#32 + order % 1000000#32) d i) (blk2 :: (row b33 (bc [d]) 5 :: D)) (hF.kv.mono (by repeat (first | exact Gr.refl | exact Gr.left Gr.refl | exact Gr.left (Gr.left Gr.refl) | exact Gr.left (Gr.app Gr.refl) | exact Gr.left (Gr.app (Gr.app Gr.refl)) | exact Gr.left (Gr.app (Gr.left Gr.refl)) | exact Gr.left (Gr.left (Gr.left Gr.refl)) | exact Gr.nil | exact Gr.app (Gr.left Gr.refl) | refine Gr.cons ?_ | refine Gr.app ?_ | refine Gr.both ?_ ?_ | refine Gr.put (by repeat (first | exact List.mem_cons_self | apply List.mem_cons_of_mem | apply List.mem_append_right)) ?_))) (by rw [fullK_len]; omega) (stepN 1#32 ((1#32 + order % 1000000#32) + BitVec.ofNat 32 i) 0 false [120#8]) (.slice none 0 0) _ (Bs_nil _) (hbk2.mono (by repeat (first | exact Gr.refl | exact Gr.left Gr.refl | exact Gr.left (Gr.left Gr.refl) | exact Gr.left (Gr.app Gr.refl) | exact Gr.left (Gr.app (Gr.app Gr.refl)) | exact Gr.left (Gr.app (Gr.left Gr.refl)) | exact Gr.left (Gr.left (Gr.left Gr.refl)) | exact Gr.nil | exact Gr.app (Gr.left Gr.refl) | refine Gr.cons ?_ | refine Gr.app ?_ | refine Gr.both ?_ ?_ | refine Gr.put (by repeat (first | exact List.mem_cons_self | apply List.mem_cons_of_mem | apply List.mem_append_right)) ?_))) 1 (.slice (some ⟨b33, 0, none⟩) 1 1) [d] (.inr ⟨b33, 0, 1, bc [d], 5, (0, 0), true, rfl, Nat.le_refl _, (by repeat (first | exact List.mem_cons_self | apply List.mem_cons_of_mem | apply List.mem_append_right)), rfl⟩)) (Sp.p (by repeat (first | exact Sp.here | exact Sp.sn | exact Sp.s0 | exact Fr.here | apply Sp.s2 | apply Sp.sx | apply Fr.fc | apply Fr.al | apply Fr.fa | apply Sp.sc | apply Sp.al | apply Sp.sa))) ?_
              rintro xa2 Ha2 ⟨w2, D2, rfl, hF2, rfl⟩
              rw [full_keep hf0 hf hlt] at hF2 ⊢
              obtain ⟨wo2, wc2, rfl⟩ := hF2.form
              dsimp only at hF2 ⊢
              rw [fullK_len] at hF2 ⊢
              refine WA.y (i := 8) (NoPanic.then (NoPanic.block (NoPanic.then (NoPanic.then (NoPanic.block (NoPanic.then (NoPanic.body))))))) rfl (by kernel_rfl) (by kernel_rfl) (by kernel_rfl) rfl (Yd.move rfl) ?_
              refine WA.y (i := 9) (NoPanic.then (NoPanic.block (NoPanic.then (NoPanic.then (NoPanic.block (NoPanic.then (NoPanic.body))))))) rfl (by kernel_rfl) (by kernel_rfl) (by kernel_rfl) rfl (Yd.extract rfl rfl) ?_
              refine WA.y (i := 10) (NoPanic.then (NoPanic.block (NoPanic.then (NoPanic.then (NoPanic.block (NoPanic.then (NoPanic.body))))))) rfl (by kernel_rfl) (by kernel_rfl) (by kernel_rfl) rfl (Yd.extract rfl rfl) ?_
              refine WA.one (i := 11) (by kernel_rfl) ?_
              refine WO.h rfl Wt.none rfl (Hd.alloc (zs := [.int .u32 0, .slice none 0 0]) (by kernel_rfl) fun b8 => ⟨_, rfl, ?_⟩)
              refine WA.one (i := 12) (by kernel_rfl) ?_
              refine WO.s rfl Wt.none (Hd.storeAll (n := 2) (by kernel_rfl) rfl rfl (by rfl) (by repeat (first | exact fun _ h => absurd h List.not_mem_nil | refine List.forall_mem_cons.2 ⟨by first | rfl | assumption, ?_⟩)) (by repeat (first | exact Fr.here | apply Fr.fc | apply Fr.al | apply Fr.fa)) (by rfl) ⟨rfl, ?_⟩)
              refine WA.y (i := 13) (NoPanic.then (NoPanic.block (NoPanic.then (NoPanic.then (NoPanic.block (NoPanic.then (NoPanic.body))))))) rfl (by kernel_rfl) (by kernel_rfl) (by kernel_rfl) rfl (Yd.assign rfl) ?_
              refine WA.done (by kernel_rfl) ?_
              exact DN.reachS ((b8, (wo2, wc2), D2)) (hF2) (Sx.put rfl (Sx.put rfl ((by repeat (first | exact Sx.refl | refine Sx.skip rfl ?_))))) (by repeat (first | exact Sp.here | exact Sp.sn | exact Sp.s0 | exact Fr.here | apply Sp.s2 | apply Sp.sx | apply Fr.fc | apply Fr.al | apply Fr.fa | apply Sp.sc | apply Sp.al | apply Sp.sa))
            · refine WO.h rfl Wt.none rfl (Hd.alloc (zs := [.int .u32 0, .slice none 0 0]) (by kernel_rfl) fun b8 => ⟨_, rfl, ?_⟩)
              refine WA.one (i := 7) (by kernel_rfl) ?_
              refine WO.c rfl Wt.none rfl (Ent.func Try.call15 rfl) (keep_tells (eN i) (.slice wo i wc) (fullK (1#32 + order % 1000000#32) d i) (blk2 :: (row b33 (bc [d]) 5 :: D)) (hF.kv.mono (by repeat (first | exact Gr.refl | exact Gr.left Gr.refl | exact Gr.left (Gr.left Gr.refl) | exact Gr.left (Gr.app Gr.refl) | exact Gr.left (Gr.app (Gr.app Gr.refl)) | exact Gr.left (Gr.app (Gr.left Gr.refl)) | exact Gr.left (Gr.left (Gr.left Gr.refl)) | exact Gr.nil | exact Gr.app (Gr.left Gr.refl) | refine Gr.cons ?_ | refine Gr.app ?_ | refine Gr.both ?_ ?_ | refine Gr.put (by repeat (first | exact List.mem_cons_self | apply List.mem_cons_of_mem | apply List.mem_append_right)) ?_))) (by rw [fullK_len]; omega) (stepN 1#32 ((1#32 + order % 1000000#32) + BitVec.ofNat 32 i) 0 false [120#8]) (.slice none 0 0) _ (Bs_nil _) (hbk2.mono (by repeat (first | exact Gr.refl | exact Gr.left Gr.refl | exact Gr.left (Gr.left Gr.refl) | exact Gr.left (Gr.app Gr.refl) | exact Gr.left (Gr.app (Gr.app Gr.refl)) | exact Gr.left (Gr.app (Gr.left Gr.refl)) | exact Gr.left (Gr.left (Gr.left Gr.refl)) | exact Gr.nil | exact Gr.app (Gr.left Gr.refl) | refine Gr.cons ?_ | refine Gr.app ?_ | refine Gr.both ?_ ?_ | refine Gr.put (by repeat (first | exact List.mem_cons_self | apply List.mem_cons_of_mem | apply List.mem_append_right)) ?_))) 1 (.slice (some ⟨b33, 0, none⟩) 1 1) [d] (.inr ⟨b33, 0, 1, bc [d], 5, (0, 0), true, rfl, Nat.le_refl _, (by repeat (first | exact List.mem_cons_self | apply List.mem_cons_of_mem | apply List.mem_append_right)), rfl⟩)) (Sp.p (by repeat (first | exact Sp.here | exact Sp.sn | exact Sp.s0 | exact Fr.here | apply Sp.s2 | apply Sp.sx | apply Fr.fc | apply Fr.al | apply Fr.fa | apply Sp.sc | apply Sp.al | apply Sp.sa))) ?_
              rintro xa2 Ha2 ⟨w2, D2, rfl, hF2, rfl⟩
              rw [full_keep hf0 hf hlt] at hF2 ⊢
              obtain ⟨wo2, wc2, rfl⟩ := hF2.form
              dsimp only at hF2 ⊢
              rw [fullK_len] at hF2 ⊢
              refine WA.y (i := 8) (NoPanic.then (NoPanic.block (NoPanic.then (NoPanic.then (NoPanic.block (NoPanic.then (NoPanic.body))))))) rfl (by kernel_rfl) (by kernel_rfl) (by kernel_rfl) rfl (Yd.move rfl) ?_
              refine WA.y (i := 9) (NoPanic.then (NoPanic.block (NoPanic.then (NoPanic.then (NoPanic.block (NoPanic.then (NoPanic.body))))))) rfl (by kernel_rfl) (by kernel_rfl) (by kernel_rfl) rfl (Yd.extract rfl rfl) ?_
              refine WA.y (i := 10) (NoPanic.then (NoPanic.block (NoPanic.then (NoPanic.then (NoPanic.block (NoPanic.then (NoPanic.body))))))) rfl (by kernel_rfl) (by kernel_rfl) (by kernel_rfl) rfl (Yd.extract rfl rfl) ?_
              refine WA.one (i := 12) (by kernel_rfl) ?_
              refine WO.s rfl Wt.none (Hd.storeAll (n := 2) (by kernel_rfl) rfl rfl (by rfl) (by repeat (first | exact fun _ h => absurd h List.not_mem_nil | refine List.forall_mem_cons.2 ⟨by first | rfl | assumption, ?_⟩)) (by repeat (first | exact Fr.here | apply Fr.fc | apply Fr.al | apply Fr.fa)) (by rfl) ⟨rfl, ?_⟩)
              refine WA.y (i := 13) (NoPanic.then (NoPanic.block (NoPanic.then (NoPanic.then (NoPanic.block (NoPanic.then (NoPanic.body))))))) rfl (by kernel_rfl) (by kernel_rfl) (by kernel_rfl) rfl (Yd.assign rfl) ?_
              refine WA.done (by kernel_rfl) ?_
              exact DN.reachS ((b8, (wo2, wc2), D2)) (hF2) (Sx.put rfl (Sx.put rfl ((by repeat (first | exact Sx.refl | refine Sx.skip rfl ?_))))) (by repeat (first | exact Sp.here | exact Sp.sn | exact Sp.s0 | exact Fr.here | apply Sp.s2 | apply Sp.sx | apply Fr.fc | apply Fr.al | apply Fr.fa | apply Sp.sc | apply Sp.al | apply Sp.sa))
          · refine WO.h rfl Wt.none rfl (Hd.alloc (zs := [.int .u32 0, .slice none 0 0]) (by kernel_rfl) fun b8 => ⟨_, rfl, ?_⟩)
            refine WA.one (i := 6) (by kernel_rfl) ?_
            refine WO.h rfl Wt.none rfl (Hd.build1 (e := 5) (z := .int .u8 0) (by kernel_rfl) (by kernel_rfl) (by kernel_rfl) rfl (by rfl) fun b33 => ⟨_, rfl, ?_⟩)
            refine WA.one (i := 7) (by kernel_rfl) ?_
            refine WO.c rfl Wt.none rfl (Ent.func Try.call15 rfl) (keep_tells (eN i) (.slice wo i wc) (fullK (1#32 + order % 1000000#32) d i) (blk2 :: (row b33 (bc [d]) 5 :: D)) (hF.kv.mono (by repeat (first | exact Gr.refl | exact Gr.left Gr.refl | exact Gr.left (Gr.left Gr.refl) | exact Gr.left (Gr.app Gr.refl) | exact Gr.left (Gr.app (Gr.app Gr.refl)) | exact Gr.left (Gr.app (Gr.left Gr.refl)) | exact Gr.left (Gr.left (Gr.left Gr.refl)) | exact Gr.nil | exact Gr.app (Gr.left Gr.refl) | refine Gr.cons ?_ | refine Gr.app ?_ | refine Gr.both ?_ ?_ | refine Gr.put (by repeat (first | exact List.mem_cons_self | apply List.mem_cons_of_mem | apply List.mem_append_right)) ?_))) (by rw [fullK_len]; omega) (stepN 1#32 ((1#32 + order % 1000000#32) + BitVec.ofNat 32 i) 0 false [120#8]) (.slice none 0 0) _ (Bs_nil _) (hbk2.mono (by repeat (first | exact Gr.refl | exact Gr.left Gr.refl | exact Gr.left (Gr.left Gr.refl) | exact Gr.left (Gr.app Gr.refl) | exact Gr.left (Gr.app (Gr.app Gr.refl)) | exact Gr.left (Gr.app (Gr.left Gr.refl)) | exact Gr.left (Gr.left (Gr.left Gr.refl)) | exact Gr.nil | exact Gr.app (Gr.left Gr.refl) | refine Gr.cons ?_ | refine Gr.app ?_ | refine Gr.both ?_ ?_ | refine Gr.put (by repeat (first | exact List.mem_cons_self | apply List.mem_cons_of_mem | apply List.mem_append_right)) ?_))) 1 (.slice (some ⟨b33, 0, none⟩) 1 1) [d] (.inr ⟨b33, 0, 1, bc [d], 5, (0, 0), true, rfl, Nat.le_refl _, (by repeat (first | exact List.mem_cons_self | apply List.mem_cons_of_mem | apply List.mem_append_right)), rfl⟩)) (Sp.p (by repeat (first | exact Sp.here | exact Sp.sn | exact Sp.s0 | exact Fr.here | apply Sp.s2 | apply Sp.sx | apply Fr.fc | apply Fr.al | apply Fr.fa | apply Sp.sc | apply Sp.al | apply Sp.sa))) ?_
            rintro xa2 Ha2 ⟨w2, D2, rfl, hF2, rfl⟩
            rw [full_keep hf0 hf hlt] at hF2 ⊢
            obtain ⟨wo2, wc2, rfl⟩ := hF2.form
            dsimp only at hF2 ⊢
            rw [fullK_len] at hF2 ⊢
            refine WA.y (i := 8) (NoPanic.then (NoPanic.block (NoPanic.then (NoPanic.then (NoPanic.block (NoPanic.then (NoPanic.body))))))) rfl (by kernel_rfl) (by kernel_rfl) (by kernel_rfl) rfl (Yd.move rfl) ?_
            refine WA.y (i := 9) (NoPanic.then (NoPanic.block (NoPanic.then (NoPanic.then (NoPanic.block (NoPanic.then (NoPanic.body))))))) rfl (by kernel_rfl) (by kernel_rfl) (by kernel_rfl) rfl (Yd.extract rfl rfl) ?_
            refine WA.y (i := 10) (NoPanic.then (NoPanic.block (NoPanic.then (NoPanic.then (NoPanic.block (NoPanic.then (NoPanic.body))))))) rfl (by kernel_rfl) (by kernel_rfl) (by kernel_rfl) rfl (Yd.extract rfl rfl) ?_
            refine WA.one (i := 12) (by kernel_rfl) ?_
            refine WO.s rfl Wt.none (Hd.storeAll (n := 2) (by kernel_rfl) rfl rfl (by rfl) (by repeat (first | exact fun _ h => absurd h List.not_mem_nil | refine List.forall_mem_cons.2 ⟨by first | rfl | assumption, ?_⟩)) (by repeat (first | exact Fr.here | apply Fr.fc | apply Fr.al | apply Fr.fa)) (by rfl) ⟨rfl, ?_⟩)
            refine WA.y (i := 13) (NoPanic.then (NoPanic.block (NoPanic.then (NoPanic.then (NoPanic.block (NoPanic.then (NoPanic.body))))))) rfl (by kernel_rfl) (by kernel_rfl) (by kernel_rfl) rfl (Yd.assign rfl) ?_
            refine WA.done (by kernel_rfl) ?_
            exact DN.reachS ((b8, (wo2, wc2), D2)) (hF2) (Sx.put rfl (Sx.put rfl ((by repeat (first | exact Sx.refl | refine Sx.skip rfl ?_))))) (by repeat (first | exact Sp.here | exact Sp.sn | exact Sp.s0 | exact Fr.here | apply Sp.s2 | apply Sp.sx | apply Fr.fc | apply Fr.al | apply Fr.fa | apply Sp.sc | apply Sp.al | apply Sp.sa))
        · refine WO.h rfl Wt.none rfl (Hd.build1 (e := 5) (z := .int .u8 0) (by kernel_rfl) (by kernel_rfl) (by kernel_rfl) rfl (by rfl) fun b33 => ⟨_, rfl, ?_⟩)
          refine WA.two (i := 0) (j := 11) (by kernel_rfl) ?_ ?_
          · refine WO.h rfl Wt.none rfl (Hd.loadAll (n := 2) (by kernel_rfl) rfl (by repeat (first | exact List.mem_cons_self | apply List.mem_cons_of_mem | apply List.mem_append_right)) (by rfl) ⟨_, rfl, ?_⟩)
            refine WA.two (i := 7) (j := 11) (by kernel_rfl) ?_ ?_
            · refine WO.c rfl Wt.none rfl (Ent.func Try.call15 rfl) (keep_tells (eN i) (.slice wo i wc) (fullK (1#32 + order % 1000000#32) d i) (blk2 :: (row b33 (bc [d]) 5 :: D)) (hF.kv.mono (by repeat (first | exact Gr.refl | exact Gr.left Gr.refl | exact Gr.left (Gr.left Gr.refl) | exact Gr.left (Gr.app Gr.refl) | exact Gr.left (Gr.app (Gr.app Gr.refl)) | exact Gr.left (Gr.app (Gr.left Gr.refl)) | exact Gr.left (Gr.left (Gr.left Gr.refl)) | exact Gr.nil | exact Gr.app (Gr.left Gr.refl) | refine Gr.cons ?_ | refine Gr.app ?_ | refine Gr.both ?_ ?_ | refine Gr.put (by repeat (first | exact List.mem_cons_self | apply List.mem_cons_of_mem | apply List.mem_append_right)) ?_))) (by rw [fullK_len]; omega) (stepN 1#32 ((1#32 + order % 1000000#32) + BitVec.ofNat 32 i) 0 false [120#8]) (.slice none 0 0) _ (Bs_nil _) (hbk2.mono (by repeat (first | exact Gr.refl | exact Gr.left Gr.refl | exact Gr.left (Gr.left Gr.refl) | exact Gr.left (Gr.app Gr.refl) | exact Gr.left (Gr.app (Gr.app Gr.refl)) | exact Gr.left (Gr.app (Gr.left Gr.refl)) | exact Gr.left (Gr.left (Gr.left Gr.refl)) | exact Gr.nil | exact Gr.app (Gr.left Gr.refl) | refine Gr.cons ?_ | refine Gr.app ?_ | refine Gr.both ?_ ?_ | refine Gr.put (by repeat (first | exact List.mem_cons_self | apply List.mem_cons_of_mem | apply List.mem_append_right)) ?_))) 1 (.slice (some ⟨b33, 0, none⟩) 1 1) [d] (.inr ⟨b33, 0, 1, bc [d], 5, (0, 0), true, rfl, Nat.le_refl _, (by repeat (first | exact List.mem_cons_self | apply List.mem_cons_of_mem | apply List.mem_append_right)), rfl⟩)) (Sp.p (by repeat (first | exact Sp.here | exact Sp.sn | exact Sp.s0 | exact Fr.here | apply Sp.s2 | apply Sp.sx | apply Fr.fc | apply Fr.al | apply Fr.fa | apply Sp.sc | apply Sp.al | apply Sp.sa))) ?_
              rintro xa2 Ha2 ⟨w2, D2, rfl, hF2, rfl⟩
              rw [full_keep hf0 hf hlt] at hF2 ⊢
              obtain ⟨wo2, wc2, rfl⟩ := hF2.form
              dsimp only at hF2 ⊢
              rw [fullK_len] at hF2 ⊢
              refine WA.y (i := 8) (NoPanic.then (NoPanic.block (NoPanic.then (NoPanic.then (NoPanic.block (NoPanic.then (NoPanic.body))))))) rfl (by kernel_rfl) (by kernel_rfl) (by kernel_rfl) rfl (Yd.move rfl) ?_
              refine WA.y (i := 9) (NoPanic.then (NoPanic.block (NoPanic.then (NoPanic.then (NoPanic.block (NoPanic.then (NoPanic.body))))))) rfl (by kernel_rfl) (by kernel_rfl) (by kernel_rfl) rfl (Yd.extract rfl rfl) ?_
              refine WA.y (i := 10) (NoPanic.then (NoPanic.block (NoPanic.then (NoPanic.then (NoPanic.block (NoPanic.then (NoPanic.body))))))) rfl (by kernel_rfl) (by kernel_rfl) (by kernel_rfl) rfl (Yd.extract rfl rfl) ?_
              refine WA.one (i := 11) (by kernel_rfl) ?_
              refine WO.h rfl Wt.none rfl (Hd.alloc (zs := [.int .u32 0, .slice none 0 0]) (by kernel_rfl) fun b8 => ⟨_, rfl, ?_⟩)
              refine WA.one (i := 12) (by kernel_rfl) ?_
              refine WO.s rfl Wt.none (Hd.storeAll (n := 2) (by kernel_rfl) rfl rfl (by rfl) (by repeat (first | exact fun _ h => absurd h List.not_mem_nil | refine List.forall_mem_cons.2 ⟨by first | rfl | assumption, ?_⟩)) (by repeat (first | exact Fr.here | apply Fr.fc | apply Fr.al | apply Fr.fa)) (by rfl) ⟨rfl, ?_⟩)
              refine WA.y (i := 13) (NoPanic.then (NoPanic.block (NoPanic.then (NoPanic.then (NoPanic.block (NoPanic.then (NoPanic.body))))))) rfl (by kernel_rfl) (by kernel_rfl) (by kernel_rfl) rfl (Yd.assign rfl) ?_
              refine WA.done (by kernel_rfl) ?_
              exact DN.reachS ((b8, (wo2, wc2), D2)) (hF2) (Sx.put rfl (Sx.put rfl ((by repeat (first | exact Sx.refl | refine Sx.skip rfl ?_))))) (by repeat (first | exact Sp.here | exact Sp.sn | exact Sp.s0 | exact Fr.here | apply Sp.s2 | apply Sp.sx | apply Fr.fc | apply Fr.al | apply Fr.fa | apply Sp.sc | apply Sp.al | apply Sp.sa))
            · refine WO.h rfl Wt.none rfl (Hd.alloc (zs := [.int .u32 0, .slice none 0 0]) (by kernel_rfl) fun b8 => ⟨_, rfl, ?_⟩)
              refine WA.one (i := 7) (by kernel_rfl) ?_
              refine WO.c rfl Wt.none rfl (Ent.func Try.call15 rfl) (keep_tells (eN i) (.slice wo i wc) (fullK (1#32 + order % 1000000#32) d i) (blk2 :: (row b33 (bc [d]) 5 :: D)) (hF.kv.mono (by repeat (first | exact Gr.refl | exact Gr.left Gr.refl | exact Gr.left (Gr.left Gr.refl) | exact Gr.left (Gr.app Gr.refl) | exact Gr.left (Gr.app (Gr.app Gr.refl)) | exact Gr.left (Gr.app (Gr.left Gr.refl)) | exact Gr.left (Gr.left (Gr.left Gr.refl)) | exact Gr.nil | exact Gr.app (Gr.left Gr.refl) | refine Gr.cons ?_ | refine Gr.app ?_ | refine Gr.both ?_ ?_ | refine Gr.put (by repeat (first | exact List.mem_cons_self | apply List.mem_cons_of_mem | apply List.mem_append_right)) ?_))) (by rw [fullK_len]; omega) (stepN 1#32 ((1#32 + order % 1000000#32) + BitVec.ofNat 32 i) 0 false [120#8]) (.slice none 0 0) _ (Bs_nil _) (hbk2.mono (by repeat (first | exact Gr.refl | exact Gr.left Gr.refl | exact Gr.left (Gr.left Gr.refl) | exact Gr.left (Gr.app Gr.refl) | exact Gr.left (Gr.app (Gr.app Gr.refl)) | exact Gr.left (Gr.app (Gr.left Gr.refl)) | exact Gr.left (Gr.left (Gr.left Gr.refl)) | exact Gr.nil | exact Gr.app (Gr.left Gr.refl) | refine Gr.cons ?_ | refine Gr.app ?_ | refine Gr.both ?_ ?_ | refine Gr.put (by repeat (first | exact List.mem_cons_self | apply List.mem_cons_of_mem | apply List.mem_append_right)) ?_))) 1 (.slice (some ⟨b33, 0, none⟩) 1 1) [d] (.inr ⟨b33, 0, 1, bc [d], 5, (0, 0), true, rfl, Nat.le_refl _, (by repeat (first | exact List.mem_cons_self | apply List.mem_cons_of_mem | apply List.mem_append_right)), rfl⟩)) (Sp.p (by repeat (first | exact Sp.here | exact Sp.sn | exact Sp.s0 | exact Fr.here | apply Sp.s2 | apply Sp.sx | apply Fr.fc | apply Fr.al | apply Fr.fa | apply Sp.sc | apply Sp.al | apply Sp.sa))) ?_
              rintro xa2 Ha2 ⟨w2, D2, rfl, hF2, rfl⟩
              rw [full_keep hf0 hf hlt] at hF2 ⊢
              obtain ⟨wo2, wc2, rfl⟩ := hF2.form
              dsimp only at hF2 ⊢
              rw [fullK_len] at hF2 ⊢
              refine WA.y (i := 8) (NoPanic.then (NoPanic.block (NoPanic.then (NoPanic.then (NoPanic.block (NoPanic.then (NoPanic.body))))))) rfl (by kernel_rfl) (by kernel_rfl) (by kernel_rfl) rfl (Yd.move rfl) ?_
              refine WA.y (i := 9) (NoPanic.then (NoPanic.block (NoPanic.then (NoPanic.then (NoPanic.block (NoPanic.then (NoPanic.body))))))) rfl (by kernel_rfl) (by kernel_rfl) (by kernel_rfl) rfl (Yd.extract rfl rfl) ?_
              refine WA.y (i := 10) (NoPanic.then (NoPanic.block (NoPanic.then (NoPanic.then (NoPanic.block (NoPanic.then (NoPanic.body))))))) rfl (by kernel_rfl) (by kernel_rfl) (by kernel_rfl) rfl (Yd.extract rfl rfl) ?_
              refine WA.one (i := 12) (by kernel_rfl) ?_
              refine WO.s rfl Wt.none (Hd.storeAll (n := 2) (by kernel_rfl) rfl rfl (by rfl) (by repeat (first | exact fun _ h => absurd h List.not_mem_nil | refine List.forall_mem_cons.2 ⟨by first | rfl | assumption, ?_⟩)) (by repeat (first | exact Fr.here | apply Fr.fc | apply Fr.al | apply Fr.fa)) (by rfl) ⟨rfl, ?_⟩)
              refine WA.y (i := 13) (NoPanic.then (NoPanic.block (NoPanic.then (NoPanic.then (NoPanic.block (NoPanic.then (NoPanic.body))))))) rfl (by kernel_rfl) (by kernel_rfl) (by kernel_rfl) rfl (Yd.assign rfl) ?_
              refine WA.done (by kernel_rfl) ?_
              exact DN.reachS ((b8, (wo2, wc2), D2)) (hF2) (Sx.put rfl (Sx.put rfl ((by repeat (first | exact Sx.refl | refine Sx.skip rfl ?_))))) (by repeat (first | exact Sp.here | exact Sp.sn | exact Sp.s0 | exact Fr.here | apply Sp.s2 | apply Sp.sx | apply Fr.fc | apply Fr.al | apply Fr.fa | apply Sp.sc | apply Sp.al | apply Sp.sa))
          · refine WO.h rfl Wt.none rfl (Hd.alloc (zs := [.int .u32 0, .slice none 0 0]) (by kernel_rfl) fun b8 => ⟨_, rfl, ?_⟩)
            refine WA.one (i := 0) (by kernel_rfl) ?_
            refine WO.h rfl Wt.none rfl (Hd.loadAll (n := 2) (by kernel_rfl) rfl (by repeat (first | exact List.mem_cons_self | apply List.mem_cons_of_mem | apply List.mem_append_right)) (by rfl) ⟨_, rfl, ?_⟩)
            refine WA.one (i := 7) (by kernel_rfl) ?_
            refine WO.c rfl Wt.none rfl (Ent.func Try.call15 rfl) (keep_tells (eN i) (.slice wo i wc) (fullK (1#32 + order % 1000000#32) d i) (blk2 :: (row b33 (bc [d]) 5 :: D)) (hF.kv.mono (by repeat (first | exact Gr.refl | exact Gr.left Gr.refl | exact Gr.left (Gr.left Gr.refl) | exact Gr.left (Gr.app Gr.refl) | exact Gr.left (Gr.app (Gr.app Gr.refl)) | exact Gr.left (Gr.app (Gr.left Gr.refl)) | exact Gr.left (Gr.left (Gr.left Gr.refl)) | exact Gr.nil | exact Gr.app (Gr.left Gr.refl) | refine Gr.cons ?_ | refine Gr.app ?_ | refine Gr.both ?_ ?_ | refine Gr.put (by repeat (first | exact List.mem_cons_self | apply List.mem_cons_of_mem | apply List.mem_append_right)) ?_))) (by rw [fullK_len]; omega) (stepN 1#32 ((1#32 + order % 1000000#32) + BitVec.ofNat 32 i) 0 false [120#8]) (.slice none 0 0) _ (Bs_nil _) (hbk2.mono (by repeat (first | exact Gr.refl | exact Gr.left Gr.refl | exact Gr.left (Gr.left Gr.refl) | exact Gr.left (Gr.app Gr.refl) | exact Gr.left (Gr.app (Gr.app Gr.refl)) | exact Gr.left (Gr.app (Gr.left Gr.refl)) | exact Gr.left (Gr.left (Gr.left Gr.refl)) | exact Gr.nil | exact Gr.app (Gr.left Gr.refl) | refine Gr.cons ?_ | refine Gr.app ?_ | refine Gr.both ?_ ?_ | refine Gr.put (by repeat (first | exact List.mem_cons_self | apply List.mem_cons_of_mem | apply List.mem_append_right)) ?_))) 1 (.slice (some ⟨b33, 0, none⟩) 1 1) [d] (.inr ⟨b33, 0, 1, bc [d], 5, (0, 0), true, rfl, Nat.le_refl _, (by repeat (first | exact List.mem_cons_self | apply List.mem_cons_of_mem | apply List.mem_append_right)), rfl⟩)) (Sp.p (by repeat (first | exact Sp.here | exact Sp.sn | exact Sp.s0 | exact Fr.here | apply Sp.s2 | apply Sp.sx | apply Fr.fc | apply Fr.al | apply Fr.fa | apply Sp.sc | apply Sp.al | apply Sp.sa))) ?_
            rintro xa2 Ha2 ⟨w2, D2, rfl, hF2, rfl⟩
            rw [full_keep hf0 hf hlt] at hF2 ⊢
            obtain ⟨wo2, wc2, rfl⟩ := hF2.form
            dsimp only at hF2 ⊢
            rw [fullK_len] at hF2 ⊢
            refine WA.y (i := 8) (NoPanic.then (NoPanic.block (NoPanic.then (NoPanic.then (NoPanic.block (NoPanic.then (NoPanic.body))))))) rfl (by kernel_rfl) (by kernel_rfl) (by kernel_rfl) rfl (Yd.move rfl) ?_
            refine WA.y (i := 9) (NoPanic.then (NoPanic.block (NoPanic.then (NoPanic.then (NoPanic.block (NoPanic.then (NoPanic.body))))))) rfl (by kernel_rfl) (by kernel_rfl) (by kernel_rfl) rfl (Yd.extract rfl rfl) ?_
            refine WA.y (i := 10) (NoPanic.then (NoPanic.block (NoPanic.then (NoPanic.then (NoPanic.block (NoPanic.then (NoPanic.body))))))) rfl (by kernel_rfl) (by kernel_rfl) (by kernel_rfl) rfl (Yd.extract rfl rfl) ?_
            refine WA.one (i := 12) (by kernel_rfl) ?_
            refine WO.s rfl Wt.none (Hd.storeAll (n := 2) (by kernel_rfl) rfl rfl (by rfl) (by repeat (first | exact fun _ h => absurd h List.not_mem_nil | refine List.forall_mem_cons.2 ⟨by first | rfl | assumption, ?_⟩)) (by repeat (first | exact Fr.here | apply Fr.fc | apply Fr.al | apply Fr.fa)) (by rfl) ⟨rfl, ?_⟩)
            refine WA.y (i := 13) (NoPanic.then (NoPanic.block (NoPanic.then (NoPanic.then (NoPanic.block (NoPanic.then (NoPanic.body))))))) rfl (by kernel_rfl) (by kernel_rfl) (by kernel_rfl) rfl (Yd.assign rfl) ?_
            refine WA.done (by kernel_rfl) ?_
            exact DN.reachS ((b8, (wo2, wc2), D2)) (hF2) (Sx.put rfl (Sx.put rfl ((by repeat (first | exact Sx.refl | refine Sx.skip rfl ?_))))) (by repeat (first | exact Sp.here | exact Sp.sn | exact Sp.s0 | exact Fr.here | apply Sp.s2 | apply Sp.sx | apply Fr.fc | apply Fr.al | apply Fr.fa | apply Sp.sc | apply Sp.al | apply Sp.sa))
        · refine WO.h rfl Wt.none rfl (Hd.alloc (zs := [.int .u32 0, .slice none 0 0]) (by kernel_rfl) fun b8 => ⟨_, rfl, ?_⟩)
          refine WA.two (i := 0) (j := 6) (by kernel_rfl) ?_ ?_
          · refine WO.h rfl Wt.none rfl (Hd.loadAll (n := 2) (by kernel_rfl) rfl (by repeat (first | exact List.mem_cons_self | apply List.mem_cons_of_mem | apply List.mem_append_right)) (by rfl) ⟨_, rfl, ?_⟩)
            refine WA.one (i := 6) (by kernel_rfl) ?_
            refine WO.h rfl Wt.none rfl (Hd.build1 (e := 5) (z := .int .u8 0) (by kernel_rfl) (by kernel_rfl) (by kernel_rfl) rfl (by rfl) fun b33 => ⟨_, rfl, ?_⟩)
            refine WA.one (i := 7) (by kernel_rfl) ?_
            refine WO.c rfl Wt.none rfl (Ent.func Try.call15 rfl) (keep_tells (eN i) (.slice wo i wc) (fullK (1#32 + order % 1000000#32) d i) (blk2 :: (row b33 (bc [d]) 5 :: D)) (hF.kv.mono (by repeat (first | exact Gr.refl | exact Gr.left Gr.refl | exact Gr.left (Gr.left Gr.refl) | exact Gr.left (Gr.app Gr.refl) | exact Gr.left (Gr.app (Gr.app Gr.refl)) | exact Gr.left (Gr.app (Gr.left Gr.refl)) | exact Gr.left (Gr.left (Gr.left Gr.refl)) | exact Gr.nil | exact Gr.app (Gr.left Gr.refl) | refine Gr.cons ?_ | refine Gr.app ?_ | refine Gr.both ?_ ?_ | refine Gr.put (by repeat (first | exact List.mem_cons_self | apply List.mem_cons_of_mem | apply List.mem_append_right)) ?_))) (by rw [fullK_len]; omega) (stepN 1#32 ((1#32 + order % 1000000#32) + BitVec.ofNat 32 i) 0 false [120#8]) (.slice none 0 0) _ (Bs_nil _) (hbk2.mono (by repeat (first | exact Gr.refl | exact Gr.left Gr.refl | exact Gr.left (Gr.left Gr.refl) | exact Gr.left (Gr.app Gr.refl) | exact Gr.left (Gr.app (Gr.app Gr.refl)) | exact Gr.left (Gr.app (Gr.left Gr.refl)) | exact Gr.left (Gr.left (Gr.left Gr.refl)) | exact Gr.nil | exact Gr.app (Gr.left Gr.refl) | refine Gr.cons ?_ | refine Gr.app ?_ | refine Gr.both ?_ ?_ | refine Gr.put (by repeat (first | exact List.mem_cons_self | apply List.mem_cons_of_mem | apply List.mem_append_right)) ?_))) 1 (.slice (some ⟨b33, 0, none⟩) 1 1) [d] (.inr ⟨b33, 0, 1, bc [d], 5, (0, 0), true, rfl, Nat.le_refl _, (by repeat (first | exact List.mem_cons_self | apply List.mem_cons_of_mem | apply List.mem_append_right)), rfl⟩)) (Sp.p (by repeat (first | exact Sp.here | exact Sp.sn | exact Sp.s0 | exact Fr.here | apply Sp.s2 | apply Sp.sx | apply Fr.fc | apply Fr.al | apply Fr.fa | apply Sp.sc | apply Sp.al | apply Sp.sa))) ?_
            rintro xa2 Ha2 ⟨w2, D2, rfl, hF2, rfl⟩
            rw [full_keep hf0 hf hlt] at hF2 ⊢
            obtain ⟨wo2, wc2, rfl⟩ := hF2.form
            dsimp only at hF2 ⊢
            rw [fullK_len] at hF2 ⊢
            refine WA.y (i := 8) (NoPanic.then (NoPanic.block (NoPanic.then (NoPanic.then (NoPanic.block (NoPanic.then (NoPanic.body))))))) rfl (by kernel_rfl) (by kernel_rfl) (by kernel_rfl) rfl (Yd.move rfl) ?_
            refine WA.y (i := 9) (NoPanic.then (NoPanic.block (NoPanic.then (NoPanic.then (NoPanic.block (NoPanic.then (NoPanic.body))))))) rfl (by kernel_rfl) (by kernel_rfl) (by kernel_rfl) rfl (Yd.extract rfl rfl) ?_
            refine WA.y (i := 10) (NoPanic.then (NoPanic.block (NoPanic.then (NoPanic.then (NoPanic.block (NoPanic.then (NoPanic.body))))))) rfl (by kernel_rfl) (by kernel_rfl) (by kernel_rfl) rfl (Yd.extract rfl rfl) ?_
            refine WA.one (i := 12) (by kernel_rfl) ?_
            refine WO.s rfl Wt.none (Hd.storeAll (n := 2) (by kernel_rfl) rfl rfl (by rfl) (by repeat (first | exact fun _ h => absurd h List.not_mem_nil | refine List.forall_mem_cons.2 ⟨by first | rfl | assumption, ?_⟩)) (by repeat (first | exact Fr.here | apply Fr.fc | apply Fr.al | apply Fr.fa)) (by rfl) ⟨rfl, ?_⟩)
            refine WA.y (i := 13) (NoPanic.then (NoPanic.block (NoPanic.then (NoPanic.then (NoPanic.block (NoPanic.then (NoPanic.body))))))) rfl (by kernel_rfl) (by kernel_rfl) (by kernel_rfl) rfl (Yd.assign rfl) ?_
            refine WA.done (by kernel_rfl) ?_
            exact DN.reachS ((b8, (wo2, wc2), D2)) (hF2) (Sx.put rfl (Sx.put rfl ((by repeat (first | exact Sx.refl | refine Sx.skip rfl ?_))))) (by repeat (first | exact Sp.here | exact Sp.sn | exact Sp.s0 | exact Fr.here | apply Sp.s2 | apply Sp.sx | apply Fr.fc | apply Fr.al | apply Fr.fa | apply Sp.sc | apply Sp.al | apply Sp.sa))
          · refine WO.h rfl Wt.none rfl (Hd.build1 (e := 5) (z := .int .u8 0) (by kernel_rfl) (by kernel_rfl) (by kernel_rfl) rfl (by rfl) fun b33 => ⟨_, rfl, ?_⟩)
            refine WA.one (i := 0) (by kernel_rfl) ?_
            refine WO.h rfl Wt.none rfl (Hd.loadAll (n := 2) (by kernel_rfl) rfl (by repeat (first | exact List.mem_cons_self | apply List.mem_cons_of_mem | apply List.mem_append_right)) (by rfl) ⟨_, rfl, ?_⟩)
            refine WA.one (i := 7) (by kernel_rfl) ?_
            refine WO.c rfl Wt.none rfl (Ent.func Try.call15 rfl) (keep_tells (eN i) (.slice wo i wc) (fullK (1#32 + order % 1000000#32) d i) (blk2 :: (row b33 (bc [d]) 5 :: D)) (hF.kv.mono (by repeat (first | exact Gr.refl | exact Gr.left Gr.refl | exact Gr.left (Gr.left Gr.refl) | exact Gr.left (Gr.app Gr.refl) | exact Gr.left (Gr.app (Gr.app Gr.refl)) | exact Gr.left (Gr.app (Gr.left Gr.refl)) | exact Gr.left (Gr.left (Gr.left Gr.refl)) | exact Gr.nil | exact Gr.app (Gr.left Gr.refl) | refine Gr.cons ?_ | refine Gr.app ?_ | refine Gr.both ?_ ?_ | refine Gr.put (by repeat (first | exact List.mem_cons_self | apply List.mem_cons_of_mem | apply List.mem_append_right)) ?_))) (by rw [fullK_len]; omega) (stepN 1#32 ((1#32 + order % 1000000#32) + BitVec.ofNat 32 i) 0 false [120#8]) (.slice none 0 0) _ (Bs_nil _) (hbk2.mono (by repeat (first | exact Gr.refl | exact Gr.left Gr.refl | exact Gr.left (Gr.left Gr.refl) | exact Gr.left (Gr.app Gr.refl) | exact Gr.left (Gr.app (Gr.app Gr.refl)) | exact Gr.left (Gr.app (Gr.left Gr.refl)) | exact Gr.left (Gr.left (Gr.left Gr.refl)) | exact Gr.nil | exact Gr.app (Gr.left Gr.refl) | refine Gr.cons ?_ | refine Gr.app ?_ | refine Gr.both ?_ ?_ | refine Gr.put (by repeat (first | exact List.mem_cons_self | apply List.mem_cons_of_mem | apply List.mem_append_right)) ?_))) 1 (.slice (some ⟨b33, 0, none⟩) 1 1) [d] (.inr ⟨b33, 0, 1, bc [d], 5, (0, 0), true, rfl, Nat.le_refl _, (by repeat (first | exact List.mem_cons_self | apply List.mem_cons_of_mem | apply List.mem_append_right)), rfl⟩)) (Sp.p (by repeat (first | exact Sp.here | exact Sp.sn | exact Sp.s0 | exact Fr.here | apply Sp.s2 | apply Sp.sx | apply Fr.fc | apply Fr.al | apply Fr.fa | apply Sp.sc | apply Sp.al | apply Sp.sa))) ?_
            rintro xa2 Ha2 ⟨w2, D2, rfl, hF2, rfl⟩
            rw [full_keep hf0 hf hlt] at hF2 ⊢
            obtain ⟨wo2, wc2, rfl⟩ := hF2.form
            dsimp only at hF2 ⊢
            rw [fullK_len] at hF2 ⊢
            refine WA.y (i := 8) (NoPanic.then (NoPanic.block (NoPanic.then (NoPanic.then (NoPanic.block (NoPanic.then (NoPanic.body))))))) rfl (by kernel_rfl) (by kernel_rfl) (by kernel_rfl) rfl (Yd.move rfl) ?_
            refine WA.y (i := 9) (NoPanic.then (NoPanic.block (NoPanic.then (NoPanic.then (NoPanic.block (NoPanic.then (NoPanic.body))))))) rfl (by kernel_rfl) (by kernel_rfl) (by kernel_rfl) rfl (Yd.extract rfl rfl) ?_
            refine WA.y (i := 10) (NoPanic.then (NoPanic.block (NoPanic.then (NoPanic.then (NoPanic.block (NoPanic.then (NoPanic.body))))))) rfl (by kernel_rfl) (by kernel_rfl) (by kernel_rfl) rfl (Yd.extract rfl rfl) ?_
            refine WA.one (i := 12) (by kernel_rfl) ?_
            refine WO.s rfl Wt.none (Hd.storeAll (n := 2) (by kernel_rfl) rfl rfl (by rfl) (by repeat (first | exact fun _ h => absurd h List.not_mem_nil | refine List.forall_mem_cons.2 ⟨by first | rfl | assumption, ?_⟩)) (by repeat (first | exact Fr.here | apply Fr.fc | apply Fr.al | apply Fr.fa)) (by rfl) ⟨rfl, ?_⟩)
            refine WA.y (i := 13) (NoPanic.then (NoPanic.block (NoPanic.then (NoPanic.then (NoPanic.block (NoPanic.then (NoPanic.body))))))) rfl (by kernel_rfl) (by kernel_rfl) (by kernel_rfl) rfl (Yd.assign rfl) ?_
            refine WA.done (by kernel_rfl) ?_
            exact DN.reachS ((b8, (wo2, wc2), D2)) (hF2) (Sx.put rfl (Sx.put rfl ((by repeat (first | exact Sx.refl | refine Sx.skip rfl ?_))))) (by repeat (first | exact Sp.here | exact Sp.sn | exact Sp.s0 | exact Fr.here | apply Sp.s2 | apply Sp.sx | apply Fr.fc | apply Fr.al | apply Fr.fa | apply Sp.sc | apply Sp.al | apply Sp.sa))
      · refine WO.h rfl Wt.none rfl (Hd.build1 (e := 5) (z := .int .u8 0) (by kernel_rfl) (by kernel_rfl) (by kernel_rfl) rfl (by rfl) fun b33 => ⟨_, rfl, ?_⟩)
        refine WA.three (i := 0) (j := 4) (k := 11) (by kernel_rfl) ?_ ?_ ?_
        · refine WO.h rfl Wt.none rfl (Hd.loadAll (n := 2) (by kernel_rfl) rfl (by repeat (first | exact List.mem_cons_self | apply List.mem_cons_of_mem | apply List.mem_append_right)) (by rfl) ⟨_, rfl, ?_⟩)
          refine WA.two (i := 4) (j := 11) (by kernel_rfl) ?_ ?_
          · refine WO.c rfl Wt.none rfl (Ent.func Try.call23 rfl) (step_tells 1#32 ((1#32 + order % 1000000#32) + BitVec.ofNat 32 i) 0 false [120#8]) (Sp.p (by repeat (first | exact Sp.here | exact Sp.sn | exact Sp.s0 | exact Fr.here | apply Sp.s2 | apply Sp.sx | apply Fr.fc | apply Fr.al | apply Fr.fa | apply Sp.sc | apply Sp.al | apply Sp.sa))) ?_
            rintro x2 H2 ⟨bd2, cd2, blk2, rfl, hbk2, rfl⟩
            refine WA.two (i := 7) (j := 11) (by kernel_rfl) ?_ ?_
            · refine WO.c rfl Wt.none rfl (Ent.func Try.call15 rfl) (keep_tells (eN i) (.slice wo i wc) (fullK (1#32 + order % 1000000#32) d i) (blk2 :: (row b33 (bc [d]) 5 :: D)) (hF.kv.mono (by repeat (first | exact Gr.refl | exact Gr.left Gr.refl | exact Gr.left (Gr.left Gr.refl) | exact Gr.left (Gr.app Gr.refl) | exact Gr.left (Gr.app (Gr.app Gr.refl)) | exact Gr.left (Gr.app (Gr.left Gr.refl)) | exact Gr.left (Gr.left (Gr.left Gr.refl)) | exact Gr.nil | exact Gr.app (Gr.left Gr.refl) | refine Gr.cons ?_ | refine Gr.app ?_ | refine Gr.both ?_ ?_ | refine Gr.put (by repeat (first | exact List.mem_cons_self | apply List.mem_cons_of_mem | apply List.mem_append_right)) ?_))) (by rw [fullK_len]; omega) (stepN 1#32 ((1#32 + order % 1000000#32) + BitVec.ofNat 32 i) 0 false [120#8]) (.slice none 0 0) _ (Bs_nil _) (hbk2.mono (by repeat (first | exact Gr.refl | exact Gr.left Gr.refl | exact Gr.left (Gr.left Gr.refl) | exact Gr.left (Gr.app Gr.refl) | exact Gr.left (Gr.app (Gr.app Gr.refl)) | exact Gr.left (Gr.app (Gr.left Gr.refl)) | exact Gr.left (Gr.left (Gr.left Gr.refl)) | exact Gr.nil | exact Gr.app (Gr.left Gr.refl) | refine Gr.cons ?_ | refine Gr.app ?_ | refine Gr.both ?_ ?_ | refine Gr.put (by repeat (first | exact List.mem_cons_self | apply List.mem_cons_of_mem | apply List.mem_append_right)) ?_))) 1 (.slice (some ⟨b33, 0, none⟩) 1 1) [d] (.inr ⟨b33, 0, 1, bc [d], 5, (0, 0), true, rfl, Nat.le_refl _, (by repeat (first | exact List.mem_cons_self | apply List.mem_cons_of_mem | apply List.mem_append_right)), rfl⟩)) (Sp.p (by repeat (first | exact Sp.here | exact Sp.sn | exact Sp.s0 | exact Fr.here | apply Sp.s2 | apply Sp.sx | apply Fr.fc | apply Fr.al | apply Fr.fa | apply Sp.sc | apply Sp.al | apply Sp.sa))) ?_
              rintro xa2 Ha2 ⟨w2, D2, rfl, hF2, rfl⟩
              rw [full_keep hf0 hf hlt] at hF2 ⊢
              obtain ⟨wo2, wc2, rfl⟩ := hF2.form
              dsimp only at hF2 ⊢
              rw [fullK_len] at hF2 ⊢
              refine WA.y (i := 8) (NoPanic.then (NoPanic.block (NoPanic.then (NoPanic.then (NoPanic.block (NoPanic.then (NoPanic.body))))))) rfl (by kernel_rfl) (by kernel_rfl) (by kernel_rfl) rfl (Yd.move rfl) ?_
              refine WA.y (i := 9) (NoPanic.then (NoPanic.block (NoPanic.then (NoPanic.then (NoPanic.block (NoPanic.then (NoPanic.body))))))) rfl (by kernel_rfl) (by kernel_rfl) (by kernel_rfl) rfl (Yd.extract rfl rfl) ?_
              refine WA.y (i := 10) (NoPanic.then (NoPanic.block (NoPanic.then (NoPanic.then (NoPanic.block (NoPanic.then (NoPanic.body))))))) rfl (by kernel_rfl) (by kernel_rfl) (by kernel_rfl) rfl (Yd.extract rfl rfl) ?_
              refine WA.one (i := 11) (by kernel_rfl) ?_
              refine WO.h rfl Wt.none rfl (Hd.alloc (zs := [.int .u32 0, .slice none 0 0]) (by kernel_rfl) fun b8 => ⟨_, rfl, ?_⟩)
              refine WA.one (i := 12) (by kernel_rfl) ?_
              refine WO.s rfl Wt.none (Hd.storeAll (n := 2) (by kernel_rfl) rfl rfl (by rfl) (by repeat (first | exact fun _ h => absurd h List.not_mem_nil | refine List.forall_mem_cons.2 ⟨by first | rfl | assumption, ?_⟩)) (by repeat (first | exact Fr.here | apply Fr.fc | apply Fr.al | apply Fr.fa)) (by rfl) ⟨rfl, ?_⟩)
              refine WA.y (i := 13) (NoPanic.then (NoPanic.block (NoPanic.then (NoPanic.then (NoPanic.block (NoPanic.then (NoPanic.body))))))) rfl (by kernel_rfl) (by kernel_rfl) (by kernel_rfl) rfl (Yd.assign rfl) ?_
              refine WA.done (by kernel_rfl) ?_
              exact DN.reachS ((b8, (wo2, wc2), D2)) (hF2) (Sx.put rfl (Sx.put rfl ((by repeat (first | exact Sx.refl | refine Sx.skip rfl ?_))))) (by repeat (first | exact Sp.here | exact Sp.sn | exact Sp.s0 | exact Fr.here | apply Sp.s2 | apply Sp.sx | apply Fr.fc | apply Fr.al | apply Fr.fa | apply Sp.sc | apply Sp.al | apply Sp.sa))
            · refine WO.h rfl Wt.none rfl (Hd.alloc (zs := [.int .u32 0, .slice none 0 0]) (by kernel_rfl) fun b8 => ⟨_, rfl, ?_⟩)
              refine WA.one (i := 7) (by kernel_rfl) ?_
              refine WO.c rfl Wt.none rfl (Ent.func Try.call15 rfl) (keep_tells (eN i) (.slice wo i wc) (fullK (1#32 + order % 1000000#32) d i) (blk2 :: (row b33 (bc [d]) 5 :: D)) (hF.kv.mono (by repeat (first | exact Gr.refl | exact Gr.left Gr.refl | exact Gr.left (Gr.left Gr.refl) | exact Gr.left (Gr.app Gr.refl) | exact Gr.left (Gr.app (Gr.app Gr.refl)) | exact Gr.left (Gr.app (Gr.left Gr.refl)) | exact Gr.left (Gr.left (Gr.left Gr.refl)) | exact Gr.nil | exact Gr.app (Gr.left Gr.refl) | refine Gr.cons ?_ | refine Gr.app ?_ | refine Gr.both ?_ ?_ | refine Gr.put (by repeat (first | exact List.mem_cons_self | apply List.mem_cons_of_mem | apply List.mem_append_right)) ?_))) (by rw [fullK_len]; omega) (stepN 1#32 ((1#32 + order % 1000000#32) + BitVec.ofNat 32 i) 0 false [120#8]) (.slice none 0 0) _ (Bs_nil _) (hbk2.mono (by repeat (first | exact Gr.refl | exact Gr.left Gr.refl | exact Gr.left (Gr.left Gr.refl) | exact Gr.left (Gr.app Gr.refl) | exact Gr.left (Gr.app (Gr.app Gr.refl)) | exact Gr.left (Gr.app (Gr.left Gr.refl)) | exact Gr.left (Gr.left (Gr.left Gr.refl)) | exact Gr.nil | exact Gr.app (Gr.left Gr.refl) | refine Gr.cons ?_ | refine Gr.app ?_ | refine Gr.both ?_ ?_ | refine Gr.put (by repeat (first | exact List.mem_cons_self | apply List.mem_cons_of_mem | apply List.mem_append_right)) ?_))) 1 (.slice (some ⟨b33, 0, none⟩) 1 1) [d] (.inr ⟨b33, 0, 1, bc [d], 5, (0, 0), true, rfl, Nat.le_refl _, (by repeat (first | exact List.mem_cons_self | apply List.mem_cons_of_mem | apply List.mem_append_right)), rfl⟩)) (Sp.p (by repeat (first | exact Sp.here | exact Sp.sn | exact Sp.s0 | exact Fr.here | apply Sp.s2 | apply Sp.sx | apply Fr.fc | apply Fr.al | apply Fr.fa | apply Sp.sc | apply Sp.al | apply Sp.sa))) ?_
              rintro xa2 Ha2 ⟨w2, D2, rfl, hF2, rfl⟩
              rw [full_keep hf0 hf hlt] at hF2 ⊢
              obtain ⟨wo2, wc2, rfl⟩ := hF2.form
              dsimp only at hF2 ⊢
              rw [fullK_len] at hF2 ⊢
              refine WA.y (i := 8) (NoPanic.then (NoPanic.block (NoPanic.then (NoPanic.then (NoPanic.block (NoPanic.then (NoPanic.body))))))) rfl (by kernel_rfl) (by kernel_rfl) (by kernel_rfl) rfl (Yd.move rfl) ?_
              refine WA.y (i := 9) (NoPanic.then (NoPanic.block (NoPanic.then (NoPanic.then (NoPanic.block (NoPanic.then (NoPanic.body))))))) rfl (by kernel_rfl) (by kernel_rfl) (by kernel_rfl) rfl (Yd.extract rfl rfl) ?_
              refine WA.y (i := 10) (NoPanic.then (NoPanic.block (NoPanic.then (NoPanic.then (NoPanic.block (NoPanic.then (NoPanic.body))))))) rfl (by kernel_rfl) (by kernel_rfl) (by kernel_rfl) rfl (Yd.extract rfl rfl) ?_
              refine WA.one (i := 12) (by kernel_rfl) ?_
              refine WO.s rfl Wt.none (Hd.storeAll (n := 2) (by kernel_rfl) rfl rfl (by rfl) (by repeat (first | exact fun _ h => absurd h List.not_mem_nil | refine List.forall_mem_cons.2 ⟨by first | rfl | assumption, ?_⟩)) (by repeat (first | exact Fr.here | apply Fr.fc | apply Fr.al | apply Fr.fa)) (by rfl) ⟨rfl, ?_⟩)
              refine WA.y (i := 13) (NoPanic.then (NoPanic.block (NoPanic.then (NoPanic.then (NoPanic.block (NoPanic.then (NoPanic.body))))))) rfl (by kernel_rfl) (by kernel_rfl) (by kernel_rfl) rfl (Yd.assign rfl) ?_
              refine WA.done (by kernel_rfl) ?_
              exact DN.reachS ((b8, (wo2, wc2), D2)) (hF2) (Sx.put rfl (Sx.put rfl ((by repeat (first | exact Sx.refl | refine Sx.skip rfl ?_))))) (by repeat (first | exact Sp.here | exact Sp.sn | exact Sp.s0 | exact Fr.here | apply Sp.s2 | apply Sp.sx | apply Fr.fc | apply Fr.al | apply Fr.fa | apply Sp.sc | apply Sp.al | apply Sp.sa))
          · refine WO.h rfl Wt.none rfl (Hd.alloc (zs := [.int .u32 0, .slice none 0 0]) (by kernel_rfl) fun b8 => ⟨_, rfl, ?_⟩)
            refine WA.one (i := 4) (by kernel_rfl) ?_
            refine WO.c rfl Wt.none rfl (Ent.func Try.call23 rfl) (step_tells 1#32 ((1#32 + order % 1000000#32) + BitVec.ofNat 32 i) 0 false [120#8]) (Sp.p (by repeat (first | exact Sp.here | exact Sp.sn | exact Sp.s0 | exact Fr.here | apply Sp.s2 | apply Sp.sx | apply Fr.fc | apply Fr.al | apply Fr.fa | apply Sp.sc | apply Sp.al | apply Sp.sa))) ?_
            rintro x2 H2 ⟨bd2, cd2, blk2, rfl, hbk2, rfl⟩
            refine WA.one (i := 7) (by kernel_rfl) ?_
            refine WO.c rfl Wt.none rfl (Ent.func Try.call15 rfl) (keep_tells (eN i) (.slice wo i wc) (fullK (1#32 + order % 1000000#32) d i) (blk2 :: (row b33 (bc [d]) 5 :: D)) (hF.kv.mono (by repeat (first | exact Gr.refl | exact Gr.left Gr.refl | exact Gr.left (Gr.left Gr.refl) | exact Gr.left (Gr.app Gr.refl) | exact Gr.left (Gr.app (Gr.app Gr.refl)) | exact Gr.left (Gr.app (Gr.left Gr.refl)) | exact Gr.left (Gr.left (Gr.left Gr.refl)) | exact Gr.nil | exact Gr.app (Gr.left Gr.refl) | refine Gr.cons ?_ | refine Gr.app ?_ | refine Gr.both ?_ ?_ | refine Gr.put (by repeat (first | exact List.mem_cons_self | apply List.mem_cons_of_mem | apply List.mem_append_right)) ?_))) (by rw [fullK_len]; omega) (stepN 1#32 ((1#32 + order % 1000000#32) + BitVec.ofNat 32 i) 0 false [120#8]) (.slice none 0 0) _ (Bs_nil _) (hbk2.mono (by repeat (first | exact Gr.refl | exact Gr.left Gr.refl | exact Gr.left (Gr.left Gr.refl) | exact Gr.left (Gr.app Gr.refl) | exact Gr.left (Gr.app (Gr.app Gr.refl)) | exact Gr.left (Gr.app (Gr.left Gr.refl)) | exact Gr.left (Gr.left (Gr.left Gr.refl)) | exact Gr.nil | exact Gr.app (Gr.left Gr.refl) | refine Gr.cons ?_ | refine Gr.app ?_ | refine Gr.both ?_ ?_ | refine Gr.put (by repeat (first | exact List.mem_cons_self | apply List.mem_cons_of_mem | apply List.mem_append_right)) ?_))) 1 (.slice (some ⟨b33, 0, none⟩) 1 1) [d] (.inr ⟨b33, 0, 1, bc [d], 5, (0, 0), true, rfl, Nat.le_refl _, (by repeat (first | exact List.mem_cons_self | apply List.mem_cons_of_mem | apply List.mem_append_right)), rfl⟩)) (Sp.p (by repeat (first | exact Sp.here | exact Sp.sn | exact Sp.s0 | exact Fr.here | apply Sp.s2 | apply Sp.sx | apply Fr.fc | apply Fr.al | apply Fr.fa | apply Sp.sc | apply Sp.al | apply Sp.sa))) ?_
            rintro xa2 Ha2 ⟨w2, D2, rfl, hF2, rfl⟩
            rw [full_keep hf0 hf hlt] at hF2 ⊢
            obtain ⟨wo2, wc2, rfl⟩ := hF2.form
            dsimp only at hF2 ⊢
            rw [fullK_len] at hF2 ⊢
            refine WA.y (i := 8) (NoPanic.then (NoPanic.block (NoPanic.then (NoPanic.then (NoPanic.block (NoPanic.then (NoPanic.body))))))) rfl (by kernel_rfl) (by kernel_rfl) (by kernel_rfl) rfl (Yd.move rfl) ?_
            refine WA.y (i := 9) (NoPanic.then (NoPanic.block (NoPanic.then (NoPanic.then (NoPanic.block (NoPanic.then (NoPanic.body))))))) rfl (by kernel_rfl) (by kernel_rfl) (by kernel_rfl) rfl (Yd.extract rfl rfl) ?_
            refine WA.y (i := 10) (NoPanic.then (NoPanic.block (NoPanic.then (NoPanic.then (NoPanic.block (NoPanic.then (NoPanic.body))))))) rfl (by kernel_rfl) (by kernel_rfl) (by kernel_rfl) rfl (Yd.extract rfl rfl) ?_
            refine WA.one (i := 12) (by kernel_rfl) ?_
            refine WO.s rfl Wt.none (Hd.storeAll (n := 2) (by kernel_rfl) rfl rfl (by rfl) (by repeat (first | exact fun _ h => absurd h List.not_mem_nil | refine List.forall_mem_cons.2 ⟨by first | rfl | assumption, ?_⟩)) (by repeat (first | exact Fr.here | apply Fr.fc | apply Fr.al | apply Fr.fa)) (by rfl) ⟨rfl, ?_⟩)
            refine WA.y (i := 13) (NoPanic.then (NoPanic.block (NoPanic.then (NoPanic.then (NoPanic.block (NoPanic.then (NoPanic.body))))))) rfl (by kernel_rfl) (by kernel_rfl) (by kernel_rfl) rfl (Yd.assign rfl) ?_
            refine WA.done (by kernel_rfl) ?_
            exact DN.reachS ((b8, (wo2, wc2), D2)) (hF2) (Sx.put rfl (Sx.put rfl ((by repeat (first | exact Sx.refl | refine Sx.skip rfl ?_))))) (by repeat (first | exact Sp.here | exact Sp.sn | exact Sp.s0 | exact Fr.here | apply Sp.s2 | apply Sp.sx | apply Fr.fc | apply Fr.al | apply Fr.fa | apply Sp.sc | apply Sp.al | apply Sp.sa))
        · refine WO.c rfl Wt.none rfl (Ent.func Try.call23 rfl) (step_tells 1#32 ((1#32 + order % 1000000#32) + BitVec.ofNat 32 i) 0 false [120#8]) (Sp.p (by repeat (first | exact Sp.here | exact Sp.sn | exact Sp.s0 | exact Fr.here | apply Sp.s2 | apply Sp.sx | apply Fr.fc | apply Fr.al | apply Fr.fa | apply Sp.sc | apply Sp.al | apply Sp.sa))) ?_
          rintro x2 H2 ⟨bd2, cd2, blk2, rfl, hbk2, rfl⟩
          refine WA.two (i := 0) (j := 11) (by kernel_rfl) ?_ ?_
          · refine WO.h rfl Wt.none rfl (Hd.loadAll (n := 2) (by kernel_rfl) rfl (by repeat (first | exact List.mem_cons_self | apply List.mem_cons_of_mem | apply List.mem_append_right)) (by rfl) ⟨_, rfl, ?_⟩)
            refine WA.two (i := 7) (j := 11) (by kernel_rfl) ?_ ?_
            · refine WO.c rfl Wt.none rfl (Ent.func Try.call15 rfl) (keep_tells (eN i) (.slice wo i wc) (fullK (1#32 + order % 1000000#32) d i) (blk2 :: (row b33 (bc [d]) 5 :: D)) (hF.kv.mono (by repeat (first | exact Gr.refl | exact Gr.left Gr.refl | exact Gr.left (Gr.left Gr.refl) | exact Gr.left (Gr.app Gr.refl) | exact Gr.left (Gr.app (Gr.app Gr.refl)) | exact Gr.left (Gr.app (Gr.left Gr.refl)) | exact Gr.left (Gr.left (Gr.left Gr.refl)) | exact Gr.nil | exact Gr.app (Gr.left Gr.refl) | refine Gr.cons ?_ | refine Gr.app ?_ | refine Gr.both ?_ ?_ | refine Gr.put (by repeat (first | exact List.mem_cons_self | apply List.mem_cons_of_mem | apply List.mem_append_right)) ?_))) (by rw [fullK_len]; omega) (stepN 1#32 ((1#32 + order % 1000000#32) + BitVec.ofNat 32 i) 0 false [120#8]) (.slice none 0 0) _ (Bs_nil _) (hbk2.mono (by repeat (first | exact Gr.refl | exact Gr.left Gr.refl | exact Gr.left (Gr.left Gr.refl) | exact Gr.left (Gr.app Gr.refl) | exact Gr.left (Gr.app (Gr.app Gr.refl)) | exact Gr.left (Gr.app (Gr.left Gr.refl)) | exact Gr.left (Gr.left (Gr.left Gr.refl)) | exact Gr.nil | exact Gr.app (Gr.left Gr.refl) | refine Gr.cons ?_ | refine Gr.app ?_ | refine Gr.both ?_ ?_ | refine Gr.put (by repeat (first | exact List.mem_cons_self | apply List.mem_cons_of_mem | apply List.mem_append_right)) ?_))) 1 (.slice (some ⟨b33, 0, none⟩) 1 1) [d] (.inr ⟨b33, 0, 1, bc [d], 5, (0, 0), true, rfl, Nat.le_refl _, (by repeat (first | exact List.mem_cons_self | apply List.mem_cons_of_mem | apply List.mem_append_right)), rfl⟩)) (Sp.p (by repeat (first | exact Sp.here | exact Sp.sn | exact Sp.s0 | exact Fr.here | apply Sp.s2 | apply Sp.sx | apply Fr.fc | apply Fr.al | apply Fr.fa | apply Sp.sc | apply Sp.al | apply Sp.sa))) ?_
              rintro xa2 Ha2 ⟨w2, D2, rfl, hF2, rfl⟩
              rw [full_keep hf0 hf hlt] at hF2 ⊢
              obtain ⟨wo2, wc2, rfl⟩ := hF2.form
              dsimp only at hF2 ⊢
              rw [fullK_len] at hF2 ⊢
              refine WA.y (i := 8) (NoPanic.then (NoPanic.block (NoPanic.then (NoPanic.then (NoPanic.block (NoPanic.then (NoPanic.body))))))) rfl (by kernel_rfl) (by kernel_rfl) (by kernel_rfl) rfl (Yd.move rfl) ?_
              refine WA.y (i := 9) (NoPanic.then (NoPanic.block (NoPanic.then (NoPanic.then (NoPanic.block (NoPanic.then (NoPanic.body))))))) rfl (by kernel_rfl) (by kernel_rfl) (by kernel_rfl) rfl (Yd.extract rfl rfl) ?_
              refine WA.y (i := 10) (NoPanic.then (NoPanic.block (NoPanic.then (NoPanic.then (NoPanic.block (NoPanic.then (NoPanic.body))))))) rfl (by kernel_rfl) (by kernel_rfl) (by kernel_rfl) rfl (Yd.extract rfl rfl) ?_
              refine WA.one (i := 11) (by kernel_rfl) ?_
              refine WO.h rfl Wt.none rfl (Hd.alloc (zs := [.int .u32 0, .slice none 0 0]) (by kernel_rfl) fun b8 => ⟨_, rfl, ?_⟩)
              refine WA.one (i := 12) (by kernel_rfl) ?_
              refine WO.s rfl Wt.none (Hd.storeAll (n := 2) (by kernel_rfl) rfl rfl (by rfl) (by repeat (first | exact fun _ h => absurd h List.not_mem_nil | refine List.forall_mem_cons.2 ⟨by first | rfl | assumption, ?_⟩)) (by repeat (first | exact Fr.here | apply Fr.fc | apply Fr.al | apply Fr.fa)) (by rfl) ⟨rfl, ?_⟩)
              refine WA.y (i := 13) (NoPanic.then (NoPanic.block (NoPanic.then (NoPanic.then (NoPanic.block (NoPanic.then (NoPanic.body))))))) rfl (by kernel_rfl) (by kernel_rfl) (by kernel_rfl) rfl (Yd.assign rfl) ?_
              refine WA.done (by kernel_rfl) ?_
              exact DN.reachS ((b8, (wo2, wc2), D2)) (hF2) (Sx.put rfl (Sx.put rfl ((by repeat (first | exact Sx.refl | refine Sx.skip rfl ?_))))) (by repeat (first | exact Sp.here | exact Sp.sn | exact Sp.s0 | exact Fr.here | apply Sp.s2 | apply Sp.sx | apply Fr.fc | apply Fr.al | apply Fr.fa | apply Sp.sc | apply Sp.al | apply Sp.sa))
            · refine WO.h rfl Wt.none rfl (Hd.alloc (zs := [.int .u32 0, .slice none 0 0]) (by kernel_rfl) fun b8 => ⟨_, rfl, ?_⟩)
              refine WA.one (i := 7) (by kernel_rfl) ?_
              refine WO.c rfl Wt.none rfl (Ent.func Try.call15 rfl) (keep_tells (eN i) (.slice wo i wc) (fullK (1#32 + order % 1000000#32) d i) (blk2 :: (row b33 (bc [d]) 5 :: D)) (hF.kv.mono (by repeat (first | exact Gr.refl | exact Gr.left Gr.refl | exact Gr.left (Gr.left Gr.refl) | exact Gr.left (Gr.app Gr.refl) | exact Gr.left (Gr.app (Gr.app Gr.refl)) | exact Gr.left (Gr.app (Gr.left Gr.refl)) | exact Gr.left (Gr.left (Gr.left Gr.refl)) | exact Gr.nil | exact Gr.app (Gr.left Gr.refl) | refine Gr.cons ?_ | refine Gr.app ?_ | refine Gr.both ?_ ?_ | refine Gr.put (by repeat (first | exact List.mem_cons_self | apply List.mem_cons_of_mem | apply List.mem_append_right)) ?_))) (by rw [fullK_len]; omega) (stepN 1#32 ((1#32 + order % 1000000#32) + BitVec.ofNat 32 i) 0 false [120#8]) (.slice none 0 0) _ (Bs_nil _) (hbk2.mono (by repeat (first | exact Gr.refl | exact Gr.left Gr.refl | exact Gr.left (Gr.left Gr.refl) | exact Gr.left (Gr.app Gr.refl) | exact Gr.left (Gr.app (Gr.app Gr.refl)) | exact Gr.left (Gr.app (Gr.left Gr.refl)) | exact Gr.left (Gr.left (Gr.left Gr.refl)) | exact Gr.nil | exact Gr.app (Gr.left Gr.refl) | refine Gr.cons ?_ | refine Gr.app ?_ | refine Gr.both ?_ ?_ | refine Gr.put (by repeat (first | exact List.mem_cons_self | apply List.mem_cons_of_mem | apply List.mem_append_right)) ?_))) 1 (.slice (some ⟨b33, 0, none⟩) 1 1) [d] (.inr ⟨b33, 0, 1, bc [d], 5, (0, 0), true, rfl, Nat.le_refl _, (by repeat (first | exact List.mem_cons_self | apply List.mem_cons_of_mem | apply List.mem_append_right)), rfl⟩)) (Sp.p (by repeat (first | exact Sp.here | exact Sp.sn | exact Sp.s0 | exact Fr.here | apply Sp.s2 | apply Sp.sx | apply Fr.fc | apply Fr.al | apply Fr.fa | apply Sp.sc | apply Sp.al | apply Sp.sa))) ?_
              rintro xa2 Ha2 ⟨w2, D2, rfl, hF2, rfl⟩
              rw [full_keep hf0 hf hlt] at hF2 ⊢
              obtain ⟨wo2, wc2, rfl⟩ := hF2.form
              dsimp only at hF2 ⊢
              rw [fullK_len] at hF2 ⊢
              refine WA.y (i := 8) (NoPanic.then (NoPanic.block (NoPanic.then (NoPanic.then (NoPanic.block (NoPanic.then (NoPanic.body))))))) rfl (by kernel_rfl) (by kernel_rfl) (by kernel_rfl) rfl (Yd.move rfl) ?_
              refine WA.y (i := 9) (NoPanic.then (NoPanic.block (NoPanic.then (NoPanic.then (NoPanic.block (NoPanic.then (NoPanic.body))))))) rfl (by kernel_rfl) (by kernel_rfl) (by kernel_rfl) rfl (Yd.extract rfl rfl) ?_
              refine WA.y (i := 10) (NoPanic.then (NoPanic.block (NoPanic.then (NoPanic.then (NoPanic.block (NoPanic.then (NoPanic.body))))))) rfl (by kernel_rfl) (by kernel_rfl) (by kernel_rfl) rfl (Yd.extract rfl rfl) ?_
              refine WA.one (i := 12) (by kernel_rfl) ?_
              refine WO.s rfl Wt.none (Hd.storeAll (n := 2) (by kernel_rfl) rfl rfl (by rfl) (by repeat (first | exact fun _ h => absurd h List.not_mem_nil | refine List.forall_mem_cons.2 ⟨by first | rfl | assumption, ?_⟩)) (by repeat (first | exact Fr.here | apply Fr.fc | apply Fr.al | apply Fr.fa)) (by rfl) ⟨rfl, ?_⟩)
              refine WA.y (i := 13) (NoPanic.then (NoPanic.block (NoPanic.then (NoPanic.then (NoPanic.block (NoPanic.then (NoPanic.body))))))) rfl (by kernel_rfl) (by kernel_rfl) (by kernel_rfl) rfl (Yd.assign rfl) ?_
              refine WA.done (by kernel_rfl) ?_
              exact DN.reachS ((b8, (wo2, wc2), D2)) (hF2) (Sx.put rfl (Sx.put rfl ((by repeat (first | exact Sx.refl | refine Sx.skip rfl ?_))))) (by repeat (first | exact Sp.here | exact Sp.sn | exact Sp.s0 | exact Fr.here | apply Sp.s2 | apply Sp.sx | apply Fr.fc | apply Fr.al | apply Fr.fa | apply Sp.sc | apply Sp.al | apply Sp.sa))
          · refine WO.h rfl Wt.none rfl (Hd.alloc (zs := [.int .u32 0, .slice none 0 0]) (by kernel_rfl) fun b8 => ⟨_, rfl, ?_⟩)
            refine WA.one (i := 0) (by kernel_rfl) ?_
            refine WO.h rfl Wt.none rfl (Hd.loadAll (n := 2) (by kernel_rfl) rfl (by repeat (first | exact List.mem_cons_self | apply List.mem_cons_of_mem | apply List.mem_append_right)) (by rfl) ⟨_, rfl, ?_⟩)
            refine WA.one (i := 7) (by kernel_rfl) ?_
            refine WO.c rfl Wt.none rfl (Ent.func Try.call15 rfl) (keep_tells (eN i) (.slice wo i wc) (fullK (1#32 + order % 1000000#32) d i) (blk2 :: (row b33 (bc [d]) 5 :: D)) (hF.kv.mono (by repeat (first | exact Gr.refl | exact Gr.left Gr.refl | exact Gr.left (Gr.left Gr.refl) | exact Gr.left (Gr.app Gr.refl) | exact Gr.left (Gr.app (Gr.app Gr.refl)) | exact Gr.left (Gr.app (Gr.left Gr.refl)) | exact Gr.left (Gr.left (Gr.left Gr.refl)) | exact Gr.nil | exact Gr.app (Gr.left Gr.refl) | refine Gr.cons ?_ | refine Gr.app ?_ | refine Gr.both ?_ ?_ | refine Gr.put (by repeat (first | exact List.mem_cons_self | apply List.mem_cons_of_mem | apply List.mem_append_right)) ?_))) (by rw [fullK_len]; omega) (stepN 1#32 ((1#32 + order % 1000000#32) + BitVec.ofNat 32 i) 0 false [120#8]) (.slice none 0 0) _ (Bs_nil _) (hbk2.mono (by repeat (first | exact Gr.refl | exact Gr.left Gr.refl | exact Gr.left (Gr.left Gr.refl) | exact Gr.left (Gr.app Gr.refl) | exact Gr.left (Gr.app (Gr.app Gr.refl)) | exact Gr.left (Gr.app (Gr.left Gr.refl)) | exact Gr.left (Gr.left (Gr.left Gr.refl)) | exact Gr.nil | exact Gr.app (Gr.left Gr.refl) | refine Gr.cons ?_ | refine Gr.app ?_ | refine Gr.both ?_ ?_ | refine Gr.put (by repeat (first | exact List.mem_cons_self | apply List.mem_cons_of_mem | apply List.mem_append_right)) ?_))) 1 (.slice (some ⟨b33, 0, none⟩) 1 1) [d] (.inr ⟨b33, 0, 1, bc [d], 5, (0, 0), true, rfl, Nat.le_refl _, (by repeat (first | exact List.mem_cons_self | apply List.mem_cons_of_mem | apply List.mem_append_right)), rfl⟩)) (Sp.p (by repeat (first | exact Sp.here | exact Sp.sn | exact Sp.s0 | exact Fr.here | apply Sp.s2 | apply Sp.sx | apply Fr.fc | apply Fr.al | apply Fr.fa | apply Sp.sc | apply Sp.al | apply Sp.sa))) ?_
            rintro xa2 Ha2 ⟨w2, D2, rfl, hF2, rfl⟩
            rw [full_keep hf0 hf hlt] at hF2 ⊢
            obtain ⟨wo2, wc2, rfl⟩ := hF2.form
            dsimp only at hF2 ⊢
            rw [fullK_len] at hF2 ⊢
            refine WA.y (i := 8) (NoPanic.then (NoPanic.block (NoPanic.then (NoPanic.then (NoPanic.block (NoPanic.then (NoPanic.body))))))) rfl (by kernel_rfl) (by kernel_rfl) (by kernel_rfl) rfl (Yd.move rfl) ?_
            refine WA.y (i := 9) (NoPanic.then (NoPanic.block (NoPanic.then (NoPanic.then (NoPanic.block (NoPanic.then (NoPanic.body))))))) rfl (by kernel_rfl) (by kernel_rfl) (by kernel_rfl) rfl (Yd.extract rfl rfl) ?_
            refine WA.y (i := 10) (NoPanic.then (NoPanic.block (NoPanic.then (NoPanic.then (NoPanic.block (NoPanic.then (NoPanic.body))))))) rfl (by kernel_rfl) (by kernel_rfl) (by kernel_rfl) rfl (Yd.extract rfl rfl) ?_
            refine WA.one (i := 12) (by kernel_rfl) ?_
            refine WO.s rfl Wt.none (Hd.storeAll (n := 2) (by kernel_rfl) rfl rfl (by rfl) (by repeat (first | exact fun _ h => absurd h List.not_mem_nil | refine List.forall_mem_cons.2 ⟨by first | rfl | assumption, ?_⟩)) (by repeat (first | exact Fr.here | apply Fr.fc | apply Fr.al | apply Fr.fa)) (by rfl) ⟨rfl, ?_⟩)
            refine WA.y (i := 13) (NoPanic.then (NoPanic.block (NoPanic.then (NoPanic.then (NoPanic.block (NoPanic.then (NoPanic.body))))))) rfl (by kernel_rfl) (by kernel_rfl) (by kernel_rfl) rfl (Yd.assign rfl) ?_
            refine WA.done (by kernel_rfl) ?_
            exact DN.reachS ((b8, (wo2, wc2), D2)) (hF2) (Sx.put rfl (Sx.put rfl ((by repeat (first | exact Sx.refl | refine Sx.skip rfl ?_))))) (by repeat (first | exact Sp.here | exact Sp.sn | exact Sp.s0 | exact Fr.here | apply Sp.s2 | apply Sp.sx | apply Fr.fc | apply Fr.al | apply Fr.fa | apply Sp.sc | apply Sp.al | apply Sp.sa))
        · refine WO.h rfl Wt.none rfl (Hd.alloc (zs := [.int .u32 0, .slice none 0 0]) (by kernel_rfl) fun b8 => ⟨_, rfl, ?_⟩)
          refine WA.two (i := 0) (j := 4) (by kernel_rfl) ?_ ?_
          · refine WO.h rfl Wt.none rfl (Hd.loadAll (n := 2) (by kernel_rfl) rfl (by repeat (first | exact List.mem_cons_self | apply List.mem_cons_of_mem | apply List.mem_append_right)) (by rfl) ⟨_, rfl, ?_⟩)
            refine WA.one (i := 4) (by kernel_rfl) ?_
            refine WO.c rfl Wt.none rfl (Ent.func Try.call23 rfl) (step_tells 1#32 ((1#32 + order % 1000000#32) + BitVec.ofNat 32 i) 0 false [120#8]) (Sp.p (by repeat (first | exact Sp.here | exact Sp.sn | exact Sp.s0 | exact Fr.here | apply Sp.s2 | apply Sp.sx | apply Fr.fc | apply Fr.al | apply Fr.fa | apply Sp.sc | apply Sp.al | apply Sp.sa))) ?_
            rintro x2 H2 ⟨bd2, cd2, blk2, rfl, hbk2, rfl⟩
            refine WA.one (i := 7) (by kernel_rfl) ?_
            refine WO.c rfl Wt.none rfl (Ent.func Try.call15 rfl) (keep_tells (eN i) (.slice wo i wc) (fullK (1#32 + order % 1000000#32) d i) (blk2 :: (row b33 (bc [d]) 5 :: D)) (hF.kv.mono (by repeat (first | exact Gr.refl | exact Gr.left Gr.refl | exact Gr.left (Gr.left Gr.refl) | exact Gr.left (Gr.app Gr.refl) | exact Gr.left (Gr.app (Gr.app Gr.refl)) | exact Gr.left (Gr.app (Gr.left Gr.refl)) | exact Gr.left (Gr.left (Gr.left Gr.refl)) | exact Gr.nil | exact Gr.app (Gr.left Gr.refl) | refine Gr.cons ?_ | refine Gr.app ?_ | refine Gr.both ?_ ?_ | refine Gr.put (by repeat (first | exact List.mem_cons_self | apply List.mem_cons_of_mem | apply List.mem_append_right)) ?_))) (by rw [fullK_len]; omega) (stepN 1#32 ((1#32 + order % 1000000#32) + BitVec.ofNat 32 i) 0 false [120#8]) (.slice none 0 0) _ (Bs_nil _) (hbk2.mono (by repeat (first | exact Gr.refl | exact Gr.left Gr.refl | exact Gr.left (Gr.left Gr.refl) | exact Gr.left (Gr.app Gr.refl) | exact Gr.left (Gr.app (Gr.app Gr.refl)) | exact Gr.left (Gr.app (Gr.left Gr.refl)) | exact Gr.left (Gr.left (Gr.left Gr.refl)) | exact Gr.nil | exact Gr.app (Gr.left Gr.refl) | refine Gr.cons ?_ | refine Gr.app ?_ | refine Gr.both ?_ ?_ | refine Gr.put (by repeat (first | exact List.mem_cons_self | apply List.mem_cons_of_mem | apply List.mem_append_right)) ?_))) 1 (.slice (some ⟨b33, 0, none⟩) 1 1) [d] (.inr ⟨b33, 0, 1, bc [d], 5, (0, 0), true, rfl, Nat.le_refl _, (by repeat (first | exact List.mem_cons_self | apply List.mem_cons_of_mem | apply List.mem_append_right)), rfl⟩)) (Sp.p (by repeat (first | exact Sp.here | exact Sp.sn | exact Sp.s0 | exact Fr.here | apply Sp.s2 | apply Sp.sx | apply Fr.fc | apply Fr.al | apply Fr.fa | apply Sp.sc | apply Sp.al | apply Sp.sa))) ?_
            rintro xa2 Ha2 ⟨w2, D2, rfl, hF2, rfl⟩
            rw [full_keep hf0 hf hlt] at hF2 ⊢
            obtain ⟨wo2, wc2, rfl⟩ := hF2.form
            dsimp only at hF2 ⊢
            rw [fullK_len] at hF2 ⊢
            refine WA.y (i := 8) (NoPanic.then (NoPanic.block (NoPanic.then (NoPanic.then (NoPanic.block (NoPanic.then (NoPanic.body))))))) rfl (by kernel_rfl) (by kernel_rfl) (by kernel_rfl) rfl (Yd.move rfl) ?_
            refine WA.y (i := 9) (NoPanic.then (NoPanic.block (NoPanic.then (NoPanic.then (NoPanic.block (NoPanic.then (NoPanic.body))))))) rfl (by kernel_rfl) (by kernel_rfl) (by kernel_rfl) rfl (Yd.extract rfl rfl) ?_
            refine WA.y (i := 10) (NoPanic.then (NoPanic.block (NoPanic.then (NoPanic.then (NoPanic.block (NoPanic.then (NoPanic.body))))))) rfl (by kernel_rfl) (by kernel_rfl) (by kernel_rfl) rfl (Yd.extract rfl rfl) ?_
            refine WA.one (i := 12) (by kernel_rfl) ?_
            refine WO.s rfl Wt.none (Hd.storeAll (n := 2) (by kernel_rfl) rfl rfl (by rfl) (by repeat (first | exact fun _ h => absurd h List.not_mem_nil | refine List.forall_mem_cons.2 ⟨by first | rfl | assumption, ?_⟩)) (by repeat (first | exact Fr.here | apply Fr.fc | apply Fr.al | apply Fr.fa)) (by rfl) ⟨rfl, ?_⟩)
            refine WA.y (i := 13) (NoPanic.then (NoPanic.block (NoPanic.then (NoPanic.then (NoPanic.block (NoPanic.then (NoPanic.body))))))) rfl (by kernel_rfl) (by kernel_rfl) (by kernel_rfl) rfl (Yd.assign rfl) ?_
            refine WA.done (by kernel_rfl) ?_
            exact DN.reachS ((b8, (wo2, wc2), D2)) (hF2) (Sx.put rfl (Sx.put rfl ((by repeat (first | exact Sx.refl | refine Sx.skip rfl ?_))))) (by repeat (first | exact Sp.here | exact Sp.sn | exact Sp.s0 | exact Fr.here | apply Sp.s2 | apply Sp.sx | apply Fr.fc | apply Fr.al | apply Fr.fa | apply Sp.sc | apply Sp.al | apply Sp.sa))
          · refine WO.c rfl Wt.none rfl (Ent.func Try.call23 rfl) (step_tells 1#32 ((1#32 + order % 1000000#32) + BitVec.ofNat 32 i) 0 false [120#8]) (Sp.p (by repeat (first | exact Sp.here | exact Sp.sn | exact Sp.s0 | exact Fr.here | apply Sp.s2 | apply Sp.sx | apply Fr.fc | apply Fr.al | apply Fr.fa | apply Sp.sc | apply Sp.al | apply Sp.sa))) ?_
            rintro x2 H2 ⟨bd2, cd2, blk2, rfl, hbk2, rfl⟩
            refine WA.one (i := 0) (by kernel_rfl) ?_
            refine WO.h rfl Wt.none rfl (Hd.loadAll (n := 2) (by kernel_rfl) rfl (by repeat (first | exact List.mem_cons_self | apply List.mem_cons_of_mem | apply List.mem_append_right)) (by rfl) ⟨_, rfl, ?_⟩)
            refine WA.one (i := 7) (by kernel_rfl) ?_
            refine WO.c rfl Wt.none rfl (Ent.func Try.call15 rfl) (keep_tells (eN i) (.slice wo i wc) (fullK (1#32 + order % 1000000#32) d i) (blk2 :: (row b33 (bc [d]) 5 :: D)) (hF.kv.mono (by repeat (first | exact Gr.refl | exact Gr.left Gr.refl | exact Gr.left (Gr.left Gr.refl) | exact Gr.left (Gr.app Gr.refl) | exact Gr.left (Gr.app (Gr.app Gr.refl)) | exact Gr.left (Gr.app (Gr.left Gr.refl)) | exact Gr.left (Gr.left (Gr.left Gr.refl)) | exact Gr.nil | exact Gr.app (Gr.left Gr.refl) | refine Gr.cons ?_ | refine Gr.app ?_ | refine Gr.both ?_ ?_ | refine Gr.put (by repeat (first | exact List.mem_cons_self | apply List.mem_cons_of_mem | apply List.mem_append_right)) ?_))) (by rw [fullK_len]; omega) (stepN 1#32 ((1#32 + order % 1000000#32) + BitVec.ofNat 32 i) 0 false [120#8]) (.slice none 0 0) _ (Bs_nil _) (hbk2.mono (by repeat (first | exact Gr.refl | exact Gr.left Gr.refl | exact Gr.left (Gr.left Gr.refl) | exact Gr.left (Gr.app Gr.refl) | exact Gr.left (Gr.app (Gr.app Gr.refl)) | exact Gr.left (Gr.app (Gr.left Gr.refl)) | exact Gr.left (Gr.left (Gr.left Gr.refl)) | exact Gr.nil | exact Gr.app (Gr.left Gr.refl) | refine Gr.cons ?_ | refine Gr.app ?_ | refine Gr.both ?_ ?_ | refine Gr.put (by repeat (first | exact List.mem_cons_self | apply List.mem_cons_of_mem | apply List.mem_append_right)) ?_))) 1 (.slice (some ⟨b33, 0, none⟩) 1 1) [d] (.inr ⟨b33, 0, 1, bc [d], 5, (0, 0), true, rfl, Nat.le_refl _, (by repeat (first | exact List.mem_cons_self | apply List.mem_cons_of_mem | apply List.mem_append_right)), rfl⟩)) (Sp.p (by repeat (first | exact Sp.here | exact Sp.sn | exact Sp.s0 | exact Fr.here | apply Sp.s2 | apply Sp.sx | apply Fr.fc | apply Fr.al | apply Fr.fa | apply Sp.sc | apply Sp.al | apply Sp.sa))) ?_
            rintro xa2 Ha2 ⟨w2, D2, rfl, hF2, rfl⟩
            rw [full_keep hf0 hf hlt] at hF2 ⊢
            obtain ⟨wo2, wc2, rfl⟩ := hF2.form
            dsimp only at hF2 ⊢
            rw [fullK_len] at hF2 ⊢
            refine WA.y (i := 8) (NoPanic.then (NoPanic.block (NoPanic.then (NoPanic.then (NoPanic.block (NoPanic.then (NoPanic.body))))))) rfl (by kernel_rfl) (by kernel_rfl) (by kernel_rfl) rfl (Yd.move rfl) ?_
            refine WA.y (i := 9) (NoPanic.then (NoPanic.block (NoPanic.then (NoPanic.then (NoPanic.block (NoPanic.then (NoPanic.body))))))) rfl (by kernel_rfl) (by kernel_rfl) (by kernel_rfl) rfl (Yd.extract rfl rfl) ?_
            refine WA.y (i := 10) (NoPanic.then (NoPanic.block (NoPanic.then (NoPanic.then (NoPanic.block (NoPanic.then (NoPanic.body))))))) rfl (by kernel_rfl) (by kernel_rfl) (by kernel_rfl) rfl (Yd.extract rfl rfl) ?_
            refine WA.one (i := 12) (by kernel_rfl) ?_
            refine WO.s rfl Wt.none (Hd.storeAll (n := 2) (by kernel_rfl) rfl rfl (by rfl) (by repeat (first | exact fun _ h => absurd h List.not_mem_nil | refine List.forall_mem_cons.2 ⟨by first | rfl | assumption, ?_⟩)) (by repeat (first | exact Fr.here | apply Fr.fc | apply Fr.al | apply Fr.fa)) (by rfl) ⟨rfl, ?_⟩)
            refine WA.y (i := 13) (NoPanic.then (NoPanic.block (NoPanic.then (NoPanic.then (NoPanic.block (NoPanic.then (NoPanic.body))))))) rfl (by kernel_rfl) (by kernel_rfl) (by kernel_rfl) rfl (Yd.assign rfl) ?_
            refine WA.done (by kernel_rfl) ?_
            exact DN.reachS ((b8, (wo2, wc2), D2)) (hF2) (Sx.put rfl (Sx.put rfl ((by repeat (first | exact Sx.refl | refine Sx.skip rfl ?_))))) (by repeat (first | exact Sp.here | exact Sp.sn | exact Sp.s0 | exact Fr.here | apply Sp.s2 | apply Sp.sx | apply Fr.fc | apply Fr.al | apply Fr.fa | apply Sp.sc | apply Sp.al | apply Sp.sa))
      · refine WO.h rfl Wt.none rfl (Hd.alloc (zs := [.int .u32 0, .slice none 0 0]) (by kernel_rfl) fun b8 => ⟨_, rfl, ?_⟩)
        refine WA.three (i := 0) (j := 4) (k := 6) (by kernel_rfl) ?_ ?_ ?_
        · refine WO.h rfl Wt.none rfl (Hd.loadAll (n := 2) (by kernel_rfl) rfl (by repeat (first | exact List.mem_cons_self | apply List.mem_cons_of_mem | apply List.mem_append_right)) (by rfl) ⟨_, rfl, ?_⟩)
          refine WA.two (i := 4) (j := 6) (by kernel_rfl) ?_ ?_
          · refine WO.c rfl Wt.none rfl (Ent.func Try.call23 rfl) (step_tells 1#32 ((1#32 + order % 1000000#32) + BitVec.ofNat 32 i) 0 false [120#8]) (Sp.p (by repeat (first | exact Sp.here | exact Sp.sn | exact Sp.s0 | exact Fr.here | apply Sp.s2 | apply Sp.sx | apply Fr.fc | apply Fr.al | apply Fr.fa | apply Sp.sc | apply Sp.al | apply Sp.sa))) ?_
            rintro x2 H2 ⟨bd2, cd2, blk2, rfl, hbk2, rfl⟩
            refine WA.one (i := 6) (by kernel_rfl) ?_
            refine WO.h rfl Wt.none rfl (Hd.build1 (e := 5) (z := .int .u8 0) (by kernel_rfl) (by kernel_rfl) (by kernel_rfl) rfl (by rfl) fun b33 => ⟨_, rfl, ?_⟩)
            refine WA.one (i := 7) (by kernel_rfl) ?_
            refine WO.c rfl Wt.none rfl (Ent.func Try.call15 rfl) (keep_tells (eN i) (.slice wo i wc) (fullK (1#32 + order % 1000000#32) d i) (blk2 :: (row b33 (bc [d]) 5 :: D)) (hF.kv.mono (by repeat (first | exact Gr.refl | exact Gr.left Gr.refl | exact Gr.left (Gr.left Gr.refl) | exact Gr.left (Gr.app Gr.refl) | exact Gr.left (Gr.app (Gr.app Gr.refl)) | exact Gr.left (Gr.app (Gr.left Gr.refl)) | exact Gr.left (Gr.left (Gr.left Gr.refl)) | exact Gr.nil | exact Gr.app (Gr.left Gr.refl) | refine Gr.cons ?_ | refine Gr.app ?_ | refine Gr.both ?_ ?_ | refine Gr.put (by repeat (first | exact List.mem_cons_self | apply List.mem_cons_of_mem | apply List.mem_append_right)) ?_))) (by rw [fullK_len]; omega) (stepN 1#32 ((1#32 + order % 1000000#32) + BitVec.ofNat 32 i) 0 false [120#8]) (.slice none 0 0) _ (Bs_nil _) (hbk2.mono (by repeat (first | exact Gr.refl | exact Gr.left Gr.refl | exact Gr.left (Gr.left Gr.refl) | exact Gr.left (Gr.app Gr.refl) | exact Gr.left (Gr.app (Gr.app Gr.refl)) | exact Gr.left (Gr.app (Gr.left Gr.refl)) | exact Gr.left (Gr.left (Gr.left Gr.refl)) | exact Gr.nil | exact Gr.app (Gr.left Gr.refl) | refine Gr.cons ?_ | refine Gr.app ?_ | refine Gr.both ?_ ?_ | refine Gr.put (by repeat (first | exact List.mem_cons_self | apply List.mem_cons_of_mem | apply List.mem_append_right)) ?_))) 1 (.slice (some ⟨b33, 0, none⟩) 1 1) [d] (.inr ⟨b33, 0, 1, bc [d], 5, (0, 0), true, rfl, Nat.le_refl _, (by repeat (first | exact List.mem_cons_self | apply List.mem_cons_of_mem | apply List.mem_append_right)), rfl⟩)) (Sp.p (by repeat (first | exact Sp.here | exact Sp.sn | exact Sp.s0 | exact Fr.here | apply Sp.s2 | apply Sp.sx | apply Fr.fc | apply Fr.al | apply Fr.fa | apply Sp.sc | apply Sp.al | apply Sp.sa))) ?_
            rintro xa2 Ha2 ⟨w2, D2, rfl, hF2, rfl⟩
            rw [full_keep hf0 hf hlt] at hF2 ⊢
            obtain ⟨wo2, wc2, rfl⟩ := hF2.form
            dsimp only at hF2 ⊢
            rw [fullK_len] at hF2 ⊢
            refine WA.y (i := 8) (NoPanic.then (NoPanic.block (NoPanic.then (NoPanic.then (NoPanic.block (NoPanic.then (NoPanic.body))))))) rfl (by kernel_rfl) (by kernel_rfl) (by kernel_rfl) rfl (Yd.move rfl) ?_
            refine WA.y (i := 9) (NoPanic.then (NoPanic.block (NoPanic.then (NoPanic.then (NoPanic.block (NoPanic.then (NoPanic.body))))))) rfl (by kernel_rfl) (by kernel_rfl) (by kernel_rfl) rfl (Yd.extract rfl rfl) ?_
            refine WA.y (i := 10) (NoPanic.then (NoPanic.block (NoPanic.then (NoPanic.then (NoPanic.block (NoPanic.then (NoPanic.body))))))) rfl (by kernel_rfl) (by kernel_rfl) (by kernel_rfl) rfl (Yd.extract rfl rfl) ?_
            refine WA.one (i := 12) (by kernel_rfl) ?_
            refine WO.s rfl Wt.none (Hd.storeAll (n := 2) (by kernel_rfl) rfl rfl (by rfl) (by repeat (first | exact fun _ h => absurd h List.not_mem_nil | refine List.forall_mem_cons.2 ⟨by first | rfl | assumption, ?_⟩)) (by repeat (first | exact Fr.here | apply Fr.fc | apply Fr.al | apply Fr.fa)) (by rfl) ⟨rfl, ?_⟩)
            refine WA.y (i := 13) (NoPanic.then (NoPanic.block (NoPanic.then (NoPanic.then (NoPanic.block (NoPanic.then (NoPanic.body))))))) rfl (by kernel_rfl) (by kernel_rfl) (by kernel_rfl) rfl (Yd.assign rfl) ?_
            refine WA.done (by kernel_rfl) ?_
            exact DN.reachS ((b8, (wo2, wc2), D2)) (hF2) (Sx.put rfl (Sx.put rfl ((by repeat (first | exact Sx.refl | refine Sx.skip rfl ?_))))) (by repeat (first | exact Sp.here | exact Sp.sn | exact Sp.s0 | exact Fr.here | apply Sp.s2 | apply Sp.sx | apply Fr.fc | apply Fr.al | apply Fr.fa | apply Sp.sc | apply Sp.al | apply Sp.sa))
          · refine WO.h rfl Wt.none rfl (Hd.build1 (e := 5) (z := .int .u8 0) (by kernel_rfl) (by kernel_rfl) (by kernel_rfl) rfl (by rfl) fun b33 => ⟨_, rfl, ?_⟩)
            refine WA.one (i := 4) (by kernel_rfl) ?_
            refine WO.c rfl Wt.none rfl (Ent.func Try.call23 rfl) (step_tells 1#32 ((1#32 + order % 1000000#32) + BitVec.ofNat 32 i) 0 false [120#8]) (Sp.p (by repeat (first | exact Sp.here | exact Sp.sn | exact Sp.s0 | exact Fr.here | apply Sp.s2 | apply Sp.sx | apply Fr.fc | apply Fr.al | apply Fr.fa | apply Sp.sc | apply Sp.al | apply Sp.sa))) ?_
            rintro x2 H2 ⟨bd2, cd2, blk2, rfl, hbk2, rfl⟩
            refine WA.one (i := 7) (by kernel_rfl) ?_
            refine WO.c rfl Wt.none rfl (Ent.func Try.call15 rfl) (keep_tells (eN i) (.slice wo i wc) (fullK (1#32 + order % 1000000#32) d i) (blk2 :: (row b33 (bc [d]) 5 :: D)) (hF.kv.mono (by repeat (first | exact Gr.refl | exact Gr.left Gr.refl | exact Gr.left (Gr.left Gr.refl) | exact Gr.left (Gr.app Gr.refl) | exact Gr.left (Gr.app (Gr.app Gr.refl)) | exact Gr.left (Gr.app (Gr.left Gr.refl)) | exact Gr.left (Gr.left (Gr.left Gr.refl)) | exact Gr.nil | exact Gr.app (Gr.left Gr.refl) | refine Gr.cons ?_ | refine Gr.app ?_ | refine Gr.both ?_ ?_ | refine Gr.put (by repeat (first | exact List.mem_cons_self | apply List.mem_cons_of_mem | apply List.mem_append_right)) ?_))) (by rw [fullK_len]; omega) (stepN 1#32 ((1#32 + order % 1000000#32) + BitVec.ofNat 32 i) 0 false [120#8]) (.slice none 0 0) _ (Bs_nil _) (hbk2.mono (by repeat (first | exact Gr.refl | exact Gr.left Gr.refl | exact Gr.left (Gr.left Gr.refl) | exact Gr.left (Gr.app Gr.refl) | exact Gr.left (Gr.app (Gr.app Gr.refl)) | exact Gr.left (Gr.app (Gr.left Gr.refl)) | exact Gr.left (Gr.left (Gr.left Gr.refl)) | exact Gr.nil | exact Gr.app (Gr.left Gr.refl) | refine Gr.cons ?_ | refine Gr.app ?_ | refine Gr.both ?_ ?_ | refine Gr.put (by repeat (first | exact List.mem_cons_self | apply List.mem_cons_of_mem | apply List.mem_append_right)) ?_))) 1 (.slice (some ⟨b33, 0, none⟩) 1 1) [d] (.inr ⟨b33, 0, 1, bc [d], 5, (0, 0), true, rfl, Nat.le_refl _, (by repeat (first | exact List.mem_cons_self | apply List.mem_cons_of_mem | apply List.mem_append_right)), rfl⟩)) (Sp.p (by repeat (first | exact Sp.here | exact Sp.sn | exact Sp.s0 | exact Fr.here | apply Sp.s2 | apply Sp.sx | apply Fr.fc | apply Fr.al | apply Fr.fa | apply Sp.sc | apply Sp.al | apply Sp.sa))) ?_
            rintro xa2 Ha2 ⟨w2, D2, rfl, hF2, rfl⟩
            rw [full_keep hf0 hf hlt] at hF2 ⊢
            obtain ⟨wo2, wc2, rfl⟩ := hF2.form
            dsimp only at hF2 ⊢
            rw [fullK_len] at hF2 ⊢
            refine WA.y (i := 8) (NoPanic.then (NoPanic.block (NoPanic.then (NoPanic.then (NoPanic.block (NoPanic.then (NoPanic.body))))))) rfl (by kernel_rfl) (by kernel_rfl) (by kernel_rfl) rfl (Yd.move rfl) ?_
            refine WA.y (i := 9) (NoPanic.then (NoPanic.block (NoPanic.then (NoPanic.then (NoPanic.block (NoPanic.then (NoPanic.body))))))) rfl (by kernel_rfl) (by kernel_rfl) (by kernel_rfl) rfl (Yd.extract rfl rfl) ?_
            refine WA.y (i := 10) (NoPanic.then (NoPanic.block (NoPanic.then (NoPanic.then (NoPanic.block (NoPanic.then (NoPanic.body))))))) rfl (by kernel_rfl) (by kernel_rfl) (by kernel_rfl) rfl (Yd.extract rfl rfl) ?_
            refine WA.one (i := 12) (by kernel_rfl) ?_
            refine WO.s rfl Wt.none (Hd.storeAll (n := 2) (by kernel_rfl) rfl rfl (by rfl) (by repeat (first | exact fun _ h => absurd h List.not_mem_nil | refine List.forall_mem_cons.2 ⟨by first | rfl | assumption, ?_⟩)) (by repeat (first | exact Fr.here | apply Fr.fc | apply Fr.al | apply Fr.fa)) (by rfl) ⟨rfl, ?_⟩)
            refine WA.y (i := 13) (NoPanic.then (NoPanic.block (NoPanic.then (NoPanic.then (NoPanic.block (NoPanic.then (NoPanic.body))))))) rfl (by kernel_rfl) (by kernel_rfl) (by kernel_rfl) rfl (Yd.assign rfl) ?_
            refine WA.done (by kernel_rfl) ?_
            exact DN.reachS ((b8, (wo2, wc2), D2)) (hF2) (Sx.put rfl (Sx.put rfl ((by repeat (first | exact Sx.refl | refine Sx.skip rfl ?_))))) (by repeat (first | exact Sp.here | exact Sp.sn | exact Sp.s0 | exact Fr.here | apply Sp.s2 | apply Sp.sx | apply Fr.fc | apply Fr.al | apply Fr.fa | apply Sp.sc | apply Sp.al | apply Sp.sa))
        · refine WO.c rfl Wt.none rfl (Ent.func Try.call23 rfl) (step_tells 1#32 ((1#32 + order % 1000000#32) + BitVec.ofNat 32 i) 0 false [120#8]) (Sp.p (by repeat (first | exact Sp.here | exact Sp.sn | exact Sp.s0 | exact Fr.here | apply Sp.s2 | apply Sp.sx | apply Fr.fc | apply Fr.al | apply Fr.fa | apply Sp.sc | apply Sp.al | apply Sp.sa))) ?_
          rintro x2 H2 ⟨bd2, cd2, blk2, rfl, hbk2, rfl⟩
          refine WA.two (i := 0) (j := 6) (by kernel_rfl) ?_ ?_
          · refine WO.h rfl Wt.none rfl (Hd.loadAll (n := 2) (by kernel_rfl) rfl (by repeat (first | exact List.mem_cons_self | apply List.mem_cons_of_mem | apply List.mem_append_right)) (by rfl) ⟨_, rfl, ?_⟩)
            refine WA.one (i := 6) (by kernel_rfl) ?_
            refine WO.h rfl Wt.none rfl (Hd.build1 (e := 5) (z := .int .u8 0) (by kernel_rfl) (by kernel_rfl) (by kernel_rfl) rfl (by rfl) fun b33 => ⟨_, rfl, ?_⟩)
            refine WA.one (i := 7) (by kernel_rfl) ?_
            refine WO.c rfl Wt.none rfl (Ent.func Try.call15 rfl) (keep_tells (eN i) (.slice wo i wc) (fullK (1#32 + order % 1000000#32) d i) (blk2 :: (row b33 (bc [d]) 5 :: D)) (hF.kv.mono (by repeat (first | exact Gr.refl | exact Gr.left Gr.refl | exact Gr.left (Gr.left Gr.refl) | exact Gr.left (Gr.app Gr.refl) | exact Gr.left (Gr.app (Gr.app Gr.refl)) | exact Gr.left (Gr.app (Gr.left Gr.refl)) | exact Gr.left (Gr.left (Gr.left Gr.refl)) | exact Gr.nil | exact Gr.app (Gr.left Gr.refl) | refine Gr.cons ?_ | refine Gr.app ?_ | refine Gr.both ?_ ?_ | refine Gr.put (by repeat (first | exact List.mem_cons_self | apply List.mem_cons_of_mem | apply List.mem_append_right)) ?_))) (by rw [fullK_len]; omega) (stepN 1#32 ((1#32 + order % 1000000#32) + BitVec.ofNat 32 i) 0 false [120#8]) (.slice none 0 0) _ (Bs_nil _) (hbk2.mono (by repeat (first | exact Gr.refl | exact Gr.left Gr.refl | exact Gr.left (Gr.left Gr.refl) | exact Gr.left (Gr.app Gr.refl) | exact Gr.left (Gr.app (Gr.app Gr.refl)) | exact Gr.left (Gr.app (Gr.left Gr.refl)) | exact Gr.left (Gr.left (Gr.left Gr.refl)) | exact Gr.nil | exact Gr.app (Gr.left Gr.refl) | refine Gr.cons ?_ | refine Gr.app ?_ | refine Gr.both ?_ ?_ | refine Gr.put (by repeat (first | exact List.mem_cons_self | apply List.mem_cons_of_mem | apply List.mem_append_right)) ?_))) 1 (.slice (some ⟨b33, 0, none⟩) 1 1) [d] (.inr ⟨b33, 0, 1, bc [d], 5, (0, 0), true, rfl, Nat.le_refl _, (by repeat (first | exact List.mem_cons_self | apply List.mem_cons_of_mem | apply List.mem_append_right)), rfl⟩)) (Sp.p (by repeat (first | exact Sp.here | exact Sp.sn | exact Sp.s0 | exact Fr.here | apply Sp.s2 | apply Sp.sx | apply Fr.fc | apply Fr.al | apply Fr.fa | apply Sp.sc | apply Sp.al | apply Sp.sa))) ?_
            rintro xa2 Ha2 ⟨w2, D2, rfl, hF2, rfl⟩
            rw [full_keep hf0 hf hlt] at hF2 ⊢
            obtain ⟨wo2, wc2, rfl⟩ := hF2.form
            dsimp only at hF2 ⊢
            rw [fullK_len] at hF2 ⊢
            refine WA.y (i := 8) (NoPanic.then (NoPanic.block (NoPanic.then (NoPanic.then (NoPanic.block (NoPanic.then (NoPanic.body))))))) rfl (by kernel_rfl) (by kernel_rfl) (by kernel_rfl) rfl (Yd.move rfl) ?_
            refine WA.y (i := 9) (NoPanic.then (NoPanic.block (NoPanic.then (NoPanic.then (NoPanic.block (NoPanic.then (NoPanic.body))))))) rfl (by kernel_rfl) (by kernel_rfl) (by kernel_rfl) rfl (Yd.extract rfl rfl) ?_
            refine WA.y (i := 10) (NoPanic.then (NoPanic.block (NoPanic.then (NoPanic.then (NoPanic.block (NoPanic.then (NoPanic.body))))))) rfl (by kernel_rfl) (by kernel_rfl) (by kernel_rfl) rfl (Yd.extract rfl rfl) ?_
            refine WA.one (i := 12) (by kernel_rfl) ?_
            refine WO.s rfl Wt.none (Hd.storeAll (n := 2) (by kernel_rfl) rfl rfl (by rfl) (by repeat (first | exact fun _ h => absurd h List.not_mem_nil | refine List.forall_mem_cons.2 ⟨by first | rfl | assumption, ?_⟩)) (by repeat (first | exact Fr.here | apply Fr.fc | apply Fr.al | apply Fr.fa)) (by rfl) ⟨rfl, ?_⟩)
            refine WA.y (i := 13) (NoPanic.then (NoPanic.block (NoPanic.then (NoPanic.then (NoPanic.block (NoPanic.then (NoPanic.body))))))) rfl (by kernel_rfl) (by kernel_rfl) (by kernel_rfl) rfl (Yd.assign rfl) ?_
            refine WA.done (by kernel_rfl) ?_
            exact DN.reachS ((b8, (wo2, wc2), D2)) (hF2) (Sx.put rfl (Sx.put rfl ((by repeat (first | exact Sx.refl | refine Sx.skip rfl ?_))))) (by repeat (first | exact Sp.here | exact Sp.sn | exact Sp.s0 | exact Fr.here | apply Sp.s2 | apply Sp.sx | apply Fr.fc | apply Fr.al | apply Fr.fa | apply Sp.sc | apply Sp.al | apply Sp.sa))
          · refine WO.h rfl Wt.none rfl (Hd.build1 (e := 5) (z := .int .u8 0) (by kernel_rfl) (by kernel_rfl) (by kernel_rfl) rfl (by rfl) fun b33 => ⟨_, rfl, ?_⟩)
            refine WA.one (i := 0) (by kernel_rfl) ?_
            refine WO.h rfl Wt.none rfl (Hd.loadAll (n := 2) (by kernel_rfl) rfl (by repeat (first | exact List.mem_cons_self | apply List.mem_cons_of_mem | apply List.mem_append_right)) (by rfl) ⟨_, rfl, ?_⟩)
            refine WA.one (i := 7) (by kernel_rfl) ?_
            refine WO.c rfl Wt.none rfl (Ent.func Try.call15 rfl) (keep_tells (eN i) (.slice wo i wc) (fullK (1#32 + order % 1000000#32) d i) (blk2 :: (row b33 (bc [d]) 5 :: D)) (hF.kv.mono (by repeat (first | exact Gr.refl | exact Gr.left Gr.refl | exact Gr.left (Gr.left Gr.refl) | exact Gr.left (Gr.app Gr.refl) | exact Gr.left (Gr.app (Gr.app Gr.refl)) | exact Gr.left (Gr.app (Gr.left Gr.refl)) | exact Gr.left (Gr.left (Gr.left Gr.refl)) | exact Gr.nil | exact Gr.app (Gr.left Gr.refl) | refine Gr.cons ?_ | refine Gr.app ?_ | refine Gr.both ?_ ?_ | refine Gr.put (by repeat (first | exact List.mem_cons_self | apply List.mem_cons_of_mem | apply List.mem_append_right)) ?_))) (by rw [fullK_len]; omega) (stepN 1#32 ((1#32 + order % 1000000#32) + BitVec.ofNat 32 i) 0 false [120#8]) (.slice none 0 0) _ (Bs_nil _) (hbk2.mono (by repeat (first | exact Gr.refl | exact Gr.left Gr.refl | exact Gr.left (Gr.left Gr.refl) | exact Gr.left (Gr.app Gr.refl) | exact Gr.left (Gr.app (Gr.app Gr.refl)) | exact Gr.left (Gr.app (Gr.left Gr.refl)) | exact Gr.left (Gr.left (Gr.left Gr.refl)) | exact Gr.nil | exact Gr.app (Gr.left Gr.refl) | refine Gr.cons ?_ | refine Gr.app ?_ | refine Gr.both ?_ ?_ | refine Gr.put (by repeat (first | exact List.mem_cons_self | apply List.mem_cons_of_mem | apply List.mem_append_right)) ?_))) 1 (.slice (some ⟨b33, 0, none⟩) 1 1) [d] (.inr ⟨b33, 0, 1, bc [d], 5, (0, 0), true, rfl, Nat.le_refl _, (by repeat (first | exact List.mem_cons_self | apply List.mem_cons_of_mem | apply List.mem_append_right)), rfl⟩)) (Sp.p (by repeat (first | exact Sp.here | exact Sp.sn | exact Sp.s0 | exact Fr.here | apply Sp.s2 | apply Sp.sx | apply Fr.fc | apply Fr.al | apply Fr.fa | apply Sp.sc | apply Sp.al | apply Sp.sa))) ?_
            rintro xa2 Ha2 ⟨w2, D2, rfl, hF2, rfl⟩
            rw [full_keep hf0 hf hlt] at hF2 ⊢
            obtain ⟨wo2, wc2, rfl⟩ := hF2.form
            dsimp only at hF2 ⊢
            rw [fullK_len] at hF2 ⊢
            refine WA.y (i := 8) (NoPanic.then (NoPanic.block (NoPanic.then (NoPanic.then (NoPanic.block (NoPanic.then (NoPanic.body))))))) rfl (by kernel_rfl) (by kernel_rfl) (by kernel_rfl) rfl (Yd.move rfl) ?_
            refine WA.y (i := 9) (NoPanic.then (NoPanic.block (NoPanic.then (NoPanic.then (NoPanic.block (NoPanic.then (NoPanic.body))))))) rfl (by kernel_rfl) (by kernel_rfl) (by kernel_rfl) rfl (Yd.extract rfl rfl) ?_
            refine WA.y (i := 10) (NoPanic.then (NoPanic.block (NoPanic.then (NoPanic.then (NoPanic.block (NoPanic.then (NoPanic.body))))))) rfl (by kernel_rfl) (by kernel_rfl) (by kernel_rfl) rfl (Yd.extract rfl rfl) ?_
            refine WA.one (i := 12) (by kernel_rfl) ?_
            refine WO.s rfl Wt.none (Hd.storeAll (n := 2) (by kernel_rfl) rfl rfl (by rfl) (by repeat (first | exact fun _ h => absurd h List.not_mem_nil | refine List.forall_mem_cons.2 ⟨by first | rfl | assumption, ?_⟩)) (by repeat (first | exact Fr.here | apply Fr.fc | apply Fr.al | apply Fr.fa)) (by rfl) ⟨rfl, ?_⟩)
            refine WA.y (i := 13) (NoPanic.then (NoPanic.block (NoPanic.then (NoPanic.then (NoPanic.block (NoPanic.then (NoPanic.body))))))) rfl (by kernel_rfl) (by kernel_rfl) (by kernel_rfl) rfl (Yd.assign rfl) ?_
            refine WA.done (by kernel_rfl) ?_
            exact DN.reachS ((b8, (wo2, wc2), D2)) (hF2) (Sx.put rfl (Sx.put rfl ((by repeat (first | exact Sx.refl | refine Sx.skip rfl ?_))))) (by repeat (first | exact Sp.here | exact Sp.sn | exact Sp.s0 | exact Fr.here | apply Sp.s2 | apply Sp.sx | apply Fr.fc | apply Fr.al | apply Fr.fa | apply Sp.sc | apply Sp.al | apply Sp.sa))
        · refine WO.h rfl Wt.none rfl (Hd.build1 (e := 5) (z := .int .u8 0) (by kernel_rfl) (by kernel_rfl) (by kernel_rfl) rfl (by rfl) fun b33 => ⟨_, rfl, ?_⟩)
          refine WA.two (i := 0) (j := 4) (by kernel_rfl) ?_ ?_
          · refine WO.h rfl Wt.none rfl (Hd.loadAll (n := 2) (by kernel_rfl) rfl (by repeat (first | exact List.mem_cons_self | apply List.mem_cons_of_mem | apply List.mem_append_right)) (by rfl) ⟨_, rfl, ?_⟩)
            refine WA.one (i := 4) (by kernel_rfl) ?_
            refine WO.c rfl Wt.none rfl (Ent.func Try.call23 rfl) (step_tells 1#32 ((1#32 + order % 1000000#32) + BitVec.ofNat 32 i) 0 false [120#8]) (Sp.p (by repeat (first | exact Sp.here | exact Sp.sn | exact Sp.s0 | exact Fr.here | apply Sp.s2 | apply Sp.sx | apply Fr.fc | apply Fr.al | apply Fr.fa | apply Sp.sc | apply Sp.al | apply Sp.sa))) ?_
            rintro x2 H2 ⟨bd2, cd2, blk2, rfl, hbk2, rfl⟩
            refine WA.one (i := 7) (by kernel_rfl) ?_
            refine WO.c rfl Wt.none rfl (Ent.func Try.call15 rfl) (keep_tells (eN i) (.slice wo i wc) (fullK (1#32 + order % 1000000#32) d i) (blk2 :: (row b33 (bc [d]) 5 :: D)) (hF.kv.mono (by repeat (first | exact Gr.refl | exact Gr.left Gr.refl | exact Gr.left (Gr.left Gr.refl) | exact Gr.left (Gr.app Gr.refl) | exact Gr.left (Gr.app (Gr.app Gr.refl)) | exact Gr.left (Gr.app (Gr.left Gr.refl)) | exact Gr.left (Gr.left (Gr.left Gr.refl)) | exact Gr.nil | exact Gr.app (Gr.left Gr.refl) | refine Gr.cons ?_ | refine Gr.app ?_ | refine Gr.both ?_ ?_ | refine Gr.put (by repeat (first | exact List.mem_cons_self | apply List.mem_cons_of_mem | apply List.mem_append_right)) ?_))) (by rw [fullK_len]; omega) (stepN 1#32 ((1#32 + order % 1000000#32) + BitVec.ofNat 32 i) 0 false [120#8]) (.slice none 0 0) _ (Bs_nil _) (hbk2.mono (by repeat (first | exact Gr.refl | exact Gr.left Gr.refl | exact Gr.left (Gr.left Gr.refl) | exact Gr.left (Gr.app Gr.refl) | exact Gr.left (Gr.app (Gr.app Gr.refl)) | exact Gr.left (Gr.app (Gr.left Gr.refl)) | exact Gr.left (Gr.left (Gr.left Gr.refl)) | exact Gr.nil | exact Gr.app (Gr.left Gr.refl) | refine Gr.cons ?_ | refine Gr.app ?_ | refine Gr.both ?_ ?_ | refine Gr.put (by repeat (first | exact List.mem_cons_self | apply List.mem_cons_of_mem | apply List.mem_append_right)) ?_))) 1 (.slice (some ⟨b33, 0, none⟩) 1 1) [d] (.inr ⟨b33, 0, 1, bc [d], 5, (0, 0), true, rfl, Nat.le_refl _, (by repeat (first | exact List.mem_cons_self | apply List.mem_cons_of_mem | apply List.mem_append_right)), rfl⟩)) (Sp.p (by repeat (first | exact Sp.here | exact Sp.sn | exact Sp.s0 | exact Fr.here | apply Sp.s2 | apply Sp.sx | apply Fr.fc | apply Fr.al | apply Fr.fa | apply Sp.sc | apply Sp.al | apply Sp.sa))) ?_
            rintro xa2 Ha2 ⟨w2, D2, rfl, hF2, rfl⟩
            rw [full_keep hf0 hf hlt] at hF2 ⊢
            obtain ⟨wo2, wc2, rfl⟩ := hF2.form
            dsimp only at hF2 ⊢
            rw [fullK_len] at hF2 ⊢
            refine WA.y (i := 8) (NoPanic.then (NoPanic.block (NoPanic.then (NoPanic.then (NoPanic.block (NoPanic.then (NoPanic.body))))))) rfl (by kernel_rfl) (by kernel_rfl) (by kernel_rfl) rfl (Yd.move rfl) ?_
            refine WA.y (i := 9) (NoPanic.then (NoPanic.block (NoPanic.then (NoPanic.then (NoPanic.block (NoPanic.then (NoPanic.body))))))) rfl (by kernel_rfl) (by kernel_rfl) (by kernel_rfl) rfl (Yd.extract rfl rfl) ?_
            refine WA.y (i := 10) (NoPanic.then (NoPanic.block (NoPanic.then (NoPanic.then (NoPanic.block (NoPanic.then (NoPanic.body))))))) rfl (by kernel_rfl) (by kernel_rfl) (by kernel_rfl) rfl (Yd.extract rfl rfl) ?_
            refine WA.one (i := 12) (by kernel_rfl) ?_
            refine WO.s rfl Wt.none (Hd.storeAll (n := 2) (by kernel_rfl) rfl rfl (by rfl) (by repeat (first | exact fun _ h => absurd h List.not_mem_nil | refine List.forall_mem_cons.2 ⟨by first | rfl | assumption, ?_⟩)) (by repeat (first | exact Fr.here | apply Fr.fc | apply Fr.al | apply Fr.fa)) (by rfl) ⟨rfl, ?_⟩)
            refine WA.y (i := 13) (NoPanic.then (NoPanic.block (NoPanic.then (NoPanic.then (NoPanic.block (NoPanic.then (NoPanic.body))))))) rfl (by kernel_rfl) (by kernel_rfl) (by kernel_rfl) rfl (Yd.assign rfl) ?_
            refine WA.done (by kernel_rfl) ?_
            exact DN.reachS ((b8, (wo2, wc2), D2)) (hF2) (Sx.put rfl (Sx.put rfl ((by repeat (first | exact Sx.refl | refine Sx.skip rfl ?_))))) (by repeat (first | exact Sp.here | exact Sp.sn | exact Sp.s0 | exact Fr.here | apply Sp.s2 | apply Sp.sx | apply Fr.fc | apply Fr.al | apply Fr.fa | apply Sp.sc | apply Sp.al | apply Sp.sa))
          · refine WO.c rfl Wt.none rfl (Ent.func Try.call23 rfl) (step_tells 1#32 ((1#32 + order % 1000000#32) + BitVec.ofNat 32 i) 0 false [120#8]) (Sp.p (by repeat (first | exact Sp.here | exact Sp.sn | exact Sp.s0 | exact Fr.here | apply Sp.s2 | apply Sp.sx | apply Fr.fc | apply Fr.al | apply Fr.fa | apply Sp.sc | apply Sp.al | apply Sp.sa))) ?_
            rintro x2 H2 ⟨bd2, cd2, blk2, rfl, hbk2, rfl⟩
            refine WA.one (i := 0) (by kernel_rfl) ?_
            refine WO.h rfl Wt.none rfl (Hd.loadAll (n := 2) (by kernel_rfl) rfl (by repeat (first | exact List.mem_cons_self | apply List.mem_cons_of_mem | apply List.mem_append_right)) (by rfl) ⟨_, rfl, ?_⟩)
            refine WA.one (i := 7) (by kernel_rfl) ?_
            refine WO.c rfl Wt.none rfl (Ent.func Try.call15 rfl) (keep_tells (eN i) (.slice wo i wc) (fullK (1#32 + order % 1000000#32) d i) (blk2 :: (row b33 (bc [d]) 5 :: D)) (hF.kv.mono (by repeat (first | exact Gr.refl | exact Gr.left Gr.refl | exact Gr.left (Gr.left Gr.refl) | exact Gr.left (Gr.app Gr.refl) | exact Gr.left (Gr.app (Gr.app Gr.refl)) | exact Gr.left (Gr.app (Gr.left Gr.refl)) | exact Gr.left (Gr.left (Gr.left Gr.refl)) | exact Gr.nil | exact Gr.app (Gr.left Gr.refl) | refine Gr.cons ?_ | refine Gr.app ?_ | refine Gr.both ?_ ?_ | refine Gr.put (by repeat (first | exact List.mem_cons_self | apply List.mem_cons_of_mem | apply List.mem_append_right)) ?_))) (by rw [fullK_len]; omega) (stepN 1#32 ((1#32 + order % 1000000#32) + BitVec.ofNat 32 i) 0 false [120#8]) (.slice none 0 0) _ (Bs_nil _) (hbk2.mono (by repeat (first | exact Gr.refl | exact Gr.left Gr.refl | exact Gr.left (Gr.left Gr.refl) | exact Gr.left (Gr.app Gr.refl) | exact Gr.left (Gr.app (Gr.app Gr.refl)) | exact Gr.left (Gr.app (Gr.left Gr.refl)) | exact Gr.left (Gr.left (Gr.left Gr.refl)) | exact Gr.nil | exact Gr.app (Gr.left Gr.refl) | refine Gr.cons ?_ | refine Gr.app ?_ | refine Gr.both ?_ ?_ | refine Gr.put (by repeat (first | exact List.mem_cons_self | apply List.mem_cons_of_mem | apply List.mem_append_right)) ?_))) 1 (.slice (some ⟨b33, 0, none⟩) 1 1) [d] (.inr ⟨b33, 0, 1, bc [d], 5, (0, 0), true, rfl, Nat.le_refl _, (by repeat (first | exact List.mem_cons_self | apply List.mem_cons_of_mem | apply List.mem_append_right)), rfl⟩)) (Sp.p (by repeat (first | exact Sp.here | exact Sp.sn | exact Sp.s0 | exact Fr.here | apply Sp.s2 | apply Sp.sx | apply Fr.fc | apply Fr.al | apply Fr.fa | apply Sp.sc | apply Sp.al | apply Sp.sa))) ?_
            rintro xa2 Ha2 ⟨w2, D2, rfl, hF2, rfl⟩
            rw [full_keep hf0 hf hlt] at hF2 ⊢
            obtain ⟨wo2, wc2, rfl⟩ := hF2.form
            dsimp only at hF2 ⊢
            rw [fullK_len] at hF2 ⊢
            refine WA.y (i := 8) (NoPanic.then (NoPanic.block (NoPanic.then (NoPanic.then (NoPanic.block (NoPanic.then (NoPanic.body))))))) rfl (by kernel_rfl) (by kernel_rfl) (by kernel_rfl) rfl (Yd.move rfl) ?_
            refine WA.y (i := 9) (NoPanic.then (NoPanic.block (NoPanic.then (NoPanic.then (NoPanic.block (NoPanic.then (NoPanic.body))))))) rfl (by kernel_rfl) (by kernel_rfl) (by kernel_rfl) rfl (Yd.extract rfl rfl) ?_
            refine WA.y (i := 10) (NoPanic.then (NoPanic.block (NoPanic.then (NoPanic.then (NoPanic.block (NoPanic.then (NoPanic.body))))))) rfl (by kernel_rfl) (by kernel_rfl) (by kernel_rfl) rfl (Yd.extract rfl rfl) ?_
            refine WA.one (i := 12) (by kernel_rfl) ?_
            refine WO.s rfl Wt.none (Hd.storeAll (n := 2) (by kernel_rfl) rfl rfl (by rfl) (by repeat (first | exact fun _ h => absurd h List.not_mem_nil | refine List.forall_mem_cons.2 ⟨by first | rfl | assumption, ?_⟩)) (by repeat (first | exact Fr.here | apply Fr.fc | apply Fr.al | apply Fr.fa)) (by rfl) ⟨rfl, ?_⟩)
            refine WA.y (i := 13) (NoPanic.then (NoPanic.block (NoPanic.then (NoPanic.then (NoPanic.block (NoPanic.then (NoPanic.body))))))) rfl (by kernel_rfl) (by kernel_rfl) (by kernel_rfl) rfl (Yd.assign rfl) ?_
            refine WA.done (by kernel_rfl) ?_
            exact DN.reachS ((b8, (wo2, wc2), D2)) (hF2) (Sx.put rfl (Sx.put rfl ((by repeat (first | exact Sx.refl | refine Sx.skip rfl ?_))))) (by repeat (first | exact Sp.here | exact Sp.sn | exact Sp.s0 | exact Fr.here | apply Sp.s2 | apply Sp.sx | apply Fr.fc | apply Fr.al | apply Fr.fa | apply Sp.sc | apply Sp.al | apply Sp.sa))
    · rintro ⟨b8, ⟨wo6, wc6⟩, D6⟩ hF6
      dsimp only at hF6 ⊢
      refine WC.seq ?_
      refine WC.seq ?_
      refine WC.region ?_
      refine WL.y rfl (Yd.move rfl) ?_
      refine WL.y rfl (Yd.neq rfl rfl) ?_
      refine WL.y rfl (Yd.move rfl) ?_
      refine WL.renamed (t := 39) (v := .bool false) rfl (congrArg Value.bool (by decide)) ?_
      refine WL.gy (dj := 39) rfl rfl rfl (Yd.fieldAddr (k := 1) (by kernel_rfl) rfl) ?_
      refine WL.gh (dj := 39) rfl rfl rfl (Hd.load1 (by kernel_rfl) rfl (by repeat (first | exact List.mem_cons_self | apply List.mem_cons_of_mem | apply List.mem_append_right)) (by rfl) ⟨_, rfl, ?_⟩)
      refine WL.gy (dj := 39) rfl rfl rfl (Yd.len (e := 43) (by kernel_rfl) rfl) ?_
      refine WL.gy (dj := 39) rfl rfl rfl (Yd.move rfl) ?_
      refine WL.gy (dj := 39) rfl rfl rfl (Yd.add32 _ (1#32) rfl rfl rfl rfl) ?_
      refine WL.gy (dj := 39) rfl rfl rfl (Yd.int32 _ (by kernel_rfl) (by kernel_rfl) rfl rfl) ?_
      refine WL.gy (dj := 39) rfl rfl rfl (Yd.neq rfl rfl) ?_
      refine WL.y rfl (Yd.pickF rfl rfl) ?_
      refine WL.renamed (t := 47) (v := .bool false) rfl (congrArg Value.bool (by rw [decide_eq_false_iff_not]; intro h; apply h; rw [BitVec.toNat_add, hiN, Nat.mod_eq_of_lt (by simp only [BitVec.toNat_ofNat]; omega)]; rfl)) ?_
      refine WL.nil ?_
      refine DN.then_normal ?_
      refine WC.no rfl ?_
      refine WC.skip ?_
      refine DN.then_normal ?_
      refine WC.region ?_
      refine WL.h rfl (Hd.loadAll (n := 2) (by kernel_rfl) rfl (by repeat (first | exact List.mem_cons_self | apply List.mem_cons_of_mem | apply List.mem_append_right)) (by rfl) ⟨_, rfl, ?_⟩)
      refine WL.s (Hd.storeAll (n := 2) (by kernel_rfl) rfl rfl (by rfl) (by repeat (first | exact fun _ h => absurd h List.not_mem_nil | refine List.forall_mem_cons.2 ⟨by first | rfl | assumption, ?_⟩)) (by repeat (first | exact Fr.here | apply Fr.fc | apply Fr.al | apply Fr.fa)) (by rfl) ⟨rfl, ?_⟩)
      refine WL.nil ?_
      refine DN.block_normal ?_
      refine DN.then_normal ?_
      refine WC.region ?_
      refine WL.y rfl (Yd.move rfl) ?_
      refine WL.y rfl (Yd.add32 _ (1#32) rfl rfl rfl rfl) ?_
      refine WL.renamed (t := 25) (v := .int .u32 (BitVec.ofNat 32 (i + 1)).toNat) rfl (congrArg (fun q : BitVec 32 => Value.int .u32 q.toNat) (by apply BitVec.eq_of_toNat_eq; simp)) ?_
      refine WL.y rfl (Yd.assign rfl) ?_
      refine WL.nil ?_
      exact DN.againS (⟨i + 1, .slice wo6 (i + 1) wc6, D6⟩) (show (i + 1) ≤ 200 ∧ FAt 5 43 (.slice wo6 (i + 1) wc6) (fullK (1#32 + order % 1000000#32) d (i + 1)) D6 from ⟨by omega, hF6⟩) (show 200 - (i + 1) < 200 - i by omega) (Sx.put rfl ((by repeat (first | exact Sx.refl | refine Sx.skip rfl ?_)))) (by repeat (first | exact Sp.here | exact Sp.sn | exact Sp.s0 | exact Fr.here | apply Sp.s2 | apply Sp.sx | apply Fr.fc | apply Fr.al | apply Fr.fa | apply Sp.sc | apply Sp.al | apply Sp.sa))
  · obtain rfl : i = 200 := by omega
    refine WC.exit ?_
    refine DN.then_exit ?_
    refine DN.then_exit ?_
    refine DN.block_exit ?_
    refine DN.then_normal ?_
    refine WC.cutK (fun z : Unit => True) (fun z : Unit => [(11, .int .i64 5)]) (fun z : Unit => row b5 [.int .u32 (eN 200).toNat, .slice wo 200 wc] 25 :: D) ?_ ?_
    · refine WC.draw 11 (by kernel_rfl) rfl ?_
      refine WA.y (i := 1) (NoPanic.then (NoPanic.body)) rfl (by kernel_rfl) (by kernel_rfl) (by kernel_rfl) rfl (Yd.move rfl) ?_
      refine WA.y (i := 2) (NoPanic.then (NoPanic.body)) rfl (by kernel_rfl) (by kernel_rfl) (by kernel_rfl) rfl (Yd.add32 _ (200#32) rfl rfl rfl rfl) ?_
      refine WA.three (i := 0) (j := 3) (k := 8) (by kernel_rfl) ?_ ?_ ?_
      · refine WO.h rfl Wt.none rfl (Hd.loadAll (n := 2) (by kernel_rfl) rfl (by repeat (first | exact List.mem_cons_self | apply List.mem_cons_of_mem | apply List.mem_append_right)) (by rfl) ⟨_, rfl, ?_⟩)
        refine WA.two (i := 3) (j := 8) (by kernel_rfl) ?_ ?_
        · refine WO.c rfl Wt.none rfl (Ent.func Try.call23 rfl) (step_tells 1#32 ((1#32 + order % 1000000#32) + BitVec.ofNat 32 200) 0 false [120#8]) (Sp.p (by repeat (first | exact Sp.here | exact Sp.sn | exact Sp.s0 | exact Fr.here | apply Sp.s2 | apply Sp.sx | apply Fr.fc | apply Fr.al | apply Fr.fa | apply Sp.sc | apply Sp.al | apply Sp.sa))) ?_
          rintro x3 H3 ⟨bd3, cd3, blk3, rfl, hbk3, rfl⟩
          refine WA.two (i := 4) (j := 8) (by kernel_rfl) ?_ ?_
          · refine WO.c rfl Wt.none rfl (Ent.func Try.call15 rfl) (keep_tells (eN 200) (.slice wo 200 wc) (fullK (1#32 + order % 1000000#32) d 200) (blk3 :: (D)) (hF.kv.mono (by repeat (first | exact Gr.refl | exact Gr.left Gr.refl | exact Gr.left (Gr.left Gr.refl) | exact Gr.left (Gr.app Gr.refl) | exact Gr.left (Gr.app (Gr.app Gr.refl)) | exact Gr.left (Gr.app (Gr.left Gr.refl)) | exact Gr.left (Gr.left (Gr.left Gr.refl)) | exact Gr.nil | exact Gr.app (Gr.left Gr.refl) | refine Gr.cons ?_ | refine Gr.app ?_ | refine Gr.both ?_ ?_ | refine Gr.put (by repeat (first | exact List.mem_cons_self | apply List.mem_cons_of_mem | apply List.mem_append_right)) ?_))) (by rw [fullK_len]; omega) (stepN 1#32 ((1#32 + order % 1000000#32) + BitVec.ofNat 32 200) 0 false [120#8]) (.slice none 0 0) _ (Bs_nil _) (hbk3.mono (by repeat (first | exact Gr.refl | exact Gr.left Gr.refl | exact Gr.left (Gr.left Gr.refl) | exact Gr.left (Gr.app Gr.refl) | exact Gr.left (Gr.app (Gr.app Gr.refl)) | exact Gr.left (Gr.app (Gr.left Gr.refl)) | exact Gr.left (Gr.left (Gr.left Gr.refl)) | exact Gr.nil | exact Gr.app (Gr.left Gr.refl) | refine Gr.cons ?_ | refine Gr.app ?_ | refine Gr.both ?_ ?_ | refine Gr.put (by repeat (first | exact List.mem_cons_self | apply List.mem_cons_of_mem | apply List.mem_append_right)) ?_))) 1 (.slice none 0 0) [] (Bs_nil _)) (Sp.p (by repeat (first | exact Sp.here | exact Sp.sn | exact Sp.s0 | exact Fr.here | apply Sp.s2 | apply Sp.sx | apply Fr.fc | apply Fr.al | apply Fr.fa | apply Sp.sc | apply Sp.al | apply Sp.sa))) ?_
            rintro xa3 Ha3 ⟨w3, D3, rfl, hF3, rfl⟩
            rw [full_full hf0 hf] at hF3 ⊢
            obtain ⟨wo3, wc3, rfl⟩ := hF3.form
            refine WA.y (i := 5) (NoPanic.then (NoPanic.body)) rfl (by kernel_rfl) (by kernel_rfl) (by kernel_rfl) rfl (Yd.move rfl) ?_
            refine WA.y (i := 6) (NoPanic.then (NoPanic.body)) rfl (by kernel_rfl) (by kernel_rfl) (by kernel_rfl) rfl (Yd.extract rfl rfl) ?_
            refine WA.y (i := 7) (NoPanic.then (NoPanic.body)) rfl (by kernel_rfl) (by kernel_rfl) (by kernel_rfl) rfl (Yd.extract rfl rfl) ?_
            refine WA.one (i := 8) (by kernel_rfl) ?_
            refine WO.h rfl Wt.none rfl (Hd.alloc (zs := [.int .u32 0, .slice none 0 0]) (by kernel_rfl) fun b10 => ⟨_, rfl, ?_⟩)
            refine WA.one (i := 9) (by kernel_rfl) ?_
            refine WO.s rfl Wt.none (Hd.storeAll (n := 2) (by kernel_rfl) rfl rfl (by rfl) (by repeat (first | exact fun _ h => absurd h List.not_mem_nil | refine List.forall_mem_cons.2 ⟨by first | rfl | assumption, ?_⟩)) (by repeat (first | exact Fr.here | apply Fr.fc | apply Fr.al | apply Fr.fa)) (by rfl) ⟨rfl, ?_⟩)
            refine WA.y (i := 10) (NoPanic.then (NoPanic.body)) rfl (by kernel_rfl) (by kernel_rfl) (by kernel_rfl) rfl (Yd.assign rfl) ?_
            refine WA.done (by kernel_rfl) ?_
            exact DN.reachS (()) (trivial) (Sx.put rfl ((by repeat (first | exact Sx.refl | refine Sx.skip rfl ?_)))) (by repeat (first | exact Sp.here | exact Sp.sn | exact Sp.s0 | exact Fr.here | apply Sp.s2 | apply Sp.sx | apply Fr.fc | apply Fr.al | apply Fr.fa | apply Sp.sc | apply Sp.al | apply Sp.sa))
          · refine WO.h rfl Wt.none rfl (Hd.alloc (zs := [.int .u32 0, .slice none 0 0]) (by kernel_rfl) fun b10 => ⟨_, rfl, ?_⟩)
            refine WA.one (i := 4) (by kernel_rfl) ?_
            refine WO.c rfl Wt.none rfl (Ent.func Try.call15 rfl) (keep_tells (eN 200) (.slice wo 200 wc) (fullK (1#32 + order % 1000000#32) d 200) (blk3 :: (D)) (hF.kv.mono (by repeat (first | exact Gr.refl | exact Gr.left Gr.refl | exact Gr.left (Gr.left Gr.refl) | exact Gr.left (Gr.app Gr.refl) | exact Gr.left (Gr.app (Gr.app Gr.refl)) | exact Gr.left (Gr.app (Gr.left Gr.refl)) | exact Gr.left (Gr.left (Gr.left Gr.refl)) | exact Gr.nil | exact Gr.app (Gr.left Gr.refl) | refine Gr.cons ?_ | refine Gr.app ?_ | refine Gr.both ?_ ?_ | refine Gr.put (by repeat (first | exact List.mem_cons_self | apply List.mem_cons_of_mem | apply List.mem_append_right)) ?_))) (by rw [fullK_len]; omega) (stepN 1#32 ((1#32 + order % 1000000#32) + BitVec.ofNat 32 200) 0 false [120#8]) (.slice none 0 0) _ (Bs_nil _) (hbk3.mono (by repeat (first | exact Gr.refl | exact Gr.left Gr.refl | exact Gr.left (Gr.left Gr.refl) | exact Gr.left (Gr.app Gr.refl) | exact Gr.left (Gr.app (Gr.app Gr.refl)) | exact Gr.left (Gr.app (Gr.left Gr.refl)) | exact Gr.left (Gr.left (Gr.left Gr.refl)) | exact Gr.nil | exact Gr.app (Gr.left Gr.refl) | refine Gr.cons ?_ | refine Gr.app ?_ | refine Gr.both ?_ ?_ | refine Gr.put (by repeat (first | exact List.mem_cons_self | apply List.mem_cons_of_mem | apply List.mem_append_right)) ?_))) 1 (.slice none 0 0) [] (Bs_nil _)) (Sp.p (by repeat (first | exact Sp.here | exact Sp.sn | exact Sp.s0 | exact Fr.here | apply Sp.s2 | apply Sp.sx | apply Fr.fc | apply Fr.al | apply Fr.fa | apply Sp.sc | apply Sp.al | apply Sp.sa))) ?_
            rintro xa3 Ha3 ⟨w3, D3, rfl, hF3, rfl⟩
            rw [full_full hf0 hf] at hF3 ⊢
            obtain ⟨wo3, wc3, rfl⟩ := hF3.form
            refine WA.y (i := 5) (NoPanic.then (NoPanic.body)) rfl (by kernel_rfl) (by kernel_rfl) (by kernel_rfl) rfl (Yd.move rfl) ?_
            refine WA.y (i := 6) (NoPanic.then (NoPanic.body)) rfl (by kernel_rfl) (by kernel_rfl) (by kernel_rfl) rfl (Yd.extract rfl rfl) ?_
            refine WA.y (i := 7) (NoPanic.then (NoPanic.body)) rfl (by kernel_rfl) (by kernel_rfl) (by kernel_rfl) rfl (Yd.extract rfl rfl) ?_
            refine WA.one (i := 9) (by kernel_rfl) ?_
            refine WO.s rfl Wt.none (Hd.storeAll (n := 2) (by kernel_rfl) rfl rfl (by rfl) (by repeat (first | exact fun _ h => absurd h List.not_mem_nil | refine List.forall_mem_cons.2 ⟨by first | rfl | assumption, ?_⟩)) (by repeat (first | exact Fr.here | apply Fr.fc | apply Fr.al | apply Fr.fa)) (by rfl) ⟨rfl, ?_⟩)
            refine WA.y (i := 10) (NoPanic.then (NoPanic.body)) rfl (by kernel_rfl) (by kernel_rfl) (by kernel_rfl) rfl (Yd.assign rfl) ?_
            refine WA.done (by kernel_rfl) ?_
            exact DN.reachS (()) (trivial) (Sx.put rfl ((by repeat (first | exact Sx.refl | refine Sx.skip rfl ?_)))) (by repeat (first | exact Sp.here | exact Sp.sn | exact Sp.s0 | exact Fr.here | apply Sp.s2 | apply Sp.sx | apply Fr.fc | apply Fr.al | apply Fr.fa | apply Sp.sc | apply Sp.al | apply Sp.sa))
        · refine WO.h rfl Wt.none rfl (Hd.alloc (zs := [.int .u32 0, .slice none 0 0]) (by kernel_rfl) fun b10 => ⟨_, rfl, ?_⟩)
          refine WA.one (i := 3) (by kernel_rfl) ?_
          refine WO.c rfl Wt.none rfl (Ent.func Try.call23 rfl) (step_tells 1#32 ((1#32 + order % 1000000#32) + BitVec.ofNat 32 200) 0 false [120#8]) (Sp.p (by repeat (first | exact Sp.here | exact Sp.sn | exact Sp.s0 | exact Fr.here | apply Sp.s2 | apply Sp.sx | apply Fr.fc | apply Fr.al | apply Fr.fa | apply Sp.sc | apply Sp.al | apply Sp.sa))) ?_
          rintro x3 H3 ⟨bd3, cd3, blk3, rfl, hbk3, rfl⟩
          refine WA.one (i := 4) (by kernel_rfl) ?_
          refine WO.c rfl Wt.none rfl (Ent.func Try.call15 rfl) (keep_tells (eN 200) (.slice wo 200 wc) (fullK (1#32 + order % 1000000#32) d 200) (blk3 :: (D)) (hF.kv.mono (by repeat (first | exact Gr.refl | exact Gr.left Gr.refl | exact Gr.left (Gr.left Gr.refl) | exact Gr.left (Gr.app Gr.refl) | exact Gr.left (Gr.app (Gr.app Gr.refl)) | exact Gr.left (Gr.app (Gr.left Gr.refl)) | exact Gr.left (Gr.left (Gr.left Gr.refl)) | exact Gr.nil | exact Gr.app (Gr.left Gr.refl) | refine Gr.cons ?_ | refine Gr.app ?_ | refine Gr.both ?_ ?_ | refine Gr.put (by repeat (first | exact List.mem_cons_self | apply List.mem_cons_of_mem | apply List.mem_append_right)) ?_))) (by rw [fullK_len]; omega) (stepN 1#32 ((1#32 + order % 1000000#32) + BitVec.ofNat 32 200) 0 false [120#8]) (.slice none 0 0) _ (Bs_nil _) (hbk3.mono (by repeat (first | exact Gr.refl | exact Gr.left Gr.refl | exact Gr.left (Gr.left Gr.refl) | exact Gr.left (Gr.app Gr.refl) | exact Gr.left (Gr.app (Gr.app Gr.refl)) | exact Gr.left (Gr.app (Gr.left Gr.refl)) | exact Gr.left (Gr.left (Gr.left Gr.refl)) | exact Gr.nil | exact Gr.app (Gr.left Gr.refl) | refine Gr.cons ?_ | refine Gr.app ?_ | refine Gr.both ?_ ?_ | refine Gr.put (by repeat (first | exact List.mem_cons_self | apply List.mem_cons_of_mem | apply List.mem_append_right)) ?_))) 1 (.slice none 0 0) [] (Bs_nil _)) (Sp.p (by repeat (first | exact Sp.here | exact Sp.sn | exact Sp.s0 | exact Fr.here | apply Sp.s2 | apply Sp.sx | apply Fr.fc | apply Fr.al | apply Fr.fa | apply Sp.sc | apply Sp.al | apply Sp.sa))) ?_
          rintro xa3 Ha3 ⟨w3, D3, rfl, hF3, rfl⟩
          rw [full_full hf0 hf] at hF3 ⊢
          obtain ⟨wo3, wc3, rfl⟩ := hF3.form
          refine WA.y (i := 5) (NoPanic.then (NoPanic.body)) rfl (by kernel_rfl) (by kernel_rfl) (by kernel_rfl) rfl (Yd.move rfl) ?_
          refine WA.y (i := 6) (NoPanic.then (NoPanic.body)) rfl (by kernel_rfl) (by kernel_rfl) (by kernel_rfl) rfl (Yd.extract rfl rfl) ?_
          refine WA.y (i := 7) (NoPanic.then (NoPanic.body)) rfl (by kernel_rfl) (by kernel_rfl) (by kernel_rfl) rfl (Yd.extract rfl rfl) ?_
          refine WA.one (i := 9) (by kernel_rfl) ?_
          refine WO.s rfl Wt.none (Hd.storeAll (n := 2) (by kernel_rfl) rfl rfl (by rfl) (by repeat (first | exact fun _ h => absurd h List.not_mem_nil | refine List.forall_mem_cons.2 ⟨by first | rfl | assumption, ?_⟩)) (by repeat (first | exact Fr.here | apply Fr.fc | apply Fr.al | apply Fr.fa)) (by rfl) ⟨rfl, ?_⟩)
          refine WA.y (i := 10) (NoPanic.then (NoPanic.body)) rfl (by kernel_rfl) (by kernel_rfl) (by kernel_rfl) rfl (Yd.assign rfl) ?_
          refine WA.done (by kernel_rfl) ?_
          exact DN.reachS (()) (trivial) (Sx.put rfl ((by repeat (first | exact Sx.refl | refine Sx.skip rfl ?_)))) (by repeat (first | exact Sp.here | exact Sp.sn | exact Sp.s0 | exact Fr.here | apply Sp.s2 | apply Sp.sx | apply Fr.fc | apply Fr.al | apply Fr.fa | apply Sp.sc | apply Sp.al | apply Sp.sa))
      · refine WO.c rfl Wt.none rfl (Ent.func Try.call23 rfl) (step_tells 1#32 ((1#32 + order % 1000000#32) + BitVec.ofNat 32 200) 0 false [120#8]) (Sp.p (by repeat (first | exact Sp.here | exact Sp.sn | exact Sp.s0 | exact Fr.here | apply Sp.s2 | apply Sp.sx | apply Fr.fc | apply Fr.al | apply Fr.fa | apply Sp.sc | apply Sp.al | apply Sp.sa))) ?_
        rintro x3 H3 ⟨bd3, cd3, blk3, rfl, hbk3, rfl⟩
        refine WA.two (i := 0) (j := 8) (by kernel_rfl) ?_ ?_
        · refine WO.h rfl Wt.none rfl (Hd.loadAll (n := 2) (by kernel_rfl) rfl (by repeat (first | exact List.mem_cons_self | apply List.mem_cons_of_mem | apply List.mem_append_right)) (by rfl) ⟨_, rfl, ?_⟩)
          refine WA.two (i := 4) (j := 8) (by kernel_rfl) ?_ ?_
          · refine WO.c rfl Wt.none rfl (Ent.func Try.call15 rfl) (keep_tells (eN 200) (.slice wo 200 wc) (fullK (1#32 + order % 1000000#32) d 200) (blk3 :: (D)) (hF.kv.mono (by repeat (first | exact Gr.refl | exact Gr.left Gr.refl | exact Gr.left (Gr.left Gr.refl) | exact Gr.left (Gr.app Gr.refl) | exact Gr.left (Gr.app (Gr.app Gr.refl)) | exact Gr.left (Gr.app (Gr.left Gr.refl)) | exact Gr.left (Gr.left (Gr.left Gr.refl)) | exact Gr.nil | exact Gr.app (Gr.left Gr.refl) | refine Gr.cons ?_ | refine Gr.app ?_ | refine Gr.both ?_ ?_ | refine Gr.put (by repeat (first | exact List.mem_cons_self | apply List.mem_cons_of_mem | apply List.mem_append_right)) ?_))) (by rw [fullK_len]; omega) (stepN 1#32 ((1#32 + order % 1000000#32) + BitVec.ofNat 32 200) 0 false [120#8]) (.slice none 0 0) _ (Bs_nil _) (hbk3.mono (by repeat (first | exact Gr.refl | exact Gr.left Gr.refl | exact Gr.left (Gr.left Gr.refl) | exact Gr.left (Gr.app Gr.refl) | exact Gr.left (Gr.app (Gr.app Gr.refl)) | exact Gr.left (Gr.app (Gr.left Gr.refl)) | exact Gr.left (Gr.left (Gr.left Gr.refl)) | exact Gr.nil | exact Gr.app (Gr.left Gr.refl) | refine Gr.cons ?_ | refine Gr.app ?_ | refine Gr.both ?_ ?_ | refine Gr.put (by repeat (first | exact List.mem_cons_self | apply List.mem_cons_of_mem | apply List.mem_append_right)) ?_))) 1 (.slice none 0 0) [] (Bs_nil _)) (Sp.p (by repeat (first | exact Sp.here | exact Sp.sn | exact Sp.s0 | exact Fr.here | apply Sp.s2 | apply Sp.sx | apply Fr.fc | apply Fr.al | apply Fr.fa | apply Sp.sc | apply Sp.al | apply Sp.sa))) ?_
            rintro xa3 Ha3 ⟨w3, D3, rfl, hF3, rfl⟩
            rw [full_full hf0 hf] at hF3 ⊢
            obtain ⟨wo3, wc3, rfl⟩ := hF3.form
            refine WA.y (i := 5) (NoPanic.then (NoPanic.body)) rfl (by kernel_rfl) (by kernel_rfl) (by kernel_rfl) rfl (Yd.move rfl) ?_
            refine WA.y (i := 6) (NoPanic.then (NoPanic.body)) rfl (by kernel_rfl) (by kernel_rfl) (by kernel_rfl) rfl (Yd.extract rfl rfl) ?_
            refine WA.y (i := 7) (NoPanic.then (NoPanic.body)) rfl (by kernel_rfl) (by kernel_rfl) (by kernel_rfl) rfl (Yd.extract rfl rfl) ?_
            refine WA.one (i := 8) (by kernel_rfl) ?_
            refine WO.h rfl Wt.none rfl (Hd.alloc (zs := [.int .u32 0, .slice none 0 0]) (by kernel_rfl) fun b10 => ⟨_, rfl, ?_⟩)
            refine WA.one (i := 9) (by kernel_rfl) ?_
            refine WO.s rfl Wt.none (Hd.storeAll (n := 2) (by kernel_rfl) rfl rfl (by rfl) (by repeat (first | exact fun _ h => absurd h List.not_mem_nil | refine List.forall_mem_cons.2 ⟨by first | rfl | assumption, ?_⟩)) (by repeat (first | exact Fr.here | apply Fr.fc | apply Fr.al | apply Fr.fa)) (by rfl) ⟨rfl, ?_⟩)
            refine WA.y (i := 10) (NoPanic.then (NoPanic.body)) rfl (by kernel_rfl) (by kernel_rfl) (by kernel_rfl) rfl (Yd.assign rfl) ?_
            refine WA.done (by kernel_rfl) ?_
            exact DN.reachS (()) (trivial) (Sx.put rfl ((by repeat (first | exact Sx.refl | refine Sx.skip rfl ?_)))) (by repeat (first | exact Sp.here | exact Sp.sn | exact Sp.s0 | exact Fr.here | apply Sp.s2 | apply Sp.sx | apply Fr.fc | apply Fr.al | apply Fr.fa | apply Sp.sc | apply Sp.al | apply Sp.sa))
          · refine WO.h rfl Wt.none rfl (Hd.alloc (zs := [.int .u32 0, .slice none 0 0]) (by kernel_rfl) fun b10 => ⟨_, rfl, ?_⟩)
            refine WA.one (i := 4) (by kernel_rfl) ?_
            refine WO.c rfl Wt.none rfl (Ent.func Try.call15 rfl) (keep_tells (eN 200) (.slice wo 200 wc) (fullK (1#32 + order % 1000000#32) d 200) (blk3 :: (D)) (hF.kv.mono (by repeat (first | exact Gr.refl | exact Gr.left Gr.refl | exact Gr.left (Gr.left Gr.refl) | exact Gr.left (Gr.app Gr.refl) | exact Gr.left (Gr.app (Gr.app Gr.refl)) | exact Gr.left (Gr.app (Gr.left Gr.refl)) | exact Gr.left (Gr.left (Gr.left Gr.refl)) | exact Gr.nil | exact Gr.app (Gr.left Gr.refl) | refine Gr.cons ?_ | refine Gr.app ?_ | refine Gr.both ?_ ?_ | refine Gr.put (by repeat (first | exact List.mem_cons_self | apply List.mem_cons_of_mem | apply List.mem_append_right)) ?_))) (by rw [fullK_len]; omega) (stepN 1#32 ((1#32 + order % 1000000#32) + BitVec.ofNat 32 200) 0 false [120#8]) (.slice none 0 0) _ (Bs_nil _) (hbk3.mono (by repeat (first | exact Gr.refl | exact Gr.left Gr.refl | exact Gr.left (Gr.left Gr.refl) | exact Gr.left (Gr.app Gr.refl) | exact Gr.left (Gr.app (Gr.app Gr.refl)) | exact Gr.left (Gr.app (Gr.left Gr.refl)) | exact Gr.left (Gr.left (Gr.left Gr.refl)) | exact Gr.nil | exact Gr.app (Gr.left Gr.refl) | refine Gr.cons ?_ | refine Gr.app ?_ | refine Gr.both ?_ ?_ | refine Gr.put (by repeat (first | exact List.mem_cons_self | apply List.mem_cons_of_mem | apply List.mem_append_right)) ?_))) 1 (.slice none 0 0) [] (Bs_nil _)) (Sp.p (by repeat (first | exact Sp.here | exact Sp.sn | exact Sp.s0 | exact Fr.here | apply Sp.s2 | apply Sp.sx | apply Fr.fc | apply Fr.al | apply Fr.fa | apply Sp.sc | apply Sp.al | apply Sp.sa))) ?_
            rintro xa3 Ha3 ⟨w3, D3, rfl, hF3, rfl⟩
            rw [full_full hf0 hf] at hF3 ⊢
            obtain ⟨wo3, wc3, rfl⟩ := hF3.form
            refine WA.y (i := 5) (NoPanic.then (NoPanic.body)) rfl (by kernel_rfl) (by kernel_rfl) (by kernel_rfl) rfl (Yd.move rfl) ?_
            refine WA.y (i := 6) (NoPanic.then (NoPanic.body)) rfl (by kernel_rfl) (by kernel_rfl) (by kernel_rfl) rfl (Yd.extract rfl rfl) ?_
            refine WA.y (i := 7) (NoPanic.then (NoPanic.body)) rfl (by kernel_rfl) (by kernel_rfl) (by kernel_rfl) rfl (Yd.extract rfl rfl) ?_
            refine WA.one (i := 9) (by kernel_rfl) ?_
            refine WO.s rfl Wt.none (Hd.storeAll (n := 2) (by kernel_rfl) rfl rfl (by rfl) (by repeat (first | exact fun _ h => absurd h List.not_mem_nil | refine List.forall_mem_cons.2 ⟨by first | rfl | assumption, ?_⟩)) (by repeat (first | exact Fr.here | apply Fr.fc | apply Fr.al | apply Fr.fa)) (by rfl) ⟨rfl, ?_⟩)
            refine WA.y (i := 10) (NoPanic.then (NoPanic.body)) rfl (by kernel_rfl) (by kernel_rfl) (by kernel_rfl) rfl (Yd.assign rfl) ?_
            refine WA.done (by kernel_rfl) ?_
            exact DN.reachS (()) (trivial) (Sx.put rfl ((by repeat (first | exact Sx.refl | refine Sx.skip rfl ?_)))) (by repeat (first | exact Sp.here | exact Sp.sn | exact Sp.s0 | exact Fr.here | apply Sp.s2 | apply Sp.sx | apply Fr.fc | apply Fr.al | apply Fr.fa | apply Sp.sc | apply Sp.al | apply Sp.sa))
        · refine WO.h rfl Wt.none rfl (Hd.alloc (zs := [.int .u32 0, .slice none 0 0]) (by kernel_rfl) fun b10 => ⟨_, rfl, ?_⟩)
          refine WA.one (i := 0) (by kernel_rfl) ?_
          refine WO.h rfl Wt.none rfl (Hd.loadAll (n := 2) (by kernel_rfl) rfl (by repeat (first | exact List.mem_cons_self | apply List.mem_cons_of_mem | apply List.mem_append_right)) (by rfl) ⟨_, rfl, ?_⟩)
          refine WA.one (i := 4) (by kernel_rfl) ?_
          refine WO.c rfl Wt.none rfl (Ent.func Try.call15 rfl) (keep_tells (eN 200) (.slice wo 200 wc) (fullK (1#32 + order % 1000000#32) d 200) (blk3 :: (D)) (hF.kv.mono (by repeat (first | exact Gr.refl | exact Gr.left Gr.refl | exact Gr.left (Gr.left Gr.refl) | exact Gr.left (Gr.app Gr.refl) | exact Gr.left (Gr.app (Gr.app Gr.refl)) | exact Gr.left (Gr.app (Gr.left Gr.refl)) | exact Gr.left (Gr.left (Gr.left Gr.refl)) | exact Gr.nil | exact Gr.app (Gr.left Gr.refl) | refine Gr.cons ?_ | refine Gr.app ?_ | refine Gr.both ?_ ?_ | refine Gr.put (by repeat (first | exact List.mem_cons_self | apply List.mem_cons_of_mem | apply List.mem_append_right)) ?_))) (by rw [fullK_len]; omega) (stepN 1#32 ((1#32 + order % 1000000#32) + BitVec.ofNat 32 200) 0 false [120#8]) (.slice none 0 0) _ (Bs_nil _) (hbk3.mono (by repeat (first | exact Gr.refl | exact Gr.left Gr.refl | exact Gr.left (Gr.left Gr.refl) | exact Gr.left (Gr.app Gr.refl) | exact Gr.left (Gr.app (Gr.app Gr.refl)) | exact Gr.left (Gr.app (Gr.left Gr.refl)) | exact Gr.left (Gr.left (Gr.left Gr.refl)) | exact Gr.nil | exact Gr.app (Gr.left Gr.refl) | refine Gr.cons ?_ | refine Gr.app ?_ | refine Gr.both ?_ ?_ | refine Gr.put (by repeat (first | exact List.mem_cons_self | apply List.mem_cons_of_mem | apply List.mem_append_right)) ?_))) 1 (.slice none 0 0) [] (Bs_nil _)) (Sp.p (by repeat (first | exact Sp.here | exact Sp.sn | exact Sp.s0 | exact Fr.here | apply Sp.s2 | apply Sp.sx | apply Fr.fc | apply Fr.al | apply Fr.fa | apply Sp.sc | apply Sp.al | apply Sp.sa))) ?_
          rintro xa3 Ha3 ⟨w3, D3, rfl, hF3, rfl⟩
          rw [full_full hf0 hf] at hF3 ⊢
          obtain ⟨wo3, wc3, rfl⟩ := hF3.form
          refine WA.y (i := 5) (NoPanic.then (NoPanic.body)) rfl (by kernel_rfl) (by kernel_rfl) (by kernel_rfl) rfl (Yd.move rfl) ?_
          refine WA.y (i := 6) (NoPanic.then (NoPanic.body)) rfl (by kernel_rfl) (by kernel_rfl) (by kernel_rfl) rfl (Yd.extract rfl rfl) ?_
          refine WA.y (i := 7) (NoPanic.then (NoPanic.body)) rfl (by kernel_rfl) (by kernel_rfl) (by kernel_rfl) rfl (Yd.extract rfl rfl) ?_
          refine WA.one (i := 9) (by kernel_rfl) ?_
          refine WO.s rfl Wt.none (Hd.storeAll (n := 2) (by kernel_rfl) rfl rfl (by rfl) (by repeat (first | exact fun _ h => absurd h List.not_mem_nil | refine List.forall_mem_cons.2 ⟨by first | rfl | assumption, ?_⟩)) (by repeat (first | exact Fr.here | apply Fr.fc | apply Fr.al | apply Fr.fa)) (by rfl) ⟨rfl, ?_⟩)
          refine WA.y (i := 10) (NoPanic.then (NoPanic.body)) rfl (by kernel_rfl) (by kernel_rfl) (by kernel_rfl) rfl (Yd.assign rfl) ?_
          refine WA.done (by kernel_rfl) ?_
          exact DN.reachS (()) (trivial) (Sx.put rfl ((by repeat (first | exact Sx.refl | refine Sx.skip rfl ?_)))) (by repeat (first | exact Sp.here | exact Sp.sn | exact Sp.s0 | exact Fr.here | apply Sp.s2 | apply Sp.sx | apply Fr.fc | apply Fr.al | apply Fr.fa | apply Sp.sc | apply Sp.al | apply Sp.sa))
      · refine WO.h rfl Wt.none rfl (Hd.alloc (zs := [.int .u32 0, .slice none 0 0]) (by kernel_rfl) fun b10 => ⟨_, rfl, ?_⟩)
        refine WA.two (i := 0) (j := 3) (by kernel_rfl) ?_ ?_
        · refine WO.h rfl Wt.none rfl (Hd.loadAll (n := 2) (by kernel_rfl) rfl (by repeat (first | exact List.mem_cons_self | apply List.mem_cons_of_mem | apply List.mem_append_right)) (by rfl) ⟨_, rfl, ?_⟩)
          refine WA.one (i := 3) (by kernel_rfl) ?_
          refine WO.c rfl Wt.none rfl (Ent.func Try.call23 rfl) (step_tells 1#32 ((1#32 + order % 1000000#32) + BitVec.ofNat 32 200) 0 false [120#8]) (Sp.p (by repeat (first | exact Sp.here | exact Sp.sn | exact Sp.s0 | exact Fr.here | apply Sp.s2 | apply Sp.sx | apply Fr.fc | apply Fr.al | apply Fr.fa | apply Sp.sc | apply Sp.al | apply Sp.sa))) ?_
          rintro x3 H3 ⟨bd3, cd3, blk3, rfl, hbk3, rfl⟩
          refine WA.one (i := 4) (by kernel_rfl) ?_
          refine WO.c rfl Wt.none rfl (Ent.func Try.call15 rfl) (keep_tells (eN 200) (.slice wo 200 wc) (fullK (1#32 + order % 1000000#32) d 200) (blk3 :: (D)) (hF.kv.mono (by repeat (first | exact Gr.refl | exact Gr.left Gr.refl | exact Gr.left (Gr.left Gr.refl) | exact Gr.left (Gr.app Gr.refl) | exact Gr.left (Gr.app (Gr.app Gr.refl)) | exact Gr.left (Gr.app (Gr.left Gr.refl)) | exact Gr.left (Gr.left (Gr.left Gr.refl)) | exact Gr.nil | exact Gr.app (Gr.left Gr.refl) | refine Gr.cons ?_ | refine Gr.app ?_ | refine Gr.both ?_ ?_ | refine Gr.put (by repeat (first | exact List.mem_cons_self | apply List.mem_cons_of_mem | apply List.mem_append_right)) ?_))) (by rw [fullK_len]; omega) (stepN 1#32 ((1#32 + order % 1000000#32) + BitVec.ofNat 32 200) 0 false [120#8]) (.slice none 0 0) _ (Bs_nil _) (hbk3.mono (by repeat (first | exact Gr.refl | exact Gr.left Gr.refl | exact Gr.left (Gr.left Gr.refl) | exact Gr.left (Gr.app Gr.refl) | exact Gr.left (Gr.app (Gr.app Gr.refl)) | exact Gr.left (Gr.app (Gr.left Gr.refl)) | exact Gr.left (Gr.left (Gr.left Gr.refl)) | exact Gr.nil | exact Gr.app (Gr.left Gr.refl) | refine Gr.cons ?_ | refine Gr.app ?_ | refine Gr.both ?_ ?_ | refine Gr.put (by repeat (first | exact List.mem_cons_self | apply List.mem_cons_of_mem | apply List.mem_append_right)) ?_))) 1 (.slice none 0 0) [] (Bs_nil _)) (Sp.p (by repeat (first | exact Sp.here | exact Sp.sn | exact Sp.s0 | exact Fr.here | apply Sp.s2 | apply Sp.sx | apply Fr.fc | apply Fr.al | apply Fr.fa | apply Sp.sc | apply Sp.al | apply Sp.sa))) ?_
          rintro xa3 Ha3 ⟨w3, D3, rfl, hF3, rfl⟩
          rw [full_full hf0 hf] at hF3 ⊢
          obtain ⟨wo3, wc3, rfl⟩ := hF3.form
          refine WA.y (i := 5) (NoPanic.then (NoPanic.body)) rfl (by kernel_rfl) (by kernel_rfl) (by kernel_rfl) rfl (Yd.move rfl) ?_
          refine WA.y (i := 6) (NoPanic.then (NoPanic.body)) rfl (by kernel_rfl) (by kernel_rfl) (by kernel_rfl) rfl (Yd.extract rfl rfl) ?_
          refine WA.y (i := 7) (NoPanic.then (NoPanic.body)) rfl (by kernel_rfl) (by kernel_rfl) (by kernel_rfl) rfl (Yd.extract rfl rfl) ?_
          refine WA.one (i := 9) (by kernel_rfl) ?_
          refine WO.s rfl Wt.none (Hd.storeAll (n := 2) (by kernel_rfl) rfl rfl (by rfl) (by repeat (first | exact fun _ h => absurd h List.not_mem_nil | refine List.forall_mem_cons.2 ⟨by first | rfl | assumption, ?_⟩)) (by repeat (first | exact Fr.here | apply Fr.fc | apply Fr.al | apply Fr.fa)) (by rfl) ⟨rfl, ?_⟩)
          refine WA.y (i := 10) (NoPanic.then (NoPanic.body)) rfl (by kernel_rfl) (by kernel_rfl) (by kernel_rfl) rfl (Yd.assign rfl) ?_
          refine WA.done (by kernel_rfl) ?_
          exact DN.reachS (()) (trivial) (Sx.put rfl ((by repeat (first | exact Sx.refl | refine Sx.skip rfl ?_)))) (by repeat (first | exact Sp.here | exact Sp.sn | exact Sp.s0 | exact Fr.here | apply Sp.s2 | apply Sp.sx | apply Fr.fc | apply Fr.al | apply Fr.fa | apply Sp.sc | apply Sp.al | apply Sp.sa))
        · refine WO.c rfl Wt.none rfl (Ent.func Try.call23 rfl) (step_tells 1#32 ((1#32 + order % 1000000#32) + BitVec.ofNat 32 200) 0 false [120#8]) (Sp.p (by repeat (first | exact Sp.here | exact Sp.sn | exact Sp.s0 | exact Fr.here | apply Sp.s2 | apply Sp.sx | apply Fr.fc | apply Fr.al | apply Fr.fa | apply Sp.sc | apply Sp.al | apply Sp.sa))) ?_
          rintro x3 H3 ⟨bd3, cd3, blk3, rfl, hbk3, rfl⟩
          refine WA.one (i := 0) (by kernel_rfl) ?_
          refine WO.h rfl Wt.none rfl (Hd.loadAll (n := 2) (by kernel_rfl) rfl (by repeat (first | exact List.mem_cons_self | apply List.mem_cons_of_mem | apply List.mem_append_right)) (by rfl) ⟨_, rfl, ?_⟩)
          refine WA.one (i := 4) (by kernel_rfl) ?_
          refine WO.c rfl Wt.none rfl (Ent.func Try.call15 rfl) (keep_tells (eN 200) (.slice wo 200 wc) (fullK (1#32 + order % 1000000#32) d 200) (blk3 :: (D)) (hF.kv.mono (by repeat (first | exact Gr.refl | exact Gr.left Gr.refl | exact Gr.left (Gr.left Gr.refl) | exact Gr.left (Gr.app Gr.refl) | exact Gr.left (Gr.app (Gr.app Gr.refl)) | exact Gr.left (Gr.app (Gr.left Gr.refl)) | exact Gr.left (Gr.left (Gr.left Gr.refl)) | exact Gr.nil | exact Gr.app (Gr.left Gr.refl) | refine Gr.cons ?_ | refine Gr.app ?_ | refine Gr.both ?_ ?_ | refine Gr.put (by repeat (first | exact List.mem_cons_self | apply List.mem_cons_of_mem | apply List.mem_append_right)) ?_))) (by rw [fullK_len]; omega) (stepN 1#32 ((1#32 + order % 1000000#32) + BitVec.ofNat 32 200) 0 false [120#8]) (.slice none 0 0) _ (Bs_nil _) (hbk3.mono (by repeat (first | exact Gr.refl | exact Gr.left Gr.refl | exact Gr.left (Gr.left Gr.refl) | exact Gr.left (Gr.app Gr.refl) | exact Gr.left (Gr.app (Gr.app Gr.refl)) | exact Gr.left (Gr.app (Gr.left Gr.refl)) | exact Gr.left (Gr.left (Gr.left Gr.refl)) | exact Gr.nil | exact Gr.app (Gr.left Gr.refl) | refine Gr.cons ?_ | refine Gr.app ?_ | refine Gr.both ?_ ?_ | refine Gr.put (by repeat (first | exact List.mem_cons_self | apply List.mem_cons_of_mem | apply List.mem_append_right)) ?_))) 1 (.slice none 0 0) [] (Bs_nil _)) (Sp.p (by repeat (first | exact Sp.here | exact Sp.sn | exact Sp.s0 | exact Fr.here | apply Sp.s2 | apply Sp.sx | apply Fr.fc | apply Fr.al | apply Fr.fa | apply Sp.sc | apply Sp.al | apply Sp.sa))) ?_
          rintro xa3 Ha3 ⟨w3, D3, rfl, hF3, rfl⟩
          rw [full_full hf0 hf] at hF3 ⊢
          obtain ⟨wo3, wc3, rfl⟩ := hF3.form
          refine WA.y (i := 5) (NoPanic.then (NoPanic.body)) rfl (by kernel_rfl) (by kernel_rfl) (by kernel_rfl) rfl (Yd.move rfl) ?_
          refine WA.y (i := 6) (NoPanic.then (NoPanic.body)) rfl (by kernel_rfl) (by kernel_rfl) (by kernel_rfl) rfl (Yd.extract rfl rfl) ?_
          refine WA.y (i := 7) (NoPanic.then (NoPanic.body)) rfl (by kernel_rfl) (by kernel_rfl) (by kernel_rfl) rfl (Yd.extract rfl rfl) ?_
          refine WA.one (i := 9) (by kernel_rfl) ?_
          refine WO.s rfl Wt.none (Hd.storeAll (n := 2) (by kernel_rfl) rfl rfl (by rfl) (by repeat (first | exact fun _ h => absurd h List.not_mem_nil | refine List.forall_mem_cons.2 ⟨by first | rfl | assumption, ?_⟩)) (by repeat (first | exact Fr.here | apply Fr.fc | apply Fr.al | apply Fr.fa)) (by rfl) ⟨rfl, ?_⟩)
          refine WA.y (i := 10) (NoPanic.then (NoPanic.body)) rfl (by kernel_rfl) (by kernel_rfl) (by kernel_rfl) rfl (Yd.assign rfl) ?_
          refine WA.done (by kernel_rfl) ?_
          exact DN.reachS (()) (trivial) (Sx.put rfl ((by repeat (first | exact Sx.refl | refine Sx.skip rfl ?_)))) (by repeat (first | exact Sp.here | exact Sp.sn | exact Sp.s0 | exact Fr.here | apply Sp.s2 | apply Sp.sx | apply Fr.fc | apply Fr.al | apply Fr.fa | apply Sp.sc | apply Sp.al | apply Sp.sa))
    · intro z hz
      refine WC.cutK (fun z : Nat × (Option Addr × Nat) × (Option Addr × Nat) × List Ck => Ob 5 (.slice z.2.2.1.1 1 z.2.2.1.2) [d] z.2.2.2) (fun z : Nat × (Option Addr × Nat) × (Option Addr × Nat) × List Ck => [(12, .int .i64 2), (13, .pointer (some ⟨z.1, 0, none⟩)), (14, .int .i64 0)]) (fun z : Nat × (Option Addr × Nat) × (Option Addr × Nat) × List Ck => row z.1 (kc (kF (1#32 + order % 1000000#32) d 7) (.slice z.2.1.1 1 z.2.1.2) (.slice z.2.2.1.1 1 z.2.2.1.2)) 43 :: (z.2.2.2 ++ (row b5 [.int .u32 (eN 200).toNat, .slice wo 200 wc] 25 :: D))) ?_ ?_
      · refine WC.draw 13 (by kernel_rfl) rfl ?_
        refine WA.y (i := 1) (NoPanic.then (NoPanic.body)) rfl (by kernel_rfl) (by kernel_rfl) (by kernel_rfl) rfl (Yd.move rfl) ?_
        refine WA.y (i := 2) (NoPanic.then (NoPanic.body)) rfl (by kernel_rfl) (by kernel_rfl) (by kernel_rfl) rfl (Yd.add32 _ (7#32) rfl rfl rfl rfl) ?_
        refine WA.three (i := 0) (j := 3) (k := 9) (by kernel_rfl) ?_ ?_ ?_
        · refine WO.h rfl Wt.none rfl (Hd.loadAll (n := 2) (by kernel_rfl) rfl (by repeat (first | exact List.mem_cons_self | apply List.mem_cons_of_mem | apply List.mem_append_right)) (by rfl) ⟨_, rfl, ?_⟩)
          refine WA.two (i := 3) (j := 9) (by kernel_rfl) ?_ ?_
          · refine WO.c rfl Wt.none rfl (Ent.func Try.call23 rfl) (step_tells 1#32 ((1#32 + order % 1000000#32) + BitVec.ofNat 32 7) 0 false [120#8]) (Sp.p (by repeat (first | exact Sp.here | exact Sp.sn | exact Sp.s0 | exact Fr.here | apply Sp.s2 | apply Sp.sx | apply Fr.fc | apply Fr.al | apply Fr.fa | apply Sp.sc | apply Sp.al | apply Sp.sa))) ?_
            rintro x4 H4 ⟨bd4, cd4, blk4, rfl, hbk4, rfl⟩
            refine WA.two (i := 4) (j := 9) (by kernel_rfl) ?_ ?_
            · refine WO.c rfl Wt.none rfl (Ent.func Try.call24 rfl) (ask_tells (eN 200) (.slice wo 200 wc) (fullK (1#32 + order % 1000000#32) d 200) (blk4 :: D) (hF.kv.mono (by repeat (first | exact Gr.refl | exact Gr.left Gr.refl | exact Gr.left (Gr.left Gr.refl) | exact Gr.left (Gr.app Gr.refl) | exact Gr.left (Gr.app (Gr.app Gr.refl)) | exact Gr.left (Gr.app (Gr.left Gr.refl)) | exact Gr.left (Gr.left (Gr.left Gr.refl)) | exact Gr.nil | exact Gr.app (Gr.left Gr.refl) | refine Gr.cons ?_ | refine Gr.app ?_ | refine Gr.both ?_ ?_ | refine Gr.put (by repeat (first | exact List.mem_cons_self | apply List.mem_cons_of_mem | apply List.mem_append_right)) ?_))) (by rw [fullK_len]; omega) (stepN 1#32 ((1#32 + order % 1000000#32) + BitVec.ofNat 32 7) 0 false [120#8]) (.slice none 0 0) _ (Bs_nil _) (hbk4.mono (by repeat (first | exact Gr.refl | exact Gr.left Gr.refl | exact Gr.left (Gr.left Gr.refl) | exact Gr.left (Gr.app Gr.refl) | exact Gr.left (Gr.app (Gr.app Gr.refl)) | exact Gr.left (Gr.app (Gr.left Gr.refl)) | exact Gr.left (Gr.left (Gr.left Gr.refl)) | exact Gr.nil | exact Gr.app (Gr.left Gr.refl) | refine Gr.cons ?_ | refine Gr.app ?_ | refine Gr.both ?_ ?_ | refine Gr.put (by repeat (first | exact List.mem_cons_self | apply List.mem_cons_of_mem | apply List.mem_append_right)) ?_)))) (Sp.p (by repeat (first | exact Sp.here | exact Sp.sn | exact Sp.s0 | exact Fr.here | apply Sp.s2 | apply Sp.sx | apply Fr.fc | apply Fr.al | apply Fr.fa | apply Sp.sc | apply Sp.al | apply Sp.sa))) ?_
              rintro xa4 Ha4 ⟨wa4, wr4, A4, B4, rfl, hA4, hB4, rfl⟩
              rw [full_again hf0 hf (Nat.le_refl _) (show 7 < 200 by decide)] at hA4 hB4 ⊢
              obtain ⟨oa4, ca4, rfl, _⟩ := hA4.form
              obtain ⟨or4, cr4, rfl, _⟩ := hB4.form
              refine WA.y (i := 5) (NoPanic.then (NoPanic.body)) rfl (by kernel_rfl) (by kernel_rfl) (by kernel_rfl) rfl (Yd.move rfl) ?_
              refine WA.y (i := 6) (NoPanic.then (NoPanic.body)) rfl (by kernel_rfl) (by kernel_rfl) (by kernel_rfl) rfl (Yd.extract rfl rfl) ?_
              refine WA.y (i := 7) (NoPanic.then (NoPanic.body)) rfl (by kernel_rfl) (by kernel_rfl) (by kernel_rfl) rfl (Yd.extract rfl rfl) ?_
              refine WA.y (i := 8) (NoPanic.then (NoPanic.body)) rfl (by kernel_rfl) (by kernel_rfl) (by kernel_rfl) rfl (Yd.extract rfl rfl) ?_
              refine WA.one (i := 9) (by kernel_rfl) ?_
              refine WO.h rfl Wt.none rfl (Hd.alloc (zs := [.int .u32 0, .int .i64 0, .bool false, .slice none 0 0, .int .i64 0, .slice none 0 0]) (by kernel_rfl) fun b13 => ⟨_, rfl, ?_⟩)
              refine WA.y (i := 10) (NoPanic.then (NoPanic.body)) rfl (by kernel_rfl) (by kernel_rfl) (by kernel_rfl) rfl (Yd.assign rfl) ?_
              refine WA.one (i := 11) (by kernel_rfl) ?_
              refine WO.s rfl Wt.none (Hd.storeAll (n := 6) (by kernel_rfl) rfl rfl (by rfl) (kc_one rfl rfl) (by repeat (first | exact Fr.here | apply Fr.fc | apply Fr.al | apply Fr.fa)) (by rfl) ⟨rfl, ?_⟩)
              refine WA.y (i := 12) (NoPanic.then (NoPanic.body)) rfl (by kernel_rfl) (by kernel_rfl) (by kernel_rfl) rfl (Yd.assign rfl) ?_
              refine WA.done (by kernel_rfl) ?_
              exact DN.reachS ((b13, (oa4, ca4), (or4, cr4), B4)) (hB4) (Sx.put rfl (Sx.put rfl (Sx.put rfl ((by repeat (first | exact Sx.refl | refine Sx.skip rfl ?_)))))) (by repeat (first | exact Sp.here | exact Sp.sn | exact Sp.s0 | exact Fr.here | apply Sp.s2 | apply Sp.sx | apply Fr.fc | apply Fr.al | apply Fr.fa | apply Sp.sc | apply Sp.al | apply Sp.sa))
            · refine WO.h rfl Wt.none rfl (Hd.alloc (zs := [.int .u32 0, .int .i64 0, .bool false, .slice none 0 0, .int .i64 0, .slice none 0 0]) (by kernel_rfl) fun b13 => ⟨_, rfl, ?_⟩)
              refine WA.one (i := 4) (by kernel_rfl) ?_
              refine WO.c rfl Wt.none rfl (Ent.func Try.call24 rfl) (ask_tells (eN 200) (.slice wo 200 wc) (fullK (1#32 + order % 1000000#32) d 200) (blk4 :: D) (hF.kv.mono (by repeat (first | exact Gr.refl | exact Gr.left Gr.refl | exact Gr.left (Gr.left Gr.refl) | exact Gr.left (Gr.app Gr.refl) | exact Gr.left (Gr.app (Gr.app Gr.refl)) | exact Gr.left (Gr.app (Gr.left Gr.refl)) | exact Gr.left (Gr.left (Gr.left Gr.refl)) | exact Gr.nil | exact Gr.app (Gr.left Gr.refl) | refine Gr.cons ?_ | refine Gr.app ?_ | refine Gr.both ?_ ?_ | refine Gr.put (by repeat (first | exact List.mem_cons_self | apply List.mem_cons_of_mem | apply List.mem_append_right)) ?_))) (by rw [fullK_len]; omega) (stepN 1#32 ((1#32 + order % 1000000#32) + BitVec.ofNat 32 7) 0 false [120#8]) (.slice none 0 0) _ (Bs_nil _) (hbk4.mono (by repeat (first | exact Gr.refl | exact Gr.left Gr.refl | exact Gr.left (Gr.left Gr.refl) | exact Gr.left (Gr.app Gr.refl) | exact Gr.left (Gr.app (Gr.app Gr.refl)) | exact Gr.left (Gr.app (Gr.left Gr.refl)) | exact Gr.left (Gr.left (Gr.left Gr.refl)) | exact Gr.nil | exact Gr.app (Gr.left Gr.refl) | refine Gr.cons ?_ | refine Gr.app ?_ | refine Gr.both ?_ ?_ | refine Gr.put (by repeat (first | exact List.mem_cons_self | apply List.mem_cons_of_mem | apply List.mem_append_right)) ?_)))) (Sp.p (by repeat (first | exact Sp.here | exact Sp.sn | exact Sp.s0 | exact Fr.here | apply Sp.s2 | apply Sp.sx | apply Fr.fc | apply Fr.al | apply Fr.fa | apply Sp.sc | apply Sp.al | apply Sp.sa))) ?_
              rintro xa4 Ha4 ⟨wa4, wr4, A4, B4, rfl, hA4, hB4, rfl⟩
              rw [full_again hf0 hf (Nat.le_refl _) (show 7 < 200 by decide)] at hA4 hB4 ⊢
              obtain ⟨oa4, ca4, rfl, _⟩ := hA4.form
              obtain ⟨or4, cr4, rfl, _⟩ := hB4.form
              refine WA.y (i := 5) (NoPanic.then (NoPanic.body)) rfl (by kernel_rfl) (by kernel_rfl) (by kernel_rfl) rfl (Yd.move rfl) ?_
              refine WA.y (i := 6) (NoPanic.then (NoPanic.body)) rfl (by kernel_rfl) (by kernel_rfl) (by kernel_rfl) rfl (Yd.extract rfl rfl) ?_
              refine WA.y (i := 7) (NoPanic.then (NoPanic.body)) rfl (by kernel_rfl) (by kernel_rfl) (by kernel_rfl) rfl (Yd.extract rfl rfl) ?_
              refine WA.y (i := 8) (NoPanic.then (NoPanic.body)) rfl (by kernel_rfl) (by kernel_rfl) (by kernel_rfl) rfl (Yd.extract rfl rfl) ?_
              refine WA.y (i := 10) (NoPanic.then (NoPanic.body)) rfl (by kernel_rfl) (by kernel_rfl) (by kernel_rfl) rfl (Yd.assign rfl) ?_
              refine WA.one (i := 11) (by kernel_rfl) ?_
              refine WO.s rfl Wt.none (Hd.storeAll (n := 6) (by kernel_rfl) rfl rfl (by rfl) (kc_one rfl rfl) (by repeat (first | exact Fr.here | apply Fr.fc | apply Fr.al | apply Fr.fa)) (by rfl) ⟨rfl, ?_⟩)
              refine WA.y (i := 12) (NoPanic.then (NoPanic.body)) rfl (by kernel_rfl) (by kernel_rfl) (by kernel_rfl) rfl (Yd.assign rfl) ?_
              refine WA.done (by kernel_rfl) ?_
              exact DN.reachS ((b13, (oa4, ca4), (or4, cr4), B4)) (hB4) (Sx.put rfl (Sx.put rfl (Sx.put rfl ((by repeat (first | exact Sx.refl | refine Sx.skip rfl ?_)))))) (by repeat (first | exact Sp.here | exact Sp.sn | exact Sp.s0 | exact Fr.here | apply Sp.s2 | apply Sp.sx | apply Fr.fc | apply Fr.al | apply Fr.fa | apply Sp.sc | apply Sp.al | apply Sp.sa))
          · refine WO.h rfl Wt.none rfl (Hd.alloc (zs := [.int .u32 0, .int .i64 0, .bool false, .slice none 0 0, .int .i64 0, .slice none 0 0]) (by kernel_rfl) fun b13 => ⟨_, rfl, ?_⟩)
            refine WA.one (i := 3) (by kernel_rfl) ?_
            refine WO.c rfl Wt.none rfl (Ent.func Try.call23 rfl) (step_tells 1#32 ((1#32 + order % 1000000#32) + BitVec.ofNat 32 7) 0 false [120#8]) (Sp.p (by repeat (first | exact Sp.here | exact Sp.sn | exact Sp.s0 | exact Fr.here | apply Sp.s2 | apply Sp.sx | apply Fr.fc | apply Fr.al | apply Fr.fa | apply Sp.sc | apply Sp.al | apply Sp.sa))) ?_
            rintro x4 H4 ⟨bd4, cd4, blk4, rfl, hbk4, rfl⟩
            refine WA.one (i := 4) (by kernel_rfl) ?_
            refine WO.c rfl Wt.none rfl (Ent.func Try.call24 rfl) (ask_tells (eN 200) (.slice wo 200 wc) (fullK (1#32 + order % 1000000#32) d 200) (blk4 :: D) (hF.kv.mono (by repeat (first | exact Gr.refl | exact Gr.left Gr.refl | exact Gr.left (Gr.left Gr.refl) | exact Gr.left (Gr.app Gr.refl) | exact Gr.left (Gr.app (Gr.app Gr.refl)) | exact Gr.left (Gr.app (Gr.left Gr.refl)) | exact Gr.left (Gr.left (Gr.left Gr.refl)) | exact Gr.nil | exact Gr.app (Gr.left Gr.refl) | refine Gr.cons ?_ | refine Gr.app ?_ | refine Gr.both ?_ ?_ | refine Gr.put (by repeat (first | exact List.mem_cons_self | apply List.mem_cons_of_mem | apply List.mem_append_right)) ?_))) (by rw [fullK_len]; omega) (stepN 1#32 ((1#32 + order % 1000000#32) + BitVec.ofNat 32 7) 0 false [120#8]) (.slice none 0 0) _ (Bs_nil _) (hbk4.mono (by repeat (first | exact Gr.refl | exact Gr.left Gr.refl | exact Gr.left (Gr.left Gr.refl) | exact Gr.left (Gr.app Gr.refl) | exact Gr.left (Gr.app (Gr.app Gr.refl)) | exact Gr.left (Gr.app (Gr.left Gr.refl)) | exact Gr.left (Gr.left (Gr.left Gr.refl)) | exact Gr.nil | exact Gr.app (Gr.left Gr.refl) | refine Gr.cons ?_ | refine Gr.app ?_ | refine Gr.both ?_ ?_ | refine Gr.put (by repeat (first | exact List.mem_cons_self | apply List.mem_cons_of_mem | apply List.mem_append_right)) ?_)))) (Sp.p (by repeat (first | exact Sp.here | exact Sp.sn | exact Sp.s0 | exact Fr.here | apply Sp.s2 | apply Sp.sx | apply Fr.fc | apply Fr.al | apply Fr.fa | apply Sp.sc | apply Sp.al | apply Sp.sa))) ?_
            rintro xa4 Ha4 ⟨wa4, wr4, A4, B4, rfl, hA4, hB4, rfl⟩
            rw [full_again hf0 hf (Nat.le_refl _) (show 7 < 200 by decide)] at hA4 hB4 ⊢
            obtain ⟨oa4, ca4, rfl, _⟩ := hA4.form
            obtain ⟨or4, cr4, rfl, _⟩ := hB4.form
            refine WA.y (i := 5) (NoPanic.then (NoPanic.body)) rfl (by kernel_rfl) (by kernel_rfl) (by kernel_rfl) rfl (Yd.move rfl) ?_
            refine WA.y (i := 6) (NoPanic.then (NoPanic.body)) rfl (by kernel_rfl) (by kernel_rfl) (by kernel_rfl) rfl (Yd.extract rfl rfl) ?_
            refine WA.y (i := 7) (NoPanic.then (NoPanic.body)) rfl (by kernel_rfl) (by kernel_rfl) (by kernel_rfl) rfl (Yd.extract rfl rfl) ?_
            refine WA.y (i := 8) (NoPanic.then (NoPanic.body)) rfl (by kernel_rfl) (by kernel_rfl) (by kernel_rfl) rfl (Yd.extract rfl rfl) ?_
            refine WA.y (i := 10) (NoPanic.then (NoPanic.body)) rfl (by kernel_rfl) (by kernel_rfl) (by kernel_rfl) rfl (Yd.assign rfl) ?_
            refine WA.one (i := 11) (by kernel_rfl) ?_
            refine WO.s rfl Wt.none (Hd.storeAll (n := 6) (by kernel_rfl) rfl rfl (by rfl) (kc_one rfl rfl) (by repeat (first | exact Fr.here | apply Fr.fc | apply Fr.al | apply Fr.fa)) (by rfl) ⟨rfl, ?_⟩)
            refine WA.y (i := 12) (NoPanic.then (NoPanic.body)) rfl (by kernel_rfl) (by kernel_rfl) (by kernel_rfl) rfl (Yd.assign rfl) ?_
            refine WA.done (by kernel_rfl) ?_
            exact DN.reachS ((b13, (oa4, ca4), (or4, cr4), B4)) (hB4) (Sx.put rfl (Sx.put rfl (Sx.put rfl ((by repeat (first | exact Sx.refl | refine Sx.skip rfl ?_)))))) (by repeat (first | exact Sp.here | exact Sp.sn | exact Sp.s0 | exact Fr.here | apply Sp.s2 | apply Sp.sx | apply Fr.fc | apply Fr.al | apply Fr.fa | apply Sp.sc | apply Sp.al | apply Sp.sa))
        · refine WO.c rfl Wt.none rfl (Ent.func Try.call23 rfl) (step_tells 1#32 ((1#32 + order % 1000000#32) + BitVec.ofNat 32 7) 0 false [120#8]) (Sp.p (by repeat (first | exact Sp.here | exact Sp.sn | exact Sp.s0 | exact Fr.here | apply Sp.s2 | apply Sp.sx | apply Fr.fc | apply Fr.al | apply Fr.fa | apply Sp.sc | apply Sp.al | apply Sp.sa))) ?_
          rintro x4 H4 ⟨bd4, cd4, blk4, rfl, hbk4, rfl⟩
          refine WA.two (i := 0) (j := 9) (by kernel_rfl) ?_ ?_
          · refine WO.h rfl Wt.none rfl (Hd.loadAll (n := 2) (by kernel_rfl) rfl (by repeat (first | exact List.mem_cons_self | apply List.mem_cons_of_mem | apply List.mem_append_right)) (by rfl) ⟨_, rfl, ?_⟩)
            refine WA.two (i := 4) (j := 9) (by kernel_rfl) ?_ ?_
            · refine WO.c rfl Wt.none rfl (Ent.func Try.call24 rfl) (ask_tells (eN 200) (.slice wo 200 wc) (fullK (1#32 + order % 1000000#32) d 200) (blk4 :: D) (hF.kv.mono (by repeat (first | exact Gr.refl | exact Gr.left Gr.refl | exact Gr.left (Gr.left Gr.refl) | exact Gr.left (Gr.app Gr.refl) | exact Gr.left (Gr.app (Gr.app Gr.refl)) | exact Gr.left (Gr.app (Gr.left Gr.refl)) | exact Gr.left (Gr.left (Gr.left Gr.refl)) | exact Gr.nil | exact Gr.app (Gr.left Gr.refl) | refine Gr.cons ?_ | refine Gr.app ?_ | refine Gr.both ?_ ?_ | refine Gr.put (by repeat (first | exact List.mem_cons_self | apply List.mem_cons_of_mem | apply List.mem_append_right)) ?_))) (by rw [fullK_len]; omega) (stepN 1#32 ((1#32 + order % 1000000#32) + BitVec.ofNat 32 7) 0 false [120#8]) (.slice none 0 0) _ (Bs_nil _) (hbk4.mono (by repeat (first | exact Gr.refl | exact Gr.left Gr.refl | exact Gr.left (Gr.left Gr.refl) | exact Gr.left (Gr.app Gr.refl) | exact Gr.left (Gr.app (Gr.app Gr.refl)) | exact Gr.left (Gr.app (Gr.left Gr.refl)) | exact Gr.left (Gr.left (Gr.left Gr.refl)) | exact Gr.nil | exact Gr.app (Gr.left Gr.refl) | refine Gr.cons ?_ | refine Gr.app ?_ | refine Gr.both ?_ ?_ | refine Gr.put (by repeat (first | exact List.mem_cons_self | apply List.mem_cons_of_mem | apply List.mem_append_right)) ?_)))) (Sp.p (by repeat (first | exact Sp.here | exact Sp.sn | exact Sp.s0 | exact Fr.here | apply Sp.s2 | apply Sp.sx | apply Fr.fc | apply Fr.al | apply Fr.fa | apply Sp.sc | apply Sp.al | apply Sp.sa))) ?_
              rintro xa4 Ha4 ⟨wa4, wr4, A4, B4, rfl, hA4, hB4, rfl⟩
              rw [full_again hf0 hf (Nat.le_refl _) (show 7 < 200 by decide)] at hA4 hB4 ⊢
              obtain ⟨oa4, ca4, rfl, _⟩ := hA4.form
              obtain ⟨or4, cr4, rfl, _⟩ := hB4.form
              refine WA.y (i := 5) (NoPanic.then (NoPanic.body)) rfl (by kernel_rfl) (by kernel_rfl) (by kernel_rfl) rfl (Yd.move rfl) ?_
              refine WA.y (i := 6) (NoPanic.then (NoPanic.body)) rfl (by kernel_rfl) (by kernel_rfl) (by kernel_rfl) rfl (Yd.extract rfl rfl) ?_
              refine WA.y (i := 7) (NoPanic.then (NoPanic.body)) rfl (by kernel_rfl) (by kernel_rfl) (by kernel_rfl) rfl (Yd.extract rfl rfl) ?_
              refine WA.y (i := 8) (NoPanic.then (NoPanic.body)) rfl (by kernel_rfl) (by kernel_rfl) (by kernel_rfl) rfl (Yd.extract rfl rfl) ?_
              refine WA.one (i := 9) (by kernel_rfl) ?_
              refine WO.h rfl Wt.none rfl (Hd.alloc (zs := [.int .u32 0, .int .i64 0, .bool false, .slice none 0 0, .int .i64 0, .slice none 0 0]) (by kernel_rfl) fun b13 => ⟨_, rfl, ?_⟩)
              refine WA.y (i := 10) (NoPanic.then (NoPanic.body)) rfl (by kernel_rfl) (by kernel_rfl) (by kernel_rfl) rfl (Yd.assign rfl) ?_
              refine WA.one (i := 11) (by kernel_rfl) ?_
              refine WO.s rfl Wt.none (Hd.storeAll (n := 6) (by kernel_rfl) rfl rfl (by rfl) (kc_one rfl rfl) (by repeat (first | exact Fr.here | apply Fr.fc | apply Fr.al | apply Fr.fa)) (by rfl) ⟨rfl, ?_⟩)
              refine WA.y (i := 12) (NoPanic.then (NoPanic.body)) rfl (by kernel_rfl) (by kernel_rfl) (by kernel_rfl) rfl (Yd.assign rfl) ?_
              refine WA.done (by kernel_rfl) ?_
              exact DN.reachS ((b13, (oa4, ca4), (or4, cr4), B4)) (hB4) (Sx.put rfl (Sx.put rfl (Sx.put rfl ((by repeat (first | exact Sx.refl | refine Sx.skip rfl ?_)))))) (by repeat (first | exact Sp.here | exact Sp.sn | exact Sp.s0 | exact Fr.here | apply Sp.s2 | apply Sp.sx | apply Fr.fc | apply Fr.al | apply Fr.fa | apply Sp.sc | apply Sp.al | apply Sp.sa))
            · refine WO.h rfl Wt.none rfl (Hd.alloc (zs := [.int .u32 0, .int .i64 0, .bool false, .slice none 0 0, .int .i64 0, .slice none 0 0]) (by kernel_rfl) fun b13 => ⟨_, rfl, ?_⟩)
              refine WA.one (i := 4) (by kernel_rfl) ?_
              refine WO.c rfl Wt.none rfl (Ent.func Try.call24 rfl) (ask_tells (eN 200) (.slice wo 200 wc) (fullK (1#32 + order % 1000000#32) d 200) (blk4 :: D) (hF.kv.mono (by repeat (first | exact Gr.refl | exact Gr.left Gr.refl | exact Gr.left (Gr.left Gr.refl) | exact Gr.left (Gr.app Gr.refl) | exact Gr.left (Gr.app (Gr.app Gr.refl)) | exact Gr.left (Gr.app (Gr.left Gr.refl)) | exact Gr.left (Gr.left (Gr.left Gr.refl)) | exact Gr.nil | exact Gr.app (Gr.left Gr.refl) | refine Gr.cons ?_ | refine Gr.app ?_ | refine Gr.both ?_ ?_ | refine Gr.put (by repeat (first | exact List.mem_cons_self | apply List.mem_cons_of_mem | apply List.mem_append_right)) ?_))) (by rw [fullK_len]; omega) (stepN 1#32 ((1#32 + order % 1000000#32) + BitVec.ofNat 32 7) 0 false [120#8]) (.slice none 0 0) _ (Bs_nil _) (hbk4.mono (by repeat (first | exact Gr.refl | exact Gr.left Gr.refl | exact Gr.left (Gr.left Gr.refl) | exact Gr.left (Gr.app Gr.refl) | exact Gr.left (Gr.app (Gr.app Gr.refl)) | exact Gr.left (Gr.app (Gr.left Gr.refl)) | exact Gr.left (Gr.left (Gr.left Gr.refl)) | exact Gr.nil | exact Gr.app (Gr.left Gr.refl) | refine Gr.cons ?_ | refine Gr.app ?_ | refine Gr.both ?_ ?_ | refine Gr.put (by repeat (first | exact List.mem_cons_self | apply List.mem_cons_of_mem | apply List.mem_append_right)) ?_)))) (Sp.p (by repeat (first | exact Sp.here | exact Sp.sn | exact Sp.s0 | exact Fr.here | apply Sp.s2 | apply Sp.sx | apply Fr.fc | apply Fr.al | apply Fr.fa | apply Sp.sc | apply Sp.al | apply Sp.sa))) ?_
              rintro xa4 Ha4 ⟨wa4, wr4, A4, B4, rfl, hA4, hB4, rfl⟩
              rw [full_again hf0 hf (Nat.le_refl _) (show 7 < 200 by decide)] at hA4 hB4 ⊢
              obtain ⟨oa4, ca4, rfl, _⟩ := hA4.form
              obtain ⟨or4, cr4, rfl, _⟩ := hB4.form
              refine WA.y (i := 5) (NoPanic.then (NoPanic.body)) rfl (by kernel_rfl) (by kernel_rfl) (by kernel_rfl) rfl (Yd.move rfl) ?_
              refine WA.y (i := 6) (NoPanic.then (NoPanic.body)) rfl (by kernel_rfl) (by kernel_rfl) (by kernel_rfl) rfl (Yd.extract rfl rfl) ?_
              refine WA.y (i := 7) (NoPanic.then (NoPanic.body)) rfl (by kernel_rfl) (by kernel_rfl) (by kernel_rfl) rfl (Yd.extract rfl rfl) ?_
              refine WA.y (i := 8) (NoPanic.then (NoPanic.body)) rfl (by kernel_rfl) (by kernel_rfl) (by kernel_rfl) rfl (Yd.extract rfl rfl) ?_
              refine WA.y (i := 10) (NoPanic.then (NoPanic.body)) rfl (by kernel_rfl) (by kernel_rfl) (by kernel_rfl) rfl (Yd.assign rfl) ?_
              refine WA.one (i := 11) (by kernel_rfl) ?_
              refine WO.s rfl Wt.none (Hd.storeAll (n := 6) (by kernel_rfl) rfl rfl (by rfl) (kc_one rfl rfl) (by repeat (first | exact Fr.here | apply Fr.fc | apply Fr.al | apply Fr.fa)) (by rfl) ⟨rfl, ?_⟩)
              refine WA.y (i := 12) (NoPanic.then (NoPanic.body)) rfl (by kernel_rfl) (by kernel_rfl) (by kernel_rfl) rfl (Yd.assign rfl) ?_
              refine WA.done (by kernel_rfl) ?_
              exact DN.reachS ((b13, (oa4, ca4), (or4, cr4), B4)) (hB4) (Sx.put rfl (Sx.put rfl (Sx.put rfl ((by repeat (first | exact Sx.refl | refine Sx.skip rfl ?_)))))) (by repeat (first | exact Sp.here | exact Sp.sn | exact Sp.s0 | exact Fr.here | apply Sp.s2 | apply Sp.sx | apply Fr.fc | apply Fr.al | apply Fr.fa | apply Sp.sc | apply Sp.al | apply Sp.sa))
          · refine WO.h rfl Wt.none rfl (Hd.alloc (zs := [.int .u32 0, .int .i64 0, .bool false, .slice none 0 0, .int .i64 0, .slice none 0 0]) (by kernel_rfl) fun b13 => ⟨_, rfl, ?_⟩)
            refine WA.one (i := 0) (by kernel_rfl) ?_
            refine WO.h rfl Wt.none rfl (Hd.loadAll (n := 2) (by kernel_rfl) rfl (by repeat (first | exact List.mem_cons_self | apply List.mem_cons_of_mem | apply List.mem_append_right)) (by rfl) ⟨_, rfl, ?_⟩)
            refine WA.one (i := 4) (by kernel_rfl) ?_
            refine WO.c rfl Wt.none rfl (Ent.func Try.call24 rfl) (ask_tells (eN 200) (.slice wo 200 wc) (fullK (1#32 + order % 1000000#32) d 200) (blk4 :: D) (hF.kv.mono (by repeat (first | exact Gr.refl | exact Gr.left Gr.refl | exact Gr.left (Gr.left Gr.refl) | exact Gr.left (Gr.app Gr.refl) | exact Gr.left (Gr.app (Gr.app Gr.refl)) | exact Gr.left (Gr.app (Gr.left Gr.refl)) | exact Gr.left (Gr.left (Gr.left Gr.refl)) | exact Gr.nil | exact Gr.app (Gr.left Gr.refl) | refine Gr.cons ?_ | refine Gr.app ?_ | refine Gr.both ?_ ?_ | refine Gr.put (by repeat (first | exact List.mem_cons_self | apply List.mem_cons_of_mem | apply List.mem_append_right)) ?_))) (by rw [fullK_len]; omega) (stepN 1#32 ((1#32 + order % 1000000#32) + BitVec.ofNat 32 7) 0 false [120#8]) (.slice none 0 0) _ (Bs_nil _) (hbk4.mono (by repeat (first | exact Gr.refl | exact Gr.left Gr.refl | exact Gr.left (Gr.left Gr.refl) | exact Gr.left (Gr.app Gr.refl) | exact Gr.left (Gr.app (Gr.app Gr.refl)) | exact Gr.left (Gr.app (Gr.left Gr.refl)) | exact Gr.left (Gr.left (Gr.left Gr.refl)) | exact Gr.nil | exact Gr.app (Gr.left Gr.refl) | refine Gr.cons ?_ | refine Gr.app ?_ | refine Gr.both ?_ ?_ | refine Gr.put (by repeat (first | exact List.mem_cons_self | apply List.mem_cons_of_mem | apply List.mem_append_right)) ?_)))) (Sp.p (by repeat (first | exact Sp.here | exact Sp.sn | exact Sp.s0 | exact Fr.here | apply Sp.s2 | apply Sp.sx | apply Fr.fc | apply Fr.al | apply Fr.fa | apply Sp.sc | apply Sp.al | apply Sp.sa))) ?_
            rintro xa4 Ha4 ⟨wa4, wr4, A4, B4, rfl, hA4, hB4, rfl⟩
            rw [full_again hf0 hf (Nat.le_refl _) (show 7 < 200 by decide)] at hA4 hB4 ⊢
            obtain ⟨oa4, ca4, rfl, _⟩ := hA4.form
            obtain ⟨or4, cr4, rfl, _⟩ := hB4.form
            refine WA.y (i := 5) (NoPanic.then (NoPanic.body)) rfl (by kernel_rfl) (by kernel_rfl) (by kernel_rfl) rfl (Yd.move rfl) ?_
            refine WA.y (i := 6) (NoPanic.then (NoPanic.body)) rfl (by kernel_rfl) (by kernel_rfl) (by kernel_rfl) rfl (Yd.extract rfl rfl) ?_
            refine WA.y (i := 7) (NoPanic.then (NoPanic.body)) rfl (by kernel_rfl) (by kernel_rfl) (by kernel_rfl) rfl (Yd.extract rfl rfl) ?_
            refine WA.y (i := 8) (NoPanic.then (NoPanic.body)) rfl (by kernel_rfl) (by kernel_rfl) (by kernel_rfl) rfl (Yd.extract rfl rfl) ?_
            refine WA.y (i := 10) (NoPanic.then (NoPanic.body)) rfl (by kernel_rfl) (by kernel_rfl) (by kernel_rfl) rfl (Yd.assign rfl) ?_
            refine WA.one (i := 11) (by kernel_rfl) ?_
            refine WO.s rfl Wt.none (Hd.storeAll (n := 6) (by kernel_rfl) rfl rfl (by rfl) (kc_one rfl rfl) (by repeat (first | exact Fr.here | apply Fr.fc | apply Fr.al | apply Fr.fa)) (by rfl) ⟨rfl, ?_⟩)
            refine WA.y (i := 12) (NoPanic.then (NoPanic.body)) rfl (by kernel_rfl) (by kernel_rfl) (by kernel_rfl) rfl (Yd.assign rfl) ?_
            refine WA.done (by kernel_rfl) ?_
            exact DN.reachS ((b13, (oa4, ca4), (or4, cr4), B4)) (hB4) (Sx.put rfl (Sx.put rfl (Sx.put rfl ((by repeat (first | exact Sx.refl | refine Sx.skip rfl ?_)))))) (by repeat (first | exact Sp.here | exact Sp.sn | exact Sp.s0 | exact Fr.here | apply Sp.s2 | apply Sp.sx | apply Fr.fc | apply Fr.al | apply Fr.fa | apply Sp.sc | apply Sp.al | apply Sp.sa))
        · refine WO.h rfl Wt.none rfl (Hd.alloc (zs := [.int .u32 0, .int .i64 0, .bool false, .slice none 0 0, .int .i64 0, .slice none 0 0]) (by kernel_rfl) fun b13 => ⟨_, rfl, ?_⟩)
          refine WA.two (i := 0) (j := 3) (by kernel_rfl) ?_ ?_
          · refine WO.h rfl Wt.none rfl (Hd.loadAll (n := 2) (by kernel_rfl) rfl (by repeat (first | exact List.mem_cons_self | apply List.mem_cons_of_mem | apply List.mem_append_right)) (by rfl) ⟨_, rfl, ?_⟩)
            refine WA.one (i := 3) (by kernel_rfl) ?_
            refine WO.c rfl Wt.none rfl (Ent.func Try.call23 rfl) (step_tells 1#32 ((1#32 + order % 1000000#32) + BitVec.ofNat 32 7) 0 false [120#8]) (Sp.p (by repeat (first | exact Sp.here | exact Sp.sn | exact Sp.s0 | exact Fr.here | apply Sp.s2 | apply Sp.sx | apply Fr.fc | apply Fr.al | apply Fr.fa | apply Sp.sc | apply Sp.al | apply Sp.sa))) ?_
            rintro x4 H4 ⟨bd4, cd4, blk4, rfl, hbk4, rfl⟩
            refine WA.one (i := 4) (by kernel_rfl) ?_
            refine WO.c rfl Wt.none rfl (Ent.func Try.call24 rfl) (ask_tells (eN 200) (.slice wo 200 wc) (fullK (1#32 + order % 1000000#32) d 200) (blk4 :: D) (hF.kv.mono (by repeat (first | exact Gr.refl | exact Gr.left Gr.refl | exact Gr.left (Gr.left Gr.refl) | exact Gr.left (Gr.app Gr.refl) | exact Gr.left (Gr.app (Gr.app Gr.refl)) | exact Gr.left (Gr.app (Gr.left Gr.refl)) | exact Gr.left (Gr.left (Gr.left Gr.refl)) | exact Gr.nil | exact Gr.app (Gr.left Gr.refl) | refine Gr.cons ?_ | refine Gr.app ?_ | refine Gr.both ?_ ?_ | refine Gr.put (by repeat (first | exact List.mem_cons_self | apply List.mem_cons_of_mem | apply List.mem_append_right)) ?_))) (by rw [fullK_len]; omega) (stepN 1#32 ((1#32 + order % 1000000#32) + BitVec.ofNat 32 7) 0 false [120#8]) (.slice none 0 0) _ (Bs_nil _) (hbk4.mono (by repeat (first | exact Gr.refl | exact Gr.left Gr.refl | exact Gr.left (Gr.left Gr.refl) | exact Gr.left (Gr.app Gr.refl) | exact Gr.left (Gr.app (Gr.app Gr.refl)) | exact Gr.left (Gr.app (Gr.left Gr.refl)) | exact Gr.left (Gr.left (Gr.left Gr.refl)) | exact Gr.nil | exact Gr.app (Gr.left Gr.refl) | refine Gr.cons ?_ | refine Gr.app ?_ | refine Gr.both ?_ ?_ | refine Gr.put (by repeat (first | exact List.mem_cons_self | apply List.mem_cons_of_mem | apply List.mem_append_right)) ?_)))) (Sp.p (by repeat (first | exact Sp.here | exact Sp.sn | exact Sp.s0 | exact Fr.here | apply Sp.s2 | apply Sp.sx | apply Fr.fc | apply Fr.al | apply Fr.fa | apply Sp.sc | apply Sp.al | apply Sp.sa))) ?_
            rintro xa4 Ha4 ⟨wa4, wr4, A4, B4, rfl, hA4, hB4, rfl⟩
            rw [full_again hf0 hf (Nat.le_refl _) (show 7 < 200 by decide)] at hA4 hB4 ⊢
            obtain ⟨oa4, ca4, rfl, _⟩ := hA4.form
            obtain ⟨or4, cr4, rfl, _⟩ := hB4.form
            refine WA.y (i := 5) (NoPanic.then (NoPanic.body)) rfl (by kernel_rfl) (by kernel_rfl) (by kernel_rfl) rfl (Yd.move rfl) ?_
            refine WA.y (i := 6) (NoPanic.then (NoPanic.body)) rfl (by kernel_rfl) (by kernel_rfl) (by kernel_rfl) rfl (Yd.extract rfl rfl) ?_
            refine WA.y (i := 7) (NoPanic.then (NoPanic.body)) rfl (by kernel_rfl) (by kernel_rfl) (by kernel_rfl) rfl (Yd.extract rfl rfl) ?_
            refine WA.y (i := 8) (NoPanic.then (NoPanic.body)) rfl (by kernel_rfl) (by kernel_rfl) (by kernel_rfl) rfl (Yd.extract rfl rfl) ?_
            refine WA.y (i := 10) (NoPanic.then (NoPanic.body)) rfl (by kernel_rfl) (by kernel_rfl) (by kernel_rfl) rfl (Yd.assign rfl) ?_
            refine WA.one (i := 11) (by kernel_rfl) ?_
            refine WO.s rfl Wt.none (Hd.storeAll (n := 6) (by kernel_rfl) rfl rfl (by rfl) (kc_one rfl rfl) (by repeat (first | exact Fr.here | apply Fr.fc | apply Fr.al | apply Fr.fa)) (by rfl) ⟨rfl, ?_⟩)
            refine WA.y (i := 12) (NoPanic.then (NoPanic.body)) rfl (by kernel_rfl) (by kernel_rfl) (by kernel_rfl) rfl (Yd.assign rfl) ?_
            refine WA.done (by kernel_rfl) ?_
            exact DN.reachS ((b13, (oa4, ca4), (or4, cr4), B4)) (hB4) (Sx.put rfl (Sx.put rfl (Sx.put rfl ((by repeat (first | exact Sx.refl | refine Sx.skip rfl ?_)))))) (by repeat (first | exact Sp.here | exact Sp.sn | exact Sp.s0 | exact Fr.here | apply Sp.s2 | apply Sp.sx | apply Fr.fc | apply Fr.al | apply Fr.fa | apply Sp.sc | apply Sp.al | apply Sp.sa))
          · refine WO.c rfl Wt.none rfl (Ent.func Try.call23 rfl) (step_tells 1#32 ((1#32 + order % 1000000#32) + BitVec.ofNat 32 7) 0 false [120#8]) (Sp.p (by repeat (first | exact Sp.here | exact Sp.sn | exact Sp.s0 | exact Fr.here | apply Sp.s2 | apply Sp.sx | apply Fr.fc | apply Fr.al | apply Fr.fa | apply Sp.sc | apply Sp.al | apply Sp.sa))) ?_
            rintro x4 H4 ⟨bd4, cd4, blk4, rfl, hbk4, rfl⟩
            refine WA.one (i := 0) (by kernel_rfl) ?_
            refine WO.h rfl Wt.none rfl (Hd.loadAll (n := 2) (by kernel_rfl) rfl (by repeat (first | exact List.mem_cons_self | apply List.mem_cons_of_mem | apply List.mem_append_right)) (by rfl) ⟨_, rfl, ?_⟩)
            refine WA.one (i := 4) (by kernel_rfl) ?_
            refine WO.c rfl Wt.none rfl (Ent.func Try.call24 rfl) (ask_tells (eN 200) (.slice wo 200 wc) (fullK (1#32 + order % 1000000#32) d 200) (blk4 :: D) (hF.kv.mono (by repeat (first | exact Gr.refl | exact Gr.left Gr.refl | exact Gr.left (Gr.left Gr.refl) | exact Gr.left (Gr.app Gr.refl) | exact Gr.left (Gr.app (Gr.app Gr.refl)) | exact Gr.left (Gr.app (Gr.left Gr.refl)) | exact Gr.left (Gr.left (Gr.left Gr.refl)) | exact Gr.nil | exact Gr.app (Gr.left Gr.refl) | refine Gr.cons ?_ | refine Gr.app ?_ | refine Gr.both ?_ ?_ | refine Gr.put (by repeat (first | exact List.mem_cons_self | apply List.mem_cons_of_mem | apply List.mem_append_right)) ?_))) (by rw [fullK_len]; omega) (stepN 1#32 ((1#32 + order % 1000000#32) + BitVec.ofNat 32 7) 0 false [120#8]) (.slice none 0 0) _ (Bs_nil _) (hbk4.mono (by repeat (first | exact Gr.refl | exact Gr.left Gr.refl | exact Gr.left (Gr.left Gr.refl) | exact Gr.left (Gr.app Gr.refl) | exact Gr.left (Gr.app (Gr.app Gr.refl)) | exact Gr.left (Gr.app (Gr.left Gr.refl)) | exact Gr.left (Gr.left (Gr.left Gr.refl)) | exact Gr.nil | exact Gr.app (Gr.left Gr.refl) | refine Gr.cons ?_ | refine Gr.app ?_ | refine Gr.both ?_ ?_ | refine Gr.put (by repeat (first | exact List.mem_cons_self | apply List.mem_cons_of_mem | apply List.mem_append_right)) ?_)))) (Sp.p (by repeat (first | exact Sp.here | exact Sp.sn | exact Sp.s0 | exact Fr.here | apply Sp.s2 | apply Sp.sx | apply Fr.fc | apply Fr.al | apply Fr.fa | apply Sp.sc | apply Sp.al | apply Sp.sa))) ?_
            rintro xa4 Ha4 ⟨wa4, wr4, A4, B4, rfl, hA4, hB4, rfl⟩
            rw [full_again hf0 hf (Nat.le_refl _) (show 7 < 200 by decide)] at hA4 hB4 ⊢
            obtain ⟨oa4, ca4, rfl, _⟩ := hA4.form
            obtain ⟨or4, cr4, rfl, _⟩ := hB4.form
            refine WA.y (i := 5) (NoPanic.then (NoPanic.body)) rfl (by kernel_rfl) (by kernel_rfl) (by kernel_rfl) rfl (Yd.move rfl) ?_
            refine WA.y (i := 6) (NoPanic.then (NoPanic.body)) rfl (by kernel_rfl) (by kernel_rfl) (by kernel_rfl) rfl (Yd.extract rfl rfl) ?_
            refine WA.y (i := 7) (NoPanic.then (NoPanic.body)) rfl (by kernel_rfl) (by kernel_rfl) (by kernel_rfl) rfl (Yd.extract rfl rfl) ?_
            refine WA.y (i := 8) (NoPanic.then (NoPanic.body)) rfl (by kernel_rfl) (by kernel_rfl) (by kernel_rfl) rfl (Yd.extract rfl rfl) ?_
            refine WA.y (i := 10) (NoPanic.then (NoPanic.body)) rfl (by kernel_rfl) (by kernel_rfl) (by kernel_rfl) rfl (Yd.assign rfl) ?_
            refine WA.one (i := 11) (by kernel_rfl) ?_
            refine WO.s rfl Wt.none (Hd.storeAll (n := 6) (by kernel_rfl) rfl rfl (by rfl) (kc_one rfl rfl) (by repeat (first | exact Fr.here | apply Fr.fc | apply Fr.al | apply Fr.fa)) (by rfl) ⟨rfl, ?_⟩)
            refine WA.y (i := 12) (NoPanic.then (NoPanic.body)) rfl (by kernel_rfl) (by kernel_rfl) (by kernel_rfl) rfl (Yd.assign rfl) ?_
            refine WA.done (by kernel_rfl) ?_
            exact DN.reachS ((b13, (oa4, ca4), (or4, cr4), B4)) (hB4) (Sx.put rfl (Sx.put rfl (Sx.put rfl ((by repeat (first | exact Sx.refl | refine Sx.skip rfl ?_)))))) (by repeat (first | exact Sp.here | exact Sp.sn | exact Sp.s0 | exact Fr.here | apply Sp.s2 | apply Sp.sx | apply Fr.fc | apply Fr.al | apply Fr.fa | apply Sp.sc | apply Sp.al | apply Sp.sa))
      · rintro ⟨b13, ⟨ao7, ac7⟩, ⟨ro7, rc7⟩, B7⟩ hB7
        dsimp only at hB7 ⊢
        refine WC.cutK (fun z : Unit => True) (fun z : Unit => [(15, .int .i64 1), (17, .int .i64 0)]) (fun z : Unit => row b13 (kc (kF (1#32 + order % 1000000#32) d 7) (.slice ao7 1 ac7) (.slice ro7 1 rc7)) 43 :: (B7 ++ (row b5 [.int .u32 (eN 200).toNat, .slice wo 200 wc] 25 :: D))) ?_ ?_
        · refine WC.draw 13 (by kernel_rfl) rfl ?_
          refine WA.y (i := 1) (NoPanic.then (NoPanic.body)) rfl (by kernel_rfl) (by kernel_rfl) (by kernel_rfl) rfl (Yd.move rfl) ?_
          refine WA.y (i := 2) (NoPanic.then (NoPanic.body)) rfl (by kernel_rfl) (by kernel_rfl) (by kernel_rfl) rfl (Yd.add32 _ (200#32) rfl rfl rfl rfl) ?_
          refine WA.three (i := 0) (j := 3) (k := 9) (by kernel_rfl) ?_ ?_ ?_
          · refine WO.h rfl Wt.none rfl (Hd.loadAll (n := 2) (by kernel_rfl) rfl (by repeat (first | exact List.mem_cons_self | apply List.mem_cons_of_mem | apply List.mem_append_right)) (by rfl) ⟨_, rfl, ?_⟩)
            refine WA.two (i := 3) (j := 9) (by kernel_rfl) ?_ ?_
            · refine WO.c rfl Wt.none rfl (Ent.func Try.call23 rfl) (step_tells 1#32 ((1#32 + order % 1000000#32) + BitVec.ofNat 32 200) 0 false [120#8]) (Sp.p (by repeat (first | exact Sp.here | exact Sp.sn | exact Sp.s0 | exact Fr.here | apply Sp.s2 | apply Sp.sx | apply Fr.fc | apply Fr.al | apply Fr.fa | apply Sp.sc | apply Sp.al | apply Sp.sa))) ?_
              rintro x5 H5 ⟨bd5, cd5, blk5, rfl, hbk5, rfl⟩
              refine WA.two (i := 4) (j := 9) (by kernel_rfl) ?_ ?_
              · refine WO.c rfl Wt.none rfl (Ent.func Try.call24 rfl) (ask_tells (eN 200) (.slice wo 200 wc) (fullK (1#32 + order % 1000000#32) d 200) (blk5 :: D) (hF.kv.mono (by repeat (first | exact Gr.refl | exact Gr.left Gr.refl | exact Gr.left (Gr.left Gr.refl) | exact Gr.left (Gr.app Gr.refl) | exact Gr.left (Gr.app (Gr.app Gr.refl)) | exact Gr.left (Gr.app (Gr.left Gr.refl)) | exact Gr.left (Gr.left (Gr.left Gr.refl)) | exact Gr.nil | exact Gr.app (Gr.left Gr.refl) | refine Gr.cons ?_ | refine Gr.app ?_ | refine Gr.both ?_ ?_ | refine Gr.put (by repeat (first | exact List.mem_cons_self | apply List.mem_cons_of_mem | apply List.mem_append_right)) ?_))) (by rw [fullK_len]; omega) (stepN 1#32 ((1#32 + order % 1000000#32) + BitVec.ofNat 32 200) 0 false [120#8]) (.slice none 0 0) _ (Bs_nil _) (hbk5.mono (by repeat (first | exact Gr.refl | exact Gr.left Gr.refl | exact Gr.left (Gr.left Gr.refl) | exact Gr.left (Gr.app Gr.refl) | exact Gr.left (Gr.app (Gr.app Gr.refl)) | exact Gr.left (Gr.app (Gr.left Gr.refl)) | exact Gr.left (Gr.left (Gr.left Gr.refl)) | exact Gr.nil | exact Gr.app (Gr.left Gr.refl) | refine Gr.cons ?_ | refine Gr.app ?_ | refine Gr.both ?_ ?_ | refine Gr.put (by repeat (first | exact List.mem_cons_self | apply List.mem_cons_of_mem | apply List.mem_append_right)) ?_)))) (Sp.p (by repeat (first | exact Sp.here | exact Sp.sn | exact Sp.s0 | exact Fr.here | apply Sp.s2 | apply Sp.sx | apply Fr.fc | apply Fr.al | apply Fr.fa | apply Sp.sc | apply Sp.al | apply Sp.sa))) ?_
                rintro xa5 Ha5 ⟨wa5, wr5, A5, B5, rfl, hA5, hB5, rfl⟩
                rw [full_new hf0 hf (Nat.le_refl _) (Nat.le_refl _) (Nat.le_refl _)] at hA5 hB5 ⊢
                obtain ⟨oa5, ca5, rfl, _⟩ := hA5.form
                obtain ⟨or5, cr5, rfl, _⟩ := hB5.form
                refine WA.y (i := 5) (NoPanic.then (NoPanic.body)) rfl (by kernel_rfl) (by kernel_rfl) (by kernel_rfl) rfl (Yd.move rfl) ?_
                refine WA.y (i := 6) (NoPanic.then (NoPanic.body)) rfl (by kernel_rfl) (by kernel_rfl) (by kernel_rfl) rfl (Yd.extract rfl rfl) ?_
                refine WA.y (i := 7) (NoPanic.then (NoPanic.body)) rfl (by kernel_rfl) (by kernel_rfl) (by kernel_rfl) rfl (Yd.extract rfl rfl) ?_
                refine WA.y (i := 8) (NoPanic.then (NoPanic.body)) rfl (by kernel_rfl) (by kernel_rfl) (by kernel_rfl) rfl (Yd.extract rfl rfl) ?_
                refine WA.one (i := 9) (by kernel_rfl) ?_
                refine WO.h rfl Wt.none rfl (Hd.alloc (zs := [.int .u32 0, .int .i64 0, .bool false, .slice none 0 0, .int .i64 0, .slice none 0 0]) (by kernel_rfl) fun b16 => ⟨_, rfl, ?_⟩)
                refine WA.y (i := 10) (NoPanic.then (NoPanic.body)) rfl (by kernel_rfl) (by kernel_rfl) (by kernel_rfl) rfl (Yd.assign rfl) ?_
                refine WA.one (i := 11) (by kernel_rfl) ?_
                refine WO.s rfl Wt.none (Hd.storeAll (n := 6) (by kernel_rfl) rfl rfl (by rfl) (kc_one rfl rfl) (by repeat (first | exact Fr.here | apply Fr.fc | apply Fr.al | apply Fr.fa)) (by rfl) ⟨rfl, ?_⟩)
                refine WA.y (i := 12) (NoPanic.then (NoPanic.body)) rfl (by kernel_rfl) (by kernel_rfl) (by kernel_rfl) rfl (Yd.assign rfl) ?_
                refine WA.done (by kernel_rfl) ?_
                exact DN.reachS (()) (trivial) (Sx.put rfl (Sx.put rfl ((by repeat (first | exact Sx.refl | refine Sx.skip rfl ?_))))) (by repeat (first | exact Sp.here | exact Sp.sn | exact Sp.s0 | exact Fr.here | apply Sp.s2 | apply Sp.sx | apply Fr.fc | apply Fr.al | apply Fr.fa | apply Sp.sc | apply Sp.al | apply Sp.sa))
              · refine WO.h rfl Wt.none rfl (Hd.alloc (zs := [.int .u32 0, .int .i64 0, .bool false, .slice none 0 0, .int .i64 0, .slice none 0 0]) (by kernel_rfl) fun b16 => ⟨_, rfl, ?_⟩)
                refine WA.one (i := 4) (by kernel_rfl) ?_
                refine WO.c rfl Wt.none rfl (Ent.func Try.call24 rfl) (ask_tells (eN 200) (.slice wo 200 wc) (fullK (1#32 + order % 1000000#32) d 200) (blk5 :: D) (hF.kv.mono (by repeat (first | exact Gr.refl | exact Gr.left Gr.refl | exact Gr.left (Gr.left Gr.refl) | exact Gr.left (Gr.app Gr.refl) | exact Gr.left (Gr.app (Gr.app Gr.refl)) | exact Gr.left (Gr.app (Gr.left Gr.refl)) | exact Gr.left (Gr.left (Gr.left Gr.refl)) | exact Gr.nil | exact Gr.app (Gr.left Gr.refl) | refine Gr.cons ?_ | refine Gr.app ?_ | refine Gr.both ?_ ?_ | refine Gr.put (by repeat (first | exact List.mem_cons_self | apply List.mem_cons_of_mem | apply List.mem_append_right)) ?_))) (by rw [fullK_len]; omega) (stepN 1#32 ((1#32 + order % 1000000#32) + BitVec.ofNat 32 200) 0 false [120#8]) (.slice none 0 0) _ (Bs_nil _) (hbk5.mono (by repeat (first | exact Gr.refl | exact Gr.left Gr.refl | exact Gr.left (Gr.left Gr.refl) | exact Gr.left (Gr.app Gr.refl) | exact Gr.left (Gr.app (Gr.app Gr.refl)) | exact Gr.left (Gr.app (Gr.left Gr.refl)) | exact Gr.left (Gr.left (Gr.left Gr.refl)) | exact Gr.nil | exact Gr.app (Gr.left Gr.refl) | refine Gr.cons ?_ | refine Gr.app ?_ | refine Gr.both ?_ ?_ | refine Gr.put (by repeat (first | exact List.mem_cons_self | apply List.mem_cons_of_mem | apply List.mem_append_right)) ?_)))) (Sp.p (by repeat (first | exact Sp.here | exact Sp.sn | exact Sp.s0 | exact Fr.here | apply Sp.s2 | apply Sp.sx | apply Fr.fc | apply Fr.al | apply Fr.fa | apply Sp.sc | apply Sp.al | apply Sp.sa))) ?_
                rintro xa5 Ha5 ⟨wa5, wr5, A5, B5, rfl, hA5, hB5, rfl⟩
                rw [full_new hf0 hf (Nat.le_refl _) (Nat.le_refl _) (Nat.le_refl _)] at hA5 hB5 ⊢
                obtain ⟨oa5, ca5, rfl, _⟩ := hA5.form
                obtain ⟨or5, cr5, rfl, _⟩ := hB5.form
                refine WA.y (i := 5) (NoPanic.then (NoPanic.body)) rfl (by kernel_rfl) (by kernel_rfl) (by kernel_rfl) rfl (Yd.move rfl) ?_
                refine WA.y (i := 6) (NoPanic.then (NoPanic.body)) rfl (by kernel_rfl) (by kernel_rfl) (by kernel_rfl) rfl (Yd.extract rfl rfl) ?_
                refine WA.y (i := 7) (NoPanic.then (NoPanic.body)) rfl (by kernel_rfl) (by kernel_rfl) (by kernel_rfl) rfl (Yd.extract rfl rfl) ?_
                refine WA.y (i := 8) (NoPanic.then (NoPanic.body)) rfl (by kernel_rfl) (by kernel_rfl) (by kernel_rfl) rfl (Yd.extract rfl rfl) ?_
                refine WA.y (i := 10) (NoPanic.then (NoPanic.body)) rfl (by kernel_rfl) (by kernel_rfl) (by kernel_rfl) rfl (Yd.assign rfl) ?_
                refine WA.one (i := 11) (by kernel_rfl) ?_
                refine WO.s rfl Wt.none (Hd.storeAll (n := 6) (by kernel_rfl) rfl rfl (by rfl) (kc_one rfl rfl) (by repeat (first | exact Fr.here | apply Fr.fc | apply Fr.al | apply Fr.fa)) (by rfl) ⟨rfl, ?_⟩)
                refine WA.y (i := 12) (NoPanic.then (NoPanic.body)) rfl (by kernel_rfl) (by kernel_rfl) (by kernel_rfl) rfl (Yd.assign rfl) ?_
                refine WA.done (by kernel_rfl) ?_
                exact DN.reachS (()) (trivial) (Sx.put rfl (Sx.put rfl ((by repeat (first | exact Sx.refl | refine Sx.skip rfl ?_))))) (by repeat (first | exact Sp.here | exact Sp.sn | exact Sp.s0 | exact Fr.here | apply Sp.s2 | apply Sp.sx | apply Fr.fc | apply Fr.al | apply Fr.fa | apply Sp.sc | apply Sp.al | apply Sp.sa))
            · refine WO.h rfl Wt.none rfl (Hd.alloc (zs := [.int .u32 0, .int .i64 0, .bool false, .slice none 0 0, .int .i64 0, .slice none 0 0]) (by kernel_rfl) fun b16 => ⟨_, rfl, ?_⟩)
              refine WA.one (i := 3) (by kernel_rfl) ?_
              refine WO.c rfl Wt.none rfl (Ent.func Try.call23 rfl) (step_tells 1#32 ((1#32 + order % 1000000#32) + BitVec.ofNat 32 200) 0 false [120#8]) (Sp.p (by repeat (first | exact Sp.here | exact Sp.sn | exact Sp.s0 | exact Fr.here | apply Sp.s2 | apply Sp.sx | apply Fr.fc | apply Fr.al | apply Fr.fa | apply Sp.sc | apply Sp.al | apply Sp.sa))) ?_
              rintro x5 H5 ⟨bd5, cd5, blk5, rfl, hbk5, rfl⟩
              refine WA.one (i := 4) (by kernel_rfl) ?_
              refine WO.c rfl Wt.none rfl (Ent.func Try.call24 rfl) (ask_tells (eN 200) (.slice wo 200 wc) (fullK (1#32 + order % 1000000#32) d 200) (blk5 :: D) (hF.kv.mono (by repeat (first | exact Gr.refl | exact Gr.left Gr.refl | exact Gr.left (Gr.left Gr.refl) | exact Gr.left (Gr.app Gr.refl) | exact Gr.left (Gr.app (Gr.app Gr.refl)) | exact Gr.left (Gr.app (Gr.left Gr.refl)) | exact Gr.left (Gr.left (Gr.left Gr.refl)) | exact Gr.nil | exact Gr.app (Gr.left Gr.refl) | refine Gr.cons ?_ | refine Gr.app ?_ | refine Gr.both ?_ ?_ | refine Gr.put (by repeat (first | exact List.mem_cons_self | apply List.mem_cons_of_mem | apply List.mem_append_right)) ?_))) (by rw [fullK_len]; omega) (stepN 1#32 ((1#32 + order % 1000000#32) + BitVec.ofNat 32 200) 0 false [120#8]) (.slice none 0 0) _ (Bs_nil _) (hbk5.mono (by repeat (first | exact Gr.refl | exact Gr.left Gr.refl | exact Gr.left (Gr.left Gr.refl) | exact Gr.left (Gr.app Gr.refl) | exact Gr.left (Gr.app (Gr.app Gr.refl)) | exact Gr.left (Gr.app (Gr.left Gr.refl)) | exact Gr.left (Gr.left (Gr.left Gr.refl)) | exact Gr.nil | exact Gr.app (Gr.left Gr.refl) | refine Gr.cons ?_ | refine Gr.app ?_ | refine Gr.both ?_ ?_ | refine Gr.put (by repeat (first | exact List.mem_cons_self | apply List.mem_cons_of_mem | apply List.mem_append_right)) ?_)))) (Sp.p (by repeat (first | exact Sp.here | exact Sp.sn | exact Sp.s0 | exact Fr.here | apply Sp.s2 | apply Sp.sx | apply Fr.fc | apply Fr.al | apply Fr.fa | apply Sp.sc | apply Sp.al | apply Sp.sa))) ?_
              rintro xa5 Ha5 ⟨wa5, wr5, A5, B5, rfl, hA5, hB5, rfl⟩
              rw [full_new hf0 hf (Nat.le_refl _) (Nat.le_refl _) (Nat.le_refl _)] at hA5 hB5 ⊢
              obtain ⟨oa5, ca5, rfl, _⟩ := hA5.form
              obtain ⟨or5, cr5, rfl, _⟩ := hB5.form
              refine WA.y (i := 5) (NoPanic.then (NoPanic.body)) rfl (by kernel_rfl) (by kernel_rfl) (by kernel_rfl) rfl (Yd.move rfl) ?_
              refine WA.y (i := 6) (NoPanic.then (NoPanic.body)) rfl (by kernel_rfl) (by kernel_rfl) (by kernel_rfl) rfl (Yd.extract rfl rfl) ?_
              refine WA.y (i := 7) (NoPanic.then (NoPanic.body)) rfl (by kernel_rfl) (by kernel_rfl) (by kernel_rfl) rfl (Yd.extract rfl rfl) ?_
              refine WA.y (i := 8) (NoPanic.then (NoPanic.body)) rfl (by kernel_rfl) (by kernel_rfl) (by kernel_rfl) rfl (Yd.extract rfl rfl) ?_
              refine WA.y (i := 10) (NoPanic.then (NoPanic.body)) rfl (by kernel_rfl) (by kernel_rfl) (by kernel_rfl) rfl (Yd.assign rfl) ?_
              refine WA.one (i := 11) (by kernel_rfl) ?_
              refine WO.s rfl Wt.none (Hd.storeAll (n := 6) (by kernel_rfl) rfl rfl (by rfl) (kc_one rfl rfl) (by repeat (first | exact Fr.here | apply Fr.fc | apply Fr.al | apply Fr.fa)) (by rfl) ⟨rfl, ?_⟩)
              refine WA.y (i := 12) (NoPanic.then (NoPanic.body)) rfl (by kernel_rfl) (by kernel_rfl) (by kernel_rfl) rfl (Yd.assign rfl) ?_
              refine WA.done (by kernel_rfl) ?_
              exact DN.reachS (()) (trivial) (Sx.put rfl (Sx.put rfl ((by repeat (first | exact Sx.refl | refine Sx.skip rfl ?_))))) (by repeat (first | exact Sp.here | exact Sp.sn | exact Sp.s0 | exact Fr.here | apply Sp.s2 | apply Sp.sx | apply Fr.fc | apply Fr.al | apply Fr.fa | apply Sp.sc | apply Sp.al | apply Sp.sa))
          · refine WO.c rfl Wt.none rfl (Ent.func Try.call23 rfl) (step_tells 1#32 ((1#32 + order % 1000000#32) + BitVec.ofNat 32 200) 0 false [120#8]) (Sp.p (by repeat (first | exact Sp.here | exact Sp.sn | exact Sp.s0 | exact Fr.here | apply Sp.s2 | apply Sp.sx | apply Fr.fc | apply Fr.al | apply Fr.fa | apply Sp.sc | apply Sp.al | apply Sp.sa))) ?_
            rintro x5 H5 ⟨bd5, cd5, blk5, rfl, hbk5, rfl⟩
            refine WA.two (i := 0) (j := 9) (by kernel_rfl) ?_ ?_
            · refine WO.h rfl Wt.none rfl (Hd.loadAll (n := 2) (by kernel_rfl) rfl (by repeat (first | exact List.mem_cons_self | apply List.mem_cons_of_mem | apply List.mem_append_right)) (by rfl) ⟨_, rfl, ?_⟩)
              refine WA.two (i := 4) (j := 9) (by kernel_rfl) ?_ ?_
              · refine WO.c rfl Wt.none rfl (Ent.func Try.call24 rfl) (ask_tells (eN 200) (.slice wo 200 wc) (fullK (1#32 + order % 1000000#32) d 200) (blk5 :: D) (hF.kv.mono (by repeat (first | exact Gr.refl | exact Gr.left Gr.refl | exact Gr.left (Gr.left Gr.refl) | exact Gr.left (Gr.app Gr.refl) | exact Gr.left (Gr.app (Gr.app Gr.refl)) | exact Gr.left (Gr.app (Gr.left Gr.refl)) | exact Gr.left (Gr.left (Gr.left Gr.refl)) | exact Gr.nil | exact Gr.app (Gr.left Gr.refl) | refine Gr.cons ?_ | refine Gr.app ?_ | refine Gr.both ?_ ?_ | refine Gr.put (by repeat (first | exact List.mem_cons_self | apply List.mem_cons_of_mem | apply List.mem_append_right)) ?_))) (by rw [fullK_len]; omega) (stepN 1#32 ((1#32 + order % 1000000#32) + BitVec.ofNat 32 200) 0 false [120#8]) (.slice none 0 0) _ (Bs_nil _) (hbk5.mono (by repeat (first | exact Gr.refl | exact Gr.left Gr.refl | exact Gr.left (Gr.left Gr.refl) | exact Gr.left (Gr.app Gr.refl) | exact Gr.left (Gr.app (Gr.app Gr.refl)) | exact Gr.left (Gr.app (Gr.left Gr.refl)) | exact Gr.left (Gr.left (Gr.left Gr.refl)) | exact Gr.nil | exact Gr.app (Gr.left Gr.refl) | refine Gr.cons ?_ | refine Gr.app ?_ | refine Gr.both ?_ ?_ | refine Gr.put (by repeat (first | exact List.mem_cons_self | apply List.mem_cons_of_mem | apply List.mem_append_right)) ?_)))) (Sp.p (by repeat (first | exact Sp.here | exact Sp.sn | exact Sp.s0 | exact Fr.here | apply Sp.s2 | apply Sp.sx | apply Fr.fc | apply Fr.al | apply Fr.fa | apply Sp.sc | apply Sp.al | apply Sp.sa))) ?_
                rintro xa5 Ha5 ⟨wa5, wr5, A5, B5, rfl, hA5, hB5, rfl⟩
                rw [full_new hf0 hf (Nat.le_refl _) (Nat.le_refl _) (Nat.le_refl _)] at hA5 hB5 ⊢
                obtain ⟨oa5, ca5, rfl, _⟩ := hA5.form
                obtain ⟨or5, cr5, rfl, _⟩ := hB5.form
                refine WA.y (i := 5) (NoPanic.then (NoPanic.body)) rfl (by kernel_rfl) (by kernel_rfl) (by kernel_rfl) rfl (Yd.move rfl) ?_
                refine WA.y (i := 6) (NoPanic.then (NoPanic.body)) rfl (by kernel_rfl) (by kernel_rfl) (by kernel_rfl) rfl (Yd.extract rfl rfl) ?_
                refine WA.y (i := 7) (NoPanic.then (NoPanic.body)) rfl (by kernel_rfl) (by kernel_rfl) (by kernel_rfl) rfl (Yd.extract rfl rfl) ?_
                refine WA.y (i := 8) (NoPanic.then (NoPanic.body)) rfl (by kernel_rfl) (by kernel_rfl) (by kernel_rfl) rfl (Yd.extract rfl rfl) ?_
                refine WA.one (i := 9) (by kernel_rfl) ?_
                refine WO.h rfl Wt.none rfl (Hd.alloc (zs := [.int .u32 0, .int .i64 0, .bool false, .slice none 0 0, .int .i64 0, .slice none 0 0]) (by kernel_rfl) fun b16 => ⟨_, rfl, ?_⟩)
                refine WA.y (i := 10) (NoPanic.then (NoPanic.body)) rfl (by kernel_rfl) (by kernel_rfl) (by kernel_rfl) rfl (Yd.assign rfl) ?_
                refine WA.one (i := 11) (by kernel_rfl) ?_
                refine WO.s rfl Wt.none (Hd.storeAll (n := 6) (by kernel_rfl) rfl rfl (by rfl) (kc_one rfl rfl) (by repeat (first | exact Fr.here | apply Fr.fc | apply Fr.al | apply Fr.fa)) (by rfl) ⟨rfl, ?_⟩)
                refine WA.y (i := 12) (NoPanic.then (NoPanic.body)) rfl (by kernel_rfl) (by kernel_rfl) (by kernel_rfl) rfl (Yd.assign rfl) ?_
                refine WA.done (by kernel_rfl) ?_
                exact DN.reachS (()) (trivial) (Sx.put rfl (Sx.put rfl ((by repeat (first | exact Sx.refl | refine Sx.skip rfl ?_))))) (by repeat (first | exact Sp.here | exact Sp.sn | exact Sp.s0 | exact Fr.here | apply Sp.s2 | apply Sp.sx | apply Fr.fc | apply Fr.al | apply Fr.fa | apply Sp.sc | apply Sp.al | apply Sp.sa))
              · refine WO.h rfl Wt.none rfl (Hd.alloc (zs := [.int .u32 0, .int .i64 0, .bool false, .slice none 0 0, .int .i64 0, .slice none 0 0]) (by kernel_rfl) fun b16 => ⟨_, rfl, ?_⟩)
                refine WA.one (i := 4) (by kernel_rfl) ?_
                refine WO.c rfl Wt.none rfl (Ent.func Try.call24 rfl) (ask_tells (eN 200) (.slice wo 200 wc) (fullK (1#32 + order % 1000000#32) d 200) (blk5 :: D) (hF.kv.mono (by repeat (first | exact Gr.refl | exact Gr.left Gr.refl | exact Gr.left (Gr.left Gr.refl) | exact Gr.left (Gr.app Gr.refl) | exact Gr.left (Gr.app (Gr.app Gr.refl)) | exact Gr.left (Gr.app (Gr.left Gr.refl)) | exact Gr.left (Gr.left (Gr.left Gr.refl)) | exact Gr.nil | exact Gr.app (Gr.left Gr.refl) | refine Gr.cons ?_ | refine Gr.app ?_ | refine Gr.both ?_ ?_ | refine Gr.put (by repeat (first | exact List.mem_cons_self | apply List.mem_cons_of_mem | apply List.mem_append_right)) ?_))) (by rw [fullK_len]; omega) (stepN 1#32 ((1#32 + order % 1000000#32) + BitVec.ofNat 32 200) 0 false [120#8]) (.slice none 0 0) _ (Bs_nil _) (hbk5.mono (by repeat (first | exact Gr.refl | exact Gr.left Gr.refl | exact Gr.left (Gr.left Gr.refl) | exact Gr.left (Gr.app Gr.refl) | exact Gr.left (Gr.app (Gr.app Gr.refl)) | exact Gr.left (Gr.app (Gr.left Gr.refl)) | exact Gr.left (Gr.left (Gr.left Gr.refl)) | exact Gr.nil | exact Gr.app (Gr.left Gr.refl) | refine Gr.cons ?_ | refine Gr.app ?_ | refine Gr.both ?_ ?_ | refine Gr.put (by repeat (first | exact List.mem_cons_self | apply List.mem_cons_of_mem | apply List.mem_append_right)) ?_)))) (Sp.p (by repeat (first | exact Sp.here | exact Sp.sn | exact Sp.s0 | exact Fr.here | apply Sp.s2 | apply Sp.sx | apply Fr.fc | apply Fr.al | apply Fr.fa | apply Sp.sc | apply Sp.al | apply Sp.sa))) ?_
                rintro xa5 Ha5 ⟨wa5, wr5, A5, B5, rfl, hA5, hB5, rfl⟩
                rw [full_new hf0 hf (Nat.le_refl _) (Nat.le_refl _) (Nat.le_refl _)] at hA5 hB5 ⊢
                obtain ⟨oa5, ca5, rfl, _⟩ := hA5.form
                obtain ⟨or5, cr5, rfl, _⟩ := hB5.form
                refine WA.y (i := 5) (NoPanic.then (NoPanic.body)) rfl (by kernel_rfl) (by kernel_rfl) (by kernel_rfl) rfl (Yd.move rfl) ?_
                refine WA.y (i := 6) (NoPanic.then (NoPanic.body)) rfl (by kernel_rfl) (by kernel_rfl) (by kernel_rfl) rfl (Yd.extract rfl rfl) ?_
                refine WA.y (i := 7) (NoPanic.then (NoPanic.body)) rfl (by kernel_rfl) (by kernel_rfl) (by kernel_rfl) rfl (Yd.extract rfl rfl) ?_
                refine WA.y (i := 8) (NoPanic.then (NoPanic.body)) rfl (by kernel_rfl) (by kernel_rfl) (by kernel_rfl) rfl (Yd.extract rfl rfl) ?_
                refine WA.y (i := 10) (NoPanic.then (NoPanic.body)) rfl (by kernel_rfl) (by kernel_rfl) (by kernel_rfl) rfl (Yd.assign rfl) ?_
                refine WA.one (i := 11) (by kernel_rfl) ?_
                refine WO.s rfl Wt.none (Hd.storeAll (n := 6) (by kernel_rfl) rfl rfl (by rfl) (kc_one rfl rfl) (by repeat (first | exact Fr.here | apply Fr.fc | apply Fr.al | apply Fr.fa)) (by rfl) ⟨rfl, ?_⟩)
                refine WA.y (i := 12) (NoPanic.then (NoPanic.body)) rfl (by kernel_rfl) (by kernel_rfl) (by kernel_rfl) rfl (Yd.assign rfl) ?_
                refine WA.done (by kernel_rfl) ?_
                exact DN.reachS (()) (trivial) (Sx.put rfl (Sx.put rfl ((by repeat (first | exact Sx.refl | refine Sx.skip rfl ?_))))) (by repeat (first | exact Sp.here | exact Sp.sn | exact Sp.s0 | exact Fr.here | apply Sp.s2 | apply Sp.sx | apply Fr.fc | apply Fr.al | apply Fr.fa | apply Sp.sc | apply Sp.al | apply Sp.sa))
            · refine WO.h rfl Wt.none rfl (Hd.alloc (zs := [.int .u32 0, .int .i64 0, .bool false, .slice none 0 0, .int .i64 0, .slice none 0 0]) (by kernel_rfl) fun b16 => ⟨_, rfl, ?_⟩)
              refine WA.one (i := 0) (by kernel_rfl) ?_
              refine WO.h rfl Wt.none rfl (Hd.loadAll (n := 2) (by kernel_rfl) rfl (by repeat (first | exact List.mem_cons_self | apply List.mem_cons_of_mem | apply List.mem_append_right)) (by rfl) ⟨_, rfl, ?_⟩)
              refine WA.one (i := 4) (by kernel_rfl) ?_
              refine WO.c rfl Wt.none rfl (Ent.func Try.call24 rfl) (ask_tells (eN 200) (.slice wo 200 wc) (fullK (1#32 + order % 1000000#32) d 200) (blk5 :: D) (hF.kv.mono (by repeat (first | exact Gr.refl | exact Gr.left Gr.refl | exact Gr.left (Gr.left Gr.refl) | exact Gr.left (Gr.app Gr.refl) | exact Gr.left (Gr.app (Gr.app Gr.refl)) | exact Gr.left (Gr.app (Gr.left Gr.refl)) | exact Gr.left (Gr.left (Gr.left Gr.refl)) | exact Gr.nil | exact Gr.app (Gr.left Gr.refl) | refine Gr.cons ?_ | refine Gr.app ?_ | refine Gr.both ?_ ?_ | refine Gr.put (by repeat (first | exact List.mem_cons_self | apply List.mem_cons_of_mem | apply List.mem_append_right)) ?_))) (by rw [fullK_len]; omega) (stepN 1#32 ((1#32 + order % 1000000#32) + BitVec.ofNat 32 200) 0 false [120#8]) (.slice none 0 0) _ (Bs_nil _) (hbk5.mono (by repeat (first | exact Gr.refl | exact Gr.left Gr.refl | exact Gr.left (Gr.left Gr.refl) | exact Gr.left (Gr.app Gr.refl) | exact Gr.left (Gr.app (Gr.app Gr.refl)) | exact Gr.left (Gr.app (Gr.left Gr.refl)) | exact Gr.left (Gr.left (Gr.left Gr.refl)) | exact Gr.nil | exact Gr.app (Gr.left Gr.refl) | refine Gr.cons ?_ | refine Gr.app ?_ | refine Gr.both ?_ ?_ | refine Gr.put (by repeat (first | exact List.mem_cons_self | apply List.mem_cons_of_mem | apply List.mem_append_right)) ?_)))) (Sp.p (by repeat (first | exact Sp.here | exact Sp.sn | exact Sp.s0 | exact Fr.here | apply Sp.s2 | apply Sp.sx | apply Fr.fc | apply Fr.al | apply Fr.fa | apply Sp.sc | apply Sp.al | apply Sp.sa))) ?_
              rintro xa5 Ha5 ⟨wa5, wr5, A5, B5, rfl, hA5, hB5, rfl⟩
              rw [full_new hf0 hf (Nat.le_refl _) (Nat.le_refl _) (Nat.le_refl _)] at hA5 hB5 ⊢
              obtain ⟨oa5, ca5, rfl, _⟩ := hA5.form
              obtain ⟨or5, cr5, rfl, _⟩ := hB5.form
              refine WA.y (i := 5) (NoPanic.then (NoPanic.body)) rfl (by kernel_rfl) (by kernel_rfl) (by kernel_rfl) rfl (Yd.move rfl) ?_
              refine WA.y (i := 6) (NoPanic.then (NoPanic.body)) rfl (by kernel_rfl) (by kernel_rfl) (by kernel_rfl) rfl (Yd.extract rfl rfl) ?_
              refine WA.y (i := 7) (NoPanic.then (NoPanic.body)) rfl (by kernel_rfl) (by kernel_rfl) (by kernel_rfl) rfl (Yd.extract rfl rfl) ?_
              refine WA.y (i := 8) (NoPanic.then (NoPanic.body)) rfl (by kernel_rfl) (by kernel_rfl) (by kernel_rfl) rfl (Yd.extract rfl rfl) ?_
              refine WA.y (i := 10) (NoPanic.then (NoPanic.body)) rfl (by kernel_rfl) (by kernel_rfl) (by kernel_rfl) rfl (Yd.assign rfl) ?_
              refine WA.one (i := 11) (by kernel_rfl) ?_
              refine WO.s rfl Wt.none (Hd.storeAll (n := 6) (by kernel_rfl) rfl rfl (by rfl) (kc_one rfl rfl) (by repeat (first | exact Fr.here | apply Fr.fc | apply Fr.al | apply Fr.fa)) (by rfl) ⟨rfl, ?_⟩)
              refine WA.y (i := 12) (NoPanic.then (NoPanic.body)) rfl (by kernel_rfl) (by kernel_rfl) (by kernel_rfl) rfl (Yd.assign rfl) ?_
              refine WA.done (by kernel_rfl) ?_
              exact DN.reachS (()) (trivial) (Sx.put rfl (Sx.put rfl ((by repeat (first | exact Sx.refl | refine Sx.skip rfl ?_))))) (by repeat (first | exact Sp.here | exact Sp.sn | exact Sp.s0 | exact Fr.here | apply Sp.s2 | apply Sp.sx | apply Fr.fc | apply Fr.al | apply Fr.fa | apply Sp.sc | apply Sp.al | apply Sp.sa))
          · refine WO.h rfl Wt.none rfl (Hd.alloc (zs := [.int .u32 0, .int .i64 0, .bool false, .slice none 0 0, .int .i64 0, .slice none 0 0]) (by kernel_rfl) fun b16 => ⟨_, rfl, ?_⟩)
            refine WA.two (i := 0) (j := 3) (by kernel_rfl) ?_ ?_
            · refine WO.h rfl Wt.none rfl (Hd.loadAll (n := 2) (by kernel_rfl) rfl (by repeat (first | exact List.mem_cons_self | apply List.mem_cons_of_mem | apply List.mem_append_right)) (by rfl) ⟨_, rfl, ?_⟩)
              refine WA.one (i := 3) (by kernel_rfl) ?_
              refine WO.c rfl Wt.none rfl (Ent.func Try.call23 rfl) (step_tells 1#32 ((1#32 + order % 1000000#32) + BitVec.ofNat 32 200) 0 false [120#8]) (Sp.p (by repeat (first | exact Sp.here | exact Sp.sn | exact Sp.s0 | exact Fr.here | apply Sp.s2 | apply Sp.sx | apply Fr.fc | apply Fr.al | apply Fr.fa | apply Sp.sc | apply Sp.al | apply Sp.sa))) ?_
              rintro x5 H5 ⟨bd5, cd5, blk5, rfl, hbk5, rfl⟩
              refine WA.one (i := 4) (by kernel_rfl) ?_
              refine WO.c rfl Wt.none rfl (Ent.func Try.call24 rfl) (ask_tells (eN 200) (.slice wo 200 wc) (fullK (1#32 + order % 1000000#32) d 200) (blk5 :: D) (hF.kv.mono (by repeat (first | exact Gr.refl | exact Gr.left Gr.refl | exact Gr.left (Gr.left Gr.refl) | exact Gr.left (Gr.app Gr.refl) | exact Gr.left (Gr.app (Gr.app Gr.refl)) | exact Gr.left (Gr.app (Gr.left Gr.refl)) | exact Gr.left (Gr.left (Gr.left Gr.refl)) | exact Gr.nil | exact Gr.app (Gr.left Gr.refl) | refine Gr.cons ?_ | refine Gr.app ?_ | refine Gr.both ?_ ?_ | refine Gr.put (by repeat (first | exact List.mem_cons_self | apply List.mem_cons_of_mem | apply List.mem_append_right)) ?_))) (by rw [fullK_len]; omega) (stepN 1#32 ((1#32 + order % 1000000#32) + BitVec.ofNat 32 200) 0 false [120#8]) (.slice none 0 0) _ (Bs_nil _) (hbk5.mono (by repeat (first | exact Gr.refl | exact Gr.left Gr.refl | exact Gr.left (Gr.left Gr.refl) | exact Gr.left (Gr.app Gr.refl) | exact Gr.left (Gr.app (Gr.app Gr.refl)) | exact Gr.left (Gr.app (Gr.left Gr.refl)) | exact Gr.left (Gr.left (Gr.left Gr.refl)) | exact Gr.nil | exact Gr.app (Gr.left Gr.refl) | refine Gr.cons ?_ | refine Gr.app ?_ | refine Gr.both ?_ ?_ | refine Gr.put (by repeat (first | exact List.mem_cons_self | apply List.mem_cons_of_mem | apply List.mem_append_right)) ?_)))) (Sp.p (by repeat (first | exact Sp.here | exact Sp.sn | exact Sp.s0 | exact Fr.here | apply Sp.s2 | apply Sp.sx | apply Fr.fc | apply Fr.al | apply Fr.fa | apply Sp.sc | apply Sp.al | apply Sp.sa))) ?_
              rintro xa5 Ha5 ⟨wa5, wr5, A5, B5, rfl, hA5, hB5, rfl⟩
              rw [full_new hf0 hf (Nat.le_refl _) (Nat.le_refl _) (Nat.le_refl _)] at hA5 hB5 ⊢
              obtain ⟨oa5, ca5, rfl, _⟩ := hA5.form
              obtain ⟨or5, cr5, rfl, _⟩ := hB5.form
              refine WA.y (i := 5) (NoPanic.then (NoPanic.body)) rfl (by kernel_rfl) (by kernel_rfl) (by kernel_rfl) rfl (Yd.move rfl) ?_
              refine WA.y (i := 6) (NoPanic.then (NoPanic.body)) rfl (by kernel_rfl) (by kernel_rfl) (by kernel_rfl) rfl (Yd.extract rfl rfl) ?_
              refine WA.y (i := 7) (NoPanic.then (NoPanic.body)) rfl (by kernel_rfl) (by kernel_rfl) (by kernel_rfl) rfl (Yd.extract rfl rfl) ?_
              refine WA.y (i := 8) (NoPanic.then (NoPanic.body)) rfl (by kernel_rfl) (by kernel_rfl) (by kernel_rfl) rfl (Yd.extract rfl rfl) ?_
              refine WA.y (i := 10) (NoPanic.then (NoPanic.body)) rfl (by kernel_rfl) (by kernel_rfl) (by kernel_rfl) rfl (Yd.assign rfl) ?_
              refine WA.one (i := 11) (by kernel_rfl) ?_
              refine WO.s rfl Wt.none (Hd.storeAll (n := 6) (by kernel_rfl) rfl rfl (by rfl) (kc_one rfl rfl) (by repeat (first | exact Fr.here | apply Fr.fc | apply Fr.al | apply Fr.fa)) (by rfl) ⟨rfl, ?_⟩)
              refine WA.y (i := 12) (NoPanic.then (NoPanic.body)) rfl (by kernel_rfl) (by kernel_rfl) (by kernel_rfl) rfl (Yd.assign rfl) ?_
              refine WA.done (by kernel_rfl) ?_
              exact DN.reachS (()) (trivial) (Sx.put rfl (Sx.put rfl ((by repeat (first | exact Sx.refl | refine Sx.skip rfl ?_))))) (by repeat (first | exact Sp.here | exact Sp.sn | exact Sp.s0 | exact Fr.here | apply Sp.s2 | apply Sp.sx | apply Fr.fc | apply Fr.al | apply Fr.fa | apply Sp.sc | apply Sp.al | apply Sp.sa))
            · refine WO.c rfl Wt.none rfl (Ent.func Try.call23 rfl) (step_tells 1#32 ((1#32 + order % 1000000#32) + BitVec.ofNat 32 200) 0 false [120#8]) (Sp.p (by repeat (first | exact Sp.here | exact Sp.sn | exact Sp.s0 | exact Fr.here | apply Sp.s2 | apply Sp.sx | apply Fr.fc | apply Fr.al | apply Fr.fa | apply Sp.sc | apply Sp.al | apply Sp.sa))) ?_
              rintro x5 H5 ⟨bd5, cd5, blk5, rfl, hbk5, rfl⟩
              refine WA.one (i := 0) (by kernel_rfl) ?_
              refine WO.h rfl Wt.none rfl (Hd.loadAll (n := 2) (by kernel_rfl) rfl (by repeat (first | exact List.mem_cons_self | apply List.mem_cons_of_mem | apply List.mem_append_right)) (by rfl) ⟨_, rfl, ?_⟩)
              refine WA.one (i := 4) (by kernel_rfl) ?_
              refine WO.c rfl Wt.none rfl (Ent.func Try.call24 rfl) (ask_tells (eN 200) (.slice wo 200 wc) (fullK (1#32 + order % 1000000#32) d 200) (blk5 :: D) (hF.kv.mono (by repeat (first | exact Gr.refl | exact Gr.left Gr.refl | exact Gr.left (Gr.left Gr.refl) | exact Gr.left (Gr.app Gr.refl) | exact Gr.left (Gr.app (Gr.app Gr.refl)) | exact Gr.left (Gr.app (Gr.left Gr.refl)) | exact Gr.left (Gr.left (Gr.left Gr.refl)) | exact Gr.nil | exact Gr.app (Gr.left Gr.refl) | refine Gr.cons ?_ | refine Gr.app ?_ | refine Gr.both ?_ ?_ | refine Gr.put (by repeat (first | exact List.mem_cons_self | apply List.mem_cons_of_mem | apply List.mem_append_right)) ?_))) (by rw [fullK_len]; omega) (stepN 1#32 ((1#32 + order % 1000000#32) + BitVec.ofNat 32 200) 0 false [120#8]) (.slice none 0 0) _ (Bs_nil _) (hbk5.mono (by repeat (first | exact Gr.refl | exact Gr.left Gr.refl | exact Gr.left (Gr.left Gr.refl) | exact Gr.left (Gr.app Gr.refl) | exact Gr.left (Gr.app (Gr.app Gr.refl)) | exact Gr.left (Gr.app (Gr.left Gr.refl)) | exact Gr.left (Gr.left (Gr.left Gr.refl)) | exact Gr.nil | exact Gr.app (Gr.left Gr.refl) | refine Gr.cons ?_ | refine Gr.app ?_ | refine Gr.both ?_ ?_ | refine Gr.put (by repeat (first | exact List.mem_cons_self | apply List.mem_cons_of_mem | apply List.mem_append_right)) ?_)))) (Sp.p (by repeat (first | exact Sp.here | exact Sp.sn | exact Sp.s0 | exact Fr.here | apply Sp.s2 | apply Sp.sx | apply Fr.fc | apply Fr.al | apply Fr.fa | apply Sp.sc | apply Sp.al | apply Sp.sa))) ?_
              rintro xa5 Ha5 ⟨wa5, wr5, A5, B5, rfl, hA5, hB5, rfl⟩
              rw [full_new hf0 hf (Nat.le_refl _) (Nat.le_refl _) (Nat.le_refl _)] at hA5 hB5 ⊢
              obtain ⟨oa5, ca5, rfl, _⟩ := hA5.form
              obtain ⟨or5, cr5, rfl, _⟩ := hB5.form
              refine WA.y (i := 5) (NoPanic.then (NoPanic.body)) rfl (by kernel_rfl) (by kernel_rfl) (by kernel_rfl) rfl (Yd.move rfl) ?_
              refine WA.y (i := 6) (NoPanic.then (NoPanic.body)) rfl (by kernel_rfl) (by kernel_rfl) (by kernel_rfl) rfl (Yd.extract rfl rfl) ?_
              refine WA.y (i := 7) (NoPanic.then (NoPanic.body)) rfl (by kernel_rfl) (by kernel_rfl) (by kernel_rfl) rfl (Yd.extract rfl rfl) ?_
              refine WA.y (i := 8) (NoPanic.then (NoPanic.body)) rfl (by kernel_rfl) (by kernel_rfl) (by kernel_rfl) rfl (Yd.extract rfl rfl) ?_
              refine WA.y (i := 10) (NoPanic.then (NoPanic.body)) rfl (by kernel_rfl) (by kernel_rfl) (by kernel_rfl) rfl (Yd.assign rfl) ?_
              refine WA.one (i := 11) (by kernel_rfl) ?_
              refine WO.s rfl Wt.none (Hd.storeAll (n := 6) (by kernel_rfl) rfl rfl (by rfl) (kc_one rfl rfl) (by repeat (first | exact Fr.here | apply Fr.fc | apply Fr.al | apply Fr.fa)) (by rfl) ⟨rfl, ?_⟩)
              refine WA.y (i := 12) (NoPanic.then (NoPanic.body)) rfl (by kernel_rfl) (by kernel_rfl) (by kernel_rfl) rfl (Yd.assign rfl) ?_
              refine WA.done (by kernel_rfl) ?_
              exact DN.reachS (()) (trivial) (Sx.put rfl (Sx.put rfl ((by repeat (first | exact Sx.refl | refine Sx.skip rfl ?_))))) (by repeat (first | exact Sp.here | exact Sp.sn | exact Sp.s0 | exact Fr.here | apply Sp.s2 | apply Sp.sx | apply Fr.fc | apply Fr.al | apply Fr.fa | apply Sp.sc | apply Sp.al | apply Sp.sa))
        · intro z hz
          refine WC.seq ?_
          refine WC.region ?_
          refine WL.y rfl (Yd.move rfl) ?_
          refine WL.y rfl (Yd.eql rfl rfl) ?_
          refine WL.y rfl (Yd.move rfl) ?_
          refine WL.renamed (t := 77) (v := .bool true) rfl (congrArg Value.bool (decide_eq_true rfl)) ?_
          refine WL.gy (dj := 77) rfl rfl rfl (Yd.move rfl) ?_
          refine WL.gy (dj := 77) rfl rfl rfl (Yd.eql rfl rfl) ?_
          refine WL.y rfl (Yd.pickT rfl rfl) ?_
          refine WL.y rfl (Yd.move rfl) ?_
          refine WL.renamed (t := 81) (v := .bool true) rfl (congrArg Value.bool (decide_eq_true rfl)) ?_
          refine WL.gy (dj := 81) rfl rfl rfl (Yd.fieldAddr (k := 5) (by kernel_rfl) rfl) ?_
          refine WL.gh (dj := 81) rfl rfl rfl (Hd.load1 (by kernel_rfl) rfl (by repeat (first | exact List.mem_cons_self | apply List.mem_cons_of_mem | apply List.mem_append_right)) (by rfl) ⟨_, rfl, ?_⟩)
          refine WL.gy (dj := 81) rfl rfl rfl (Yd.len (e := 5) (by kernel_rfl) rfl) ?_
          refine WL.gy (dj := 81) rfl rfl rfl (Yd.eql rfl rfl) ?_
          refine WL.y rfl (Yd.pickT rfl rfl) ?_
          refine WL.y rfl (Yd.move rfl) ?_
          refine WL.renamed (t := 87) (v := .bool true) rfl (congrArg Value.bool (decide_eq_true rfl)) ?_
          refine WL.gy (dj := 87) rfl rfl rfl (Yd.fieldAddr (k := 5) (by kernel_rfl) rfl) ?_
          refine WL.gh (dj := 87) rfl rfl rfl (Hd.load1 (by kernel_rfl) rfl (by repeat (first | exact List.mem_cons_self | apply List.mem_cons_of_mem | apply List.mem_append_right)) (by rfl) ⟨_, rfl, ?_⟩)
          refine WL.elemN (e := 5) (dj := 87) (by kernel_rfl) (by kernel_rfl) (by kernel_rfl) rfl rfl (by rfl) (hB7.bs.mono (by repeat (first | exact Gr.refl | exact Gr.left Gr.refl | exact Gr.left (Gr.left Gr.refl) | exact Gr.left (Gr.app Gr.refl) | exact Gr.left (Gr.app (Gr.app Gr.refl)) | exact Gr.left (Gr.app (Gr.left Gr.refl)) | exact Gr.left (Gr.left (Gr.left Gr.refl)) | exact Gr.nil | exact Gr.app (Gr.left Gr.refl) | refine Gr.cons ?_ | refine Gr.app ?_ | refine Gr.both ?_ ?_ | refine Gr.put (by repeat (first | exact List.mem_cons_self | apply List.mem_cons_of_mem | apply List.mem_append_right)) ?_))) (show (bc [d])[0]? = some (.int .u8 d.toNat) from rfl) (by decide) rfl rfl rfl rfl rfl ?_
          intro _
          refine WL.gy (dj := 87) rfl rfl rfl (Yd.move rfl) ?_
          refine WL.gy (dj := 87) rfl rfl rfl (Yd.eql8 _ _ rfl rfl rfl rfl) ?_
          refine WL.y rfl (Yd.pickT rfl rfl) ?_
          refine WL.y rfl (Yd.move rfl) ?_
          refine WL.renamed (t := 95) (v := .bool true) rfl (congrArg Value.bool (decide_eq_true rfl)) ?_
          refine WL.gy (dj := 95) rfl rfl rfl (Yd.move rfl) ?_
          refine WL.gy (dj := 95) rfl rfl rfl (Yd.eql rfl rfl) ?_
          refine WL.y rfl (Yd.pickT rfl rfl) ?_
          refine WL.y rfl (Yd.move rfl) ?_
          refine WL.renamed (t := 99) (v := .bool true) rfl (congrArg Value.bool (decide_eq_true rfl)) ?_
          refine WL.gy (dj := 99) rfl rfl rfl (Yd.move rfl) ?_
          refine WL.gy (dj := 99) rfl rfl rfl (Yd.eql rfl rfl) ?_
          refine WL.y rfl (Yd.pickT rfl rfl) ?_
          refine WL.y rfl (Yd.move rfl) ?_
          refine WL.renamed (t := 103) (v := .bool true) rfl (congrArg Value.bool (decide_eq_true rfl)) ?_
          refine WL.gy (dj := 103) rfl rfl rfl (Yd.move rfl) ?_
          refine WL.gy (dj := 103) rfl rfl rfl (Yd.eql rfl rfl) ?_
          refine WL.y rfl (Yd.pickT rfl rfl) ?_
          refine WL.y rfl (Yd.move rfl) ?_
          refine WL.renamed (t := 107) (v := .bool true) rfl (congrArg Value.bool (decide_eq_true rfl)) ?_
          refine WL.grf (dj := 107) rfl rfl rfl (Ent.func Try.call12 rfl) (known_reads) (by repeat (first | exact Sp.here | exact Sp.sn | exact Sp.s0 | exact Fr.here | apply Sp.s2 | apply Sp.sx | apply Fr.fc | apply Fr.al | apply Fr.fa | apply Sp.sc | apply Sp.al | apply Sp.sa)) ?_
          refine WL.y rfl (Yd.pickT rfl rfl) ?_
          refine WL.y rfl (Yd.assign rfl) ?_
          refine WL.nil ?_
          refine DN.then_normal ?_
          refine WC.ret ?_
          refine DN.fit (C := []) (by repeat (first | exact Sp.here | exact Sp.sn | exact Sp.s0 | exact Fr.here | apply Sp.s2 | apply Sp.sx | apply Fr.fc | apply Fr.al | apply Fr.fa | apply Sp.sc | apply Sp.al | apply Sp.sa)) ?_
          refine DN.ret1 Try.results6 rfl ?_
          exact ⟨rfl, rfl⟩

end Go.Proofs.Ytonnkgblligdkaa
