/-
  The walks of the chapter's own stock: Hold, Leave.
-/
import Derived.Test.YtdbbkodjhmfjfaaStock10
set_option linter.unusedVariables false
set_option linter.unusedSimpArgs false
set_option maxHeartbeats 4000000
namespace Go.Proofs.Ytdbbkodjhmfjfaa
open Go.SL


/-- (*drayage/drayageref09.Stock).Hold -/
theorem rhold_tells (p : Nat) (gs K F : List Gd) (L A : List Ho) (C : List Ck) (h : RsAt 66 32 50 p F L A C) (inv : SInv gs K L) (hR : RInv gs K L F A) (o : BitVec 32) (nm : ByteArray) (n : Int) : Tells Try.prog 16 [.pointer (some ⟨p, 0, none⟩), .int .u32 o.toNat, .string nm, .int .i64 n] C fun r H' => r = .int .i64 (vd (holdB K L o nm n)) ∧ RsAt 66 32 50 p F (holdLs K L o nm n) A H' := by
  refine Tells.enter Try.func16 rfl Try.ntmps16 rfl ?_
  intro w0 R
  have hat := atK_spec (key := Ho.o) L o
  have h0 := h
  obtain ⟨vf, vl, va, Cf, Cl, Ca, rfl, hF, hL, hA⟩ := h
  obtain ⟨fo, fc, rfl, _⟩ := hF.form
  obtain ⟨lo, lc, rfl, _⟩ := hL.form
  obtain ⟨wo, wc, rfl, _⟩ := hA.form
  have hlens := hR.lens inv
  have hmany := inv.many
  have hvl := vw_len K F
  obtain ⟨G, hG⟩ : ∃ G, G = vw K F := ⟨_, rfl⟩
  rw [← hG] at hvl
  refine WC.seq ?_
  refine WC.region ?_
  refine WL.y rfl (Yd.assign rfl) ?_
  refine WL.nil ?_
  refine DN.then_normal ?_
  refine WC.seq ?_
  refine WC.region ?_
  refine WL.y rfl (Yd.move rfl) ?_
  refine WL.y rfl (Yd.move rfl) ?_
  refine WL.rf rfl (Ent.func Try.call30 rfl) (rat_reads p F L A _ h0 (by omega) o) (by repeat (first | exact Sp.here | exact Sp.sn | exact Sp.s0 | exact Fr.here | apply Sp.s2 | apply Sp.sx | apply Fr.fc | apply Fr.al | apply Fr.fa | apply Sp.sc | apply Sp.al | apply Sp.sa)) ?_
  refine WL.y rfl (Yd.assign rfl) ?_
  refine WL.nil ?_
  refine DN.then_normal ?_
  refine WC.seq ?_
  refine WC.seq ?_
  refine WC.region ?_
  refine WL.y rfl (Yd.move rfl) ?_
  refine WL.y rfl (Yd.eql32 _ (0#32) rfl rfl rfl rfl) ?_
  refine WL.y rfl (Yd.move rfl) ?_
  refine WL.partP (t := 17) rfl (fun hg17 => ?_) (fun hg17 => ?_)
  · refine WL.gn (dj := 17) rfl rfl rfl rfl ?_
    refine WL.gn (dj := 17) rfl rfl rfl rfl ?_
    refine WL.y rfl (Yd.pickT rfl rfl) ?_
    refine WL.y rfl (Yd.move rfl) ?_
    refine WL.gn (dj := 21) rfl rfl rfl rfl ?_
    refine WL.gn (dj := 21) rfl rfl rfl rfl ?_
    refine WL.y rfl (Yd.pickT rfl rfl) ?_
    refine WL.nil ?_
    refine DN.then_normal ?_
    refine WC.yes rfl ?_
    refine WC.seq ?_
    refine WC.region ?_
    refine WL.y rfl (Yd.assign rfl) ?_
    refine WL.nil ?_
    refine DN.then_normal ?_
    refine WC.ret ?_
    refine DN.then_ret ?_
    first | refine DN.fit (C := row p [.slice fo F.length fc, .slice zo (L.length + 1) zc, .slice wo A.length wc] 66 :: (Cf ++ (C2 ++ Ca))) (by repeat (first | exact Sp.here | exact Sp.sn | exact Sp.s0 | exact Fr.here | apply Sp.s2 | apply Sp.sx | apply Fr.fc | apply Fr.al | apply Fr.fa | apply Sp.sc | apply Sp.al | apply Sp.sa)) ?_ | refine DN.fit (C := row p [.slice fo F.length fc, .slice lo L.length lc, .slice wo A.length wc] 66 :: (Cf ++ (Cl ++ Ca))) (by repeat (first | exact Sp.here | exact Sp.sn | exact Sp.s0 | exact Fr.here | apply Sp.s2 | apply Sp.sx | apply Fr.fc | apply Fr.al | apply Fr.fa | apply Sp.sc | apply Sp.al | apply Sp.sa)) ?_
    refine DN.ret1 Try.results16 rfl ?_
    first
      | (rw [hb, hK]
         exact ⟨rfl, _, _, _, Cf, C2, Ca, rfl, hF, by rw [List.flatMap_append, List.length_append]; exact h2, hA⟩)
      | (have hb : holdB K L o nm n = false := by
           first
           | (subst hG; exact hold_lost hR inv hg21 fun j hj => hno j hj (by omega))
           | (rw [Bool.eq_false_iff]
              intro e
              have hp := holdB_parts e
              first
              | exact hp.1 hg17
              | exact absurd hp.2.1 (by omega)
              | (rcases hat with h | ⟨i, hi, h1, _, h2⟩
                 · exact absurd h.1 (by omega)
                 · rw [hp.2.2.1] at h2; cases h2))
         rw [hb, (hold_no hb).2]
         exact ⟨rfl, h0⟩)
  · refine WL.gy (dj := 17) rfl rfl rfl (Yd.move rfl) ?_
    refine WL.gy (dj := 17) rfl rfl rfl (Yd.lss rfl rfl) ?_
    refine WL.y rfl (Yd.pickF rfl rfl) ?_
    refine WL.y rfl (Yd.move rfl) ?_
    refine WL.partP (t := 21) rfl (fun hg21 => ?_) (fun hg21 => ?_)
    · refine WL.gn (dj := 21) rfl rfl rfl rfl ?_
      refine WL.gn (dj := 21) rfl rfl rfl rfl ?_
      refine WL.y rfl (Yd.pickT rfl rfl) ?_
      refine WL.nil ?_
      refine DN.then_normal ?_
      refine WC.yes rfl ?_
      refine WC.seq ?_
      refine WC.region ?_
      refine WL.y rfl (Yd.assign rfl) ?_
      refine WL.nil ?_
      refine DN.then_normal ?_
      refine WC.ret ?_
      refine DN.then_ret ?_
      first | refine DN.fit (C := row p [.slice fo F.length fc, .slice zo (L.length + 1) zc, .slice wo A.length wc] 66 :: (Cf ++ (C2 ++ Ca))) (by repeat (first | exact Sp.here | exact Sp.sn | exact Sp.s0 | exact Fr.here | apply Sp.s2 | apply Sp.sx | apply Fr.fc | apply Fr.al | apply Fr.fa | apply Sp.sc | apply Sp.al | apply Sp.sa)) ?_ | refine DN.fit (C := row p [.slice fo F.length fc, .slice lo L.length lc, .slice wo A.length wc] 66 :: (Cf ++ (Cl ++ Ca))) (by repeat (first | exact Sp.here | exact Sp.sn | exact Sp.s0 | exact Fr.here | apply Sp.s2 | apply Sp.sx | apply Fr.fc | apply Fr.al | apply Fr.fa | apply Sp.sc | apply Sp.al | apply Sp.sa)) ?_
      refine DN.ret1 Try.results16 rfl ?_
      first
        | (rw [hb, hK]
           exact ⟨rfl, _, _, _, Cf, C2, Ca, rfl, hF, by rw [List.flatMap_append, List.length_append]; exact h2, hA⟩)
        | (have hb : holdB K L o nm n = false := by
             first
             | (subst hG; exact hold_lost hR inv hg21 fun j hj => hno j hj (by omega))
             | (rw [Bool.eq_false_iff]
                intro e
                have hp := holdB_parts e
                first
                | exact hp.1 hg17
                | exact absurd hp.2.1 (by omega)
                | (rcases hat with h | ⟨i, hi, h1, _, h2⟩
                   · exact absurd h.1 (by omega)
                   · rw [hp.2.2.1] at h2; cases h2))
           rw [hb, (hold_no hb).2]
           exact ⟨rfl, h0⟩)
    · refine WL.gy (dj := 21) rfl rfl rfl (Yd.move rfl) ?_
      refine WL.gy (dj := 21) rfl rfl rfl (Yd.geq rfl rfl) ?_
      refine WL.y rfl (Yd.pickF rfl rfl) ?_
      refine WL.nil ?_
      refine DN.then_normal ?_
      refine WC.ite rfl (fun h24 => ?_) (fun h24 => ?_)
      · refine WC.seq ?_
        refine WC.region ?_
        refine WL.y rfl (Yd.assign rfl) ?_
        refine WL.nil ?_
        refine DN.then_normal ?_
        refine WC.ret ?_
        refine DN.then_ret ?_
        first | refine DN.fit (C := row p [.slice fo F.length fc, .slice zo (L.length + 1) zc, .slice wo A.length wc] 66 :: (Cf ++ (C2 ++ Ca))) (by repeat (first | exact Sp.here | exact Sp.sn | exact Sp.s0 | exact Fr.here | apply Sp.s2 | apply Sp.sx | apply Fr.fc | apply Fr.al | apply Fr.fa | apply Sp.sc | apply Sp.al | apply Sp.sa)) ?_ | refine DN.fit (C := row p [.slice fo F.length fc, .slice lo L.length lc, .slice wo A.length wc] 66 :: (Cf ++ (Cl ++ Ca))) (by repeat (first | exact Sp.here | exact Sp.sn | exact Sp.s0 | exact Fr.here | apply Sp.s2 | apply Sp.sx | apply Fr.fc | apply Fr.al | apply Fr.fa | apply Sp.sc | apply Sp.al | apply Sp.sa)) ?_
        refine DN.ret1 Try.results16 rfl ?_
        first
          | (rw [hb, hK]
             exact ⟨rfl, _, _, _, Cf, C2, Ca, rfl, hF, by rw [List.flatMap_append, List.length_append]; exact h2, hA⟩)
          | (have hb : holdB K L o nm n = false := by
               first
               | (subst hG; exact hold_lost hR inv hg21 fun j hj => hno j hj (by omega))
               | (rw [Bool.eq_false_iff]
                  intro e
                  have hp := holdB_parts e
                  first
                  | exact hp.1 hg17
                  | exact absurd hp.2.1 (by omega)
                  | (rcases hat with h | ⟨i, hi, h1, _, h2⟩
                     · exact absurd h.1 (by omega)
                     · rw [hp.2.2.1] at h2; cases h2))
             rw [hb, (hold_no hb).2]
             exact ⟨rfl, h0⟩)
      · have hnone : findK Ho.o L o = none := by
          rcases hat with h | ⟨i, hi, h, _⟩
          · exact h.2
          · omega
        refine WC.skip ?_
        refine DN.then_normal ?_
        refine WC.seq ?_
        refine WC.region ?_
        refine WL.y rfl (Yd.move rfl) ?_
        refine WL.c rfl (Ent.func Try.call20 rfl) (rgoods_tells p gs K F L A _ h0 inv hR) (Sp.p (by repeat (first | exact Sp.here | exact Sp.sn | exact Sp.s0 | exact Fr.here | apply Sp.s2 | apply Sp.sx | apply Fr.fc | apply Fr.al | apply Fr.fa | apply Sp.sc | apply Sp.al | apply Sp.sa))) ?_
        rintro qq C9 ⟨Cs, ho, rfl⟩
        rw [← hG] at ho
        obtain ⟨go, gc, rfl, _⟩ := ho.form
        refine WL.y rfl (Yd.assign rfl) ?_
        refine WL.nil ?_
        refine DN.then_normal ?_
        refine WC.seq ?_
        refine WC.seq ?_
        refine WC.region ?_
        refine WL.y rfl (Yd.assign rfl) ?_
        refine WL.nil ?_
        refine DN.then_normal ?_
        refine WC.block ?_
        refine WC.loopS (fun z : Nat => z ≤ G.length ∧ ∀ (j : Nat) (hj : j < G.length), j < z → ¬ (G[j].name = nm ∧ n ≤ G[j].free)) (fun z : Nat => [(11, .int .i64 (z : Int))]) (fun z : Nat => Cs ++ (row p [.slice fo F.length fc, .slice lo L.length lc, .slice wo A.length wc] 66 :: (Cf ++ (Cl ++ Ca)))) (fun z : Nat => G.length - z) (0) (show 0 ≤ G.length ∧ ∀ (j : Nat) (hj : j < G.length), j < 0 → ¬ (G[j].name = nm ∧ n ≤ G[j].free) from ⟨Nat.zero_le _, fun j hj h => by omega⟩) (Sx.put rfl ((by repeat (first | exact Sx.refl | refine Sx.skip rfl ?_)))) (by repeat (first | exact Sp.here | exact Sp.sn | exact Sp.s0 | exact Fr.here | apply Sp.s2 | apply Sp.sx | apply Fr.fc | apply Fr.al | apply Fr.fa | apply Sp.sc | apply Sp.al | apply Sp.sa)) ?_
        rintro i hI
        replace hI : i ≤ G.length ∧ ∀ (j : Nat) (hj : j < G.length), j < i → ¬ (G[j].name = nm ∧ n ≤ G[j].free) := hI
        obtain ⟨hi, hno⟩ := hI
        change WC _ _ _ _ _ _ ([(11, .int .i64 (i : Int))] ++ _) (Cs ++ (row p [.slice fo F.length fc, .slice lo L.length lc, .slice wo A.length wc] 66 :: (Cf ++ (Cl ++ Ca))))
        refine WC.seq ?_
        refine WC.seq ?_
        refine WC.region ?_
        refine WL.y rfl (Yd.move rfl) ?_
        refine WL.y rfl (Yd.move rfl) ?_
        refine WL.y rfl (Yd.len (e := 32) (by kernel_rfl) rfl) ?_
        refine WL.y rfl (Yd.lss rfl rfl) ?_
        refine WL.nil ?_
        refine DN.then_normal ?_
        refine WC.ite rfl (fun h30 => ?_) (fun h30 => ?_)
        · have hlt : i < G.length := by omega
          obtain ⟨ub, uf, us, uT, ufr, uex, rfl, _, hum, hus⟩ := ho.rs.lies (by omega)
          refine WC.skip ?_
          refine DN.then_normal ?_
          refine WC.seq ?_
          refine WC.block ?_
          refine WC.seq ?_
          refine WC.region ?_
          refine WL.y rfl (Yd.move rfl) ?_
          refine WL.y rfl (Yd.move rfl) ?_
          refine WL.y rfl (Yd.indexAddr (e := 32) (s := 2) (by kernel_rfl) (by kernel_rfl) rfl rfl (by omega) (by omega)) ?_
          refine WL.y rfl (Yd.fieldAddr (k := 0) (by kernel_rfl) rfl) ?_
          refine WL.h rfl (Hd.load1 (v := .string G[i].name) (b := ub) (o := uf + (i : Int).toNat * 2 + 0) (cs := us) (by kernel_rfl) rfl (Gr.get (by repeat (first | exact Gr.refl | exact Gr.left Gr.refl | exact Gr.left (Gr.left Gr.refl) | exact Gr.left (Gr.app Gr.refl) | exact Gr.left (Gr.left (Gr.left Gr.refl)) | exact Gr.nil | exact Gr.app (Gr.left Gr.refl) | refine Gr.cons ?_ | refine Gr.app ?_ | refine Gr.both ?_ ?_ | refine Gr.put (by repeat (first | exact List.mem_cons_self | apply List.mem_cons_of_mem | apply List.mem_append_right)) ?_)) hum) (cell_at2 (L := G) cellsG_len hus (by omega) (by omega)) ⟨_, rfl, ?_⟩)
          refine WL.y rfl (Yd.move rfl) ?_
          refine WL.y rfl (Yd.eqlS rfl rfl) ?_
          refine WL.y rfl (Yd.move rfl) ?_
          refine WL.partP (t := 40) rfl (fun hg40 => ?_) (fun hg40 => ?_)
          · refine WL.gy (dj := 40) rfl rfl rfl (Yd.move rfl) ?_
            refine WL.gy (dj := 40) rfl rfl rfl (Yd.move rfl) ?_
            refine WL.gy (dj := 40) rfl rfl rfl (Yd.indexAddr (e := 32) (s := 2) (by kernel_rfl) (by kernel_rfl) rfl rfl (by omega) (by omega)) ?_
            refine WL.gy (dj := 40) rfl rfl rfl (Yd.fieldAddr (k := 1) (by kernel_rfl) rfl) ?_
            refine WL.gh (dj := 40) rfl rfl rfl (Hd.load1 (v := .int .i64 G[i].free) (b := ub) (o := uf + (i : Int).toNat * 2 + 1) (cs := us) (by kernel_rfl) rfl (Gr.get (by repeat (first | exact Gr.refl | exact Gr.left Gr.refl | exact Gr.left (Gr.left Gr.refl) | exact Gr.left (Gr.app Gr.refl) | exact Gr.left (Gr.left (Gr.left Gr.refl)) | exact Gr.nil | exact Gr.app (Gr.left Gr.refl) | refine Gr.cons ?_ | refine Gr.app ?_ | refine Gr.both ?_ ?_ | refine Gr.put (by repeat (first | exact List.mem_cons_self | apply List.mem_cons_of_mem | apply List.mem_append_right)) ?_)) hum) (cell_at2 (L := G) cellsG_len hus (by omega) (by omega)) ⟨_, rfl, ?_⟩)
            refine WL.gy (dj := 40) rfl rfl rfl (Yd.move rfl) ?_
            refine WL.gy (dj := 40) rfl rfl rfl (Yd.geq rfl rfl) ?_
            refine WL.y rfl (Yd.pickT rfl rfl) ?_
            refine WL.nil ?_
            refine DN.then_normal ?_
            refine WC.ite rfl (fun h48 => ?_) (fun h48 => ?_)
            · have hb : holdB K L o nm n = true := by subst hG; exact hold_found hR inv hg17 hg21 hnone hlt hg40 (by omega)
              have hK : holdLs K L o nm n = L ++ [⟨o, nm, n⟩] := by unfold holdLs; rw [hb]; rfl
              refine WC.seq ?_
              refine WC.region ?_
              refine WL.y rfl (Yd.move rfl) ?_
              refine WL.y rfl (Yd.move rfl) ?_
              refine WL.y rfl (Yd.notNil rfl) ?_
              refine WL.y rfl (Yd.fieldAddr (k := 1) (by kernel_rfl) rfl) ?_
              refine WL.h rfl (Hd.load1 (by kernel_rfl) rfl (by repeat (first | exact List.mem_cons_self | apply List.mem_cons_of_mem | apply List.mem_append_right)) (by rfl) ⟨_, rfl, ?_⟩)
              refine WL.y rfl (Yd.move rfl) ?_
              refine WL.y rfl (Yd.move rfl) ?_
              refine WL.y rfl (Yd.move rfl) ?_
              refine WL.y rfl (Yd.buildL (pl := [(0, 1), (1, 1), (2, 1)]) (zs := [.int .u32 0, .string ⟨#[]⟩, .int .i64 0]) (parts := [(0, .tmp 54), (1, .tmp 55), (2, .tmp 56)]) (vs := [(0, _), (1, _), (2, _)]) (cells := [_, _, _]) (by kernel_rfl) (by kernel_rfl) rfl rfl) ?_
              refine WL.h rfl (Hd.buildA (e := 50) (sz := 3) (zs := [.int .u32 0, .string ⟨#[]⟩, .int .i64 0]) (by kernel_rfl) (by kernel_rfl) (by kernel_rfl) rfl rfl (by rfl) (by kernel_rfl) fun b58 => ⟨_, rfl, ?_⟩)
              refine WL.h rfl (Hd.appendRow (e := 50) (sz := 3) (bytes := 32) (zs := [.int .u32 0, .string ⟨#[]⟩, .int .i64 0]) (by kernel_rfl) (by kernel_rfl) rfl (by omega) rfl rfl (hL) (by repeat (first | exact Sp.here | exact Sp.sn | exact Sp.s0 | exact Fr.here | apply Sp.s2 | apply Sp.sx | apply Fr.fc | apply Fr.al | apply Fr.fa | apply Sp.sc | apply Sp.al | apply Sp.sa)) (by repeat (first | exact List.mem_cons_self | apply List.mem_cons_of_mem | apply List.mem_append_right)) (by rfl) (by repeat (first | exact fun _ h => absurd h List.not_mem_nil | refine List.forall_mem_cons.2 ⟨by first | rfl | assumption, ?_⟩)) (by simp only [maxLen]; omega) (by omega) fun v2 C2 h2 => ⟨_, rfl, ?_⟩)
              obtain ⟨zo, zc, rfl, _⟩ := h2.form
              refine WL.y rfl (Yd.notNil rfl) ?_
              refine WL.y rfl (Yd.fieldAddr (k := 1) (by kernel_rfl) rfl) ?_
              refine WL.s (Hd.store1s (by kernel_rfl) rfl rfl (by rfl) (by repeat (first | exact Fr.here | apply Fr.fc | apply Fr.al | apply Fr.fa)) (by rfl) (by first | (simp only [List.set_cons_zero, List.set_cons_succ, Nat.zero_add, Nat.add_zero, Nat.reduceAdd]; rfl) | rfl) ⟨rfl, ?_⟩)
              refine WL.nil ?_
              refine DN.then_normal ?_
              refine WC.seq ?_
              refine WC.region ?_
              refine WL.y rfl (Yd.assign rfl) ?_
              refine WL.nil ?_
              refine DN.then_normal ?_
              refine WC.ret ?_
              refine DN.block_ret ?_
              refine DN.then_ret ?_
              refine DN.then_ret ?_
              refine DN.block_ret ?_
              refine DN.then_ret ?_
              first | refine DN.fit (C := row p [.slice fo F.length fc, .slice zo (L.length + 1) zc, .slice wo A.length wc] 66 :: (Cf ++ (C2 ++ Ca))) (by repeat (first | exact Sp.here | exact Sp.sn | exact Sp.s0 | exact Fr.here | apply Sp.s2 | apply Sp.sx | apply Fr.fc | apply Fr.al | apply Fr.fa | apply Sp.sc | apply Sp.al | apply Sp.sa)) ?_ | refine DN.fit (C := row p [.slice fo F.length fc, .slice lo L.length lc, .slice wo A.length wc] 66 :: (Cf ++ (Cl ++ Ca))) (by repeat (first | exact Sp.here | exact Sp.sn | exact Sp.s0 | exact Fr.here | apply Sp.s2 | apply Sp.sx | apply Fr.fc | apply Fr.al | apply Fr.fa | apply Sp.sc | apply Sp.al | apply Sp.sa)) ?_
              refine DN.ret1 Try.results16 rfl ?_
              first
                | (rw [hb, hK]
                   exact ⟨rfl, _, _, _, Cf, C2, Ca, rfl, hF, by rw [List.flatMap_append, List.length_append]; exact h2, hA⟩)
                | (have hb : holdB K L o nm n = false := by
                     first
                     | (subst hG; exact hold_lost hR inv hg21 fun j hj => hno j hj (by omega))
                     | (rw [Bool.eq_false_iff]
                        intro e
                        have hp := holdB_parts e
                        first
                        | exact hp.1 hg17
                        | exact absurd hp.2.1 (by omega)
                        | (rcases hat with h | ⟨i, hi, h1, _, h2⟩
                           · exact absurd h.1 (by omega)
                           · rw [hp.2.2.1] at h2; cases h2))
                   rw [hb, (hold_no hb).2]
                   exact ⟨rfl, h0⟩)
            · refine WC.skip ?_
              refine DN.block_normal ?_
              refine DN.then_normal ?_
              refine WC.region ?_
              refine WL.y rfl (Yd.move rfl) ?_
              refine WL.y rfl (Yd.add rfl rfl (by omega) (by omega)) ?_
              refine WL.y rfl (Yd.assign rfl) ?_
              refine WL.nil ?_
              exact DN.againS (i + 1) (show (i + 1) ≤ G.length ∧ ∀ (j : Nat) (hj : j < G.length), j < (i + 1) → ¬ (G[j].name = nm ∧ n ≤ G[j].free) from ⟨by omega, fun j hj h => by
                rcases Nat.lt_or_ge j i with h5 | h5
                · exact hno j hj h5
                · obtain rfl : j = i := by omega
                  first | exact fun e => hg40 e.1 | exact fun e => h48 (by have := e.2; omega)⟩) (show G.length - (i + 1) < G.length - i by omega) (Sx.put rfl ((by repeat (first | exact Sx.refl | refine Sx.skip rfl ?_)))) (by repeat (first | exact Sp.here | exact Sp.sn | exact Sp.s0 | exact Fr.here | apply Sp.s2 | apply Sp.sx | apply Fr.fc | apply Fr.al | apply Fr.fa | apply Sp.sc | apply Sp.al | apply Sp.sa))
          · refine WL.gn (dj := 40) rfl rfl rfl rfl ?_
            refine WL.gn (dj := 40) rfl rfl rfl rfl ?_
            refine WL.gn (dj := 40) rfl rfl rfl rfl ?_
            refine WL.gn (dj := 40) rfl rfl rfl rfl ?_
            refine WL.gn (dj := 40) rfl rfl rfl rfl ?_
            refine WL.gn (dj := 40) rfl rfl rfl rfl ?_
            refine WL.gn (dj := 40) rfl rfl rfl rfl ?_
            refine WL.y rfl (Yd.pickF rfl rfl) ?_
            refine WL.nil ?_
            refine DN.then_normal ?_
            refine WC.no rfl ?_
            refine WC.skip ?_
            refine DN.block_normal ?_
            refine DN.then_normal ?_
            refine WC.region ?_
            refine WL.y rfl (Yd.move rfl) ?_
            refine WL.y rfl (Yd.add rfl rfl (by omega) (by omega)) ?_
            refine WL.y rfl (Yd.assign rfl) ?_
            refine WL.nil ?_
            exact DN.againS (i + 1) (show (i + 1) ≤ G.length ∧ ∀ (j : Nat) (hj : j < G.length), j < (i + 1) → ¬ (G[j].name = nm ∧ n ≤ G[j].free) from ⟨by omega, fun j hj h => by
              rcases Nat.lt_or_ge j i with h5 | h5
              · exact hno j hj h5
              · obtain rfl : j = i := by omega
                first | exact fun e => hg40 e.1 | exact fun e => h48 (by have := e.2; omega)⟩) (show G.length - (i + 1) < G.length - i by omega) (Sx.put rfl ((by repeat (first | exact Sx.refl | refine Sx.skip rfl ?_)))) (by repeat (first | exact Sp.here | exact Sp.sn | exact Sp.s0 | exact Fr.here | apply Sp.s2 | apply Sp.sx | apply Fr.fc | apply Fr.al | apply Fr.fa | apply Sp.sc | apply Sp.al | apply Sp.sa))
        · refine WC.exit ?_
          refine DN.then_exit ?_
          refine DN.then_exit ?_
          refine DN.block_exit ?_
          refine DN.then_normal ?_
          refine WC.seq ?_
          refine WC.region ?_
          refine WL.y rfl (Yd.assign rfl) ?_
          refine WL.nil ?_
          refine DN.then_normal ?_
          refine WC.ret ?_
          first | refine DN.fit (C := row p [.slice fo F.length fc, .slice zo (L.length + 1) zc, .slice wo A.length wc] 66 :: (Cf ++ (C2 ++ Ca))) (by repeat (first | exact Sp.here | exact Sp.sn | exact Sp.s0 | exact Fr.here | apply Sp.s2 | apply Sp.sx | apply Fr.fc | apply Fr.al | apply Fr.fa | apply Sp.sc | apply Sp.al | apply Sp.sa)) ?_ | refine DN.fit (C := row p [.slice fo F.length fc, .slice lo L.length lc, .slice wo A.length wc] 66 :: (Cf ++ (Cl ++ Ca))) (by repeat (first | exact Sp.here | exact Sp.sn | exact Sp.s0 | exact Fr.here | apply Sp.s2 | apply Sp.sx | apply Fr.fc | apply Fr.al | apply Fr.fa | apply Sp.sc | apply Sp.al | apply Sp.sa)) ?_
          refine DN.ret1 Try.results16 rfl ?_
          first
            | (rw [hb, hK]
               exact ⟨rfl, _, _, _, Cf, C2, Ca, rfl, hF, by rw [List.flatMap_append, List.length_append]; exact h2, hA⟩)
            | (have hb : holdB K L o nm n = false := by
                 first
                 | (subst hG; exact hold_lost hR inv hg21 fun j hj => hno j hj (by omega))
                 | (rw [Bool.eq_false_iff]
                    intro e
                    have hp := holdB_parts e
                    first
                    | exact hp.1 hg17
                    | exact absurd hp.2.1 (by omega)
                    | (rcases hat with h | ⟨i, hi, h1, _, h2⟩
                       · exact absurd h.1 (by omega)
                       · rw [hp.2.2.1] at h2; cases h2))
               rw [hb, (hold_no hb).2]
               exact ⟨rfl, h0⟩)

/-- (*drayage/drayageref09.Stock).Leave -/
theorem rleave_tells (p : Nat) (gs K F : List Gd) (L A : List Ho) (C : List Ck) (h : RsAt 66 32 50 p F L A C) (inv : SInv gs K L) (hR : RInv gs K L F A) (o : BitVec 32) (away : Bool) : Tells Try.prog 17 [.pointer (some ⟨p, 0, none⟩), .int .u32 o.toNat, .bool away] C fun r H' => r = .int .i64 (vd (findK Ho.o L o).isSome) ∧ RsAt 66 32 50 p F (delK Ho.o L o) (awayL L A o away) H' := by
  refine Tells.enter Try.func17 rfl Try.ntmps17 rfl ?_
  intro w0 R
  have hat := atK_spec (key := Ho.o) L o
  have h0 := h
  obtain ⟨vf, vl, va, Cf, Cl, Ca, rfl, hF, hL, hA⟩ := h
  obtain ⟨fo, fc, rfl, _⟩ := hF.form
  obtain ⟨lo, lc, rfl, _⟩ := hL.form
  obtain ⟨wo, wc, rfl, _⟩ := hA.form
  have hlens := hR.lens inv
  have hmany := inv.many
  refine WC.seq ?_
  refine WC.region ?_
  refine WL.y rfl (Yd.assign rfl) ?_
  refine WL.nil ?_
  refine DN.then_normal ?_
  refine WC.seq ?_
  refine WC.region ?_
  refine WL.y rfl (Yd.move rfl) ?_
  refine WL.y rfl (Yd.move rfl) ?_
  refine WL.rf rfl (Ent.func Try.call30 rfl) (rat_reads p F L A _ h0 (by omega) o) (by repeat (first | exact Sp.here | exact Sp.sn | exact Sp.s0 | exact Fr.here | apply Sp.s2 | apply Sp.sx | apply Fr.fc | apply Fr.al | apply Fr.fa | apply Sp.sc | apply Sp.al | apply Sp.sa)) ?_
  refine WL.y rfl (Yd.assign rfl) ?_
  refine WL.nil ?_
  refine DN.then_normal ?_
  refine WC.seq ?_
  refine WC.seq ?_
  refine WC.region ?_
  refine WL.y rfl (Yd.move rfl) ?_
  refine WL.y rfl (Yd.lss rfl rfl) ?_
  refine WL.nil ?_
  refine DN.then_normal ?_
  refine WC.ite rfl (fun h14 => ?_) (fun h14 => ?_)
  · have hnone : findK Ho.o L o = none := by
      rcases hat with h | ⟨i, hi, h, _⟩
      · exact h.2
      · omega
    refine WC.seq ?_
    refine WC.region ?_
    refine WL.y rfl (Yd.assign rfl) ?_
    refine WL.nil ?_
    refine DN.then_normal ?_
    refine WC.ret ?_
    refine DN.then_ret ?_
    first | refine DN.fit (C := row p [.slice fo F.length fc, .slice oo ((L.take L.length).eraseIdx q).length oc, .slice wo (awayL L A o away).length wc] 66 :: (Cf ++ (Co ++ Ca))) (by repeat (first | exact Sp.here | exact Sp.sn | exact Sp.s0 | exact Fr.here | apply Sp.s2 | apply Sp.sx | apply Fr.fc | apply Fr.al | apply Fr.fa | apply Sp.sc | apply Sp.al | apply Sp.sa)) ?_ | skip
    refine DN.ret1 Try.results17 rfl ?_
    first
      | (rw [hnone, (leave_none (K := K) hnone away).2]
         refine ⟨rfl, ?_⟩
         unfold awayL
         rw [hnone]
         exact h0)
      | (rw [List.take_length] at ho ⊢
         rw [hfq]
         refine ⟨rfl, _, _, _, Cf, Co, Ca, rfl, hF, ?_, hA⟩
         have e : delK Ho.o L o = L.eraseIdx q := by rw [eraseK inv.keys hq, ← hoq]
         rw [e]
         exact ho)
  · obtain ⟨q, hq, haq, hoq, hfq⟩ : ∃ (i : Nat) (hi : i < L.length), atK Ho.o L o = i ∧ o = L[i].o ∧ findK Ho.o L o = some L[i] := by
      rcases hat with h | h
      · exact absurd h.1 (by omega)
      · exact h
    rw [haq]
    have haw : awayL L A o away = if away then A ++ [L[q]] else A := by unfold awayL; rw [hfq]
    refine WC.skip ?_
    refine DN.then_normal ?_
    refine WC.cutK (fun z : List Ck => RsAt 66 32 50 p F L (awayL L A o away) z) (fun z : List Ck => []) (fun z : List Ck => z) ?_ ?_
    · refine WC.seq ?_
      refine WC.region ?_
      refine WL.y rfl (Yd.move rfl) ?_
      refine WL.nil ?_
      refine DN.then_normal ?_
      refine WC.cond rfl (fun h15 => ?_) (fun h15 => ?_)
      · rw [if_pos h15] at haw
        obtain ⟨ub, uf, us, uT, ufr, uex, elo, _, hum, hus⟩ := hL.rs.lies (by omega)
        refine WC.draw 17 (by kernel_rfl) rfl ?_
        refine WA.y (i := 0) (NoPanic.then (NoPanic.body)) rfl (by kernel_rfl) (by kernel_rfl) (by kernel_rfl) rfl (Yd.move rfl) ?_
        refine WA.y (i := 1) (NoPanic.then (NoPanic.body)) rfl (by kernel_rfl) (by kernel_rfl) (by kernel_rfl) rfl (Yd.move rfl) ?_
        refine WA.y (i := 2) (NoPanic.then (NoPanic.body)) rfl (by kernel_rfl) (by kernel_rfl) (by kernel_rfl) rfl (Yd.notNil rfl) ?_
        refine WA.y (i := 3) (NoPanic.then (NoPanic.body)) rfl (by kernel_rfl) (by kernel_rfl) (by kernel_rfl) rfl (Yd.fieldAddr (k := 2) (by kernel_rfl) rfl) ?_
        refine WA.y (i := 5) (NoPanic.then (NoPanic.body)) rfl (by kernel_rfl) (by kernel_rfl) (by kernel_rfl) rfl (Yd.move rfl) ?_
        refine WA.y (i := 6) (NoPanic.then (NoPanic.body)) rfl (by kernel_rfl) (by kernel_rfl) (by kernel_rfl) rfl (Yd.notNil rfl) ?_
        refine WA.y (i := 7) (NoPanic.then (NoPanic.body)) rfl (by kernel_rfl) (by kernel_rfl) (by kernel_rfl) rfl (Yd.fieldAddr (k := 1) (by kernel_rfl) rfl) ?_
        refine WA.y (i := 9) (NoPanic.then (NoPanic.body)) rfl (by kernel_rfl) (by kernel_rfl) (by kernel_rfl) rfl (Yd.move rfl) ?_
        refine WA.two (i := 4) (j := 8) (by kernel_rfl) ?_ ?_
        · refine WO.h rfl Wt.none rfl (Hd.load1 (by kernel_rfl) rfl (by repeat (first | exact List.mem_cons_self | apply List.mem_cons_of_mem | apply List.mem_append_right)) (by rfl) ⟨_, rfl, ?_⟩)
          refine WA.one (i := 8) (by kernel_rfl) ?_
          refine WO.h rfl Wt.none rfl (Hd.load1 (by kernel_rfl) rfl (by repeat (first | exact List.mem_cons_self | apply List.mem_cons_of_mem | apply List.mem_append_right)) (by rfl) ⟨_, rfl, ?_⟩)
          refine WA.y (i := 10) (NoPanic.then (NoPanic.body)) rfl (by kernel_rfl) (by kernel_rfl) (by kernel_rfl) rfl (Yd.indexAddr (e := 50) (s := 3) (b := ub) (o := uf) (n := L.length) (c := lc) (by kernel_rfl) (by kernel_rfl) (congrArg (fun q => some (Value.slice q L.length lc)) elo) rfl (by omega) (by omega)) ?_
          refine WA.one (i := 11) (by kernel_rfl) ?_
          refine WO.h rfl Wt.none rfl (Hd.loadA (n := 3) (b := ub) (o := uf + (q : Int).toNat * 3) (cs := us) (vs := cellsH L[q]) (by kernel_rfl) rfl (Gr.get (by repeat (first | exact Gr.refl | exact Gr.left Gr.refl | exact Gr.left (Gr.left Gr.refl) | exact Gr.left (Gr.app Gr.refl) | exact Gr.left (Gr.left (Gr.left Gr.refl)) | exact Gr.nil | exact Gr.app (Gr.left Gr.refl) | refine Gr.cons ?_ | refine Gr.app ?_ | refine Gr.both ?_ ?_ | refine Gr.put (by repeat (first | exact List.mem_cons_self | apply List.mem_cons_of_mem | apply List.mem_append_right)) ?_)) hum) (cellsH_len _) (rs_cell hus (by rw [flat_len cellsH 3 cellsH_len]; omega) (flat_row cellsH 3 cellsH_len L q hq)) ⟨_, rfl, ?_⟩)
          refine WA.one (i := 12) (by kernel_rfl) ?_
          refine WO.h rfl Wt.none rfl (Hd.buildA (e := 50) (sz := 3) (zs := [.int .u32 0, .string ⟨#[]⟩, .int .i64 0]) (by kernel_rfl) (by kernel_rfl) (by kernel_rfl) rfl rfl (by rfl) (by kernel_rfl) fun b28 => ⟨_, rfl, ?_⟩)
          refine WA.one (i := 13) (by kernel_rfl) ?_
          refine WO.h rfl Wt.none rfl (Hd.appendRow (e := 50) (sz := 3) (bytes := 32) (zs := [.int .u32 0, .string ⟨#[]⟩, .int .i64 0]) (by kernel_rfl) (by kernel_rfl) rfl (by omega) rfl rfl (hA) (by repeat (first | exact Sp.here | exact Sp.sn | exact Sp.s0 | exact Fr.here | apply Sp.s2 | apply Sp.sx | apply Fr.fc | apply Fr.al | apply Fr.fa | apply Sp.sc | apply Sp.al | apply Sp.sa)) (by repeat (first | exact List.mem_cons_self | apply List.mem_cons_of_mem | apply List.mem_append_right)) (by rfl) (by repeat (first | exact fun _ h => absurd h List.not_mem_nil | refine List.forall_mem_cons.2 ⟨by first | rfl | assumption, ?_⟩)) (by simp only [maxLen]; omega) (by omega) fun v29 C29 h29 => ⟨_, rfl, ?_⟩)
          obtain ⟨zo, zc, rfl, _⟩ := h29.form
          refine WA.y (i := 14) (NoPanic.then (NoPanic.body)) rfl (by kernel_rfl) (by kernel_rfl) (by kernel_rfl) rfl (Yd.notNil rfl) ?_
          refine WA.y (i := 15) (NoPanic.then (NoPanic.body)) rfl (by kernel_rfl) (by kernel_rfl) (by kernel_rfl) rfl (Yd.fieldAddr (k := 2) (by kernel_rfl) rfl) ?_
          refine WA.one (i := 16) (by kernel_rfl) ?_
          refine WO.s rfl Wt.none (Hd.store1s (by kernel_rfl) rfl rfl (by rfl) (by repeat (first | exact Fr.here | apply Fr.fc | apply Fr.al | apply Fr.fa)) (by rfl) (by first | (simp only [List.set_cons_zero, List.set_cons_succ, Nat.zero_add, Nat.add_zero, Nat.reduceAdd]; rfl) | rfl) ⟨rfl, ?_⟩)
          refine WA.done (by kernel_rfl) ?_
          refine DN.fit (C := row p [.slice fo F.length fc, .slice lo L.length lc, .slice zo (A.length + 1) zc] 66 :: (Cf ++ (Cl ++ C29))) (by repeat (first | exact Sp.here | exact Sp.sn | exact Sp.s0 | exact Fr.here | apply Sp.s2 | apply Sp.sx | apply Fr.fc | apply Fr.al | apply Fr.fa | apply Sp.sc | apply Sp.al | apply Sp.sa)) ?_
          exact DN.reachK (row p [.slice fo F.length fc, .slice lo L.length lc, .slice zo (A.length + 1) zc] 66 :: (Cf ++ (Cl ++ C29))) (⟨_, _, _, Cf, Cl, C29, rfl, hF, hL, by rw [haw, List.flatMap_append, List.length_append]; exact h29⟩) ((by repeat (first | exact Sx.refl | refine Sx.skip rfl ?_))) (Sp.all (by repeat (first | exact Sp.here | exact Sp.sn | exact Sp.s0 | exact Fr.here | apply Sp.s2 | apply Sp.sx | apply Fr.fc | apply Fr.al | apply Fr.fa | apply Sp.sc | apply Sp.al | apply Sp.sa)))
        · refine WO.h rfl Wt.none rfl (Hd.load1 (by kernel_rfl) rfl (by repeat (first | exact List.mem_cons_self | apply List.mem_cons_of_mem | apply List.mem_append_right)) (by rfl) ⟨_, rfl, ?_⟩)
          refine WA.y (i := 10) (NoPanic.then (NoPanic.body)) rfl (by kernel_rfl) (by kernel_rfl) (by kernel_rfl) rfl (Yd.indexAddr (e := 50) (s := 3) (b := ub) (o := uf) (n := L.length) (c := lc) (by kernel_rfl) (by kernel_rfl) (congrArg (fun q => some (Value.slice q L.length lc)) elo) rfl (by omega) (by omega)) ?_
          refine WA.two (i := 4) (j := 11) (by kernel_rfl) ?_ ?_
          · refine WO.h rfl Wt.none rfl (Hd.load1 (by kernel_rfl) rfl (by repeat (first | exact List.mem_cons_self | apply List.mem_cons_of_mem | apply List.mem_append_right)) (by rfl) ⟨_, rfl, ?_⟩)
            refine WA.one (i := 11) (by kernel_rfl) ?_
            refine WO.h rfl Wt.none rfl (Hd.loadA (n := 3) (b := ub) (o := uf + (q : Int).toNat * 3) (cs := us) (vs := cellsH L[q]) (by kernel_rfl) rfl (Gr.get (by repeat (first | exact Gr.refl | exact Gr.left Gr.refl | exact Gr.left (Gr.left Gr.refl) | exact Gr.left (Gr.app Gr.refl) | exact Gr.left (Gr.left (Gr.left Gr.refl)) | exact Gr.nil | exact Gr.app (Gr.left Gr.refl) | refine Gr.cons ?_ | refine Gr.app ?_ | refine Gr.both ?_ ?_ | refine Gr.put (by repeat (first | exact List.mem_cons_self | apply List.mem_cons_of_mem | apply List.mem_append_right)) ?_)) hum) (cellsH_len _) (rs_cell hus (by rw [flat_len cellsH 3 cellsH_len]; omega) (flat_row cellsH 3 cellsH_len L q hq)) ⟨_, rfl, ?_⟩)
            refine WA.one (i := 12) (by kernel_rfl) ?_
            refine WO.h rfl Wt.none rfl (Hd.buildA (e := 50) (sz := 3) (zs := [.int .u32 0, .string ⟨#[]⟩, .int .i64 0]) (by kernel_rfl) (by kernel_rfl) (by kernel_rfl) rfl rfl (by rfl) (by kernel_rfl) fun b28 => ⟨_, rfl, ?_⟩)
            refine WA.one (i := 13) (by kernel_rfl) ?_
            refine WO.h rfl Wt.none rfl (Hd.appendRow (e := 50) (sz := 3) (bytes := 32) (zs := [.int .u32 0, .string ⟨#[]⟩, .int .i64 0]) (by kernel_rfl) (by kernel_rfl) rfl (by omega) rfl rfl (hA) (by repeat (first | exact Sp.here | exact Sp.sn | exact Sp.s0 | exact Fr.here | apply Sp.s2 | apply Sp.sx | apply Fr.fc | apply Fr.al | apply Fr.fa | apply Sp.sc | apply Sp.al | apply Sp.sa)) (by repeat (first | exact List.mem_cons_self | apply List.mem_cons_of_mem | apply List.mem_append_right)) (by rfl) (by repeat (first | exact fun _ h => absurd h List.not_mem_nil | refine List.forall_mem_cons.2 ⟨by first | rfl | assumption, ?_⟩)) (by simp only [maxLen]; omega) (by omega) fun v29 C29 h29 => ⟨_, rfl, ?_⟩)
            obtain ⟨zo, zc, rfl, _⟩ := h29.form
            refine WA.y (i := 14) (NoPanic.then (NoPanic.body)) rfl (by kernel_rfl) (by kernel_rfl) (by kernel_rfl) rfl (Yd.notNil rfl) ?_
            refine WA.y (i := 15) (NoPanic.then (NoPanic.body)) rfl (by kernel_rfl) (by kernel_rfl) (by kernel_rfl) rfl (Yd.fieldAddr (k := 2) (by kernel_rfl) rfl) ?_
            refine WA.one (i := 16) (by kernel_rfl) ?_
            refine WO.s rfl Wt.none (Hd.store1s (by kernel_rfl) rfl rfl (by rfl) (by repeat (first | exact Fr.here | apply Fr.fc | apply Fr.al | apply Fr.fa)) (by rfl) (by first | (simp only [List.set_cons_zero, List.set_cons_succ, Nat.zero_add, Nat.add_zero, Nat.reduceAdd]; rfl) | rfl) ⟨rfl, ?_⟩)
            refine WA.done (by kernel_rfl) ?_
            refine DN.fit (C := row p [.slice fo F.length fc, .slice lo L.length lc, .slice zo (A.length + 1) zc] 66 :: (Cf ++ (Cl ++ C29))) (by repeat (first | exact Sp.here | exact Sp.sn | exact Sp.s0 | exact Fr.here | apply Sp.s2 | apply Sp.sx | apply Fr.fc | apply Fr.al | apply Fr.fa | apply Sp.sc | apply Sp.al | apply Sp.sa)) ?_
            exact DN.reachK (row p [.slice fo F.length fc, .slice lo L.length lc, .slice zo (A.length + 1) zc] 66 :: (Cf ++ (Cl ++ C29))) (⟨_, _, _, Cf, Cl, C29, rfl, hF, hL, by rw [haw, List.flatMap_append, List.length_append]; exact h29⟩) ((by repeat (first | exact Sx.refl | refine Sx.skip rfl ?_))) (Sp.all (by repeat (first | exact Sp.here | exact Sp.sn | exact Sp.s0 | exact Fr.here | apply Sp.s2 | apply Sp.sx | apply Fr.fc | apply Fr.al | apply Fr.fa | apply Sp.sc | apply Sp.al | apply Sp.sa)))
          · refine WO.h rfl Wt.none rfl (Hd.loadA (n := 3) (b := ub) (o := uf + (q : Int).toNat * 3) (cs := us) (vs := cellsH L[q]) (by kernel_rfl) rfl (Gr.get (by repeat (first | exact Gr.refl | exact Gr.left Gr.refl | exact Gr.left (Gr.left Gr.refl) | exact Gr.left (Gr.app Gr.refl) | exact Gr.left (Gr.left (Gr.left Gr.refl)) | exact Gr.nil | exact Gr.app (Gr.left Gr.refl) | refine Gr.cons ?_ | refine Gr.app ?_ | refine Gr.both ?_ ?_ | refine Gr.put (by repeat (first | exact List.mem_cons_self | apply List.mem_cons_of_mem | apply List.mem_append_right)) ?_)) hum) (cellsH_len _) (rs_cell hus (by rw [flat_len cellsH 3 cellsH_len]; omega) (flat_row cellsH 3 cellsH_len L q hq)) ⟨_, rfl, ?_⟩)
            refine WA.two (i := 4) (j := 12) (by kernel_rfl) ?_ ?_
            · refine WO.h rfl Wt.none rfl (Hd.load1 (by kernel_rfl) rfl (by repeat (first | exact List.mem_cons_self | apply List.mem_cons_of_mem | apply List.mem_append_right)) (by rfl) ⟨_, rfl, ?_⟩)
              refine WA.one (i := 12) (by kernel_rfl) ?_
              refine WO.h rfl Wt.none rfl (Hd.buildA (e := 50) (sz := 3) (zs := [.int .u32 0, .string ⟨#[]⟩, .int .i64 0]) (by kernel_rfl) (by kernel_rfl) (by kernel_rfl) rfl rfl (by rfl) (by kernel_rfl) fun b28 => ⟨_, rfl, ?_⟩)
              refine WA.one (i := 13) (by kernel_rfl) ?_
              refine WO.h rfl Wt.none rfl (Hd.appendRow (e := 50) (sz := 3) (bytes := 32) (zs := [.int .u32 0, .string ⟨#[]⟩, .int .i64 0]) (by kernel_rfl) (by kernel_rfl) rfl (by omega) rfl rfl (hA) (by repeat (first | exact Sp.here | exact Sp.sn | exact Sp.s0 | exact Fr.here | apply Sp.s2 | apply Sp.sx | apply Fr.fc | apply Fr.al | apply Fr.fa | apply Sp.sc | apply Sp.al | apply Sp.sa)) (by repeat (first | exact List.mem_cons_self | apply List.mem_cons_of_mem | apply List.mem_append_right)) (by rfl) (by repeat (first | exact fun _ h => absurd h List.not_mem_nil | refine List.forall_mem_cons.2 ⟨by first | rfl | assumption, ?_⟩)) (by simp only [maxLen]; omega) (by omega) fun v29 C29 h29 => ⟨_, rfl, ?_⟩)
              obtain ⟨zo, zc, rfl, _⟩ := h29.form
              refine WA.y (i := 14) (NoPanic.then (NoPanic.body)) rfl (by kernel_rfl) (by kernel_rfl) (by kernel_rfl) rfl (Yd.notNil rfl) ?_
              refine WA.y (i := 15) (NoPanic.then (NoPanic.body)) rfl (by kernel_rfl) (by kernel_rfl) (by kernel_rfl) rfl (Yd.fieldAddr (k := 2) (by kernel_rfl) rfl) ?_
              refine WA.one (i := 16) (by kernel_rfl) ?_
              refine WO.s rfl Wt.none (Hd.store1s (by kernel_rfl) rfl rfl (by rfl) (by repeat (first | exact Fr.here | apply Fr.fc | apply Fr.al | apply Fr.fa)) (by rfl) (by first | (simp only [List.set_cons_zero, List.set_cons_succ, Nat.zero_add, Nat.add_zero, Nat.reduceAdd]; rfl) | rfl) ⟨rfl, ?_⟩)
              refine WA.done (by kernel_rfl) ?_
              refine DN.fit (C := row p [.slice fo F.length fc, .slice lo L.length lc, .slice zo (A.length + 1) zc] 66 :: (Cf ++ (Cl ++ C29))) (by repeat (first | exact Sp.here | exact Sp.sn | exact Sp.s0 | exact Fr.here | apply Sp.s2 | apply Sp.sx | apply Fr.fc | apply Fr.al | apply Fr.fa | apply Sp.sc | apply Sp.al | apply Sp.sa)) ?_
              exact DN.reachK (row p [.slice fo F.length fc, .slice lo L.length lc, .slice zo (A.length + 1) zc] 66 :: (Cf ++ (Cl ++ C29))) (⟨_, _, _, Cf, Cl, C29, rfl, hF, hL, by rw [haw, List.flatMap_append, List.length_append]; exact h29⟩) ((by repeat (first | exact Sx.refl | refine Sx.skip rfl ?_))) (Sp.all (by repeat (first | exact Sp.here | exact Sp.sn | exact Sp.s0 | exact Fr.here | apply Sp.s2 | apply Sp.sx | apply Fr.fc | apply Fr.al | apply Fr.fa | apply Sp.sc | apply Sp.al | apply Sp.sa)))
            · refine WO.h rfl Wt.none rfl (Hd.buildA (e := 50) (sz := 3) (zs := [.int .u32 0, .string ⟨#[]⟩, .int .i64 0]) (by kernel_rfl) (by kernel_rfl) (by kernel_rfl) rfl rfl (by rfl) (by kernel_rfl) fun b28 => ⟨_, rfl, ?_⟩)
              refine WA.one (i := 4) (by kernel_rfl) ?_
              refine WO.h rfl Wt.none rfl (Hd.load1 (by kernel_rfl) rfl (by repeat (first | exact List.mem_cons_self | apply List.mem_cons_of_mem | apply List.mem_append_right)) (by rfl) ⟨_, rfl, ?_⟩)
              refine WA.one (i := 13) (by kernel_rfl) ?_
              refine WO.h rfl Wt.none rfl (Hd.appendRow (e := 50) (sz := 3) (bytes := 32) (zs := [.int .u32 0, .string ⟨#[]⟩, .int .i64 0]) (by kernel_rfl) (by kernel_rfl) rfl (by omega) rfl rfl (hA) (by repeat (first | exact Sp.here | exact Sp.sn | exact Sp.s0 | exact Fr.here | apply Sp.s2 | apply Sp.sx | apply Fr.fc | apply Fr.al | apply Fr.fa | apply Sp.sc | apply Sp.al | apply Sp.sa)) (by repeat (first | exact List.mem_cons_self | apply List.mem_cons_of_mem | apply List.mem_append_right)) (by rfl) (by repeat (first | exact fun _ h => absurd h List.not_mem_nil | refine List.forall_mem_cons.2 ⟨by first | rfl | assumption, ?_⟩)) (by simp only [maxLen]; omega) (by omega) fun v29 C29 h29 => ⟨_, rfl, ?_⟩)
              obtain ⟨zo, zc, rfl, _⟩ := h29.form
              refine WA.y (i := 14) (NoPanic.then (NoPanic.body)) rfl (by kernel_rfl) (by kernel_rfl) (by kernel_rfl) rfl (Yd.notNil rfl) ?_
              refine WA.y (i := 15) (NoPanic.then (NoPanic.body)) rfl (by kernel_rfl) (by kernel_rfl) (by kernel_rfl) rfl (Yd.fieldAddr (k := 2) (by kernel_rfl) rfl) ?_
              refine WA.one (i := 16) (by kernel_rfl) ?_
              refine WO.s rfl Wt.none (Hd.store1s (by kernel_rfl) rfl rfl (by rfl) (by repeat (first | exact Fr.here | apply Fr.fc | apply Fr.al | apply Fr.fa)) (by rfl) (by first | (simp only [List.set_cons_zero, List.set_cons_succ, Nat.zero_add, Nat.add_zero, Nat.reduceAdd]; rfl) | rfl) ⟨rfl, ?_⟩)
              refine WA.done (by kernel_rfl) ?_
              refine DN.fit (C := row p [.slice fo F.length fc, .slice lo L.length lc, .slice zo (A.length + 1) zc] 66 :: (Cf ++ (Cl ++ C29))) (by repeat (first | exact Sp.here | exact Sp.sn | exact Sp.s0 | exact Fr.here | apply Sp.s2 | apply Sp.sx | apply Fr.fc | apply Fr.al | apply Fr.fa | apply Sp.sc | apply Sp.al | apply Sp.sa)) ?_
              exact DN.reachK (row p [.slice fo F.length fc, .slice lo L.length lc, .slice zo (A.length + 1) zc] 66 :: (Cf ++ (Cl ++ C29))) (⟨_, _, _, Cf, Cl, C29, rfl, hF, hL, by rw [haw, List.flatMap_append, List.length_append]; exact h29⟩) ((by repeat (first | exact Sx.refl | refine Sx.skip rfl ?_))) (Sp.all (by repeat (first | exact Sp.here | exact Sp.sn | exact Sp.s0 | exact Fr.here | apply Sp.s2 | apply Sp.sx | apply Fr.fc | apply Fr.al | apply Fr.fa | apply Sp.sc | apply Sp.al | apply Sp.sa)))
      · rw [if_neg (by rw [h15]; simp)] at haw
        refine WC.skip ?_
        exact DN.reachK (row p [.slice fo F.length fc, .slice lo L.length lc, .slice wo A.length wc] 66 :: (Cf ++ (Cl ++ Ca))) (⟨_, _, _, Cf, Cl, Ca, rfl, hF, hL, by rw [haw]; exact hA⟩) ((by repeat (first | exact Sx.refl | refine Sx.skip rfl ?_))) (Sp.all (by repeat (first | exact Sp.here | exact Sp.sn | exact Sp.s0 | exact Fr.here | apply Sp.s2 | apply Sp.sx | apply Fr.fc | apply Fr.al | apply Fr.fa | apply Sp.sc | apply Sp.al | apply Sp.sa)))
    · intro z hz
      clear hF hL hA h0
      obtain ⟨vf, vl, va, Cf, Cl, Ca, rfl, hF, hL, hA⟩ := hz
      obtain ⟨fo, fc, rfl, _⟩ := hF.form
      obtain ⟨lo, lc, rfl, _⟩ := hL.form
      obtain ⟨wo, wc, rfl, _⟩ := hA.form
      refine WC.seq ?_
      refine WC.region ?_
      refine WL.y rfl (Yd.assign rfl) ?_
      refine WL.nil ?_
      refine DN.then_normal ?_
      refine WC.seq ?_
      refine WC.seq ?_
      refine WC.region ?_
      refine WL.y rfl (Yd.assign rfl) ?_
      refine WL.nil ?_
      refine DN.then_normal ?_
      refine WC.block ?_
      refine WC.loopS (fun z : Nat × Value × List Ck => z.1 ≤ L.length ∧ Own z.2.1 ((L.take z.1).eraseIdx q).length (((L.take z.1).eraseIdx q).flatMap cellsH) 50 3 z.2.2) (fun z : Nat × Value × List Ck => [(9, .int .i64 (z.1 : Int)), (8, z.2.1)]) (fun z : Nat × Value × List Ck => z.2.2 ++ (row p [.slice fo F.length fc, .slice lo L.length lc, .slice wo (awayL L A o away).length wc] 66 :: (Cf ++ (Cl ++ Ca)))) (fun z : Nat × Value × List Ck => L.length - z.1) (⟨0, .slice none 0 0, []⟩) (show 0 ≤ L.length ∧ Own (.slice none 0 0) ((L.take 0).eraseIdx q).length (((L.take 0).eraseIdx q).flatMap cellsH) 50 3 [] from ⟨Nat.zero_le _, by simpa using Own.nil 50 3⟩) (Sx.put rfl (Sx.put rfl ((by repeat (first | exact Sx.refl | refine Sx.skip rfl ?_))))) (by repeat (first | exact Sp.here | exact Sp.sn | exact Sp.s0 | exact Fr.here | apply Sp.s2 | apply Sp.sx | apply Fr.fc | apply Fr.al | apply Fr.fa | apply Sp.sc | apply Sp.al | apply Sp.sa)) ?_
      rintro ⟨i, v, Co⟩ hI
      replace hI : i ≤ L.length ∧ Own v ((L.take i).eraseIdx q).length (((L.take i).eraseIdx q).flatMap cellsH) 50 3 Co := hI
      obtain ⟨hi, ho⟩ := hI
      change WC _ _ _ _ _ _ ([(9, .int .i64 (i : Int)), (8, v)] ++ _) (Co ++ (row p [.slice fo F.length fc, .slice lo L.length lc, .slice wo (awayL L A o away).length wc] 66 :: (Cf ++ (Cl ++ Ca))))
      obtain ⟨oo, oc, rfl, hoc⟩ := ho.form
      refine WC.seq ?_
      refine WC.seq ?_
      refine WC.region ?_
      refine WL.y rfl (Yd.move rfl) ?_
      refine WL.y rfl (Yd.move rfl) ?_
      refine WL.y rfl (Yd.notNil rfl) ?_
      refine WL.y rfl (Yd.fieldAddr (k := 1) (by kernel_rfl) rfl) ?_
      refine WL.h rfl (Hd.load1 (by kernel_rfl) rfl (by repeat (first | exact List.mem_cons_self | apply List.mem_cons_of_mem | apply List.mem_append_right)) (by rfl) ⟨_, rfl, ?_⟩)
      refine WL.y rfl (Yd.len (e := 50) (by kernel_rfl) rfl) ?_
      refine WL.y rfl (Yd.lss rfl rfl) ?_
      refine WL.nil ?_
      refine DN.then_normal ?_
      refine WC.ite rfl (fun h38 => ?_) (fun h38 => ?_)
      · have hlt : i < L.length := by omega
        obtain ⟨ub, uf, us, uT, ufr, uex, rfl, _, hum, hus⟩ := hL.rs.lies (by omega)
        have hel : ((L.take i).eraseIdx q).length ≤ L.length := by rw [List.length_eraseIdx, List.length_take]; split <;> omega
        refine WC.skip ?_
        refine DN.then_normal ?_
        refine WC.seq ?_
        refine WC.block ?_
        refine WC.seq ?_
        refine WC.region ?_
        refine WL.y rfl (Yd.move rfl) ?_
        refine WL.y rfl (Yd.move rfl) ?_
        refine WL.y rfl (Yd.neq rfl rfl) ?_
        refine WL.nil ?_
        refine DN.then_normal ?_
        refine WC.ite rfl (fun h43 => ?_) (fun h43 => ?_)
        · refine WC.region ?_
          refine WL.y rfl (Yd.move rfl) ?_
          refine WL.y rfl (Yd.move rfl) ?_
          refine WL.y rfl (Yd.notNil rfl) ?_
          refine WL.y rfl (Yd.fieldAddr (k := 1) (by kernel_rfl) rfl) ?_
          refine WL.h rfl (Hd.load1 (by kernel_rfl) rfl (by repeat (first | exact List.mem_cons_self | apply List.mem_cons_of_mem | apply List.mem_append_right)) (by rfl) ⟨_, rfl, ?_⟩)
          refine WL.y rfl (Yd.move rfl) ?_
          refine WL.y rfl (Yd.indexAddr (e := 50) (s := 3) (by kernel_rfl) (by kernel_rfl) rfl rfl (by omega) (by omega)) ?_
          refine WL.h rfl (Hd.loadA (n := 3) (b := ub) (o := uf + (i : Int).toNat * 3) (cs := us) (vs := cellsH L[i]) (by kernel_rfl) rfl (Gr.get (by repeat (first | exact Gr.refl | exact Gr.left Gr.refl | exact Gr.left (Gr.left Gr.refl) | exact Gr.left (Gr.app Gr.refl) | exact Gr.left (Gr.left (Gr.left Gr.refl)) | exact Gr.nil | exact Gr.app (Gr.left Gr.refl) | refine Gr.cons ?_ | refine Gr.app ?_ | refine Gr.both ?_ ?_ | refine Gr.put (by repeat (first | exact List.mem_cons_self | apply List.mem_cons_of_mem | apply List.mem_append_right)) ?_)) hum) (cellsH_len _) (rs_cell hus (by rw [flat_len cellsH 3 cellsH_len]; omega) (flat_row cellsH 3 cellsH_len L i hlt)) ⟨_, rfl, ?_⟩)
          refine WL.h rfl (Hd.buildA (e := 50) (sz := 3) (zs := [.int .u32 0, .string ⟨#[]⟩, .int .i64 0]) (by kernel_rfl) (by kernel_rfl) (by kernel_rfl) rfl rfl (by rfl) (by kernel_rfl) fun b52 => ⟨_, rfl, ?_⟩)
          refine WL.h rfl (Hd.appendRow (e := 50) (sz := 3) (bytes := 32) (zs := [.int .u32 0, .string ⟨#[]⟩, .int .i64 0]) (by kernel_rfl) (by kernel_rfl) rfl (by omega) rfl rfl (ho) (by repeat (first | exact Sp.here | exact Sp.sn | exact Sp.s0 | exact Fr.here | apply Sp.s2 | apply Sp.sx | apply Fr.fc | apply Fr.al | apply Fr.fa | apply Sp.sc | apply Sp.al | apply Sp.sa)) (by repeat (first | exact List.mem_cons_self | apply List.mem_cons_of_mem | apply List.mem_append_right)) (by rfl) (by repeat (first | exact fun _ h => absurd h List.not_mem_nil | refine List.forall_mem_cons.2 ⟨by first | rfl | assumption, ?_⟩)) (by simp only [maxLen]; omega) (by omega) fun v2 C2 h2 => ⟨_, rfl, ?_⟩)
          refine WL.y rfl (Yd.assign rfl) ?_
          refine WL.nil ?_
          refine DN.block_normal ?_
          refine DN.then_normal ?_
          refine WC.region ?_
          refine WL.y rfl (Yd.move rfl) ?_
          refine WL.y rfl (Yd.add rfl rfl (by omega) (by omega)) ?_
          refine WL.y rfl (Yd.assign rfl) ?_
          refine WL.nil ?_
          exact DN.againS (⟨i + 1, v2, C2⟩) (show (i + 1) ≤ L.length ∧ Own v2 ((L.take (i + 1)).eraseIdx q).length (((L.take (i + 1)).eraseIdx q).flatMap cellsH) 50 3 C2 from ⟨by omega, by rw [erase_skip L i q hlt (by omega), List.flatMap_append, List.length_append]; simpa using h2⟩) (show L.length - (i + 1) < L.length - i by omega) (Sx.put rfl (Sx.put rfl ((by repeat (first | exact Sx.refl | refine Sx.skip rfl ?_))))) (by repeat (first | exact Sp.here | exact Sp.sn | exact Sp.s0 | exact Fr.here | apply Sp.s2 | apply Sp.sx | apply Fr.fc | apply Fr.al | apply Fr.fa | apply Sp.sc | apply Sp.al | apply Sp.sa))
        · refine WC.skip ?_
          refine DN.block_normal ?_
          refine DN.then_normal ?_
          refine WC.region ?_
          refine WL.y rfl (Yd.move rfl) ?_
          refine WL.y rfl (Yd.add rfl rfl (by omega) (by omega)) ?_
          refine WL.y rfl (Yd.assign rfl) ?_
          refine WL.nil ?_
          exact DN.againS (⟨i + 1, .slice oo ((L.take i).eraseIdx q).length oc, Co⟩) (show (i + 1) ≤ L.length ∧ Own (.slice oo ((L.take i).eraseIdx q).length oc) ((L.take (i + 1)).eraseIdx q).length (((L.take (i + 1)).eraseIdx q).flatMap cellsH) 50 3 Co from ⟨by omega, by obtain rfl : i = q := (by omega); rw [erase_here L i hlt]; exact ho⟩) (show L.length - (i + 1) < L.length - i by omega) (Sx.put rfl (Sx.put rfl ((by repeat (first | exact Sx.refl | refine Sx.skip rfl ?_))))) (by repeat (first | exact Sp.here | exact Sp.sn | exact Sp.s0 | exact Fr.here | apply Sp.s2 | apply Sp.sx | apply Fr.fc | apply Fr.al | apply Fr.fa | apply Sp.sc | apply Sp.al | apply Sp.sa))
      · obtain rfl : i = L.length := by omega
        refine WC.exit ?_
        refine DN.then_exit ?_
        refine DN.then_exit ?_
        refine DN.block_exit ?_
        refine DN.then_normal ?_
        refine WC.seq ?_
        refine WC.region ?_
        refine WL.y rfl (Yd.move rfl) ?_
        refine WL.y rfl (Yd.move rfl) ?_
        refine WL.y rfl (Yd.notNil rfl) ?_
        refine WL.y rfl (Yd.fieldAddr (k := 1) (by kernel_rfl) rfl) ?_
        refine WL.s (Hd.store1s (by kernel_rfl) rfl rfl (by rfl) (by repeat (first | exact Fr.here | apply Fr.fc | apply Fr.al | apply Fr.fa)) (by rfl) (by first | (simp only [List.set_cons_zero, List.set_cons_succ, Nat.zero_add, Nat.add_zero, Nat.reduceAdd]; rfl) | rfl) ⟨rfl, ?_⟩)
        refine WL.nil ?_
        refine DN.then_normal ?_
        refine WC.seq ?_
        refine WC.region ?_
        refine WL.y rfl (Yd.assign rfl) ?_
        refine WL.nil ?_
        refine DN.then_normal ?_
        refine WC.ret ?_
        first | refine DN.fit (C := row p [.slice fo F.length fc, .slice oo ((L.take L.length).eraseIdx q).length oc, .slice wo (awayL L A o away).length wc] 66 :: (Cf ++ (Co ++ Ca))) (by repeat (first | exact Sp.here | exact Sp.sn | exact Sp.s0 | exact Fr.here | apply Sp.s2 | apply Sp.sx | apply Fr.fc | apply Fr.al | apply Fr.fa | apply Sp.sc | apply Sp.al | apply Sp.sa)) ?_ | skip
        refine DN.ret1 Try.results17 rfl ?_
        first
          | (rw [hnone, (leave_none (K := K) hnone away).2]
             refine ⟨rfl, ?_⟩
             unfold awayL
             rw [hnone]
             exact h0)
          | (rw [List.take_length] at ho ⊢
             rw [hfq]
             refine ⟨rfl, _, _, _, Cf, Co, Ca, rfl, hF, ?_, hA⟩
             have e : delK Ho.o L o = L.eraseIdx q := by rw [eraseK inv.keys hq, ← hoq]
             rw [e]
             exact ho)

end Go.Proofs.Ytdbbkodjhmfjfaa
