/-
  FenceEpoch: the epoch never falls.
-/
import Derived.Test.YtonnkgblligdkaaFence10
import Derived.Test.YtonnkgblligdkaaFenceMath5
set_option linter.unusedVariables false
set_option linter.unusedSimpArgs false
set_option maxHeartbeats 8000000
namespace Go.Proofs.Ytonnkgblligdkaa
open Go.SL


/-- drayage/drayagelaw08.FenceEpoch -/
theorem law_FenceEpoch (v : Value) (xs : List Value) (cs : List Cl) (H : List Ck) (hv : Rs v cs.length xs H) (hl : xs.length = cs.length * 6) (hc : ∀ i (h : i < cs.length), ClE ((xs.drop (i * 6)).take 6) cs[i] H) (hm : cs.length ≤ 9223372036854775807) (ep : BitVec 32) : Reads Try.prog 8 [v, .int .u32 ep.toNat] H (.bool true) := by
  refine Tells.enter Try.func8 rfl Try.ntmps8 rfl ?_
  intro w0 R
  have hX := ep9 ep
  refine WC.seq ?_
  refine WC.region ?_
  refine WL.y rfl (Yd.assign rfl) ?_
  refine WL.nil ?_
  refine DN.then_normal ?_
  refine WC.seq ?_
  refine WC.region ?_
  refine WL.y rfl (Yd.move rfl) ?_
  refine WL.c rfl (Ent.func Try.call20 rfl) (serve_tells v xs cs H hv hl hc hm) (Sp.p sp_) ?_
  rintro x Hx ⟨p, s, n, C, ok, rfl, hS, inv, hn, rfl⟩
  obtain ⟨vL, CF, vd, cd, Cd, vt, ct, Ct, Dt, vo, co, Co, rfl, hF, hOd, hKd, hOt, hKt, hOo, hKo⟩ := hS
  obtain ⟨lo, lc, rfl⟩ := hF.form
  have hmany := inv.many
  have hck := inv.chk
  have hfew := inv.few
  refine WL.y rfl (Yd.move rfl) ?_
  refine WL.y rfl (Yd.extract rfl rfl) ?_
  refine WL.y rfl (Yd.extract rfl rfl) ?_
  refine WL.y rfl (Yd.assign rfl) ?_
  refine WL.y rfl (Yd.assign rfl) ?_
  refine WL.nil ?_
  refine DN.then_normal ?_
  refine WC.seq ?_
  refine WC.seq ?_
  refine WC.region ?_
  refine WL.y rfl (Yd.move rfl) ?_
  refine WL.y rfl (Yd.notB rfl) ?_
  refine WL.y rfl (Yd.move rfl) ?_
  refine WL.part (t := 25) rfl (fun hg25 => ?_) (fun hg25 => ?_)
  · refine WL.gn (dj := 25) rfl rfl rfl rfl ?_
    refine WL.gn (dj := 25) rfl rfl rfl rfl ?_
    refine WL.gn (dj := 25) rfl rfl rfl rfl ?_
    refine WL.gn (dj := 25) rfl rfl rfl rfl ?_
    refine WL.y rfl (Yd.pickT rfl rfl) ?_
    refine WL.nil ?_
    refine DN.then_normal ?_
    refine WC.yes rfl ?_
    refine WC.seq ?_
    refine WC.region ?_
    refine WL.y rfl (Yd.move rfl) ?_
    refine WL.y rfl (Yd.notB rfl) ?_
    refine WL.y rfl (Yd.move rfl) ?_
    refine WL.renamed (t := 33) (v := .bool true) rfl (congrArg Value.bool (hg25)) ?_
    refine WL.grf (dj := 33) rfl rfl rfl (Ent.func Try.call12 rfl) (known_reads) sp_ ?_
    refine WL.y rfl (Yd.pickT rfl rfl) ?_
    refine WL.y rfl (Yd.assign rfl) ?_
    refine WL.nil ?_
    refine DN.then_normal ?_
    refine WC.ret ?_
    refine DN.then_ret ?_
    refine DN.fit (C := H) sp_ ?_
    refine DN.ret1 Try.results8 rfl ?_
    exact ⟨rfl, rfl⟩
  · refine WL.gy (dj := 25) rfl rfl rfl (Yd.move rfl) ?_
    refine WL.gy (dj := 25) rfl rfl rfl (Yd.notNil rfl) ?_
    refine WL.gy (dj := 25) rfl rfl rfl (Yd.fieldAddr (k := 5) kr_ rfl) ?_
    refine WL.gh (dj := 25) rfl rfl rfl (Hd.load1 kr_ rfl mem_ (by rfl) ⟨_, rfl, ?_⟩)
    refine WL.renamed (t := 29) (v := .bool false) rfl (congrArg Value.bool (rfl)) ?_
    refine WL.y rfl (Yd.pickF rfl rfl) ?_
    refine WL.nil ?_
    refine DN.then_normal ?_
    refine WC.no rfl ?_
    refine WC.skip ?_
    refine DN.then_normal ?_
    refine WC.seq ?_
    refine WC.region ?_
    refine WL.y rfl (Yd.move rfl) ?_
    refine WL.y rfl (Yd.notNil rfl) ?_
    refine WL.y rfl (Yd.fieldAddr (k := 0) kr_ rfl) ?_
    refine WL.h rfl (Hd.loadA (n := 2) (vs := [_, _]) kr_ rfl mem_ (by rfl) (by rfl) ⟨_, rfl, ?_⟩)
    refine WL.y rfl (Yd.move rfl) ?_
    refine WL.y rfl (Yd.rem32 _ (9#32) rfl rfl rfl rfl (by decide)) ?_
    refine WL.c rfl (Ent.func Try.call28 rfl) (see_tells s.e _ s.ks CF hF.kv (by omega) (ep % 9#32)) (Sp.p sp_) ?_
    rintro xs9 Hs9 ⟨w9, DS, rfl, hSF, rfl⟩
    have hsee := see_of s.e s.ks (ep % 9#32) hck
    obtain ⟨sq, hsq⟩ : ∃ q, q = seeK s.e s.ks (ep % 9#32) := ⟨_, rfl⟩
    rw [← hsq] at hsee hSF ⊢
    obtain ⟨so, sc, rfl⟩ := hSF.form
    refine WL.y rfl (Yd.move rfl) ?_
    refine WL.y rfl (Yd.extract rfl rfl) ?_
    refine WL.y rfl (Yd.extract rfl rfl) ?_
    refine WL.h rfl (Hd.alloc (zs := [.int .u32 0, .slice none 0 0]) kr_ fun b7 => ⟨_, rfl, ?_⟩)
    refine WL.s (Hd.storeAll (n := 2) kr_ rfl rfl (by rfl) one_ fr_ (by rfl) ⟨rfl, ?_⟩)
    refine WL.y rfl (Yd.assign rfl) ?_
    refine WL.nil ?_
    refine DN.then_normal ?_
    refine WC.seq ?_
    refine WC.cutK (fun z : Unit => True) (fun z : Unit => [(64, .bool false)]) (fun z : Unit => row b7 [.int .u32 sq.1.toNat, .slice so sq.2.1.length sc] 25 :: (DS ++ (row p [.int .u32 s.e.toNat, .slice lo s.ks.length lc, vd, vt, vo, .bool false] 50 :: (CF ++ (Cd ++ (Ct ++ (Dt ++ (Co ++ H)))))))) ?_ ?_
    · refine WC.region ?_
      refine WL.y rfl (Yd.move rfl) ?_
      refine WL.y rfl (Yd.eql rfl rfl) ?_
      refine WL.y rfl (Yd.move rfl) ?_
      refine WL.y rfl (Yd.rem32 _ (9#32) rfl rfl rfl rfl (by decide)) ?_
      refine WL.y rfl (Yd.move rfl) ?_
      refine WL.y rfl (Yd.notNil rfl) ?_
      refine WL.y rfl (Yd.fieldAddr (k := 0) kr_ rfl) ?_
      refine WL.y rfl (Yd.fieldAddr (k := 0) kr_ rfl) ?_
      refine WL.h rfl (Hd.load1 kr_ rfl mem_ (by rfl) ⟨_, rfl, ?_⟩)
      refine WL.y rfl (Yd.geq rfl rfl) ?_
      refine WL.y rfl (Yd.neqB Try.underlying4 rfl rfl) ?_
      refine WL.y rfl (Yd.move rfl) ?_
      refine WL.renamed (t := 57) (v := .bool false) rfl (congrArg Value.bool (see_err hsee)) ?_
      refine WL.gy (dj := 57) rfl rfl rfl (Yd.move rfl) ?_
      refine WL.gy (dj := 57) rfl rfl rfl (Yd.neq rfl rfl) ?_
      refine WL.gy (dj := 57) rfl rfl rfl (Yd.move rfl) ?_
      refine WL.partP (t := 60) rfl (fun hg60 => ?_) (fun hg60 => ?_)
      · refine WL.gy (dj := 60) rfl rfl rfl (Yd.move rfl) ?_
        refine WL.gy (dj := 60) rfl rfl rfl (Yd.neq rfl rfl) ?_
        refine WL.gy (dj := 57) rfl rfl rfl (Yd.pickT rfl rfl) ?_
        refine WL.renamed (t := 63) (v := .bool false) rfl (congrArg Value.bool (by first | rfl | exact decide_eq_false (fun h => h (by rcases hsee with ⟨rfl, _⟩ | ⟨rfl, _⟩; rfl; exact absurd rfl hg60)))) ?_
        refine WL.y rfl (Yd.pickF rfl rfl) ?_
        refine WL.nil ?_
        exact DN.reachS (()) (trivial) (Sx.put rfl (sx_)) sp_
      · refine WL.gn (dj := 60) rfl rfl rfl rfl ?_
        refine WL.gn (dj := 60) rfl rfl rfl rfl ?_
        refine WL.gy (dj := 57) rfl rfl rfl (Yd.pickF rfl rfl) ?_
        refine WL.renamed (t := 63) (v := .bool false) rfl (congrArg Value.bool (by first | rfl | exact decide_eq_false (fun h => h (by rcases hsee with ⟨rfl, _⟩ | ⟨rfl, _⟩; rfl; exact absurd rfl hg60)))) ?_
        refine WL.y rfl (Yd.pickF rfl rfl) ?_
        refine WL.nil ?_
        exact DN.reachS (()) (trivial) (Sx.put rfl (sx_)) sp_
    · intro z hz
      refine WC.cond rfl (fun h64 => ?_) (fun h64 => ?_)
      · cases h64 --done
      · refine WC.skip ?_
        refine DN.then_normal ?_
        refine WC.seq ?_
        refine WC.seq ?_
        refine WC.region ?_
        refine WL.y rfl (Yd.move rfl) ?_
        refine WL.y rfl (Yd.neq rfl rfl) ?_
        refine WL.nil ?_
        refine DN.then_normal ?_
        refine WC.ite rfl (fun h66 => ?_) (fun h66 => ?_)
        · obtain ⟨rfl, hlt0⟩ : sq = (0#32, [], 72) ∧ (ep % 9#32).toNat < s.e.toNat := by
            rcases hsee with h | ⟨rfl, _⟩
            · exact h
            · exact absurd rfl h66
          refine WC.seq ?_
          refine WC.region ?_
          refine WL.y rfl (Yd.fieldAddr (k := 1) kr_ rfl) ?_
          refine WL.h rfl (Hd.load1 kr_ rfl mem_ (by rfl) ⟨_, rfl, ?_⟩)
          refine WL.y rfl (Yd.len (e := 43) kr_ rfl) ?_
          refine WL.y rfl (Yd.eql rfl rfl) ?_
          refine WL.y rfl (Yd.move rfl) ?_
          refine WL.renamed (t := 71) (v := .bool true) rfl (congrArg Value.bool (decide_eq_true rfl)) ?_
          refine WL.grf (dj := 71) rfl rfl rfl (Ent.func Try.call12 rfl) (known_reads) sp_ ?_
          refine WL.y rfl (Yd.pickT rfl rfl) ?_
          refine WL.y rfl (Yd.assign rfl) ?_
          refine WL.nil ?_
          refine DN.then_normal ?_
          refine WC.ret ?_
          refine DN.then_ret ?_
          refine DN.fit (C := H) sp_ ?_
          refine DN.ret1 Try.results8 rfl ?_
          exact ⟨rfl, rfl⟩
        · obtain ⟨rfl, hle0⟩ : sq = ((ep % 9#32), s.ks, 0) ∧ ¬ (ep % 9#32).toNat < s.e.toNat := by
            rcases hsee with ⟨rfl, _⟩ | h
            · exact absurd (by decide : ((72:Int) ≠ 0)) h66
            · exact h
          dsimp only at hSF ⊢
          refine WC.skip ?_
          refine DN.then_normal ?_
          refine WC.seq ?_
          refine WC.seq ?_
          refine WC.region ?_
          refine WL.y rfl (Yd.assign (v := .int .u32 ((1#32).toNat : Int)) rfl) ?_
          refine WL.nil ?_
          refine DN.then_normal ?_
          refine WC.block ?_
          refine WC.loopS (fun z : (BitVec 32) => 1 ≤ z.toNat ∧ z.toNat ≤ 9) (fun z : (BitVec 32) => [(9, .int .u32 z.toNat)]) (fun z : (BitVec 32) => row b7 [.int .u32 (ep % 9#32).toNat, .slice so s.ks.length sc] 25 :: (DS ++ (row p [.int .u32 s.e.toNat, .slice lo s.ks.length lc, vd, vt, vo, .bool false] 50 :: (CF ++ (Cd ++ (Ct ++ (Dt ++ (Co ++ H)))))))) (fun z : (BitVec 32) => 9 - z.toNat) ((1#32)) (show 1 ≤ (1#32).toNat ∧ (1#32).toNat ≤ 9 from ⟨by decide, by decide⟩) (Sx.put rfl (sx_)) sp_ ?_
          rintro e9 hI
          replace hI : 1 ≤ e9.toNat ∧ e9.toNat ≤ 9 := hI
          obtain ⟨h90, h99⟩ := hI
          change WC _ _ _ _ _ _ ([(9, .int .u32 e9.toNat)] ++ _) (row b7 [.int .u32 (ep % 9#32).toNat, .slice so s.ks.length sc] 25 :: (DS ++ (row p [.int .u32 s.e.toNat, .slice lo s.ks.length lc, vd, vt, vo, .bool false] 50 :: (CF ++ (Cd ++ (Ct ++ (Dt ++ (Co ++ H))))))))
          refine WC.seq ?_
          refine WC.seq ?_
          refine WC.region ?_
          refine WL.y rfl (Yd.move rfl) ?_
          refine WL.y rfl (Yd.fieldAddr (k := 0) kr_ rfl) ?_
          refine WL.h rfl (Hd.load1 kr_ rfl mem_ (by rfl) ⟨_, rfl, ?_⟩)
          refine WL.y rfl (Yd.lss rfl rfl) ?_
          refine WL.nil ?_
          refine DN.then_normal ?_
          refine WC.ite rfl (fun h77 => ?_) (fun h77 => ?_)
          · have hlt9 : e9.toNat < (ep % 9#32).toNat := by omega
            have h91 : (e9 + 1#32).toNat = e9.toNat + 1 := by
              rw [BitVec.toNat_add]
              show (e9.toNat + 1) % 4294967296 = _
              omega
            refine WC.skip ?_
            refine DN.then_normal ?_
            refine WC.seq ?_
            refine WC.block ?_
            refine WC.cutK (fun z : Unit => True) (fun z : Unit => [(12, .int .i64 72)]) (fun z : Unit => row b7 [.int .u32 (ep % 9#32).toNat, .slice so s.ks.length sc] 25 :: (DS ++ (row p [.int .u32 s.e.toNat, .slice lo s.ks.length lc, vd, vt, vo, .bool false] 50 :: (CF ++ (Cd ++ (Ct ++ (Dt ++ (Co ++ H)))))))) ?_ ?_
            · refine WC.draw 12 kr_ rfl ?_
              refine WA.y (i := 1) (NoPanic.then (NoPanic.block (NoPanic.then (NoPanic.then (NoPanic.block (NoPanic.then (NoPanic.body))))))) rfl kr_ kr_ kr_ rfl (Yd.move rfl) ?_
              refine WA.three (i := 0) (j := 2) (k := 8) kr_ ?_ ?_ ?_
              · refine WO.h rfl Wt.none rfl (Hd.loadAll (n := 2) kr_ rfl mem_ (by rfl) ⟨_, rfl, ?_⟩)
                refine WA.two (i := 2) (j := 8) kr_ ?_ ?_
                · refine WO.c rfl Wt.none rfl (Ent.func Try.call23 rfl) (step_tells e9 1#32 0 false [120#8]) (Sp.p sp_) ?_
                  rintro x1 H1 ⟨bd1, cd1, blk1, rfl, hbk1, rfl⟩
                  refine WA.two (i := 3) (j := 8) kr_ ?_ ?_
                  · refine WO.c rfl Wt.none rfl (Ent.func Try.call24 rfl) (ask_tells (ep % 9#32) (.slice so s.ks.length sc) s.ks (blk1 :: DS) (hSF.kv.mono gr_) (by omega) (stepN e9 1#32 0 false [120#8]) (.slice none 0 0) _ (Bs_nil _) (hbk1.mono gr_)) (Sp.p sp_) ?_
                    rintro xa1 Ha1 ⟨wa1, wr1, A1, B1, rfl, hA1, hB1, rfl⟩
                    rw [fe_ask hck h90 hlt9] at hA1 hB1 ⊢
                    obtain ⟨oa1, ca1, rfl, _⟩ := hA1.form
                    obtain ⟨or1, cr1, rfl, _⟩ := hB1.form
                    refine WA.y (i := 4) (NoPanic.then (NoPanic.block (NoPanic.then (NoPanic.then (NoPanic.block (NoPanic.then (NoPanic.body))))))) rfl kr_ kr_ kr_ rfl (Yd.move rfl) ?_
                    refine WA.y (i := 5) (NoPanic.then (NoPanic.block (NoPanic.then (NoPanic.then (NoPanic.block (NoPanic.then (NoPanic.body))))))) rfl kr_ kr_ kr_ rfl (Yd.extract rfl rfl) ?_
                    refine WA.y (i := 6) (NoPanic.then (NoPanic.block (NoPanic.then (NoPanic.then (NoPanic.block (NoPanic.then (NoPanic.body))))))) rfl kr_ kr_ kr_ rfl (Yd.extract rfl rfl) ?_
                    refine WA.y (i := 7) (NoPanic.then (NoPanic.block (NoPanic.then (NoPanic.then (NoPanic.block (NoPanic.then (NoPanic.body))))))) rfl kr_ kr_ kr_ rfl (Yd.extract rfl rfl) ?_
                    refine WA.one (i := 8) kr_ ?_
                    refine WO.h rfl Wt.none rfl (Hd.alloc (zs := [.int .u32 0, .int .i64 0, .bool false, .slice none 0 0, .int .i64 0, .slice none 0 0]) kr_ fun b11 => ⟨_, rfl, ?_⟩)
                    refine WA.y (i := 9) (NoPanic.then (NoPanic.block (NoPanic.then (NoPanic.then (NoPanic.block (NoPanic.then (NoPanic.body))))))) rfl kr_ kr_ kr_ rfl (Yd.assign rfl) ?_
                    refine WA.one (i := 10) kr_ ?_
                    refine WO.s rfl Wt.none (Hd.storeAll (n := 6) kr_ rfl rfl (by rfl) (kc_one rfl rfl) fr_ (by rfl) ⟨rfl, ?_⟩)
                    refine WA.y (i := 11) (NoPanic.then (NoPanic.block (NoPanic.then (NoPanic.then (NoPanic.block (NoPanic.then (NoPanic.body))))))) rfl kr_ kr_ kr_ rfl (Yd.assign rfl) ?_
                    refine WA.done kr_ ?_
                    exact DN.reachS (()) (trivial) (Sx.put rfl (sx_)) sp_
                  · refine WO.h rfl Wt.none rfl (Hd.alloc (zs := [.int .u32 0, .int .i64 0, .bool false, .slice none 0 0, .int .i64 0, .slice none 0 0]) kr_ fun b11 => ⟨_, rfl, ?_⟩)
                    refine WA.one (i := 3) kr_ ?_
                    refine WO.c rfl Wt.none rfl (Ent.func Try.call24 rfl) (ask_tells (ep % 9#32) (.slice so s.ks.length sc) s.ks (blk1 :: DS) (hSF.kv.mono gr_) (by omega) (stepN e9 1#32 0 false [120#8]) (.slice none 0 0) _ (Bs_nil _) (hbk1.mono gr_)) (Sp.p sp_) ?_
                    rintro xa1 Ha1 ⟨wa1, wr1, A1, B1, rfl, hA1, hB1, rfl⟩
                    rw [fe_ask hck h90 hlt9] at hA1 hB1 ⊢
                    obtain ⟨oa1, ca1, rfl, _⟩ := hA1.form
                    obtain ⟨or1, cr1, rfl, _⟩ := hB1.form
                    refine WA.y (i := 4) (NoPanic.then (NoPanic.block (NoPanic.then (NoPanic.then (NoPanic.block (NoPanic.then (NoPanic.body))))))) rfl kr_ kr_ kr_ rfl (Yd.move rfl) ?_
                    refine WA.y (i := 5) (NoPanic.then (NoPanic.block (NoPanic.then (NoPanic.then (NoPanic.block (NoPanic.then (NoPanic.body))))))) rfl kr_ kr_ kr_ rfl (Yd.extract rfl rfl) ?_
                    refine WA.y (i := 6) (NoPanic.then (NoPanic.block (NoPanic.then (NoPanic.then (NoPanic.block (NoPanic.then (NoPanic.body))))))) rfl kr_ kr_ kr_ rfl (Yd.extract rfl rfl) ?_
                    refine WA.y (i := 7) (NoPanic.then (NoPanic.block (NoPanic.then (NoPanic.then (NoPanic.block (NoPanic.then (NoPanic.body))))))) rfl kr_ kr_ kr_ rfl (Yd.extract rfl rfl) ?_
                    refine WA.y (i := 9) (NoPanic.then (NoPanic.block (NoPanic.then (NoPanic.then (NoPanic.block (NoPanic.then (NoPanic.body))))))) rfl kr_ kr_ kr_ rfl (Yd.assign rfl) ?_
                    refine WA.one (i := 10) kr_ ?_
                    refine WO.s rfl Wt.none (Hd.storeAll (n := 6) kr_ rfl rfl (by rfl) (kc_one rfl rfl) fr_ (by rfl) ⟨rfl, ?_⟩)
                    refine WA.y (i := 11) (NoPanic.then (NoPanic.block (NoPanic.then (NoPanic.then (NoPanic.block (NoPanic.then (NoPanic.body))))))) rfl kr_ kr_ kr_ rfl (Yd.assign rfl) ?_
                    refine WA.done kr_ ?_
                    exact DN.reachS (()) (trivial) (Sx.put rfl (sx_)) sp_
                · refine WO.h rfl Wt.none rfl (Hd.alloc (zs := [.int .u32 0, .int .i64 0, .bool false, .slice none 0 0, .int .i64 0, .slice none 0 0]) kr_ fun b11 => ⟨_, rfl, ?_⟩)
                  refine WA.one (i := 2) kr_ ?_
                  refine WO.c rfl Wt.none rfl (Ent.func Try.call23 rfl) (step_tells e9 1#32 0 false [120#8]) (Sp.p sp_) ?_
                  rintro x1 H1 ⟨bd1, cd1, blk1, rfl, hbk1, rfl⟩
                  refine WA.one (i := 3) kr_ ?_
                  refine WO.c rfl Wt.none rfl (Ent.func Try.call24 rfl) (ask_tells (ep % 9#32) (.slice so s.ks.length sc) s.ks (blk1 :: DS) (hSF.kv.mono gr_) (by omega) (stepN e9 1#32 0 false [120#8]) (.slice none 0 0) _ (Bs_nil _) (hbk1.mono gr_)) (Sp.p sp_) ?_
                  rintro xa1 Ha1 ⟨wa1, wr1, A1, B1, rfl, hA1, hB1, rfl⟩
                  rw [fe_ask hck h90 hlt9] at hA1 hB1 ⊢
                  obtain ⟨oa1, ca1, rfl, _⟩ := hA1.form
                  obtain ⟨or1, cr1, rfl, _⟩ := hB1.form
                  refine WA.y (i := 4) (NoPanic.then (NoPanic.block (NoPanic.then (NoPanic.then (NoPanic.block (NoPanic.then (NoPanic.body))))))) rfl kr_ kr_ kr_ rfl (Yd.move rfl) ?_
                  refine WA.y (i := 5) (NoPanic.then (NoPanic.block (NoPanic.then (NoPanic.then (NoPanic.block (NoPanic.then (NoPanic.body))))))) rfl kr_ kr_ kr_ rfl (Yd.extract rfl rfl) ?_
                  refine WA.y (i := 6) (NoPanic.then (NoPanic.block (NoPanic.then (NoPanic.then (NoPanic.block (NoPanic.then (NoPanic.body))))))) rfl kr_ kr_ kr_ rfl (Yd.extract rfl rfl) ?_
                  refine WA.y (i := 7) (NoPanic.then (NoPanic.block (NoPanic.then (NoPanic.then (NoPanic.block (NoPanic.then (NoPanic.body))))))) rfl kr_ kr_ kr_ rfl (Yd.extract rfl rfl) ?_
                  refine WA.y (i := 9) (NoPanic.then (NoPanic.block (NoPanic.then (NoPanic.then (NoPanic.block (NoPanic.then (NoPanic.body))))))) rfl kr_ kr_ kr_ rfl (Yd.assign rfl) ?_
                  refine WA.one (i := 10) kr_ ?_
                  refine WO.s rfl Wt.none (Hd.storeAll (n := 6) kr_ rfl rfl (by rfl) (kc_one rfl rfl) fr_ (by rfl) ⟨rfl, ?_⟩)
                  refine WA.y (i := 11) (NoPanic.then (NoPanic.block (NoPanic.then (NoPanic.then (NoPanic.block (NoPanic.then (NoPanic.body))))))) rfl kr_ kr_ kr_ rfl (Yd.assign rfl) ?_
                  refine WA.done kr_ ?_
                  exact DN.reachS (()) (trivial) (Sx.put rfl (sx_)) sp_
              · refine WO.c rfl Wt.none rfl (Ent.func Try.call23 rfl) (step_tells e9 1#32 0 false [120#8]) (Sp.p sp_) ?_
                rintro x1 H1 ⟨bd1, cd1, blk1, rfl, hbk1, rfl⟩
                refine WA.two (i := 0) (j := 8) kr_ ?_ ?_
                · refine WO.h rfl Wt.none rfl (Hd.loadAll (n := 2) kr_ rfl mem_ (by rfl) ⟨_, rfl, ?_⟩)
                  refine WA.two (i := 3) (j := 8) kr_ ?_ ?_
                  · refine WO.c rfl Wt.none rfl (Ent.func Try.call24 rfl) (ask_tells (ep % 9#32) (.slice so s.ks.length sc) s.ks (blk1 :: DS) (hSF.kv.mono gr_) (by omega) (stepN e9 1#32 0 false [120#8]) (.slice none 0 0) _ (Bs_nil _) (hbk1.mono gr_)) (Sp.p sp_) ?_
                    rintro xa1 Ha1 ⟨wa1, wr1, A1, B1, rfl, hA1, hB1, rfl⟩
                    rw [fe_ask hck h90 hlt9] at hA1 hB1 ⊢
                    obtain ⟨oa1, ca1, rfl, _⟩ := hA1.form
                    obtain ⟨or1, cr1, rfl, _⟩ := hB1.form
                    refine WA.y (i := 4) (NoPanic.then (NoPanic.block (NoPanic.then (NoPanic.then (NoPanic.block (NoPanic.then (NoPanic.body))))))) rfl kr_ kr_ kr_ rfl (Yd.move rfl) ?_
                    refine WA.y (i := 5) (NoPanic.then (NoPanic.block (NoPanic.then (NoPanic.then (NoPanic.block (NoPanic.then (NoPanic.body))))))) rfl kr_ kr_ kr_ rfl (Yd.extract rfl rfl) ?_
                    refine WA.y (i := 6) (NoPanic.then (NoPanic.block (NoPanic.then (NoPanic.then (NoPanic.block (NoPanic.then (NoPanic.body))))))) rfl kr_ kr_ kr_ rfl (Yd.extract rfl rfl) ?_
                    refine WA.y (i := 7) (NoPanic.then (NoPanic.block (NoPanic.then (NoPanic.then (NoPanic.block (NoPanic.then (NoPanic.body))))))) rfl kr_ kr_ kr_ rfl (Yd.extract rfl rfl) ?_
                    refine WA.one (i := 8) kr_ ?_
                    refine WO.h rfl Wt.none rfl (Hd.alloc (zs := [.int .u32 0, .int .i64 0, .bool false, .slice none 0 0, .int .i64 0, .slice none 0 0]) kr_ fun b11 => ⟨_, rfl, ?_⟩)
                    refine WA.y (i := 9) (NoPanic.then (NoPanic.block (NoPanic.then (NoPanic.then (NoPanic.block (NoPanic.then (NoPanic.body))))))) rfl kr_ kr_ kr_ rfl (Yd.assign rfl) ?_
                    refine WA.one (i := 10) kr_ ?_
                    refine WO.s rfl Wt.none (Hd.storeAll (n := 6) kr_ rfl rfl (by rfl) (kc_one rfl rfl) fr_ (by rfl) ⟨rfl, ?_⟩)
                    refine WA.y (i := 11) (NoPanic.then (NoPanic.block (NoPanic.then (NoPanic.then (NoPanic.block (NoPanic.then (NoPanic.body))))))) rfl kr_ kr_ kr_ rfl (Yd.assign rfl) ?_
                    refine WA.done kr_ ?_
                    exact DN.reachS (()) (trivial) (Sx.put rfl (sx_)) sp_
                  · refine WO.h rfl Wt.none rfl (Hd.alloc (zs := [.int .u32 0, .int .i64 0, .bool false, .slice none 0 0, .int .i64 0, .slice none 0 0]) kr_ fun b11 => ⟨_, rfl, ?_⟩)
                    refine WA.one (i := 3) kr_ ?_
                    refine WO.c rfl Wt.none rfl (Ent.func Try.call24 rfl) (ask_tells (ep % 9#32) (.slice so s.ks.length sc) s.ks (blk1 :: DS) (hSF.kv.mono gr_) (by omega) (stepN e9 1#32 0 false [120#8]) (.slice none 0 0) _ (Bs_nil _) (hbk1.mono gr_)) (Sp.p sp_) ?_
                    rintro xa1 Ha1 ⟨wa1, wr1, A1, B1, rfl, hA1, hB1, rfl⟩
                    rw [fe_ask hck h90 hlt9] at hA1 hB1 ⊢
                    obtain ⟨oa1, ca1, rfl, _⟩ := hA1.form
                    obtain ⟨or1, cr1, rfl, _⟩ := hB1.form
                    refine WA.y (i := 4) (NoPanic.then (NoPanic.block (NoPanic.then (NoPanic.then (NoPanic.block (NoPanic.then (NoPanic.body))))))) rfl kr_ kr_ kr_ rfl (Yd.move rfl) ?_
                    refine WA.y (i := 5) (NoPanic.then (NoPanic.block (NoPanic.then (NoPanic.then (NoPanic.block (NoPanic.then (NoPanic.body))))))) rfl kr_ kr_ kr_ rfl (Yd.extract rfl rfl) ?_
                    refine WA.y (i := 6) (NoPanic.then (NoPanic.block (NoPanic.then (NoPanic.then (NoPanic.block (NoPanic.then (NoPanic.body))))))) rfl kr_ kr_ kr_ rfl (Yd.extract rfl rfl) ?_
                    refine WA.y (i := 7) (NoPanic.then (NoPanic.block (NoPanic.then (NoPanic.then (NoPanic.block (NoPanic.then (NoPanic.body))))))) rfl kr_ kr_ kr_ rfl (Yd.extract rfl rfl) ?_
                    refine WA.y (i := 9) (NoPanic.then (NoPanic.block (NoPanic.then (NoPanic.then (NoPanic.block (NoPanic.then (NoPanic.body))))))) rfl kr_ kr_ kr_ rfl (Yd.assign rfl) ?_
                    refine WA.one (i := 10) kr_ ?_
                    refine WO.s rfl Wt.none (Hd.storeAll (n := 6) kr_ rfl rfl (by rfl) (kc_one rfl rfl) fr_ (by rfl) ⟨rfl, ?_⟩)
                    refine WA.y (i := 11) (NoPanic.then (NoPanic.block (NoPanic.then (NoPanic.then (NoPanic.block (NoPanic.then (NoPanic.body))))))) rfl kr_ kr_ kr_ rfl (Yd.assign rfl) ?_
                    refine WA.done kr_ ?_
                    exact DN.reachS (()) (trivial) (Sx.put rfl (sx_)) sp_
                · refine WO.h rfl Wt.none rfl (Hd.alloc (zs := [.int .u32 0, .int .i64 0, .bool false, .slice none 0 0, .int .i64 0, .slice none 0 0]) kr_ fun b11 => ⟨_, rfl, ?_⟩)
                  refine WA.one (i := 0) kr_ ?_
                  refine WO.h rfl Wt.none rfl (Hd.loadAll (n := 2) kr_ rfl mem_ (by rfl) ⟨_, rfl, ?_⟩)
                  refine WA.one (i := 3) kr_ ?_
                  refine WO.c rfl Wt.none rfl (Ent.func Try.call24 rfl) (ask_tells (ep % 9#32) (.slice so s.ks.length sc) s.ks (blk1 :: DS) (hSF.kv.mono gr_) (by omega) (stepN e9 1#32 0 false [120#8]) (.slice none 0 0) _ (Bs_nil _) (hbk1.mono gr_)) (Sp.p sp_) ?_
                  rintro xa1 Ha1 ⟨wa1, wr1, A1, B1, rfl, hA1, hB1, rfl⟩
                  rw [fe_ask hck h90 hlt9] at hA1 hB1 ⊢
                  obtain ⟨oa1, ca1, rfl, _⟩ := hA1.form
                  obtain ⟨or1, cr1, rfl, _⟩ := hB1.form
                  refine WA.y (i := 4) (NoPanic.then (NoPanic.block (NoPanic.then (NoPanic.then (NoPanic.block (NoPanic.then (NoPanic.body))))))) rfl kr_ kr_ kr_ rfl (Yd.move rfl) ?_
                  refine WA.y (i := 5) (NoPanic.then (NoPanic.block (NoPanic.then (NoPanic.then (NoPanic.block (NoPanic.then (NoPanic.body))))))) rfl kr_ kr_ kr_ rfl (Yd.extract rfl rfl) ?_
                  refine WA.y (i := 6) (NoPanic.then (NoPanic.block (NoPanic.then (NoPanic.then (NoPanic.block (NoPanic.then (NoPanic.body))))))) rfl kr_ kr_ kr_ rfl (Yd.extract rfl rfl) ?_
                  refine WA.y (i := 7) (NoPanic.then (NoPanic.block (NoPanic.then (NoPanic.then (NoPanic.block (NoPanic.then (NoPanic.body))))))) rfl kr_ kr_ kr_ rfl (Yd.extract rfl rfl) ?_
                  refine WA.y (i := 9) (NoPanic.then (NoPanic.block (NoPanic.then (NoPanic.then (NoPanic.block (NoPanic.then (NoPanic.body))))))) rfl kr_ kr_ kr_ rfl (Yd.assign rfl) ?_
                  refine WA.one (i := 10) kr_ ?_
                  refine WO.s rfl Wt.none (Hd.storeAll (n := 6) kr_ rfl rfl (by rfl) (kc_one rfl rfl) fr_ (by rfl) ⟨rfl, ?_⟩)
                  refine WA.y (i := 11) (NoPanic.then (NoPanic.block (NoPanic.then (NoPanic.then (NoPanic.block (NoPanic.then (NoPanic.body))))))) rfl kr_ kr_ kr_ rfl (Yd.assign rfl) ?_
                  refine WA.done kr_ ?_
                  exact DN.reachS (()) (trivial) (Sx.put rfl (sx_)) sp_
              · refine WO.h rfl Wt.none rfl (Hd.alloc (zs := [.int .u32 0, .int .i64 0, .bool false, .slice none 0 0, .int .i64 0, .slice none 0 0]) kr_ fun b11 => ⟨_, rfl, ?_⟩)
                refine WA.two (i := 0) (j := 2) kr_ ?_ ?_
                · refine WO.h rfl Wt.none rfl (Hd.loadAll (n := 2) kr_ rfl mem_ (by rfl) ⟨_, rfl, ?_⟩)
                  refine WA.one (i := 2) kr_ ?_
                  refine WO.c rfl Wt.none rfl (Ent.func Try.call23 rfl) (step_tells e9 1#32 0 false [120#8]) (Sp.p sp_) ?_
                  rintro x1 H1 ⟨bd1, cd1, blk1, rfl, hbk1, rfl⟩
                  refine WA.one (i := 3) kr_ ?_
                  refine WO.c rfl Wt.none rfl (Ent.func Try.call24 rfl) (ask_tells (ep % 9#32) (.slice so s.ks.length sc) s.ks (blk1 :: DS) (hSF.kv.mono gr_) (by omega) (stepN e9 1#32 0 false [120#8]) (.slice none 0 0) _ (Bs_nil _) (hbk1.mono gr_)) (Sp.p sp_) ?_
                  rintro xa1 Ha1 ⟨wa1, wr1, A1, B1, rfl, hA1, hB1, rfl⟩
                  rw [fe_ask hck h90 hlt9] at hA1 hB1 ⊢
                  obtain ⟨oa1, ca1, rfl, _⟩ := hA1.form
                  obtain ⟨or1, cr1, rfl, _⟩ := hB1.form
                  refine WA.y (i := 4) (NoPanic.then (NoPanic.block (NoPanic.then (NoPanic.then (NoPanic.block (NoPanic.then (NoPanic.body))))))) rfl kr_ kr_ kr_ rfl (Yd.move rfl) ?_
                  refine WA.y (i := 5) (NoPanic.then (NoPanic.block (NoPanic.then (NoPanic.then (NoPanic.block (NoPanic.then (NoPanic.body))))))) rfl kr_ kr_ kr_ rfl (Yd.extract rfl rfl) ?_
                  refine WA.y (i := 6) (NoPanic.then (NoPanic.block (NoPanic.then (NoPanic.then (NoPanic.block (NoPanic.then (NoPanic.body))))))) rfl kr_ kr_ kr_ rfl (Yd.extract rfl rfl) ?_
                  refine WA.y (i := 7) (NoPanic.then (NoPanic.block (NoPanic.then (NoPanic.then (NoPanic.block (NoPanic.then (NoPanic.body))))))) rfl kr_ kr_ kr_ rfl (Yd.extract rfl rfl) ?_
                  refine WA.y (i := 9) (NoPanic.then (NoPanic.block (NoPanic.then (NoPanic.then (NoPanic.block (NoPanic.then (NoPanic.body))))))) rfl kr_ kr_ kr_ rfl (Yd.assign rfl) ?_
                  refine WA.one (i := 10) kr_ ?_
                  refine WO.s rfl Wt.none (Hd.storeAll (n := 6) kr_ rfl rfl (by rfl) (kc_one rfl rfl) fr_ (by rfl) ⟨rfl, ?_⟩)
                  refine WA.y (i := 11) (NoPanic.then (NoPanic.block (NoPanic.then (NoPanic.then (NoPanic.block (NoPanic.then (NoPanic.body))))))) rfl kr_ kr_ kr_ rfl (Yd.assign rfl) ?_
                  refine WA.done kr_ ?_
                  exact DN.reachS (()) (trivial) (Sx.put rfl (sx_)) sp_
                · refine WO.c rfl Wt.none rfl (Ent.func Try.call23 rfl) (step_tells e9 1#32 0 false [120#8]) (Sp.p sp_) ?_
                  rintro x1 H1 ⟨bd1, cd1, blk1, rfl, hbk1, rfl⟩
                  refine WA.one (i := 0) kr_ ?_
                  refine WO.h rfl Wt.none rfl (Hd.loadAll (n := 2) kr_ rfl mem_ (by rfl) ⟨_, rfl, ?_⟩)
                  refine WA.one (i := 3) kr_ ?_
                  refine WO.c rfl Wt.none rfl (Ent.func Try.call24 rfl) (ask_tells (ep % 9#32) (.slice so s.ks.length sc) s.ks (blk1 :: DS) (hSF.kv.mono gr_) (by omega) (stepN e9 1#32 0 false [120#8]) (.slice none 0 0) _ (Bs_nil _) (hbk1.mono gr_)) (Sp.p sp_) ?_
                  rintro xa1 Ha1 ⟨wa1, wr1, A1, B1, rfl, hA1, hB1, rfl⟩
                  rw [fe_ask hck h90 hlt9] at hA1 hB1 ⊢
                  obtain ⟨oa1, ca1, rfl, _⟩ := hA1.form
                  obtain ⟨or1, cr1, rfl, _⟩ := hB1.form
                  refine WA.y (i := 4) (NoPanic.then (NoPanic.block (NoPanic.then (NoPanic.then (NoPanic.block (NoPanic.then (NoPanic.body))))))) rfl kr_ kr_ kr_ rfl (Yd.move rfl) ?_
                  refine WA.y (i := 5) (NoPanic.then (NoPanic.block (NoPanic.then (NoPanic.then (NoPanic.block (NoPanic.then (NoPanic.body))))))) rfl kr_ kr_ kr_ rfl (Yd.extract rfl rfl) ?_
                  refine WA.y (i := 6) (NoPanic.then (NoPanic.block (NoPanic.then (NoPanic.then (NoPanic.block (NoPanic.then (NoPanic.body))))))) rfl kr_ kr_ kr_ rfl (Yd.extract rfl rfl) ?_
                  refine WA.y (i := 7) (NoPanic.then (NoPanic.block (NoPanic.then (NoPanic.then (NoPanic.block (NoPanic.then (NoPanic.body))))))) rfl kr_ kr_ kr_ rfl (Yd.extract rfl rfl) ?_
                  refine WA.y (i := 9) (NoPanic.then (NoPanic.block (NoPanic.then (NoPanic.then (NoPanic.block (NoPanic.then (NoPanic.body))))))) rfl kr_ kr_ kr_ rfl (Yd.assign rfl) ?_
                  refine WA.one (i := 10) kr_ ?_
                  refine WO.s rfl Wt.none (Hd.storeAll (n := 6) kr_ rfl rfl (by rfl) (kc_one rfl rfl) fr_ (by rfl) ⟨rfl, ?_⟩)
                  refine WA.y (i := 11) (NoPanic.then (NoPanic.block (NoPanic.then (NoPanic.then (NoPanic.block (NoPanic.then (NoPanic.body))))))) rfl kr_ kr_ kr_ rfl (Yd.assign rfl) ?_
                  refine WA.done kr_ ?_
                  exact DN.reachS (()) (trivial) (Sx.put rfl (sx_)) sp_
            · intro z hz
              refine WC.cutK (fun z : Unit => True) (fun z : Unit => [(14, .int .i64 72)]) (fun z : Unit => row b7 [.int .u32 (ep % 9#32).toNat, .slice so s.ks.length sc] 25 :: (DS ++ (row p [.int .u32 s.e.toNat, .slice lo s.ks.length lc, vd, vt, vo, .bool false] 50 :: (CF ++ (Cd ++ (Ct ++ (Dt ++ (Co ++ H)))))))) ?_ ?_
              · refine WC.draw 10 kr_ rfl ?_
                refine WA.y (i := 1) (NoPanic.then (NoPanic.block (NoPanic.then (NoPanic.then (NoPanic.block (NoPanic.then (NoPanic.body))))))) rfl kr_ kr_ kr_ rfl (Yd.move rfl) ?_
                refine WA.three (i := 0) (j := 2) (k := 7) kr_ ?_ ?_ ?_
                · refine WO.h rfl Wt.none rfl (Hd.loadAll (n := 2) kr_ rfl mem_ (by rfl) ⟨_, rfl, ?_⟩)
                  refine WA.two (i := 2) (j := 7) kr_ ?_ ?_
                  · refine WO.c rfl Wt.none rfl (Ent.func Try.call23 rfl) (step_tells e9 3#32 2 true []) (Sp.p sp_) ?_
                    rintro x2 H2 ⟨bd2, cd2, blk2, rfl, hbk2, rfl⟩
                    refine WA.two (i := 3) (j := 7) kr_ ?_ ?_
                    · refine WO.c rfl Wt.none rfl (Ent.func Try.call15 rfl) (keep_tells (ep % 9#32) (.slice so s.ks.length sc) s.ks (blk2 :: DS) (hSF.kv.mono gr_) (by omega) (stepN e9 3#32 2 true []) (.slice none 0 0) _ (Bs_nil _) (hbk2.mono gr_) 1 (.slice none 0 0) [] (Bs_nil _)) (Sp.p sp_) ?_
                      rintro xa2 Ha2 ⟨w2, D2, rfl, hF2, rfl⟩
                      rw [fe_keep hck h90 hlt9] at hF2 ⊢
                      obtain ⟨wo2, wc2, rfl⟩ := hF2.form
                      refine WA.y (i := 4) (NoPanic.then (NoPanic.block (NoPanic.then (NoPanic.then (NoPanic.block (NoPanic.then (NoPanic.body))))))) rfl kr_ kr_ kr_ rfl (Yd.move rfl) ?_
                      refine WA.y (i := 5) (NoPanic.then (NoPanic.block (NoPanic.then (NoPanic.then (NoPanic.block (NoPanic.then (NoPanic.body))))))) rfl kr_ kr_ kr_ rfl (Yd.extract rfl rfl) ?_
                      refine WA.y (i := 6) (NoPanic.then (NoPanic.block (NoPanic.then (NoPanic.then (NoPanic.block (NoPanic.then (NoPanic.body))))))) rfl kr_ kr_ kr_ rfl (Yd.extract rfl rfl) ?_
                      refine WA.one (i := 7) kr_ ?_
                      refine WO.h rfl Wt.none rfl (Hd.alloc (zs := [.int .u32 0, .slice none 0 0]) kr_ fun b13 => ⟨_, rfl, ?_⟩)
                      refine WA.one (i := 8) kr_ ?_
                      refine WO.s rfl Wt.none (Hd.storeAll (n := 2) kr_ rfl rfl (by rfl) one_ fr_ (by rfl) ⟨rfl, ?_⟩)
                      refine WA.y (i := 9) (NoPanic.then (NoPanic.block (NoPanic.then (NoPanic.then (NoPanic.block (NoPanic.then (NoPanic.body))))))) rfl kr_ kr_ kr_ rfl (Yd.assign rfl) ?_
                      refine WA.done kr_ ?_
                      exact DN.reachS (()) (trivial) (Sx.put rfl (sx_)) sp_
                    · refine WO.h rfl Wt.none rfl (Hd.alloc (zs := [.int .u32 0, .slice none 0 0]) kr_ fun b13 => ⟨_, rfl, ?_⟩)
                      refine WA.one (i := 3) kr_ ?_
                      refine WO.c rfl Wt.none rfl (Ent.func Try.call15 rfl) (keep_tells (ep % 9#32) (.slice so s.ks.length sc) s.ks (blk2 :: DS) (hSF.kv.mono gr_) (by omega) (stepN e9 3#32 2 true []) (.slice none 0 0) _ (Bs_nil _) (hbk2.mono gr_) 1 (.slice none 0 0) [] (Bs_nil _)) (Sp.p sp_) ?_
                      rintro xa2 Ha2 ⟨w2, D2, rfl, hF2, rfl⟩
                      rw [fe_keep hck h90 hlt9] at hF2 ⊢
                      obtain ⟨wo2, wc2, rfl⟩ := hF2.form
                      refine WA.y (i := 4) (NoPanic.then (NoPanic.block (NoPanic.then (NoPanic.then (NoPanic.block (NoPanic.then (NoPanic.body))))))) rfl kr_ kr_ kr_ rfl (Yd.move rfl) ?_
                      refine WA.y (i := 5) (NoPanic.then (NoPanic.block (NoPanic.then (NoPanic.then (NoPanic.block (NoPanic.then (NoPanic.body))))))) rfl kr_ kr_ kr_ rfl (Yd.extract rfl rfl) ?_
                      refine WA.y (i := 6) (NoPanic.then (NoPanic.block (NoPanic.then (NoPanic.then (NoPanic.block (NoPanic.then (NoPanic.body))))))) rfl kr_ kr_ kr_ rfl (Yd.extract rfl rfl) ?_
                      refine WA.one (i := 8) kr_ ?_
                      refine WO.s rfl Wt.none (Hd.storeAll (n := 2) kr_ rfl rfl (by rfl) one_ fr_ (by rfl) ⟨rfl, ?_⟩)
                      refine WA.y (i := 9) (NoPanic.then (NoPanic.block (NoPanic.then (NoPanic.then (NoPanic.block (NoPanic.then (NoPanic.body))))))) rfl kr_ kr_ kr_ rfl (Yd.assign rfl) ?_
                      refine WA.done kr_ ?_
                      exact DN.reachS (()) (trivial) (Sx.put rfl (sx_)) sp_
                  · refine WO.h rfl Wt.none rfl (Hd.alloc (zs := [.int .u32 0, .slice none 0 0]) kr_ fun b13 => ⟨_, rfl, ?_⟩)
                    refine WA.one (i := 2) kr_ ?_
                    refine WO.c rfl Wt.none rfl (Ent.func Try.call23 rfl) (step_tells e9 3#32 2 true []) (Sp.p sp_) ?_
                    rintro x2 H2 ⟨bd2, cd2, blk2, rfl, hbk2, rfl⟩
                    refine WA.one (i := 3) kr_ ?_
                    refine WO.c rfl Wt.none rfl (Ent.func Try.call15 rfl) (keep_tells (ep % 9#32) (.slice so s.ks.length sc) s.ks (blk2 :: DS) (hSF.kv.mono gr_) (by omega) (stepN e9 3#32 2 true []) (.slice none 0 0) _ (Bs_nil _) (hbk2.mono gr_) 1 (.slice none 0 0) [] (Bs_nil _)) (Sp.p sp_) ?_
                    rintro xa2 Ha2 ⟨w2, D2, rfl, hF2, rfl⟩
                    rw [fe_keep hck h90 hlt9] at hF2 ⊢
                    obtain ⟨wo2, wc2, rfl⟩ := hF2.form
                    refine WA.y (i := 4) (NoPanic.then (NoPanic.block (NoPanic.then (NoPanic.then (NoPanic.block (NoPanic.then (NoPanic.body))))))) rfl kr_ kr_ kr_ rfl (Yd.move rfl) ?_
                    refine WA.y (i := 5) (NoPanic.then (NoPanic.block (NoPanic.then (NoPanic.then (NoPanic.block (NoPanic.then (NoPanic.body))))))) rfl kr_ kr_ kr_ rfl (Yd.extract rfl rfl) ?_
                    refine WA.y (i := 6) (NoPanic.then (NoPanic.block (NoPanic.then (NoPanic.then (NoPanic.block (NoPanic.then (NoPanic.body))))))) rfl kr_ kr_ kr_ rfl (Yd.extract rfl rfl) ?_
                    refine WA.one (i := 8) kr_ ?_
                    refine WO.s rfl Wt.none (Hd.storeAll (n := 2) kr_ rfl rfl (by rfl) one_ fr_ (by rfl) ⟨rfl, ?_⟩)
                    refine WA.y (i := 9) (NoPanic.then (NoPanic.block (NoPanic.then (NoPanic.then (NoPanic.block (NoPanic.then (NoPanic.body))))))) rfl kr_ kr_ kr_ rfl (Yd.assign rfl) ?_
                    refine WA.done kr_ ?_
                    exact DN.reachS (()) (trivial) (Sx.put rfl (sx_)) sp_
                · refine WO.c rfl Wt.none rfl (Ent.func Try.call23 rfl) (step_tells e9 3#32 2 true []) (Sp.p sp_) ?_
                  rintro x2 H2 ⟨bd2, cd2, blk2, rfl, hbk2, rfl⟩
                  refine WA.two (i := 0) (j := 7) kr_ ?_ ?_
                  · refine WO.h rfl Wt.none rfl (Hd.loadAll (n := 2) kr_ rfl mem_ (by rfl) ⟨_, rfl, ?_⟩)
                    refine WA.two (i := 3) (j := 7) kr_ ?_ ?_
                    · refine WO.c rfl Wt.none rfl (Ent.func Try.call15 rfl) (keep_tells (ep % 9#32) (.slice so s.ks.length sc) s.ks (blk2 :: DS) (hSF.kv.mono gr_) (by omega) (stepN e9 3#32 2 true []) (.slice none 0 0) _ (Bs_nil _) (hbk2.mono gr_) 1 (.slice none 0 0) [] (Bs_nil _)) (Sp.p sp_) ?_
                      rintro xa2 Ha2 ⟨w2, D2, rfl, hF2, rfl⟩
                      rw [fe_keep hck h90 hlt9] at hF2 ⊢
                      obtain ⟨wo2, wc2, rfl⟩ := hF2.form
                      refine WA.y (i := 4) (NoPanic.then (NoPanic.block (NoPanic.then (NoPanic.then (NoPanic.block (NoPanic.then (NoPanic.body))))))) rfl kr_ kr_ kr_ rfl (Yd.move rfl) ?_
                      refine WA.y (i := 5) (NoPanic.then (NoPanic.block (NoPanic.then (NoPanic.then (NoPanic.block (NoPanic.then (NoPanic.body))))))) rfl kr_ kr_ kr_ rfl (Yd.extract rfl rfl) ?_
                      refine WA.y (i := 6) (NoPanic.then (NoPanic.block (NoPanic.then (NoPanic.then (NoPanic.block (NoPanic.then (NoPanic.body))))))) rfl kr_ kr_ kr_ rfl (Yd.extract rfl rfl) ?_
                      refine WA.one (i := 7) kr_ ?_
                      refine WO.h rfl Wt.none rfl (Hd.alloc (zs := [.int .u32 0, .slice none 0 0]) kr_ fun b13 => ⟨_, rfl, ?_⟩)
                      refine WA.one (i := 8) kr_ ?_
                      refine WO.s rfl Wt.none (Hd.storeAll (n := 2) kr_ rfl rfl (by rfl) one_ fr_ (by rfl) ⟨rfl, ?_⟩)
                      refine WA.y (i := 9) (NoPanic.then (NoPanic.block (NoPanic.then (NoPanic.then (NoPanic.block (NoPanic.then (NoPanic.body))))))) rfl kr_ kr_ kr_ rfl (Yd.assign rfl) ?_
                      refine WA.done kr_ ?_
                      exact DN.reachS (()) (trivial) (Sx.put rfl (sx_)) sp_
                    · refine WO.h rfl Wt.none rfl (Hd.alloc (zs := [.int .u32 0, .slice none 0 0]) kr_ fun b13 => ⟨_, rfl, ?_⟩)
                      refine WA.one (i := 3) kr_ ?_
                      refine WO.c rfl Wt.none rfl (Ent.func Try.call15 rfl) (keep_tells (ep % 9#32) (.slice so s.ks.length sc) s.ks (blk2 :: DS) (hSF.kv.mono gr_) (by omega) (stepN e9 3#32 2 true []) (.slice none 0 0) _ (Bs_nil _) (hbk2.mono gr_) 1 (.slice none 0 0) [] (Bs_nil _)) (Sp.p sp_) ?_
                      rintro xa2 Ha2 ⟨w2, D2, rfl, hF2, rfl⟩
                      rw [fe_keep hck h90 hlt9] at hF2 ⊢
                      obtain ⟨wo2, wc2, rfl⟩ := hF2.form
                      refine WA.y (i := 4) (NoPanic.then (NoPanic.block (NoPanic.then (NoPanic.then (NoPanic.block (NoPanic.then (NoPanic.body))))))) rfl kr_ kr_ kr_ rfl (Yd.move rfl) ?_
                      refine WA.y (i := 5) (NoPanic.then (NoPanic.block (NoPanic.then (NoPanic.then (NoPanic.block (NoPanic.then (NoPanic.body))))))) rfl kr_ kr_ kr_ rfl (Yd.extract rfl rfl) ?_
                      refine WA.y (i := 6) (NoPanic.then (NoPanic.block (NoPanic.then (NoPanic.then (NoPanic.block (NoPanic.then (NoPanic.body))))))) rfl kr_ kr_ kr_ rfl (Yd.extract rfl rfl) ?_
                      refine WA.one (i := 8) kr_ ?_
                      refine WO.s rfl Wt.none (Hd.storeAll (n := 2) kr_ rfl rfl (by rfl) one_ fr_ (by rfl) ⟨rfl, ?_⟩)
                      refine WA.y (i := 9) (NoPanic.then (NoPanic.block (NoPanic.then (NoPanic.then (NoPanic.block (NoPanic.then (NoPanic.body))))))) rfl kr_ kr_ kr_ rfl (Yd.assign rfl) ?_
                      refine WA.done kr_ ?_
                      exact DN.reachS (()) (trivial) (Sx.put rfl (sx_)) sp_
                  · refine WO.h rfl Wt.none rfl (Hd.alloc (zs := [.int .u32 0, .slice none 0 0]) kr_ fun b13 => ⟨_, rfl, ?_⟩)
                    refine WA.one (i := 0) kr_ ?_
                    refine WO.h rfl Wt.none rfl (Hd.loadAll (n := 2) kr_ rfl mem_ (by rfl) ⟨_, rfl, ?_⟩)
                    refine WA.one (i := 3) kr_ ?_
                    refine WO.c rfl Wt.none rfl (Ent.func Try.call15 rfl) (keep_tells (ep % 9#32) (.slice so s.ks.length sc) s.ks (blk2 :: DS) (hSF.kv.mono gr_) (by omega) (stepN e9 3#32 2 true []) (.slice none 0 0) _ (Bs_nil _) (hbk2.mono gr_) 1 (.slice none 0 0) [] (Bs_nil _)) (Sp.p sp_) ?_
                    rintro xa2 Ha2 ⟨w2, D2, rfl, hF2, rfl⟩
                    rw [fe_keep hck h90 hlt9] at hF2 ⊢
                    obtain ⟨wo2, wc2, rfl⟩ := hF2.form
                    refine WA.y (i := 4) (NoPanic.then (NoPanic.block (NoPanic.then (NoPanic.then (NoPanic.block (NoPanic.then (NoPanic.body))))))) rfl kr_ kr_ kr_ rfl (Yd.move rfl) ?_
                    refine WA.y (i := 5) (NoPanic.then (NoPanic.block (NoPanic.then (NoPanic.then (NoPanic.block (NoPanic.then (NoPanic.body))))))) rfl kr_ kr_ kr_ rfl (Yd.extract rfl rfl) ?_
                    refine WA.y (i := 6) (NoPanic.then (NoPanic.block (NoPanic.then (NoPanic.then (NoPanic.block (NoPanic.then (NoPanic.body))))))) rfl kr_ kr_ kr_ rfl (Yd.extract rfl rfl) ?_
                    refine WA.one (i := 8) kr_ ?_
                    refine WO.s rfl Wt.none (Hd.storeAll (n := 2) kr_ rfl rfl (by rfl) one_ fr_ (by rfl) ⟨rfl, ?_⟩)
                    refine WA.y (i := 9) (NoPanic.then (NoPanic.block (NoPanic.then (NoPanic.then (NoPanic.block (NoPanic.then (NoPanic.body))))))) rfl kr_ kr_ kr_ rfl (Yd.assign rfl) ?_
                    refine WA.done kr_ ?_
                    exact DN.reachS (()) (trivial) (Sx.put rfl (sx_)) sp_
                · refine WO.h rfl Wt.none rfl (Hd.alloc (zs := [.int .u32 0, .slice none 0 0]) kr_ fun b13 => ⟨_, rfl, ?_⟩)
                  refine WA.two (i := 0) (j := 2) kr_ ?_ ?_
                  · refine WO.h rfl Wt.none rfl (Hd.loadAll (n := 2) kr_ rfl mem_ (by rfl) ⟨_, rfl, ?_⟩)
                    refine WA.one (i := 2) kr_ ?_
                    refine WO.c rfl Wt.none rfl (Ent.func Try.call23 rfl) (step_tells e9 3#32 2 true []) (Sp.p sp_) ?_
                    rintro x2 H2 ⟨bd2, cd2, blk2, rfl, hbk2, rfl⟩
                    refine WA.one (i := 3) kr_ ?_
                    refine WO.c rfl Wt.none rfl (Ent.func Try.call15 rfl) (keep_tells (ep % 9#32) (.slice so s.ks.length sc) s.ks (blk2 :: DS) (hSF.kv.mono gr_) (by omega) (stepN e9 3#32 2 true []) (.slice none 0 0) _ (Bs_nil _) (hbk2.mono gr_) 1 (.slice none 0 0) [] (Bs_nil _)) (Sp.p sp_) ?_
                    rintro xa2 Ha2 ⟨w2, D2, rfl, hF2, rfl⟩
                    rw [fe_keep hck h90 hlt9] at hF2 ⊢
                    obtain ⟨wo2, wc2, rfl⟩ := hF2.form
                    refine WA.y (i := 4) (NoPanic.then (NoPanic.block (NoPanic.then (NoPanic.then (NoPanic.block (NoPanic.then (NoPanic.body))))))) rfl kr_ kr_ kr_ rfl (Yd.move rfl) ?_
                    refine WA.y (i := 5) (NoPanic.then (NoPanic.block (NoPanic.then (NoPanic.then (NoPanic.block (NoPanic.then (NoPanic.body))))))) rfl kr_ kr_ kr_ rfl (Yd.extract rfl rfl) ?_
                    refine WA.y (i := 6) (NoPanic.then (NoPanic.block (NoPanic.then (NoPanic.then (NoPanic.block (NoPanic.then (NoPanic.body))))))) rfl kr_ kr_ kr_ rfl (Yd.extract rfl rfl) ?_
                    refine WA.one (i := 8) kr_ ?_
                    refine WO.s rfl Wt.none (Hd.storeAll (n := 2) kr_ rfl rfl (by rfl) one_ fr_ (by rfl) ⟨rfl, ?_⟩)
                    refine WA.y (i := 9) (NoPanic.then (NoPanic.block (NoPanic.then (NoPanic.then (NoPanic.block (NoPanic.then (NoPanic.body))))))) rfl kr_ kr_ kr_ rfl (Yd.assign rfl) ?_
                    refine WA.done kr_ ?_
                    exact DN.reachS (()) (trivial) (Sx.put rfl (sx_)) sp_
                  · refine WO.c rfl Wt.none rfl (Ent.func Try.call23 rfl) (step_tells e9 3#32 2 true []) (Sp.p sp_) ?_
                    rintro x2 H2 ⟨bd2, cd2, blk2, rfl, hbk2, rfl⟩
                    refine WA.one (i := 0) kr_ ?_
                    refine WO.h rfl Wt.none rfl (Hd.loadAll (n := 2) kr_ rfl mem_ (by rfl) ⟨_, rfl, ?_⟩)
                    refine WA.one (i := 3) kr_ ?_
                    refine WO.c rfl Wt.none rfl (Ent.func Try.call15 rfl) (keep_tells (ep % 9#32) (.slice so s.ks.length sc) s.ks (blk2 :: DS) (hSF.kv.mono gr_) (by omega) (stepN e9 3#32 2 true []) (.slice none 0 0) _ (Bs_nil _) (hbk2.mono gr_) 1 (.slice none 0 0) [] (Bs_nil _)) (Sp.p sp_) ?_
                    rintro xa2 Ha2 ⟨w2, D2, rfl, hF2, rfl⟩
                    rw [fe_keep hck h90 hlt9] at hF2 ⊢
                    obtain ⟨wo2, wc2, rfl⟩ := hF2.form
                    refine WA.y (i := 4) (NoPanic.then (NoPanic.block (NoPanic.then (NoPanic.then (NoPanic.block (NoPanic.then (NoPanic.body))))))) rfl kr_ kr_ kr_ rfl (Yd.move rfl) ?_
                    refine WA.y (i := 5) (NoPanic.then (NoPanic.block (NoPanic.then (NoPanic.then (NoPanic.block (NoPanic.then (NoPanic.body))))))) rfl kr_ kr_ kr_ rfl (Yd.extract rfl rfl) ?_
                    refine WA.y (i := 6) (NoPanic.then (NoPanic.block (NoPanic.then (NoPanic.then (NoPanic.block (NoPanic.then (NoPanic.body))))))) rfl kr_ kr_ kr_ rfl (Yd.extract rfl rfl) ?_
                    refine WA.one (i := 8) kr_ ?_
                    refine WO.s rfl Wt.none (Hd.storeAll (n := 2) kr_ rfl rfl (by rfl) one_ fr_ (by rfl) ⟨rfl, ?_⟩)
                    refine WA.y (i := 9) (NoPanic.then (NoPanic.block (NoPanic.then (NoPanic.then (NoPanic.block (NoPanic.then (NoPanic.body))))))) rfl kr_ kr_ kr_ rfl (Yd.assign rfl) ?_
                    refine WA.done kr_ ?_
                    exact DN.reachS (()) (trivial) (Sx.put rfl (sx_)) sp_
              · intro z hz
                refine WC.seq ?_
                refine WC.region ?_
                refine WL.y rfl (Yd.move rfl) ?_
                refine WL.y rfl (Yd.neq rfl rfl) ?_
                refine WL.y rfl (Yd.move rfl) ?_
                refine WL.renamed (t := 97) (v := .bool false) rfl (congrArg Value.bool (by decide)) ?_
                refine WL.gy (dj := 97) rfl rfl rfl (Yd.move rfl) ?_
                refine WL.gy (dj := 97) rfl rfl rfl (Yd.neq rfl rfl) ?_
                refine WL.y rfl (Yd.pickF rfl rfl) ?_
                refine WL.renamed (t := 100) (v := .bool false) rfl (congrArg Value.bool (by decide)) ?_
                refine WL.nil ?_
                refine DN.then_normal ?_
                refine WC.no rfl ?_
                refine WC.skip ?_
                refine DN.block_normal ?_
                refine DN.then_normal ?_
                refine WC.region ?_
                refine WL.y rfl (Yd.move rfl) ?_
                refine WL.y rfl (Yd.add32 _ (1#32) rfl rfl rfl rfl) ?_
                refine WL.y rfl (Yd.assign rfl) ?_
                refine WL.nil ?_
                exact DN.againS (e9 + 1#32) (show 1 ≤ (e9 + 1#32).toNat ∧ (e9 + 1#32).toNat ≤ 9 from ⟨by omega, by omega⟩) (show 9 - (e9 + 1#32).toNat < 9 - e9.toNat by omega) (Sx.put rfl (sx_)) sp_
          · refine WC.exit ?_
            refine DN.then_exit ?_
            refine DN.then_exit ?_
            refine DN.block_exit ?_
            refine DN.then_normal ?_
            refine WC.cutK (fun z : Unit => True) (fun z : Unit => [(17, .int .i64 0)]) (fun z : Unit => row b7 [.int .u32 (ep % 9#32).toNat, .slice so s.ks.length sc] 25 :: (DS ++ (row p [.int .u32 s.e.toNat, .slice lo s.ks.length lc, vd, vt, vo, .bool false] 50 :: (CF ++ (Cd ++ (Ct ++ (Dt ++ (Co ++ H)))))))) ?_ ?_
            · refine WC.draw 14 kr_ rfl ?_
              refine WA.y (i := 1) (NoPanic.then (NoPanic.body)) rfl kr_ kr_ kr_ rfl (Yd.fieldAddr (k := 0) kr_ rfl) ?_
              refine WA.three (i := 0) (j := 2) (k := 10) kr_ ?_ ?_ ?_
              · refine WO.h rfl Wt.none rfl (Hd.loadAll (n := 2) kr_ rfl mem_ (by rfl) ⟨_, rfl, ?_⟩)
                refine WA.two (i := 2) (j := 10) kr_ ?_ ?_
                · refine WO.h rfl Wt.none rfl (Hd.load1 kr_ rfl mem_ (by rfl) ⟨_, rfl, ?_⟩)
                  refine WA.y (i := 3) (NoPanic.then (NoPanic.body)) rfl kr_ kr_ kr_ rfl (Yd.max2 rfl rfl) ?_
                  refine WA.renamed (t := 105) (v := .int .u32 (mx (ep % 9#32)).toNat) rfl (congrArg (Value.int .u32) (by rw [mx_eq]; omega)) ?_
                  refine WA.two (i := 4) (j := 10) kr_ ?_ ?_
                  · refine WO.c rfl Wt.none rfl (Ent.func Try.call23 rfl) (step_tells (mx (ep % 9#32)) 90#32 0 false [120#8]) (Sp.p sp_) ?_
                    rintro x3 H3 ⟨bd3, cd3, blk3, rfl, hbk3, rfl⟩
                    refine WA.two (i := 5) (j := 10) kr_ ?_ ?_
                    · refine WO.c rfl Wt.none rfl (Ent.func Try.call24 rfl) (ask_tells (ep % 9#32) (.slice so s.ks.length sc) s.ks (blk3 :: DS) (hSF.kv.mono gr_) (by omega) (stepN (mx (ep % 9#32)) 90#32 0 false [120#8]) (.slice none 0 0) _ (Bs_nil _) (hbk3.mono gr_)) (Sp.p sp_) ?_
                      rintro xa3 Ha3 ⟨wa3, wr3, A3, B3, rfl, hA3, hB3, rfl⟩
                      rw [fe_new hck inv.ord] at hA3 hB3 ⊢
                      obtain ⟨oa3, ca3, rfl, _⟩ := hA3.form
                      obtain ⟨or3, cr3, rfl, _⟩ := hB3.form
                      refine WA.y (i := 6) (NoPanic.then (NoPanic.body)) rfl kr_ kr_ kr_ rfl (Yd.move rfl) ?_
                      refine WA.y (i := 7) (NoPanic.then (NoPanic.body)) rfl kr_ kr_ kr_ rfl (Yd.extract rfl rfl) ?_
                      refine WA.y (i := 8) (NoPanic.then (NoPanic.body)) rfl kr_ kr_ kr_ rfl (Yd.extract rfl rfl) ?_
                      refine WA.y (i := 9) (NoPanic.then (NoPanic.body)) rfl kr_ kr_ kr_ rfl (Yd.extract rfl rfl) ?_
                      refine WA.one (i := 10) kr_ ?_
                      refine WO.h rfl Wt.none rfl (Hd.alloc (zs := [.int .u32 0, .int .i64 0, .bool false, .slice none 0 0, .int .i64 0, .slice none 0 0]) kr_ fun b16 => ⟨_, rfl, ?_⟩)
                      refine WA.y (i := 11) (NoPanic.then (NoPanic.body)) rfl kr_ kr_ kr_ rfl (Yd.assign rfl) ?_
                      refine WA.one (i := 12) kr_ ?_
                      refine WO.s rfl Wt.none (Hd.storeAll (n := 6) kr_ rfl rfl (by rfl) (kc_one rfl rfl) fr_ (by rfl) ⟨rfl, ?_⟩)
                      refine WA.y (i := 13) (NoPanic.then (NoPanic.body)) rfl kr_ kr_ kr_ rfl (Yd.assign rfl) ?_
                      refine WA.done kr_ ?_
                      exact DN.reachS (()) (trivial) (Sx.put rfl (sx_)) sp_
                    · refine WO.h rfl Wt.none rfl (Hd.alloc (zs := [.int .u32 0, .int .i64 0, .bool false, .slice none 0 0, .int .i64 0, .slice none 0 0]) kr_ fun b16 => ⟨_, rfl, ?_⟩)
                      refine WA.one (i := 5) kr_ ?_
                      refine WO.c rfl Wt.none rfl (Ent.func Try.call24 rfl) (ask_tells (ep % 9#32) (.slice so s.ks.length sc) s.ks (blk3 :: DS) (hSF.kv.mono gr_) (by omega) (stepN (mx (ep % 9#32)) 90#32 0 false [120#8]) (.slice none 0 0) _ (Bs_nil _) (hbk3.mono gr_)) (Sp.p sp_) ?_
                      rintro xa3 Ha3 ⟨wa3, wr3, A3, B3, rfl, hA3, hB3, rfl⟩
                      rw [fe_new hck inv.ord] at hA3 hB3 ⊢
                      obtain ⟨oa3, ca3, rfl, _⟩ := hA3.form
                      obtain ⟨or3, cr3, rfl, _⟩ := hB3.form
                      refine WA.y (i := 6) (NoPanic.then (NoPanic.body)) rfl kr_ kr_ kr_ rfl (Yd.move rfl) ?_
                      refine WA.y (i := 7) (NoPanic.then (NoPanic.body)) rfl kr_ kr_ kr_ rfl (Yd.extract rfl rfl) ?_
                      refine WA.y (i := 8) (NoPanic.then (NoPanic.body)) rfl kr_ kr_ kr_ rfl (Yd.extract rfl rfl) ?_
                      refine WA.y (i := 9) (NoPanic.then (NoPanic.body)) rfl kr_ kr_ kr_ rfl (Yd.extract rfl rfl) ?_
                      refine WA.y (i := 11) (NoPanic.then (NoPanic.body)) rfl kr_ kr_ kr_ rfl (Yd.assign rfl) ?_
                      refine WA.one (i := 12) kr_ ?_
                      refine WO.s rfl Wt.none (Hd.storeAll (n := 6) kr_ rfl rfl (by rfl) (kc_one rfl rfl) fr_ (by rfl) ⟨rfl, ?_⟩)
                      refine WA.y (i := 13) (NoPanic.then (NoPanic.body)) rfl kr_ kr_ kr_ rfl (Yd.assign rfl) ?_
                      refine WA.done kr_ ?_
                      exact DN.reachS (()) (trivial) (Sx.put rfl (sx_)) sp_
                  · refine WO.h rfl Wt.none rfl (Hd.alloc (zs := [.int .u32 0, .int .i64 0, .bool false, .slice none 0 0, .int .i64 0, .slice none 0 0]) kr_ fun b16 => ⟨_, rfl, ?_⟩)
                    refine WA.one (i := 4) kr_ ?_
                    refine WO.c rfl Wt.none rfl (Ent.func Try.call23 rfl) (step_tells (mx (ep % 9#32)) 90#32 0 false [120#8]) (Sp.p sp_) ?_
                    rintro x3 H3 ⟨bd3, cd3, blk3, rfl, hbk3, rfl⟩
                    refine WA.one (i := 5) kr_ ?_
                    refine WO.c rfl Wt.none rfl (Ent.func Try.call24 rfl) (ask_tells (ep % 9#32) (.slice so s.ks.length sc) s.ks (blk3 :: DS) (hSF.kv.mono gr_) (by omega) (stepN (mx (ep % 9#32)) 90#32 0 false [120#8]) (.slice none 0 0) _ (Bs_nil _) (hbk3.mono gr_)) (Sp.p sp_) ?_
                    rintro xa3 Ha3 ⟨wa3, wr3, A3, B3, rfl, hA3, hB3, rfl⟩
                    rw [fe_new hck inv.ord] at hA3 hB3 ⊢
                    obtain ⟨oa3, ca3, rfl, _⟩ := hA3.form
                    obtain ⟨or3, cr3, rfl, _⟩ := hB3.form
                    refine WA.y (i := 6) (NoPanic.then (NoPanic.body)) rfl kr_ kr_ kr_ rfl (Yd.move rfl) ?_
                    refine WA.y (i := 7) (NoPanic.then (NoPanic.body)) rfl kr_ kr_ kr_ rfl (Yd.extract rfl rfl) ?_
                    refine WA.y (i := 8) (NoPanic.then (NoPanic.body)) rfl kr_ kr_ kr_ rfl (Yd.extract rfl rfl) ?_
                    refine WA.y (i := 9) (NoPanic.then (NoPanic.body)) rfl kr_ kr_ kr_ rfl (Yd.extract rfl rfl) ?_
                    refine WA.y (i := 11) (NoPanic.then (NoPanic.body)) rfl kr_ kr_ kr_ rfl (Yd.assign rfl) ?_
                    refine WA.one (i := 12) kr_ ?_
                    refine WO.s rfl Wt.none (Hd.storeAll (n := 6) kr_ rfl rfl (by rfl) (kc_one rfl rfl) fr_ (by rfl) ⟨rfl, ?_⟩)
                    refine WA.y (i := 13) (NoPanic.then (NoPanic.body)) rfl kr_ kr_ kr_ rfl (Yd.assign rfl) ?_
                    refine WA.done kr_ ?_
                    exact DN.reachS (()) (trivial) (Sx.put rfl (sx_)) sp_
                · refine WO.h rfl Wt.none rfl (Hd.alloc (zs := [.int .u32 0, .int .i64 0, .bool false, .slice none 0 0, .int .i64 0, .slice none 0 0]) kr_ fun b16 => ⟨_, rfl, ?_⟩)
                  refine WA.one (i := 2) kr_ ?_
                  refine WO.h rfl Wt.none rfl (Hd.load1 kr_ rfl mem_ (by rfl) ⟨_, rfl, ?_⟩)
                  refine WA.y (i := 3) (NoPanic.then (NoPanic.body)) rfl kr_ kr_ kr_ rfl (Yd.max2 rfl rfl) ?_
                  refine WA.renamed (t := 105) (v := .int .u32 (mx (ep % 9#32)).toNat) rfl (congrArg (Value.int .u32) (by rw [mx_eq]; omega)) ?_
                  refine WA.one (i := 4) kr_ ?_
                  refine WO.c rfl Wt.none rfl (Ent.func Try.call23 rfl) (step_tells (mx (ep % 9#32)) 90#32 0 false [120#8]) (Sp.p sp_) ?_
                  rintro x3 H3 ⟨bd3, cd3, blk3, rfl, hbk3, rfl⟩
                  refine WA.one (i := 5) kr_ ?_
                  refine WO.c rfl Wt.none rfl (Ent.func Try.call24 rfl) (ask_tells (ep % 9#32) (.slice so s.ks.length sc) s.ks (blk3 :: DS) (hSF.kv.mono gr_) (by omega) (stepN (mx (ep % 9#32)) 90#32 0 false [120#8]) (.slice none 0 0) _ (Bs_nil _) (hbk3.mono gr_)) (Sp.p sp_) ?_
                  rintro xa3 Ha3 ⟨wa3, wr3, A3, B3, rfl, hA3, hB3, rfl⟩
                  rw [fe_new hck inv.ord] at hA3 hB3 ⊢
                  obtain ⟨oa3, ca3, rfl, _⟩ := hA3.form
                  obtain ⟨or3, cr3, rfl, _⟩ := hB3.form
                  refine WA.y (i := 6) (NoPanic.then (NoPanic.body)) rfl kr_ kr_ kr_ rfl (Yd.move rfl) ?_
                  refine WA.y (i := 7) (NoPanic.then (NoPanic.body)) rfl kr_ kr_ kr_ rfl (Yd.extract rfl rfl) ?_
                  refine WA.y (i := 8) (NoPanic.then (NoPanic.body)) rfl kr_ kr_ kr_ rfl (Yd.extract rfl rfl) ?_
                  refine WA.y (i := 9) (NoPanic.then (NoPanic.body)) rfl kr_ kr_ kr_ rfl (Yd.extract rfl rfl) ?_
                  refine WA.y (i := 11) (NoPanic.then (NoPanic.body)) rfl kr_ kr_ kr_ rfl (Yd.assign rfl) ?_
                  refine WA.one (i := 12) kr_ ?_
                  refine WO.s rfl Wt.none (Hd.storeAll (n := 6) kr_ rfl rfl (by rfl) (kc_one rfl rfl) fr_ (by rfl) ⟨rfl, ?_⟩)
                  refine WA.y (i := 13) (NoPanic.then (NoPanic.body)) rfl kr_ kr_ kr_ rfl (Yd.assign rfl) ?_
                  refine WA.done kr_ ?_
                  exact DN.reachS (()) (trivial) (Sx.put rfl (sx_)) sp_
              · refine WO.h rfl Wt.none rfl (Hd.load1 kr_ rfl mem_ (by rfl) ⟨_, rfl, ?_⟩)
                refine WA.y (i := 3) (NoPanic.then (NoPanic.body)) rfl kr_ kr_ kr_ rfl (Yd.max2 rfl rfl) ?_
                refine WA.renamed (t := 105) (v := .int .u32 (mx (ep % 9#32)).toNat) rfl (congrArg (Value.int .u32) (by rw [mx_eq]; omega)) ?_
                refine WA.three (i := 0) (j := 4) (k := 10) kr_ ?_ ?_ ?_
                · refine WO.h rfl Wt.none rfl (Hd.loadAll (n := 2) kr_ rfl mem_ (by rfl) ⟨_, rfl, ?_⟩)
                  refine WA.two (i := 4) (j := 10) kr_ ?_ ?_
                  · refine WO.c rfl Wt.none rfl (Ent.func Try.call23 rfl) (step_tells (mx (ep % 9#32)) 90#32 0 false [120#8]) (Sp.p sp_) ?_
                    rintro x3 H3 ⟨bd3, cd3, blk3, rfl, hbk3, rfl⟩
                    refine WA.two (i := 5) (j := 10) kr_ ?_ ?_
                    · refine WO.c rfl Wt.none rfl (Ent.func Try.call24 rfl) (ask_tells (ep % 9#32) (.slice so s.ks.length sc) s.ks (blk3 :: DS) (hSF.kv.mono gr_) (by omega) (stepN (mx (ep % 9#32)) 90#32 0 false [120#8]) (.slice none 0 0) _ (Bs_nil _) (hbk3.mono gr_)) (Sp.p sp_) ?_
                      rintro xa3 Ha3 ⟨wa3, wr3, A3, B3, rfl, hA3, hB3, rfl⟩
                      rw [fe_new hck inv.ord] at hA3 hB3 ⊢
                      obtain ⟨oa3, ca3, rfl, _⟩ := hA3.form
                      obtain ⟨or3, cr3, rfl, _⟩ := hB3.form
                      refine WA.y (i := 6) (NoPanic.then (NoPanic.body)) rfl kr_ kr_ kr_ rfl (Yd.move rfl) ?_
                      refine WA.y (i := 7) (NoPanic.then (NoPanic.body)) rfl kr_ kr_ kr_ rfl (Yd.extract rfl rfl) ?_
                      refine WA.y (i := 8) (NoPanic.then (NoPanic.body)) rfl kr_ kr_ kr_ rfl (Yd.extract rfl rfl) ?_
                      refine WA.y (i := 9) (NoPanic.then (NoPanic.body)) rfl kr_ kr_ kr_ rfl (Yd.extract rfl rfl) ?_
                      refine WA.one (i := 10) kr_ ?_
                      refine WO.h rfl Wt.none rfl (Hd.alloc (zs := [.int .u32 0, .int .i64 0, .bool false, .slice none 0 0, .int .i64 0, .slice none 0 0]) kr_ fun b16 => ⟨_, rfl, ?_⟩)
                      refine WA.y (i := 11) (NoPanic.then (NoPanic.body)) rfl kr_ kr_ kr_ rfl (Yd.assign rfl) ?_
                      refine WA.one (i := 12) kr_ ?_
                      refine WO.s rfl Wt.none (Hd.storeAll (n := 6) kr_ rfl rfl (by rfl) (kc_one rfl rfl) fr_ (by rfl) ⟨rfl, ?_⟩)
                      refine WA.y (i := 13) (NoPanic.then (NoPanic.body)) rfl kr_ kr_ kr_ rfl (Yd.assign rfl) ?_
                      refine WA.done kr_ ?_
                      exact DN.reachS (()) (trivial) (Sx.put rfl (sx_)) sp_
                    · refine WO.h rfl Wt.none rfl (Hd.alloc (zs := [.int .u32 0, .int .i64 0, .bool false, .slice none 0 0, .int .i64 0, .slice none 0 0]) kr_ fun b16 => ⟨_, rfl, ?_⟩)
                      refine WA.one (i := 5) kr_ ?_
                      refine WO.c rfl Wt.none rfl (Ent.func Try.call24 rfl) (ask_tells (ep % 9#32) (.slice so s.ks.length sc) s.ks (blk3 :: DS) (hSF.kv.mono gr_) (by omega) (stepN (mx (ep % 9#32)) 90#32 0 false [120#8]) (.slice none 0 0) _ (Bs_nil _) (hbk3.mono gr_)) (Sp.p sp_) ?_
                      rintro xa3 Ha3 ⟨wa3, wr3, A3, B3, rfl, hA3, hB3, rfl⟩
                      rw [fe_new hck inv.ord] at hA3 hB3 ⊢
                      obtain ⟨oa3, ca3, rfl, _⟩ := hA3.form
                      obtain ⟨or3, cr3, rfl, _⟩ := hB3.form
                      refine WA.y (i := 6) (NoPanic.then (NoPanic.body)) rfl kr_ kr_ kr_ rfl (Yd.move rfl) ?_
                      refine WA.y (i := 7) (NoPanic.then (NoPanic.body)) rfl kr_ kr_ kr_ rfl (Yd.extract rfl rfl) ?_
                      refine WA.y (i := 8) (NoPanic.then (NoPanic.body)) rfl kr_ kr_ kr_ rfl (Yd.extract rfl rfl) ?_
                      refine WA.y (i := 9) (NoPanic.then (NoPanic.body)) rfl kr_ kr_ kr_ rfl (Yd.extract rfl rfl) ?_
                      refine WA.y (i := 11) (NoPanic.then (NoPanic.body)) rfl kr_ kr_ kr_ rfl (Yd.assign rfl) ?_
                      refine WA.one (i := 12) kr_ ?_
                      refine WO.s rfl Wt.none (Hd.storeAll (n := 6) kr_ rfl rfl (by rfl) (kc_one rfl rfl) fr_ (by rfl) ⟨rfl, ?_⟩)
                      refine WA.y (i := 13) (NoPanic.then (NoPanic.body)) rfl kr_ kr_ kr_ rfl (Yd.assign rfl) ?_
                      refine WA.done kr_ ?_
                      exact DN.reachS (()) (trivial) (Sx.put rfl (sx_)) sp_
                  · refine WO.h rfl Wt.none rfl (Hd.alloc (zs := [.int .u32 0, .int .i64 0, .bool false, .slice none 0 0, .int .i64 0, .slice none 0 0]) kr_ fun b16 => ⟨_, rfl, ?_⟩)
                    refine WA.one (i := 4) kr_ ?_
                    refine WO.c rfl Wt.none rfl (Ent.func Try.call23 rfl) (step_tells (mx (ep % 9#32)) 90#32 0 false [120#8]) (Sp.p sp_) ?_
                    rintro x3 H3 ⟨bd3, cd3, blk3, rfl, hbk3, rfl⟩
                    refine WA.one (i := 5) kr_ ?_
                    refine WO.c rfl Wt.none rfl (Ent.func Try.call24 rfl) (ask_tells (ep % 9#32) (.slice so s.ks.length sc) s.ks (blk3 :: DS) (hSF.kv.mono gr_) (by omega) (stepN (mx (ep % 9#32)) 90#32 0 false [120#8]) (.slice none 0 0) _ (Bs_nil _) (hbk3.mono gr_)) (Sp.p sp_) ?_
                    rintro xa3 Ha3 ⟨wa3, wr3, A3, B3, rfl, hA3, hB3, rfl⟩
                    rw [fe_new hck inv.ord] at hA3 hB3 ⊢
                    obtain ⟨oa3, ca3, rfl, _⟩ := hA3.form
                    obtain ⟨or3, cr3, rfl, _⟩ := hB3.form
                    refine WA.y (i := 6) (NoPanic.then (NoPanic.body)) rfl kr_ kr_ kr_ rfl (Yd.move rfl) ?_
                    refine WA.y (i := 7) (NoPanic.then (NoPanic.body)) rfl kr_ kr_ kr_ rfl (Yd.extract rfl rfl) ?_
                    refine WA.y (i := 8) (NoPanic.then (NoPanic.body)) rfl kr_ kr_ kr_ rfl (Yd.extract rfl rfl) ?_
                    refine WA.y (i := 9) (NoPanic.then (NoPanic.body)) rfl kr_ kr_ kr_ rfl (Yd.extract rfl rfl) ?_
                    refine WA.y (i := 11) (NoPanic.then (NoPanic.body)) rfl kr_ kr_ kr_ rfl (Yd.assign rfl) ?_
                    refine WA.one (i := 12) kr_ ?_
                    refine WO.s rfl Wt.none (Hd.storeAll (n := 6) kr_ rfl rfl (by rfl) (kc_one rfl rfl) fr_ (by rfl) ⟨rfl, ?_⟩)
                    refine WA.y (i := 13) (NoPanic.then (NoPanic.body)) rfl kr_ kr_ kr_ rfl (Yd.assign rfl) ?_
                    refine WA.done kr_ ?_
                    exact DN.reachS (()) (trivial) (Sx.put rfl (sx_)) sp_
                · refine WO.c rfl Wt.none rfl (Ent.func Try.call23 rfl) (step_tells (mx (ep % 9#32)) 90#32 0 false [120#8]) (Sp.p sp_) ?_
                  rintro x3 H3 ⟨bd3, cd3, blk3, rfl, hbk3, rfl⟩
                  refine WA.two (i := 0) (j := 10) kr_ ?_ ?_
                  · refine WO.h rfl Wt.none rfl (Hd.loadAll (n := 2) kr_ rfl mem_ (by rfl) ⟨_, rfl, ?_⟩)
                    refine WA.two (i := 5) (j := 10) kr_ ?_ ?_
                    · refine WO.c rfl Wt.none rfl (Ent.func Try.call24 rfl) (ask_tells (ep % 9#32) (.slice so s.ks.length sc) s.ks (blk3 :: DS) (hSF.kv.mono gr_) (by omega) (stepN (mx (ep % 9#32)) 90#32 0 false [120#8]) (.slice none 0 0) _ (Bs_nil _) (hbk3.mono gr_)) (Sp.p sp_) ?_
                      rintro xa3 Ha3 ⟨wa3, wr3, A3, B3, rfl, hA3, hB3, rfl⟩
                      rw [fe_new hck inv.ord] at hA3 hB3 ⊢
                      obtain ⟨oa3, ca3, rfl, _⟩ := hA3.form
                      obtain ⟨or3, cr3, rfl, _⟩ := hB3.form
                      refine WA.y (i := 6) (NoPanic.then (NoPanic.body)) rfl kr_ kr_ kr_ rfl (Yd.move rfl) ?_
                      refine WA.y (i := 7) (NoPanic.then (NoPanic.body)) rfl kr_ kr_ kr_ rfl (Yd.extract rfl rfl) ?_
                      refine WA.y (i := 8) (NoPanic.then (NoPanic.body)) rfl kr_ kr_ kr_ rfl (Yd.extract rfl rfl) ?_
                      refine WA.y (i := 9) (NoPanic.then (NoPanic.body)) rfl kr_ kr_ kr_ rfl (Yd.extract rfl rfl) ?_
                      refine WA.one (i := 10) kr_ ?_
                      refine WO.h rfl Wt.none rfl (Hd.alloc (zs := [.int .u32 0, .int .i64 0, .bool false, .slice none 0 0, .int .i64 0, .slice none 0 0]) kr_ fun b16 => ⟨_, rfl, ?_⟩)
                      refine WA.y (i := 11) (NoPanic.then (NoPanic.body)) rfl kr_ kr_ kr_ rfl (Yd.assign rfl) ?_
                      refine WA.one (i := 12) kr_ ?_
                      refine WO.s rfl Wt.none (Hd.storeAll (n := 6) kr_ rfl rfl (by rfl) (kc_one rfl rfl) fr_ (by rfl) ⟨rfl, ?_⟩)
                      refine WA.y (i := 13) (NoPanic.then (NoPanic.body)) rfl kr_ kr_ kr_ rfl (Yd.assign rfl) ?_
                      refine WA.done kr_ ?_
                      exact DN.reachS (()) (trivial) (Sx.put rfl (sx_)) sp_
                    · refine WO.h rfl Wt.none rfl (Hd.alloc (zs := [.int .u32 0, .int .i64 0, .bool false, .slice none 0 0, .int .i64 0, .slice none 0 0]) kr_ fun b16 => ⟨_, rfl, ?_⟩)
                      refine WA.one (i := 5) kr_ ?_
                      refine WO.c rfl Wt.none rfl (Ent.func Try.call24 rfl) (ask_tells (ep % 9#32) (.slice so s.ks.length sc) s.ks (blk3 :: DS) (hSF.kv.mono gr_) (by omega) (stepN (mx (ep % 9#32)) 90#32 0 false [120#8]) (.slice none 0 0) _ (Bs_nil _) (hbk3.mono gr_)) (Sp.p sp_) ?_
                      rintro xa3 Ha3 ⟨wa3, wr3, A3, B3, rfl, hA3, hB3, rfl⟩
                      rw [fe_new hck inv.ord] at hA3 hB3 ⊢
                      obtain ⟨oa3, ca3, rfl, _⟩ := hA3.form
                      obtain ⟨or3, cr3, rfl, _⟩ := hB3.form
                      refine WA.y (i := 6) (NoPanic.then (NoPanic.body)) rfl kr_ kr_ kr_ rfl (Yd.move rfl) ?_
                      refine WA.y (i := 7) (NoPanic.then (NoPanic.body)) rfl kr_ kr_ kr_ rfl (Yd.extract rfl rfl) ?_
                      refine WA.y (i := 8) (NoPanic.then (NoPanic.body)) rfl kr_ kr_ kr_ rfl (Yd.extract rfl rfl) ?_
                      refine WA.y (i := 9) (NoPanic.then (NoPanic.body)) rfl kr_ kr_ kr_ rfl (Yd.extract rfl rfl) ?_
                      refine WA.y (i := 11) (NoPanic.then (NoPanic.body)) rfl kr_ kr_ kr_ rfl (Yd.assign rfl) ?_
                      refine WA.one (i := 12) kr_ ?_
                      refine WO.s rfl Wt.none (Hd.storeAll (n := 6) kr_ rfl rfl (by rfl) (kc_one rfl rfl) fr_ (by rfl) ⟨rfl, ?_⟩)
                      refine WA.y (i := 13) (NoPanic.then (NoPanic.body)) rfl kr_ kr_ kr_ rfl (Yd.assign rfl) ?_
                      refine WA.done kr_ ?_
                      exact DN.reachS (()) (trivial) (Sx.put rfl (sx_)) sp_
                  · refine WO.h rfl Wt.none rfl (Hd.alloc (zs := [.int .u32 0, .int .i64 0, .bool false, .slice none 0 0, .int .i64 0, .slice none 0 0]) kr_ fun b16 => ⟨_, rfl, ?_⟩)
                    refine WA.one (i := 0) kr_ ?_
                    refine WO.h rfl Wt.none rfl (Hd.loadAll (n := 2) kr_ rfl mem_ (by rfl) ⟨_, rfl, ?_⟩)
                    refine WA.one (i := 5) kr_ ?_
                    refine WO.c rfl Wt.none rfl (Ent.func Try.call24 rfl) (ask_tells (ep % 9#32) (.slice so s.ks.length sc) s.ks (blk3 :: DS) (hSF.kv.mono gr_) (by omega) (stepN (mx (ep % 9#32)) 90#32 0 false [120#8]) (.slice none 0 0) _ (Bs_nil _) (hbk3.mono gr_)) (Sp.p sp_) ?_
                    rintro xa3 Ha3 ⟨wa3, wr3, A3, B3, rfl, hA3, hB3, rfl⟩
                    rw [fe_new hck inv.ord] at hA3 hB3 ⊢
                    obtain ⟨oa3, ca3, rfl, _⟩ := hA3.form
                    obtain ⟨or3, cr3, rfl, _⟩ := hB3.form
                    refine WA.y (i := 6) (NoPanic.then (NoPanic.body)) rfl kr_ kr_ kr_ rfl (Yd.move rfl) ?_
                    refine WA.y (i := 7) (NoPanic.then (NoPanic.body)) rfl kr_ kr_ kr_ rfl (Yd.extract rfl rfl) ?_
                    refine WA.y (i := 8) (NoPanic.then (NoPanic.body)) rfl kr_ kr_ kr_ rfl (Yd.extract rfl rfl) ?_
                    refine WA.y (i := 9) (NoPanic.then (NoPanic.body)) rfl kr_ kr_ kr_ rfl (Yd.extract rfl rfl) ?_
                    refine WA.y (i := 11) (NoPanic.then (NoPanic.body)) rfl kr_ kr_ kr_ rfl (Yd.assign rfl) ?_
                    refine WA.one (i := 12) kr_ ?_
                    refine WO.s rfl Wt.none (Hd.storeAll (n := 6) kr_ rfl rfl (by rfl) (kc_one rfl rfl) fr_ (by rfl) ⟨rfl, ?_⟩)
                    refine WA.y (i := 13) (NoPanic.then (NoPanic.body)) rfl kr_ kr_ kr_ rfl (Yd.assign rfl) ?_
                    refine WA.done kr_ ?_
                    exact DN.reachS (()) (trivial) (Sx.put rfl (sx_)) sp_
                · refine WO.h rfl Wt.none rfl (Hd.alloc (zs := [.int .u32 0, .int .i64 0, .bool false, .slice none 0 0, .int .i64 0, .slice none 0 0]) kr_ fun b16 => ⟨_, rfl, ?_⟩)
                  refine WA.two (i := 0) (j := 4) kr_ ?_ ?_
                  · refine WO.h rfl Wt.none rfl (Hd.loadAll (n := 2) kr_ rfl mem_ (by rfl) ⟨_, rfl, ?_⟩)
                    refine WA.one (i := 4) kr_ ?_
                    refine WO.c rfl Wt.none rfl (Ent.func Try.call23 rfl) (step_tells (mx (ep % 9#32)) 90#32 0 false [120#8]) (Sp.p sp_) ?_
                    rintro x3 H3 ⟨bd3, cd3, blk3, rfl, hbk3, rfl⟩
                    refine WA.one (i := 5) kr_ ?_
                    refine WO.c rfl Wt.none rfl (Ent.func Try.call24 rfl) (ask_tells (ep % 9#32) (.slice so s.ks.length sc) s.ks (blk3 :: DS) (hSF.kv.mono gr_) (by omega) (stepN (mx (ep % 9#32)) 90#32 0 false [120#8]) (.slice none 0 0) _ (Bs_nil _) (hbk3.mono gr_)) (Sp.p sp_) ?_
                    rintro xa3 Ha3 ⟨wa3, wr3, A3, B3, rfl, hA3, hB3, rfl⟩
                    rw [fe_new hck inv.ord] at hA3 hB3 ⊢
                    obtain ⟨oa3, ca3, rfl, _⟩ := hA3.form
                    obtain ⟨or3, cr3, rfl, _⟩ := hB3.form
                    refine WA.y (i := 6) (NoPanic.then (NoPanic.body)) rfl kr_ kr_ kr_ rfl (Yd.move rfl) ?_
                    refine WA.y (i := 7) (NoPanic.then (NoPanic.body)) rfl kr_ kr_ kr_ rfl (Yd.extract rfl rfl) ?_
                    refine WA.y (i := 8) (NoPanic.then (NoPanic.body)) rfl kr_ kr_ kr_ rfl (Yd.extract rfl rfl) ?_
                    refine WA.y (i := 9) (NoPanic.then (NoPanic.body)) rfl kr_ kr_ kr_ rfl (Yd.extract rfl rfl) ?_
                    refine WA.y (i := 11) (NoPanic.then (NoPanic.body)) rfl kr_ kr_ kr_ rfl (Yd.assign rfl) ?_
                    refine WA.one (i := 12) kr_ ?_
                    refine WO.s rfl Wt.none (Hd.storeAll (n := 6) kr_ rfl rfl (by rfl) (kc_one rfl rfl) fr_ (by rfl) ⟨rfl, ?_⟩)
                    refine WA.y (i := 13) (NoPanic.then (NoPanic.body)) rfl kr_ kr_ kr_ rfl (Yd.assign rfl) ?_
                    refine WA.done kr_ ?_
                    exact DN.reachS (()) (trivial) (Sx.put rfl (sx_)) sp_
                  · refine WO.c rfl Wt.none rfl (Ent.func Try.call23 rfl) (step_tells (mx (ep % 9#32)) 90#32 0 false [120#8]) (Sp.p sp_) ?_
                    rintro x3 H3 ⟨bd3, cd3, blk3, rfl, hbk3, rfl⟩
                    refine WA.one (i := 0) kr_ ?_
                    refine WO.h rfl Wt.none rfl (Hd.loadAll (n := 2) kr_ rfl mem_ (by rfl) ⟨_, rfl, ?_⟩)
                    refine WA.one (i := 5) kr_ ?_
                    refine WO.c rfl Wt.none rfl (Ent.func Try.call24 rfl) (ask_tells (ep % 9#32) (.slice so s.ks.length sc) s.ks (blk3 :: DS) (hSF.kv.mono gr_) (by omega) (stepN (mx (ep % 9#32)) 90#32 0 false [120#8]) (.slice none 0 0) _ (Bs_nil _) (hbk3.mono gr_)) (Sp.p sp_) ?_
                    rintro xa3 Ha3 ⟨wa3, wr3, A3, B3, rfl, hA3, hB3, rfl⟩
                    rw [fe_new hck inv.ord] at hA3 hB3 ⊢
                    obtain ⟨oa3, ca3, rfl, _⟩ := hA3.form
                    obtain ⟨or3, cr3, rfl, _⟩ := hB3.form
                    refine WA.y (i := 6) (NoPanic.then (NoPanic.body)) rfl kr_ kr_ kr_ rfl (Yd.move rfl) ?_
                    refine WA.y (i := 7) (NoPanic.then (NoPanic.body)) rfl kr_ kr_ kr_ rfl (Yd.extract rfl rfl) ?_
                    refine WA.y (i := 8) (NoPanic.then (NoPanic.body)) rfl kr_ kr_ kr_ rfl (Yd.extract rfl rfl) ?_
                    refine WA.y (i := 9) (NoPanic.then (NoPanic.body)) rfl kr_ kr_ kr_ rfl (Yd.extract rfl rfl) ?_
                    refine WA.y (i := 11) (NoPanic.then (NoPanic.body)) rfl kr_ kr_ kr_ rfl (Yd.assign rfl) ?_
                    refine WA.one (i := 12) kr_ ?_
                    refine WO.s rfl Wt.none (Hd.storeAll (n := 6) kr_ rfl rfl (by rfl) (kc_one rfl rfl) fr_ (by rfl) ⟨rfl, ?_⟩)
                    refine WA.y (i := 13) (NoPanic.then (NoPanic.body)) rfl kr_ kr_ kr_ rfl (Yd.assign rfl) ?_
                    refine WA.done kr_ ?_
                    exact DN.reachS (()) (trivial) (Sx.put rfl (sx_)) sp_
              · refine WO.h rfl Wt.none rfl (Hd.alloc (zs := [.int .u32 0, .int .i64 0, .bool false, .slice none 0 0, .int .i64 0, .slice none 0 0]) kr_ fun b16 => ⟨_, rfl, ?_⟩)
                refine WA.two (i := 0) (j := 2) kr_ ?_ ?_
                · refine WO.h rfl Wt.none rfl (Hd.loadAll (n := 2) kr_ rfl mem_ (by rfl) ⟨_, rfl, ?_⟩)
                  refine WA.one (i := 2) kr_ ?_
                  refine WO.h rfl Wt.none rfl (Hd.load1 kr_ rfl mem_ (by rfl) ⟨_, rfl, ?_⟩)
                  refine WA.y (i := 3) (NoPanic.then (NoPanic.body)) rfl kr_ kr_ kr_ rfl (Yd.max2 rfl rfl) ?_
                  refine WA.renamed (t := 105) (v := .int .u32 (mx (ep % 9#32)).toNat) rfl (congrArg (Value.int .u32) (by rw [mx_eq]; omega)) ?_
                  refine WA.one (i := 4) kr_ ?_
                  refine WO.c rfl Wt.none rfl (Ent.func Try.call23 rfl) (step_tells (mx (ep % 9#32)) 90#32 0 false [120#8]) (Sp.p sp_) ?_
                  rintro x3 H3 ⟨bd3, cd3, blk3, rfl, hbk3, rfl⟩
                  refine WA.one (i := 5) kr_ ?_
                  refine WO.c rfl Wt.none rfl (Ent.func Try.call24 rfl) (ask_tells (ep % 9#32) (.slice so s.ks.length sc) s.ks (blk3 :: DS) (hSF.kv.mono gr_) (by omega) (stepN (mx (ep % 9#32)) 90#32 0 false [120#8]) (.slice none 0 0) _ (Bs_nil _) (hbk3.mono gr_)) (Sp.p sp_) ?_
                  rintro xa3 Ha3 ⟨wa3, wr3, A3, B3, rfl, hA3, hB3, rfl⟩
                  rw [fe_new hck inv.ord] at hA3 hB3 ⊢
                  obtain ⟨oa3, ca3, rfl, _⟩ := hA3.form
                  obtain ⟨or3, cr3, rfl, _⟩ := hB3.form
                  refine WA.y (i := 6) (NoPanic.then (NoPanic.body)) rfl kr_ kr_ kr_ rfl (Yd.move rfl) ?_
                  refine WA.y (i := 7) (NoPanic.then (NoPanic.body)) rfl kr_ kr_ kr_ rfl (Yd.extract rfl rfl) ?_
                  refine WA.y (i := 8) (NoPanic.then (NoPanic.body)) rfl kr_ kr_ kr_ rfl (Yd.extract rfl rfl) ?_
                  refine WA.y (i := 9) (NoPanic.then (NoPanic.body)) rfl kr_ kr_ kr_ rfl (Yd.extract rfl rfl) ?_
                  refine WA.y (i := 11) (NoPanic.then (NoPanic.body)) rfl kr_ kr_ kr_ rfl (Yd.assign rfl) ?_
                  refine WA.one (i := 12) kr_ ?_
                  refine WO.s rfl Wt.none (Hd.storeAll (n := 6) kr_ rfl rfl (by rfl) (kc_one rfl rfl) fr_ (by rfl) ⟨rfl, ?_⟩)
                  refine WA.y (i := 13) (NoPanic.then (NoPanic.body)) rfl kr_ kr_ kr_ rfl (Yd.assign rfl) ?_
                  refine WA.done kr_ ?_
                  exact DN.reachS (()) (trivial) (Sx.put rfl (sx_)) sp_
                · refine WO.h rfl Wt.none rfl (Hd.load1 kr_ rfl mem_ (by rfl) ⟨_, rfl, ?_⟩)
                  refine WA.y (i := 3) (NoPanic.then (NoPanic.body)) rfl kr_ kr_ kr_ rfl (Yd.max2 rfl rfl) ?_
                  refine WA.renamed (t := 105) (v := .int .u32 (mx (ep % 9#32)).toNat) rfl (congrArg (Value.int .u32) (by rw [mx_eq]; omega)) ?_
                  refine WA.two (i := 0) (j := 4) kr_ ?_ ?_
                  · refine WO.h rfl Wt.none rfl (Hd.loadAll (n := 2) kr_ rfl mem_ (by rfl) ⟨_, rfl, ?_⟩)
                    refine WA.one (i := 4) kr_ ?_
                    refine WO.c rfl Wt.none rfl (Ent.func Try.call23 rfl) (step_tells (mx (ep % 9#32)) 90#32 0 false [120#8]) (Sp.p sp_) ?_
                    rintro x3 H3 ⟨bd3, cd3, blk3, rfl, hbk3, rfl⟩
                    refine WA.one (i := 5) kr_ ?_
                    refine WO.c rfl Wt.none rfl (Ent.func Try.call24 rfl) (ask_tells (ep % 9#32) (.slice so s.ks.length sc) s.ks (blk3 :: DS) (hSF.kv.mono gr_) (by omega) (stepN (mx (ep % 9#32)) 90#32 0 false [120#8]) (.slice none 0 0) _ (Bs_nil _) (hbk3.mono gr_)) (Sp.p sp_) ?_
                    rintro xa3 Ha3 ⟨wa3, wr3, A3, B3, rfl, hA3, hB3, rfl⟩
                    rw [fe_new hck inv.ord] at hA3 hB3 ⊢
                    obtain ⟨oa3, ca3, rfl, _⟩ := hA3.form
                    obtain ⟨or3, cr3, rfl, _⟩ := hB3.form
                    refine WA.y (i := 6) (NoPanic.then (NoPanic.body)) rfl kr_ kr_ kr_ rfl (Yd.move rfl) ?_
                    refine WA.y (i := 7) (NoPanic.then (NoPanic.body)) rfl kr_ kr_ kr_ rfl (Yd.extract rfl rfl) ?_
                    refine WA.y (i := 8) (NoPanic.then (NoPanic.body)) rfl kr_ kr_ kr_ rfl (Yd.extract rfl rfl) ?_
                    refine WA.y (i := 9) (NoPanic.then (NoPanic.body)) rfl kr_ kr_ kr_ rfl (Yd.extract rfl rfl) ?_
                    refine WA.y (i := 11) (NoPanic.then (NoPanic.body)) rfl kr_ kr_ kr_ rfl (Yd.assign rfl) ?_
                    refine WA.one (i := 12) kr_ ?_
                    refine WO.s rfl Wt.none (Hd.storeAll (n := 6) kr_ rfl rfl (by rfl) (kc_one rfl rfl) fr_ (by rfl) ⟨rfl, ?_⟩)
                    refine WA.y (i := 13) (NoPanic.then (NoPanic.body)) rfl kr_ kr_ kr_ rfl (Yd.assign rfl) ?_
                    refine WA.done kr_ ?_
                    exact DN.reachS (()) (trivial) (Sx.put rfl (sx_)) sp_
                  · refine WO.c rfl Wt.none rfl (Ent.func Try.call23 rfl) (step_tells (mx (ep % 9#32)) 90#32 0 false [120#8]) (Sp.p sp_) ?_
                    rintro x3 H3 ⟨bd3, cd3, blk3, rfl, hbk3, rfl⟩
                    refine WA.one (i := 0) kr_ ?_
                    refine WO.h rfl Wt.none rfl (Hd.loadAll (n := 2) kr_ rfl mem_ (by rfl) ⟨_, rfl, ?_⟩)
                    refine WA.one (i := 5) kr_ ?_
                    refine WO.c rfl Wt.none rfl (Ent.func Try.call24 rfl) (ask_tells (ep % 9#32) (.slice so s.ks.length sc) s.ks (blk3 :: DS) (hSF.kv.mono gr_) (by omega) (stepN (mx (ep % 9#32)) 90#32 0 false [120#8]) (.slice none 0 0) _ (Bs_nil _) (hbk3.mono gr_)) (Sp.p sp_) ?_
                    rintro xa3 Ha3 ⟨wa3, wr3, A3, B3, rfl, hA3, hB3, rfl⟩
                    rw [fe_new hck inv.ord] at hA3 hB3 ⊢
                    obtain ⟨oa3, ca3, rfl, _⟩ := hA3.form
                    obtain ⟨or3, cr3, rfl, _⟩ := hB3.form
                    refine WA.y (i := 6) (NoPanic.then (NoPanic.body)) rfl kr_ kr_ kr_ rfl (Yd.move rfl) ?_
                    refine WA.y (i := 7) (NoPanic.then (NoPanic.body)) rfl kr_ kr_ kr_ rfl (Yd.extract rfl rfl) ?_
                    refine WA.y (i := 8) (NoPanic.then (NoPanic.body)) rfl kr_ kr_ kr_ rfl (Yd.extract rfl rfl) ?_
                    refine WA.y (i := 9) (NoPanic.then (NoPanic.body)) rfl kr_ kr_ kr_ rfl (Yd.extract rfl rfl) ?_
                    refine WA.y (i := 11) (NoPanic.then (NoPanic.body)) rfl kr_ kr_ kr_ rfl (Yd.assign rfl) ?_
                    refine WA.one (i := 12) kr_ ?_
                    refine WO.s rfl Wt.none (Hd.storeAll (n := 6) kr_ rfl rfl (by rfl) (kc_one rfl rfl) fr_ (by rfl) ⟨rfl, ?_⟩)
                    refine WA.y (i := 13) (NoPanic.then (NoPanic.body)) rfl kr_ kr_ kr_ rfl (Yd.assign rfl) ?_
                    refine WA.done kr_ ?_
                    exact DN.reachS (()) (trivial) (Sx.put rfl (sx_)) sp_
            · intro z hz
              refine WC.seq ?_
              refine WC.draw 25 kr_ rfl ?_
              refine WA.quiet 25 0 rfl rfl kr_ kr_ kr_ rfl ?_
              refine WQ.y rfl (Yd.move rfl) ?_
              refine WQ.y rfl (Yd.eql rfl rfl) ?_
              refine WQ.y rfl (Yd.move rfl) ?_
              refine WQ.renamed (t := 113) (v := .bool true) rfl (congrArg Value.bool (decide_eq_true rfl)) ?_
              refine WQ.gy (dj := 113) rfl rfl rfl (Yd.fieldAddr (k := 0) kr_ rfl) ?_
              refine WQ.rd rfl (Wt.yes (dj := 113) rfl rfl) (Rd.load1 kr_ rfl mem_ (by rfl)) ?_
              refine WQ.gy (dj := 113) rfl rfl rfl (Yd.move rfl) ?_
              refine WQ.gy (dj := 113) rfl rfl rfl (Yd.rem32 _ (9#32) rfl rfl rfl rfl (by decide)) ?_
              refine WQ.gy (dj := 113) rfl rfl rfl (Yd.eql32 _ _ rfl rfl rfl rfl) ?_
              refine WQ.y rfl (Yd.pickT rfl rfl) ?_
              refine WQ.y rfl (Yd.move rfl) ?_
              refine WQ.renamed (t := 120) (v := .bool true) rfl (congrArg Value.bool (decide_eq_true rfl)) ?_
              refine WQ.gy (dj := 120) rfl rfl rfl (Yd.fieldAddr (k := 1) kr_ rfl) ?_
              refine WQ.rd rfl (Wt.yes (dj := 120) rfl rfl) (Rd.load1 kr_ rfl mem_ (by rfl)) ?_
              refine WQ.gy (dj := 120) rfl rfl rfl (Yd.len (e := 43) kr_ rfl) ?_
              refine WQ.gy (dj := 120) rfl rfl rfl (Yd.move rfl) ?_
              refine WQ.gy (dj := 120) rfl rfl rfl (Yd.notNil rfl) ?_
              refine WQ.gy (dj := 120) rfl rfl rfl (Yd.fieldAddr (k := 0) kr_ rfl) ?_
              refine WQ.gy (dj := 120) rfl rfl rfl (Yd.fieldAddr (k := 1) kr_ rfl) ?_
              refine WQ.rd rfl (Wt.yes (dj := 120) rfl rfl) (Rd.load1 kr_ rfl mem_ (by rfl)) ?_
              refine WQ.gy (dj := 120) rfl rfl rfl (Yd.len (e := 43) kr_ rfl) ?_
              refine WQ.gy (dj := 120) rfl rfl rfl (Yd.eql rfl rfl) ?_
              refine WQ.y rfl (Yd.pickT rfl rfl) ?_
              refine WQ.y rfl (Yd.move rfl) ?_
              refine WQ.renamed (t := 132) (v := .bool true) rfl (congrArg Value.bool (decide_eq_true rfl)) ?_
              refine WQ.rf rfl (Wt.yes (dj := 132) rfl rfl) (Ent.func Try.call12 rfl) (known_reads) sp_ ?_
              refine WQ.y rfl (Yd.pickT rfl rfl) ?_
              refine WQ.y rfl (Yd.assign rfl) ?_
              refine WQ.nil ?_
              refine WA.done kr_ ?_
              refine DN.then_normal ?_
              refine WC.ret ?_
              refine DN.fit (C := H) sp_ ?_
              refine DN.ret1 Try.results8 rfl ?_
              exact ⟨rfl, rfl⟩

end Go.Proofs.Ytonnkgblligdkaa
