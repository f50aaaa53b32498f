/-
  FenceOnce, FenceUndo: whatever steps come.
-/
import Derived.Test.YtonnkgblligdkaaFence10
set_option linter.unusedVariables false
set_option linter.unusedSimpArgs false
set_option maxHeartbeats 8000000
namespace Go.Proofs.Ytonnkgblligdkaa
open Go.SL


/-- drayage/drayagelaw08.FenceOnce -/
theorem law_FenceOnce (v : Value) (xs : List Value) (cs : List Cl) (H : List Ck) (hv : Rs v cs.length xs H) (hl : xs.length = cs.length * 6) (hc : ∀ i (h : i < cs.length), ClE ((xs.drop (i * 6)).take 6) cs[i] H) (hm : cs.length ≤ 9223372036854775807) : Reads Try.prog 4 [v] H (.bool true) := by
  refine Tells.enter Try.func4 rfl Try.ntmps4 rfl ?_
  intro w0 R
  refine WC.seq ?_
  refine WC.region ?_
  refine WL.y rfl (Yd.assign rfl) ?_
  refine WL.nil ?_
  refine DN.then_normal ?_
  refine WC.seq ?_
  refine WC.region ?_
  refine WL.y rfl (Yd.move rfl) ?_
  refine WL.c rfl (Ent.func Try.call20 rfl) (serve_tells v xs cs H hv hl hc hm) (Sp.p sp_) ?_
  rintro x Hx ⟨p, s, n, C, ok, rfl, hS, inv, hn, rfl⟩
  obtain ⟨vL, CF, vd, cd, Cd, vt, ct, Ct, Dt, vo, co, Co, rfl, hF, hOd, hKd, hOt, hKt, hOo, hKo⟩ := hS
  obtain ⟨lo, lc, rfl⟩ := hF.form
  obtain ⟨do_, dc, rfl, hdc⟩ := hOd.form
  obtain ⟨to_, tc, rfl, htc⟩ := hOt.form
  obtain ⟨oo, oc, rfl, hoc⟩ := hOo.form
  have hmany := inv.many
  have hKdl := hKd.len
  have hKtl := hKt.len
  refine WL.y rfl (Yd.move rfl) ?_
  refine WL.y rfl (Yd.extract rfl rfl) ?_
  refine WL.y rfl (Yd.extract rfl rfl) ?_
  refine WL.y rfl (Yd.assign rfl) ?_
  refine WL.y rfl (Yd.assign rfl) ?_
  refine WL.nil ?_
  refine DN.then_normal ?_
  refine WC.seq ?_
  refine WC.seq ?_
  refine WC.region ?_
  refine WL.y rfl (Yd.move rfl) ?_
  refine WL.y rfl (Yd.notB rfl) ?_
  refine WL.y rfl (Yd.move rfl) ?_
  refine WL.part (t := 16) rfl (fun hg16 => ?_) (fun hg16 => ?_)
  · refine WL.gn (dj := 16) rfl rfl rfl rfl ?_
    refine WL.gn (dj := 16) rfl rfl rfl rfl ?_
    refine WL.gn (dj := 16) rfl rfl rfl rfl ?_
    refine WL.gn (dj := 16) rfl rfl rfl rfl ?_
    refine WL.y rfl (Yd.pickT rfl rfl) ?_
    refine WL.nil ?_
    refine DN.then_normal ?_
    refine WC.yes rfl ?_
    refine WC.seq ?_
    refine WC.region ?_
    refine WL.y rfl (Yd.move rfl) ?_
    refine WL.y rfl (Yd.notB rfl) ?_
    refine WL.y rfl (Yd.move rfl) ?_
    refine WL.renamed (t := 24) (v := .bool true) rfl (congrArg Value.bool (hg16)) ?_
    refine WL.grf (dj := 24) rfl rfl rfl (Ent.func Try.call12 rfl) (known_reads) sp_ ?_
    refine WL.y rfl (Yd.pickT rfl rfl) ?_
    refine WL.y rfl (Yd.assign rfl) ?_
    refine WL.nil ?_
    refine DN.then_normal ?_
    refine WC.ret ?_
    refine DN.then_ret ?_
    refine DN.fit (C := H) sp_ ?_
    refine DN.ret1 Try.results4 rfl ?_
    exact ⟨rfl, rfl⟩
  · refine WL.gy (dj := 16) rfl rfl rfl (Yd.move rfl) ?_
    refine WL.gy (dj := 16) rfl rfl rfl (Yd.notNil rfl) ?_
    refine WL.gy (dj := 16) rfl rfl rfl (Yd.fieldAddr (k := 5) kr_ rfl) ?_
    refine WL.gh (dj := 16) rfl rfl rfl (Hd.load1 kr_ rfl mem_ (by rfl) ⟨_, rfl, ?_⟩)
    refine WL.renamed (t := 20) (v := .bool false) rfl (congrArg Value.bool (rfl)) ?_
    refine WL.y rfl (Yd.pickF rfl rfl) ?_
    refine WL.nil ?_
    refine DN.then_normal ?_
    refine WC.no rfl ?_
    refine WC.skip ?_
    refine DN.then_normal ?_
    refine WC.seq ?_
    refine WC.seq ?_
    refine WC.region ?_
    refine WL.y rfl (Yd.assign rfl) ?_
    refine WL.nil ?_
    refine DN.then_normal ?_
    refine WC.block ?_
    refine WC.loopS (fun z : Nat => z ≤ s.done.length) (fun z : Nat => [(5, .int .i64 (z : Int))]) (fun z : Nat => row p [.int .u32 s.e.toNat, .slice lo s.ks.length lc, .slice do_ s.done.length dc, .slice to_ s.told.length tc, .slice oo s.over.length oc, .bool false] 50 :: (CF ++ (Cd ++ (Ct ++ (Dt ++ (Co ++ H)))))) (fun z : Nat => s.done.length - z) (0) (show 0 ≤ s.done.length from Nat.zero_le _) (Sx.put rfl (sx_)) sp_ ?_
    rintro i hI
    replace hI : i ≤ s.done.length := hI
    obtain hi := hI
    change WC _ _ _ _ _ _ ([(5, .int .i64 (i : Int))] ++ _) (row p [.int .u32 s.e.toNat, .slice lo s.ks.length lc, .slice do_ s.done.length dc, .slice to_ s.told.length tc, .slice oo s.over.length oc, .bool false] 50 :: (CF ++ (Cd ++ (Ct ++ (Dt ++ (Co ++ H))))))
    refine WC.seq ?_
    refine WC.seq ?_
    refine WC.region ?_
    refine WL.y rfl (Yd.move rfl) ?_
    refine WL.y rfl (Yd.move rfl) ?_
    refine WL.y rfl (Yd.notNil rfl) ?_
    refine WL.y rfl (Yd.fieldAddr (k := 2) kr_ rfl) ?_
    refine WL.h rfl (Hd.load1 kr_ rfl mem_ (by rfl) ⟨_, rfl, ?_⟩)
    refine WL.y rfl (Yd.len (e := 43) kr_ rfl) ?_
    refine WL.y rfl (Yd.lss rfl rfl) ?_
    refine WL.nil ?_
    refine DN.then_normal ?_
    refine WC.ite rfl (fun h33 => ?_) (fun h33 => ?_)
    · have hlt : i < s.done.length := by omega
      refine WC.skip ?_
      refine DN.then_normal ?_
      refine WC.seq ?_
      refine WC.block ?_
      refine WC.seq ?_
      refine WC.region ?_
      refine WL.y rfl (Yd.assign rfl) ?_
      refine WL.nil ?_
      refine DN.then_normal ?_
      refine WC.block ?_
      refine WC.loopS (fun z : Nat => z ≤ i) (fun z : Nat => [(6, .int .i64 (z : Int))]) (fun z : Nat => row p [.int .u32 s.e.toNat, .slice lo s.ks.length lc, .slice do_ s.done.length dc, .slice to_ s.told.length tc, .slice oo s.over.length oc, .bool false] 50 :: (CF ++ (Cd ++ (Ct ++ (Dt ++ (Co ++ H)))))) (fun z : Nat => i - z) (0) (show 0 ≤ i from Nat.zero_le _) (Sx.put rfl (sx_)) sp_ ?_
      rintro k hI
      replace hI : k ≤ i := hI
      obtain hk := hI
      change WC _ _ _ _ _ _ ([(6, .int .i64 (k : Int))] ++ _) (row p [.int .u32 s.e.toNat, .slice lo s.ks.length lc, .slice do_ s.done.length dc, .slice to_ s.told.length tc, .slice oo s.over.length oc, .bool false] 50 :: (CF ++ (Cd ++ (Ct ++ (Dt ++ (Co ++ H))))))
      refine WC.seq ?_
      refine WC.seq ?_
      refine WC.region ?_
      refine WL.y rfl (Yd.move rfl) ?_
      refine WL.y rfl (Yd.move rfl) ?_
      refine WL.y rfl (Yd.lss rfl rfl) ?_
      refine WL.nil ?_
      refine DN.then_normal ?_
      refine WC.ite rfl (fun h38 => ?_) (fun h38 => ?_)
      · have hlt2 : k < i := by omega
        obtain ⟨ai, ri, hgi, hai, hri⟩ := hKd.at i hlt
        obtain ⟨ak, rk, hgk, hak, hrk⟩ := hKd.at k (by omega)
        obtain ⟨lb, lf, lcs, lT, lfr, lex, elo, _, hlm, hlcs⟩ := hOd.rs.lies (by omega)
        refine WC.skip ?_
        refine DN.then_normal ?_
        refine WC.seq ?_
        refine WC.block ?_
        refine WC.seq ?_
        refine WC.draw 15 kr_ rfl ?_
        refine WA.quiet 15 0 rfl rfl kr_ kr_ kr_ rfl ?_
        refine WQ.y rfl (Yd.move rfl) ?_
        refine WQ.y rfl (Yd.notNil rfl) ?_
        refine WQ.y rfl (Yd.fieldAddr (k := 2) kr_ rfl) ?_
        refine WQ.rd rfl Wt.none (Rd.load1 kr_ rfl mem_ (by rfl)) ?_
        refine WQ.y rfl (Yd.move rfl) ?_
        refine WQ.y rfl (Yd.indexAddr (e := 43) (s := 6) (b := lb) (o := lf) (n := s.done.length) (c := dc) kr_ kr_ (congrArg (fun q => some (Value.slice q s.done.length dc)) elo) rfl (by omega) (by omega)) ?_
        refine WQ.rd rfl Wt.none (Rd.loadA (n := 6) (b := lb) (o := lf + (i : Int).toNat * 6) (cs := lcs) (vs := kc s.done[i] ai ri) kr_ rfl (Gr.get gr_ hlm) rfl (rs_cell hlcs (by omega) hgi)) ?_
        refine WQ.y rfl (Yd.move rfl) ?_
        refine WQ.y rfl (Yd.notNil rfl) ?_
        refine WQ.y rfl (Yd.fieldAddr (k := 2) kr_ rfl) ?_
        refine WQ.rd rfl Wt.none (Rd.load1 kr_ rfl mem_ (by rfl)) ?_
        refine WQ.y rfl (Yd.move rfl) ?_
        refine WQ.y rfl (Yd.indexAddr (e := 43) (s := 6) (b := lb) (o := lf) (n := s.done.length) (c := dc) kr_ kr_ (congrArg (fun q => some (Value.slice q s.done.length dc)) elo) rfl (by omega) (by omega)) ?_
        refine WQ.rd rfl Wt.none (Rd.loadA (n := 6) (b := lb) (o := lf + (k : Int).toNat * 6) (cs := lcs) (vs := kc s.done[k] ak rk) kr_ rfl (Gr.get gr_ hlm) rfl (rs_cell hlcs (by omega) hgk)) ?_
        refine WQ.rf rfl Wt.none (Ent.func Try.call21 rfl) (same_reads s.done[i] s.done[k] ai ri ak rk _) Sp.sn ?_
        refine WQ.renamed (t := 55) (v := .bool false) rfl (congrArg Value.bool (decide_eq_false (fun h => List.pairwise_iff_getElem.1 inv.apart k i (by omega) hlt hlt2 h))) ?_
        refine WQ.nil ?_
        refine WA.done kr_ ?_
        refine DN.then_normal ?_
        refine WC.no rfl ?_
        refine WC.skip ?_
        refine DN.block_normal ?_
        refine DN.then_normal ?_
        refine WC.region ?_
        refine WL.y rfl (Yd.move rfl) ?_
        refine WL.y rfl (Yd.add rfl rfl (by omega) (by omega)) ?_
        refine WL.y rfl (Yd.assign rfl) ?_
        refine WL.nil ?_
        exact DN.againS (k + 1) (show (k + 1) ≤ i from by omega) (show i - (k + 1) < i - k by omega) (Sx.put rfl (sx_)) sp_
      · obtain rfl : i = k := by omega
        refine WC.exit ?_
        refine DN.then_exit ?_
        refine DN.then_exit ?_
        refine DN.block_exit ?_
        refine DN.block_normal ?_
        refine DN.then_normal ?_
        refine WC.region ?_
        refine WL.y rfl (Yd.move rfl) ?_
        refine WL.y rfl (Yd.add rfl rfl (by omega) (by omega)) ?_
        refine WL.y rfl (Yd.assign rfl) ?_
        refine WL.nil ?_
        exact DN.againS (i + 1) (show (i + 1) ≤ s.done.length from by omega) (show s.done.length - (i + 1) < s.done.length - i by omega) (Sx.put rfl (sx_)) sp_
    · refine WC.exit ?_
      refine DN.then_exit ?_
      refine DN.then_exit ?_
      refine DN.block_exit ?_
      refine DN.then_normal ?_
      refine WC.seq ?_
      refine WC.seq ?_
      refine WC.region ?_
      refine WL.y rfl (Yd.assign rfl) ?_
      refine WL.nil ?_
      refine DN.then_normal ?_
      refine WC.block ?_
      refine WC.loopS (fun z : Nat => z ≤ s.told.length) (fun z : Nat => [(7, .int .i64 (z : Int))]) (fun z : Nat => row p [.int .u32 s.e.toNat, .slice lo s.ks.length lc, .slice do_ s.done.length dc, .slice to_ s.told.length tc, .slice oo s.over.length oc, .bool false] 50 :: (CF ++ (Cd ++ (Ct ++ (Dt ++ (Co ++ H)))))) (fun z : Nat => s.told.length - z) (0) (show 0 ≤ s.told.length from Nat.zero_le _) (Sx.put rfl (sx_)) sp_ ?_
      rintro i hI
      replace hI : i ≤ s.told.length := hI
      obtain hi := hI
      change WC _ _ _ _ _ _ ([(7, .int .i64 (i : Int))] ++ _) (row p [.int .u32 s.e.toNat, .slice lo s.ks.length lc, .slice do_ s.done.length dc, .slice to_ s.told.length tc, .slice oo s.over.length oc, .bool false] 50 :: (CF ++ (Cd ++ (Ct ++ (Dt ++ (Co ++ H))))))
      refine WC.seq ?_
      refine WC.seq ?_
      refine WC.region ?_
      refine WL.y rfl (Yd.move rfl) ?_
      refine WL.y rfl (Yd.move rfl) ?_
      refine WL.y rfl (Yd.notNil rfl) ?_
      refine WL.y rfl (Yd.fieldAddr (k := 3) kr_ rfl) ?_
      refine WL.h rfl (Hd.load1 kr_ rfl mem_ (by rfl) ⟨_, rfl, ?_⟩)
      refine WL.y rfl (Yd.len (e := 43) kr_ rfl) ?_
      refine WL.y rfl (Yd.lss rfl rfl) ?_
      refine WL.nil ?_
      refine DN.then_normal ?_
      refine WC.ite rfl (fun h62 => ?_) (fun h62 => ?_)
      · have hlt : i < s.told.length := by omega
        refine WC.skip ?_
        refine DN.then_normal ?_
        refine WC.seq ?_
        refine WC.block ?_
        refine WC.seq ?_
        refine WC.region ?_
        refine WL.y rfl (Yd.assign rfl) ?_
        refine WL.nil ?_
        refine DN.then_normal ?_
        refine WC.block ?_
        refine WC.loopS (fun z : Nat => z ≤ i) (fun z : Nat => [(8, .int .i64 (z : Int))]) (fun z : Nat => row p [.int .u32 s.e.toNat, .slice lo s.ks.length lc, .slice do_ s.done.length dc, .slice to_ s.told.length tc, .slice oo s.over.length oc, .bool false] 50 :: (CF ++ (Cd ++ (Ct ++ (Dt ++ (Co ++ H)))))) (fun z : Nat => i - z) (0) (show 0 ≤ i from Nat.zero_le _) (Sx.put rfl (sx_)) sp_ ?_
        rintro k hI
        replace hI : k ≤ i := hI
        obtain hk := hI
        change WC _ _ _ _ _ _ ([(8, .int .i64 (k : Int))] ++ _) (row p [.int .u32 s.e.toNat, .slice lo s.ks.length lc, .slice do_ s.done.length dc, .slice to_ s.told.length tc, .slice oo s.over.length oc, .bool false] 50 :: (CF ++ (Cd ++ (Ct ++ (Dt ++ (Co ++ H))))))
        refine WC.seq ?_
        refine WC.seq ?_
        refine WC.region ?_
        refine WL.y rfl (Yd.move rfl) ?_
        refine WL.y rfl (Yd.move rfl) ?_
        refine WL.y rfl (Yd.lss rfl rfl) ?_
        refine WL.nil ?_
        refine DN.then_normal ?_
        refine WC.ite rfl (fun h67 => ?_) (fun h67 => ?_)
        · have hlt2 : k < i := by omega
          obtain ⟨ai, ri, hgi, hai, hri⟩ := hKt.views.at i hlt
          obtain ⟨ak, rk, hgk, hak, hrk⟩ := hKt.views.at k (by omega)
          obtain ⟨lb, lf, lcs, lT, lfr, lex, elo, _, hlm, hlcs⟩ := hOt.rs.lies (by omega)
          refine WC.skip ?_
          refine DN.then_normal ?_
          refine WC.seq ?_
          refine WC.block ?_
          refine WC.seq ?_
          refine WC.draw 33 kr_ rfl ?_
          refine WA.quiet 33 0 rfl rfl kr_ kr_ kr_ rfl ?_
          refine WQ.y rfl (Yd.move rfl) ?_
          refine WQ.y rfl (Yd.notNil rfl) ?_
          refine WQ.y rfl (Yd.fieldAddr (k := 3) kr_ rfl) ?_
          refine WQ.rd rfl Wt.none (Rd.load1 kr_ rfl mem_ (by rfl)) ?_
          refine WQ.y rfl (Yd.move rfl) ?_
          refine WQ.y rfl (Yd.indexAddr (e := 43) (s := 6) (b := lb) (o := lf) (n := s.told.length) (c := tc) kr_ kr_ (congrArg (fun q => some (Value.slice q s.told.length tc)) elo) rfl (by omega) (by omega)) ?_
          refine WQ.rd rfl Wt.none (Rd.loadA (n := 6) (b := lb) (o := lf + (i : Int).toNat * 6) (cs := lcs) (vs := kc s.told[i] ai ri) kr_ rfl (Gr.get gr_ hlm) rfl (rs_cell hlcs (by omega) hgi)) ?_
          refine WQ.y rfl (Yd.move rfl) ?_
          refine WQ.y rfl (Yd.notNil rfl) ?_
          refine WQ.y rfl (Yd.fieldAddr (k := 3) kr_ rfl) ?_
          refine WQ.rd rfl Wt.none (Rd.load1 kr_ rfl mem_ (by rfl)) ?_
          refine WQ.y rfl (Yd.move rfl) ?_
          refine WQ.y rfl (Yd.indexAddr (e := 43) (s := 6) (b := lb) (o := lf) (n := s.told.length) (c := tc) kr_ kr_ (congrArg (fun q => some (Value.slice q s.told.length tc)) elo) rfl (by omega) (by omega)) ?_
          refine WQ.rd rfl Wt.none (Rd.loadA (n := 6) (b := lb) (o := lf + (k : Int).toNat * 6) (cs := lcs) (vs := kc s.told[k] ak rk) kr_ rfl (Gr.get gr_ hlm) rfl (rs_cell hlcs (by omega) hgk)) ?_
          refine WQ.rf rfl Wt.none (Ent.func Try.call21 rfl) (same_reads s.told[i] s.told[k] ai ri ak rk _) Sp.sn ?_
          refine WQ.y rfl (Yd.move rfl) ?_
          refine WQ.part (t := 85) rfl (fun hg85 => ?_) (fun hg85 => ?_)
          · refine WQ.gy (dj := 85) rfl rfl rfl (Yd.move rfl) ?_
            refine WQ.gy (dj := 85) rfl rfl rfl (Yd.notNil rfl) ?_
            refine WQ.gy (dj := 85) rfl rfl rfl (Yd.fieldAddr (k := 3) kr_ rfl) ?_
            refine WQ.rd rfl (Wt.yes (dj := 85) rfl rfl) (Rd.load1 kr_ rfl mem_ (by rfl)) ?_
            refine WQ.gy (dj := 85) rfl rfl rfl (Yd.move rfl) ?_
            refine WQ.gy (dj := 85) rfl rfl rfl (Yd.indexAddr (e := 43) (s := 6) (b := lb) (o := lf) (n := s.told.length) (c := tc) kr_ kr_ (congrArg (fun q => some (Value.slice q s.told.length tc)) elo) rfl (by omega) (by omega)) ?_
            refine WQ.rd rfl (Wt.yes (dj := 85) rfl rfl) (Rd.loadA (n := 6) (b := lb) (o := lf + (i : Int).toNat * 6) (cs := lcs) (vs := kc s.told[i] ai ri) kr_ rfl (Gr.get gr_ hlm) rfl (rs_cell hlcs (by omega) hgi)) ?_
            refine WQ.gy (dj := 85) rfl rfl rfl (Yd.move rfl) ?_
            refine WQ.gy (dj := 85) rfl rfl rfl (Yd.notNil rfl) ?_
            refine WQ.gy (dj := 85) rfl rfl rfl (Yd.fieldAddr (k := 3) kr_ rfl) ?_
            refine WQ.rd rfl (Wt.yes (dj := 85) rfl rfl) (Rd.load1 kr_ rfl mem_ (by rfl)) ?_
            refine WQ.gy (dj := 85) rfl rfl rfl (Yd.move rfl) ?_
            refine WQ.gy (dj := 85) rfl rfl rfl (Yd.indexAddr (e := 43) (s := 6) (b := lb) (o := lf) (n := s.told.length) (c := tc) kr_ kr_ (congrArg (fun q => some (Value.slice q s.told.length tc)) elo) rfl (by omega) (by omega)) ?_
            refine WQ.rd rfl (Wt.yes (dj := 85) rfl rfl) (Rd.loadA (n := 6) (b := lb) (o := lf + (k : Int).toNat * 6) (cs := lcs) (vs := kc s.told[k] ak rk) kr_ rfl (Gr.get gr_ hlm) rfl (rs_cell hlcs (by omega) hgk)) ?_
            refine WQ.rf rfl (Wt.yes (dj := 85) rfl rfl) (Ent.func Try.call22 rfl) (sameKept_reads s.told[i] s.told[k] ai ri ak rk _ (hai.mono gr_) (hri.mono gr_) (hak.mono gr_) (hrk.mono gr_)) Sp.sn ?_
            refine WQ.gy (dj := 85) rfl rfl rfl (Yd.notB rfl) ?_
            refine WQ.renamed (t := 101) (v := .bool false) rfl (congrArg Value.bool (by rw [decide_eq_true (chk_one inv.chk (inv.told _ (List.getElem_mem hlt)) (inv.told _ (List.getElem_mem (by omega))) (by have h9 := of_decide_eq_true hg85; unfold Kp.num; rw [h9.1, h9.2.1, h9.2.2]))]; rfl)) ?_
            refine WQ.y rfl (Yd.pickT rfl rfl) ?_
            refine WQ.nil ?_
            refine WA.done kr_ ?_
            refine DN.then_normal ?_
            refine WC.no rfl ?_
            refine WC.skip ?_
            refine DN.block_normal ?_
            refine DN.then_normal ?_
            refine WC.region ?_
            refine WL.y rfl (Yd.move rfl) ?_
            refine WL.y rfl (Yd.add rfl rfl (by omega) (by omega)) ?_
            refine WL.y rfl (Yd.assign rfl) ?_
            refine WL.nil ?_
            exact DN.againS (k + 1) (show (k + 1) ≤ i from by omega) (show i - (k + 1) < i - k by omega) (Sx.put rfl (sx_)) sp_
          · refine WQ.gn (dj := 85) rfl rfl rfl rfl ?_
            refine WQ.gn (dj := 85) rfl rfl rfl rfl ?_
            refine WQ.gn (dj := 85) rfl rfl rfl rfl ?_
            refine WQ.gn (dj := 85) rfl rfl rfl rfl ?_
            refine WQ.gn (dj := 85) rfl rfl rfl rfl ?_
            refine WQ.gn (dj := 85) rfl rfl rfl rfl ?_
            refine WQ.gn (dj := 85) rfl rfl rfl rfl ?_
            refine WQ.gn (dj := 85) rfl rfl rfl rfl ?_
            refine WQ.gn (dj := 85) rfl rfl rfl rfl ?_
            refine WQ.gn (dj := 85) rfl rfl rfl rfl ?_
            refine WQ.gn (dj := 85) rfl rfl rfl rfl ?_
            refine WQ.gn (dj := 85) rfl rfl rfl rfl ?_
            refine WQ.gn (dj := 85) rfl rfl rfl rfl ?_
            refine WQ.gn (dj := 85) rfl rfl rfl rfl ?_
            refine WQ.gn (dj := 85) rfl rfl rfl rfl ?_
            refine WQ.gn (dj := 85) rfl rfl rfl rfl ?_
            refine WQ.y rfl (Yd.pickF rfl rfl) ?_
            refine WQ.nil ?_
            refine WA.done kr_ ?_
            refine DN.then_normal ?_
            refine WC.no rfl ?_
            refine WC.skip ?_
            refine DN.block_normal ?_
            refine DN.then_normal ?_
            refine WC.region ?_
            refine WL.y rfl (Yd.move rfl) ?_
            refine WL.y rfl (Yd.add rfl rfl (by omega) (by omega)) ?_
            refine WL.y rfl (Yd.assign rfl) ?_
            refine WL.nil ?_
            exact DN.againS (k + 1) (show (k + 1) ≤ i from by omega) (show i - (k + 1) < i - k by omega) (Sx.put rfl (sx_)) sp_
        · obtain rfl : i = k := by omega
          refine WC.exit ?_
          refine DN.then_exit ?_
          refine DN.then_exit ?_
          refine DN.block_exit ?_
          refine DN.block_normal ?_
          refine DN.then_normal ?_
          refine WC.region ?_
          refine WL.y rfl (Yd.move rfl) ?_
          refine WL.y rfl (Yd.add rfl rfl (by omega) (by omega)) ?_
          refine WL.y rfl (Yd.assign rfl) ?_
          refine WL.nil ?_
          exact DN.againS (i + 1) (show (i + 1) ≤ s.told.length from by omega) (show s.told.length - (i + 1) < s.told.length - i by omega) (Sx.put rfl (sx_)) sp_
      · refine WC.exit ?_
        refine DN.then_exit ?_
        refine DN.then_exit ?_
        refine DN.block_exit ?_
        refine DN.then_normal ?_
        refine WC.seq ?_
        refine WC.region ?_
        refine WL.rf rfl (Ent.func Try.call12 rfl) (known_reads) sp_ ?_
        refine WL.y rfl (Yd.assign rfl) ?_
        refine WL.nil ?_
        refine DN.then_normal ?_
        refine WC.ret ?_
        refine DN.fit (C := H) sp_ ?_
        refine DN.ret1 Try.results4 rfl ?_
        exact ⟨rfl, rfl⟩

/-- drayage/drayagelaw08.FenceUndo -/
theorem law_FenceUndo (v : Value) (xs : List Value) (cs : List Cl) (H : List Ck) (hv : Rs v cs.length xs H) (hl : xs.length = cs.length * 6) (hc : ∀ i (h : i < cs.length), ClE ((xs.drop (i * 6)).take 6) cs[i] H) (hm : cs.length ≤ 9223372036854775807) : Reads Try.prog 5 [v] H (.bool true) := by
  refine Tells.enter Try.func5 rfl Try.ntmps5 rfl ?_
  intro w0 R
  refine WC.seq ?_
  refine WC.region ?_
  refine WL.y rfl (Yd.assign rfl) ?_
  refine WL.nil ?_
  refine DN.then_normal ?_
  refine WC.seq ?_
  refine WC.region ?_
  refine WL.y rfl (Yd.move rfl) ?_
  refine WL.c rfl (Ent.func Try.call20 rfl) (serve_tells v xs cs H hv hl hc hm) (Sp.p sp_) ?_
  rintro x Hx ⟨p, s, n, C, ok, rfl, hS, inv, hn, rfl⟩
  obtain ⟨vL, CF, vd, cd, Cd, vt, ct, Ct, Dt, vo, co, Co, rfl, hF, hOd, hKd, hOt, hKt, hOo, hKo⟩ := hS
  obtain ⟨lo, lc, rfl⟩ := hF.form
  obtain ⟨do_, dc, rfl, hdc⟩ := hOd.form
  obtain ⟨to_, tc, rfl, htc⟩ := hOt.form
  obtain ⟨oo, oc, rfl, hoc⟩ := hOo.form
  have hmany := inv.many
  have hKdl := hKd.len
  have hKtl := hKt.len
  refine WL.y rfl (Yd.move rfl) ?_
  refine WL.y rfl (Yd.extract rfl rfl) ?_
  refine WL.y rfl (Yd.extract rfl rfl) ?_
  refine WL.y rfl (Yd.assign rfl) ?_
  refine WL.y rfl (Yd.assign rfl) ?_
  refine WL.nil ?_
  refine DN.then_normal ?_
  refine WC.seq ?_
  refine WC.seq ?_
  refine WC.region ?_
  refine WL.y rfl (Yd.move rfl) ?_
  refine WL.y rfl (Yd.notB rfl) ?_
  refine WL.y rfl (Yd.move rfl) ?_
  refine WL.part (t := 17) rfl (fun hg17 => ?_) (fun hg17 => ?_)
  · refine WL.gn (dj := 17) rfl rfl rfl rfl ?_
    refine WL.gn (dj := 17) rfl rfl rfl rfl ?_
    refine WL.gn (dj := 17) rfl rfl rfl rfl ?_
    refine WL.gn (dj := 17) rfl rfl rfl rfl ?_
    refine WL.y rfl (Yd.pickT rfl rfl) ?_
    refine WL.nil ?_
    refine DN.then_normal ?_
    refine WC.yes rfl ?_
    refine WC.seq ?_
    refine WC.region ?_
    refine WL.y rfl (Yd.move rfl) ?_
    refine WL.y rfl (Yd.notB rfl) ?_
    refine WL.y rfl (Yd.move rfl) ?_
    refine WL.renamed (t := 25) (v := .bool true) rfl (congrArg Value.bool (hg17)) ?_
    refine WL.grf (dj := 25) rfl rfl rfl (Ent.func Try.call12 rfl) (known_reads) sp_ ?_
    refine WL.y rfl (Yd.pickT rfl rfl) ?_
    refine WL.y rfl (Yd.assign rfl) ?_
    refine WL.nil ?_
    refine DN.then_normal ?_
    refine WC.ret ?_
    refine DN.then_ret ?_
    refine DN.fit (C := H) sp_ ?_
    refine DN.ret1 Try.results5 rfl ?_
    exact ⟨rfl, rfl⟩
  · refine WL.gy (dj := 17) rfl rfl rfl (Yd.move rfl) ?_
    refine WL.gy (dj := 17) rfl rfl rfl (Yd.notNil rfl) ?_
    refine WL.gy (dj := 17) rfl rfl rfl (Yd.fieldAddr (k := 5) kr_ rfl) ?_
    refine WL.gh (dj := 17) rfl rfl rfl (Hd.load1 kr_ rfl mem_ (by rfl) ⟨_, rfl, ?_⟩)
    refine WL.renamed (t := 21) (v := .bool false) rfl (congrArg Value.bool (rfl)) ?_
    refine WL.y rfl (Yd.pickF rfl rfl) ?_
    refine WL.nil ?_
    refine DN.then_normal ?_
    refine WC.no rfl ?_
    refine WC.skip ?_
    refine DN.then_normal ?_
    refine WC.seq ?_
    refine WC.seq ?_
    refine WC.region ?_
    refine WL.y rfl (Yd.assign rfl) ?_
    refine WL.nil ?_
    refine DN.then_normal ?_
    refine WC.block ?_
    refine WC.loopS (fun z : Nat => z ≤ s.done.length) (fun z : Nat => [(5, .int .i64 (z : Int))]) (fun z : Nat => row p [.int .u32 s.e.toNat, .slice lo s.ks.length lc, .slice do_ s.done.length dc, .slice to_ s.told.length tc, .slice oo s.over.length oc, .bool false] 50 :: (CF ++ (Cd ++ (Ct ++ (Dt ++ (Co ++ H)))))) (fun z : Nat => s.done.length - z) (0) (show 0 ≤ s.done.length from Nat.zero_le _) (Sx.put rfl (sx_)) sp_ ?_
    rintro i hI
    replace hI : i ≤ s.done.length := hI
    obtain hi := hI
    change WC _ _ _ _ _ _ ([(5, .int .i64 (i : Int))] ++ _) (row p [.int .u32 s.e.toNat, .slice lo s.ks.length lc, .slice do_ s.done.length dc, .slice to_ s.told.length tc, .slice oo s.over.length oc, .bool false] 50 :: (CF ++ (Cd ++ (Ct ++ (Dt ++ (Co ++ H))))))
    refine WC.seq ?_
    refine WC.seq ?_
    refine WC.region ?_
    refine WL.y rfl (Yd.move rfl) ?_
    refine WL.y rfl (Yd.move rfl) ?_
    refine WL.y rfl (Yd.notNil rfl) ?_
    refine WL.y rfl (Yd.fieldAddr (k := 2) kr_ rfl) ?_
    refine WL.h rfl (Hd.load1 kr_ rfl mem_ (by rfl) ⟨_, rfl, ?_⟩)
    refine WL.y rfl (Yd.len (e := 43) kr_ rfl) ?_
    refine WL.y rfl (Yd.lss rfl rfl) ?_
    refine WL.nil ?_
    refine DN.then_normal ?_
    refine WC.ite rfl (fun h34 => ?_) (fun h34 => ?_)
    · have hlt : i < s.done.length := by omega
      obtain ⟨ai, ri, hgi, hai, hri⟩ := hKd.at i hlt
      refine WC.skip ?_
      refine DN.then_normal ?_
      refine WC.seq ?_
      refine WC.block ?_
      refine WC.seq ?_
      refine WC.region ?_
      refine WL.y rfl (Yd.move rfl) ?_
      refine WL.y rfl (Yd.notNil rfl) ?_
      refine WL.y rfl (Yd.fieldAddr (k := 2) kr_ rfl) ?_
      refine WL.h rfl (Hd.load1 kr_ rfl mem_ (by rfl) ⟨_, rfl, ?_⟩)
      refine WL.y rfl (Yd.move rfl) ?_
      refine WL.elemA (e := 43) (s := 6) kr_ kr_ kr_ rfl rfl (rfl) (hOd.rs.mono gr_) (hgi) (by rfl) (by omega) (hlt) rfl rfl ?_
      intro p42
      refine WL.h rfl (Hd.alloc (zs := [.int .u32 0, .int .i64 0, .bool false, .slice none 0 0, .int .i64 0, .slice none 0 0]) kr_ fun b6 => ⟨_, rfl, ?_⟩)
      refine WL.s (Hd.storeAll (n := 6) kr_ rfl rfl (by rfl) one_ fr_ (by rfl) ⟨rfl, ?_⟩)
      refine WL.nil ?_
      refine DN.then_normal ?_
      refine WC.seq ?_
      refine WC.region ?_
      refine WL.y rfl (Yd.assign rfl) ?_
      refine WL.nil ?_
      refine DN.then_normal ?_
      refine WC.seq ?_
      refine WC.seq ?_
      refine WC.region ?_
      refine WL.y rfl (Yd.assign rfl) ?_
      refine WL.nil ?_
      refine DN.then_normal ?_
      refine WC.block ?_
      refine WC.loopS (fun z : Nat × Bool => z.1 ≤ i ∧ (z.2 = true ↔ fwdTo s.done s.done[i] z.1)) (fun z : Nat × Bool => [(8, .int .i64 (z.1 : Int)), (7, .bool z.2)]) (fun z : Nat × Bool => row b6 (kc s.done[i] ai ri) 43 :: (row p [.int .u32 s.e.toNat, .slice lo s.ks.length lc, .slice do_ s.done.length dc, .slice to_ s.told.length tc, .slice oo s.over.length oc, .bool false] 50 :: (CF ++ (Cd ++ (Ct ++ (Dt ++ (Co ++ H))))))) (fun z : Nat × Bool => i - z.1) (⟨0, false⟩) (show 0 ≤ i ∧ (false = true ↔ fwdTo s.done s.done[i] 0) from ⟨Nat.zero_le _, ⟨fun h => (by cases h), fun h => absurd h (fwdTo_zero _ _)⟩⟩) (Sx.put rfl (Sx.put rfl (sx_))) sp_ ?_
      rintro ⟨k, f⟩ hI
      replace hI : k ≤ i ∧ (f = true ↔ fwdTo s.done s.done[i] k) := hI
      obtain ⟨hk, hf⟩ := hI
      change WC _ _ _ _ _ _ ([(8, .int .i64 (k : Int)), (7, .bool f)] ++ _) (row b6 (kc s.done[i] ai ri) 43 :: (row p [.int .u32 s.e.toNat, .slice lo s.ks.length lc, .slice do_ s.done.length dc, .slice to_ s.told.length tc, .slice oo s.over.length oc, .bool false] 50 :: (CF ++ (Cd ++ (Ct ++ (Dt ++ (Co ++ H)))))))
      refine WC.seq ?_
      refine WC.seq ?_
      refine WC.region ?_
      refine WL.y rfl (Yd.move rfl) ?_
      refine WL.y rfl (Yd.move rfl) ?_
      refine WL.y rfl (Yd.lss rfl rfl) ?_
      refine WL.nil ?_
      refine DN.then_normal ?_
      refine WC.ite rfl (fun h46 => ?_) (fun h46 => ?_)
      · have hlt2 : k < i := by omega
        obtain ⟨ak, rk, hgk, hak, hrk⟩ := hKd.at k (by omega)
        obtain ⟨mo, mf, mcs, mT, mfr, mex, emo, _, hmm, hmcs⟩ := hOd.rs.lies (by omega)
        refine WC.skip ?_
        refine DN.then_normal ?_
        refine WC.seq ?_
        refine WC.block ?_
        refine WC.seq ?_
        refine WC.region ?_
        refine WL.y rfl (Yd.move rfl) ?_
        refine WL.y rfl (Yd.notNil rfl) ?_
        refine WL.y rfl (Yd.fieldAddr (k := 2) kr_ rfl) ?_
        refine WL.h rfl (Hd.load1 kr_ rfl mem_ (by rfl) ⟨_, rfl, ?_⟩)
        refine WL.y rfl (Yd.move rfl) ?_
        refine WL.elemA (e := 43) (s := 6) kr_ kr_ kr_ rfl rfl (rfl) (hOd.rs.mono gr_) (hgk) (by rfl) (by omega) ((by omega)) rfl rfl ?_
        intro p54
        refine WL.h rfl (Hd.alloc (zs := [.int .u32 0, .int .i64 0, .bool false, .slice none 0 0, .int .i64 0, .slice none 0 0]) kr_ fun b9 => ⟨_, rfl, ?_⟩)
        refine WL.s (Hd.storeAll (n := 6) kr_ rfl rfl (by rfl) one_ fr_ (by rfl) ⟨rfl, ?_⟩)
        refine WL.nil ?_
        refine DN.then_normal ?_
        refine WC.seq ?_
        refine WC.region ?_
        refine WL.y rfl (Yd.fieldAddr (k := 0) kr_ rfl) ?_
        refine WL.h rfl (Hd.load1 kr_ rfl mem_ (by rfl) ⟨_, rfl, ?_⟩)
        refine WL.y rfl (Yd.fieldAddr (k := 0) kr_ rfl) ?_
        refine WL.h rfl (Hd.load1 kr_ rfl mem_ (by rfl) ⟨_, rfl, ?_⟩)
        refine WL.y rfl (Yd.eql32 _ _ rfl rfl rfl rfl) ?_
        refine WL.y rfl (Yd.move rfl) ?_
        refine WL.partP (t := 61) rfl (fun hg61 => ?_) (fun hg61 => ?_)
        · refine WL.gy (dj := 61) rfl rfl rfl (Yd.fieldAddr (k := 1) kr_ rfl) ?_
          refine WL.gh (dj := 61) rfl rfl rfl (Hd.load1 kr_ rfl mem_ (by rfl) ⟨_, rfl, ?_⟩)
          refine WL.gy (dj := 61) rfl rfl rfl (Yd.fieldAddr (k := 1) kr_ rfl) ?_
          refine WL.gh (dj := 61) rfl rfl rfl (Hd.load1 kr_ rfl mem_ (by rfl) ⟨_, rfl, ?_⟩)
          refine WL.gy (dj := 61) rfl rfl rfl (Yd.eql rfl rfl) ?_
          refine WL.y rfl (Yd.pickT rfl rfl) ?_
          refine WL.nil ?_
          refine DN.then_normal ?_
          refine WC.cond rfl (fun hz67 => ?_) (fun hz67 => ?_)
          · refine WC.seq ?_
            refine WC.region ?_
            refine WL.y rfl (Yd.move rfl) ?_
            refine WL.y rfl (Yd.move rfl) ?_
            refine WL.part (t := 69) rfl (fun hg69 => ?_) (fun hg69 => ?_)
            · refine WL.gn (dj := 69) rfl rfl rfl rfl ?_
              refine WL.gn (dj := 69) rfl rfl rfl rfl ?_
              refine WL.gn (dj := 69) rfl rfl rfl rfl ?_
              refine WL.y rfl (Yd.pickT rfl rfl) ?_
              refine WL.y rfl (Yd.assign rfl) ?_
              refine WL.nil ?_
              refine DN.then_normal ?_
              refine WC.seq ?_
              refine WC.region ?_
              refine WL.y rfl (Yd.fieldAddr (k := 2) kr_ rfl) ?_
              refine WL.h rfl (Hd.load1 kr_ rfl mem_ (by rfl) ⟨_, rfl, ?_⟩)
              refine WL.nil ?_
              refine DN.then_normal ?_
              refine WC.cond rfl (fun h75 => ?_) (fun h75 => ?_)
              · exact absurd (List.pairwise_iff_getElem.1 inv.order k i (by omega) hlt hlt2 hg61.symm (of_decide_eq_true hz67).symm) (by rw [h75]; decide) --done
              · refine WC.skip ?_
                refine DN.block_normal ?_
                refine DN.then_normal ?_
                refine WC.region ?_
                refine WL.y rfl (Yd.move rfl) ?_
                refine WL.y rfl (Yd.add rfl rfl (by omega) (by omega)) ?_
                refine WL.y rfl (Yd.assign rfl) ?_
                refine WL.nil ?_
                have hun : s.done[k].order = s.done[i].order → s.done[k].step = s.done[i].step → s.done[k].undo = false := fun e1 e2 => List.pairwise_iff_getElem.1 inv.order k i (by omega) hlt hlt2 e1.symm e2.symm
                have hnx : ∀ b : Bool, (b = true ↔ (f = true ∨ (s.done[k].order = s.done[i].order ∧ s.done[k].step = s.done[i].step))) → (b = true ↔ fwdTo s.done s.done[i] (k + 1)) := fun b hb => by
                  rw [hb, hf, fwdTo_succ (by omega)]
                  exact ⟨fun h => h.elim .inl fun h => .inr ⟨h.1, h.2, hun h.1 h.2⟩, fun h => h.elim .inl fun h => .inr ⟨h.1, h.2.1⟩⟩
                first
                | exact DN.againS (k + 1, true) ⟨(by omega : k + 1 ≤ i), hnx true ⟨fun _ => .inr ⟨hg61, of_decide_eq_true hz67⟩, fun _ => rfl⟩⟩ (show i - (k + 1) < i - k by omega) ((Sx.put rfl (Sx.put rfl (sx_)))) sp_
                | exact DN.againS (k + 1, !s.done[k].undo) ⟨(by omega : k + 1 ≤ i), hnx _ ⟨fun _ => .inr ⟨hg61, of_decide_eq_true hz67⟩, fun _ => by rw [hun hg61 (of_decide_eq_true hz67)]; rfl⟩⟩ (show i - (k + 1) < i - k by omega) ((Sx.put rfl (Sx.put rfl (sx_)))) sp_
                | exact DN.againS (k + 1, f) ⟨(by omega : k + 1 ≤ i), hnx f ⟨.inl, fun h => h.elim id fun h => absurd h (by first | exact fun h => hg61 h.1 | exact fun h => of_decide_eq_false hz67 h.2)⟩⟩ (show i - (k + 1) < i - k by omega) ((Sx.put rfl (Sx.put rfl (sx_)))) sp_
            · refine WL.gy (dj := 69) rfl rfl rfl (Yd.fieldAddr (k := 2) kr_ rfl) ?_
              refine WL.gh (dj := 69) rfl rfl rfl (Hd.load1 kr_ rfl mem_ (by rfl) ⟨_, rfl, ?_⟩)
              refine WL.gy (dj := 69) rfl rfl rfl (Yd.notB rfl) ?_
              refine WL.y rfl (Yd.pickF rfl rfl) ?_
              refine WL.y rfl (Yd.assign rfl) ?_
              refine WL.nil ?_
              refine DN.then_normal ?_
              refine WC.seq ?_
              refine WC.region ?_
              refine WL.y rfl (Yd.fieldAddr (k := 2) kr_ rfl) ?_
              refine WL.h rfl (Hd.load1 kr_ rfl mem_ (by rfl) ⟨_, rfl, ?_⟩)
              refine WL.nil ?_
              refine DN.then_normal ?_
              refine WC.cond rfl (fun h75 => ?_) (fun h75 => ?_)
              · exact absurd (List.pairwise_iff_getElem.1 inv.order k i (by omega) hlt hlt2 hg61.symm (of_decide_eq_true hz67).symm) (by rw [h75]; decide) --done
              · refine WC.skip ?_
                refine DN.block_normal ?_
                refine DN.then_normal ?_
                refine WC.region ?_
                refine WL.y rfl (Yd.move rfl) ?_
                refine WL.y rfl (Yd.add rfl rfl (by omega) (by omega)) ?_
                refine WL.y rfl (Yd.assign rfl) ?_
                refine WL.nil ?_
                have hun : s.done[k].order = s.done[i].order → s.done[k].step = s.done[i].step → s.done[k].undo = false := fun e1 e2 => List.pairwise_iff_getElem.1 inv.order k i (by omega) hlt hlt2 e1.symm e2.symm
                have hnx : ∀ b : Bool, (b = true ↔ (f = true ∨ (s.done[k].order = s.done[i].order ∧ s.done[k].step = s.done[i].step))) → (b = true ↔ fwdTo s.done s.done[i] (k + 1)) := fun b hb => by
                  rw [hb, hf, fwdTo_succ (by omega)]
                  exact ⟨fun h => h.elim .inl fun h => .inr ⟨h.1, h.2, hun h.1 h.2⟩, fun h => h.elim .inl fun h => .inr ⟨h.1, h.2.1⟩⟩
                first
                | exact DN.againS (k + 1, true) ⟨(by omega : k + 1 ≤ i), hnx true ⟨fun _ => .inr ⟨hg61, of_decide_eq_true hz67⟩, fun _ => rfl⟩⟩ (show i - (k + 1) < i - k by omega) ((Sx.put rfl (Sx.put rfl (sx_)))) sp_
                | exact DN.againS (k + 1, !s.done[k].undo) ⟨(by omega : k + 1 ≤ i), hnx _ ⟨fun _ => .inr ⟨hg61, of_decide_eq_true hz67⟩, fun _ => by rw [hun hg61 (of_decide_eq_true hz67)]; rfl⟩⟩ (show i - (k + 1) < i - k by omega) ((Sx.put rfl (Sx.put rfl (sx_)))) sp_
                | exact DN.againS (k + 1, f) ⟨(by omega : k + 1 ≤ i), hnx f ⟨.inl, fun h => h.elim id fun h => absurd h (by first | exact fun h => hg61 h.1 | exact fun h => of_decide_eq_false hz67 h.2)⟩⟩ (show i - (k + 1) < i - k by omega) ((Sx.put rfl (Sx.put rfl (sx_)))) sp_
          · refine WC.skip ?_
            refine DN.block_normal ?_
            refine DN.then_normal ?_
            refine WC.region ?_
            refine WL.y rfl (Yd.move rfl) ?_
            refine WL.y rfl (Yd.add rfl rfl (by omega) (by omega)) ?_
            refine WL.y rfl (Yd.assign rfl) ?_
            refine WL.nil ?_
            have hun : s.done[k].order = s.done[i].order → s.done[k].step = s.done[i].step → s.done[k].undo = false := fun e1 e2 => List.pairwise_iff_getElem.1 inv.order k i (by omega) hlt hlt2 e1.symm e2.symm
            have hnx : ∀ b : Bool, (b = true ↔ (f = true ∨ (s.done[k].order = s.done[i].order ∧ s.done[k].step = s.done[i].step))) → (b = true ↔ fwdTo s.done s.done[i] (k + 1)) := fun b hb => by
              rw [hb, hf, fwdTo_succ (by omega)]
              exact ⟨fun h => h.elim .inl fun h => .inr ⟨h.1, h.2, hun h.1 h.2⟩, fun h => h.elim .inl fun h => .inr ⟨h.1, h.2.1⟩⟩
            first
            | exact DN.againS (k + 1, true) ⟨(by omega : k + 1 ≤ i), hnx true ⟨fun _ => .inr ⟨hg61, of_decide_eq_true hz67⟩, fun _ => rfl⟩⟩ (show i - (k + 1) < i - k by omega) ((Sx.put rfl (Sx.put rfl (sx_)))) sp_
            | exact DN.againS (k + 1, !s.done[k].undo) ⟨(by omega : k + 1 ≤ i), hnx _ ⟨fun _ => .inr ⟨hg61, of_decide_eq_true hz67⟩, fun _ => by rw [hun hg61 (of_decide_eq_true hz67)]; rfl⟩⟩ (show i - (k + 1) < i - k by omega) ((Sx.put rfl (Sx.put rfl (sx_)))) sp_
            | exact DN.againS (k + 1, f) ⟨(by omega : k + 1 ≤ i), hnx f ⟨.inl, fun h => h.elim id fun h => absurd h (by first | exact fun h => hg61 h.1 | exact fun h => of_decide_eq_false hz67 h.2)⟩⟩ (show i - (k + 1) < i - k by omega) ((Sx.put rfl (Sx.put rfl (sx_)))) sp_
        · refine WL.gn (dj := 61) rfl rfl rfl rfl ?_
          refine WL.gn (dj := 61) rfl rfl rfl rfl ?_
          refine WL.gn (dj := 61) rfl rfl rfl rfl ?_
          refine WL.gn (dj := 61) rfl rfl rfl rfl ?_
          refine WL.gn (dj := 61) rfl rfl rfl rfl ?_
          refine WL.y rfl (Yd.pickF rfl rfl) ?_
          refine WL.nil ?_
          refine DN.then_normal ?_
          refine WC.no rfl ?_
          refine WC.skip ?_
          refine DN.block_normal ?_
          refine DN.then_normal ?_
          refine WC.region ?_
          refine WL.y rfl (Yd.move rfl) ?_
          refine WL.y rfl (Yd.add rfl rfl (by omega) (by omega)) ?_
          refine WL.y rfl (Yd.assign rfl) ?_
          refine WL.nil ?_
          have hun : s.done[k].order = s.done[i].order → s.done[k].step = s.done[i].step → s.done[k].undo = false := fun e1 e2 => List.pairwise_iff_getElem.1 inv.order k i (by omega) hlt hlt2 e1.symm e2.symm
          have hnx : ∀ b : Bool, (b = true ↔ (f = true ∨ (s.done[k].order = s.done[i].order ∧ s.done[k].step = s.done[i].step))) → (b = true ↔ fwdTo s.done s.done[i] (k + 1)) := fun b hb => by
            rw [hb, hf, fwdTo_succ (by omega)]
            exact ⟨fun h => h.elim .inl fun h => .inr ⟨h.1, h.2, hun h.1 h.2⟩, fun h => h.elim .inl fun h => .inr ⟨h.1, h.2.1⟩⟩
          first
          | exact DN.againS (k + 1, true) ⟨(by omega : k + 1 ≤ i), hnx true ⟨fun _ => .inr ⟨hg61, of_decide_eq_true hz67⟩, fun _ => rfl⟩⟩ (show i - (k + 1) < i - k by omega) ((Sx.put rfl (Sx.put rfl (sx_)))) sp_
          | exact DN.againS (k + 1, !s.done[k].undo) ⟨(by omega : k + 1 ≤ i), hnx _ ⟨fun _ => .inr ⟨hg61, of_decide_eq_true hz67⟩, fun _ => by rw [hun hg61 (of_decide_eq_true hz67)]; rfl⟩⟩ (show i - (k + 1) < i - k by omega) ((Sx.put rfl (Sx.put rfl (sx_)))) sp_
          | exact DN.againS (k + 1, f) ⟨(by omega : k + 1 ≤ i), hnx f ⟨.inl, fun h => h.elim id fun h => absurd h (by first | exact fun h => hg61 h.1 | exact fun h => of_decide_eq_false hz67 h.2)⟩⟩ (show i - (k + 1) < i - k by omega) ((Sx.put rfl (Sx.put rfl (sx_)))) sp_
      · obtain rfl : i = k := by omega
        refine WC.exit ?_
        refine DN.then_exit ?_
        refine DN.then_exit ?_
        refine DN.block_exit ?_
        refine DN.then_normal ?_
        refine WC.seq ?_
        refine WC.region ?_
        refine WL.y rfl (Yd.fieldAddr (k := 2) kr_ rfl) ?_
        refine WL.h rfl (Hd.load1 kr_ rfl mem_ (by rfl) ⟨_, rfl, ?_⟩)
        refine WL.y rfl (Yd.move rfl) ?_
        refine WL.part (t := 78) rfl (fun hg78 => ?_) (fun hg78 => ?_)
        · refine WL.gy (dj := 78) rfl rfl rfl (Yd.move rfl) ?_
          refine WL.gy (dj := 78) rfl rfl rfl (Yd.notB rfl) ?_
          refine WL.y rfl (Yd.pickT rfl rfl) ?_
          refine WL.nil ?_
          refine DN.then_normal ?_
          refine WC.cond rfl (fun h81 => ?_) (fun h81 => ?_)
          · exact absurd (hf.2 (fwd_first inv hlt hg78)) (by simpa using h81) --done
          · refine WC.skip ?_
            refine DN.block_normal ?_
            refine DN.then_normal ?_
            refine WC.region ?_
            refine WL.y rfl (Yd.move rfl) ?_
            refine WL.y rfl (Yd.add rfl rfl (by omega) (by omega)) ?_
            refine WL.y rfl (Yd.assign rfl) ?_
            refine WL.nil ?_
            exact DN.againS (i + 1) (show (i + 1) ≤ s.done.length from by omega) (show s.done.length - (i + 1) < s.done.length - i by omega) (Sx.put rfl (sx_)) sp_
        · refine WL.gn (dj := 78) rfl rfl rfl rfl ?_
          refine WL.gn (dj := 78) rfl rfl rfl rfl ?_
          refine WL.y rfl (Yd.pickF rfl rfl) ?_
          refine WL.nil ?_
          refine DN.then_normal ?_
          refine WC.no rfl ?_
          refine WC.skip ?_
          refine DN.block_normal ?_
          refine DN.then_normal ?_
          refine WC.region ?_
          refine WL.y rfl (Yd.move rfl) ?_
          refine WL.y rfl (Yd.add rfl rfl (by omega) (by omega)) ?_
          refine WL.y rfl (Yd.assign rfl) ?_
          refine WL.nil ?_
          exact DN.againS (i + 1) (show (i + 1) ≤ s.done.length from by omega) (show s.done.length - (i + 1) < s.done.length - i by omega) (Sx.put rfl (sx_)) sp_
    · refine WC.exit ?_
      refine DN.then_exit ?_
      refine DN.then_exit ?_
      refine DN.block_exit ?_
      refine DN.then_normal ?_
      refine WC.seq ?_
      refine WC.region ?_
      refine WL.rf rfl (Ent.func Try.call12 rfl) (known_reads) sp_ ?_
      refine WL.y rfl (Yd.assign rfl) ?_
      refine WL.nil ?_
      refine DN.then_normal ?_
      refine WC.ret ?_
      refine DN.fit (C := H) sp_ ?_
      refine DN.ret1 Try.results5 rfl ?_
      exact ⟨rfl, rfl⟩

end Go.Proofs.Ytonnkgblligdkaa
