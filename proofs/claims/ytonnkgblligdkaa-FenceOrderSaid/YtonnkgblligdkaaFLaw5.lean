/-
  FenceOrder: whatever order steps are kept in, the same steps make the same fence.
-/
import Derived.Test.YtonnkgblligdkaaFence7
import Derived.Test.YtonnkgblligdkaaFPut
import Derived.Test.YtonnkgblligdkaaFenceOrd
import Derived.Test.YtonnkgblligdkaaFenceRow
set_option linter.unusedVariables false
set_option linter.unusedSimpArgs false
set_option maxHeartbeats 8000000
namespace Go.Proofs.Ytonnkgblligdkaa
open Go.SL
theorem one_fst (i : Nat) : (1#32).toNat = (eN (i + 1)).toNat := by unfold eN; rw [if_neg (by omega)]


/-- drayage/drayagelaw08.FenceOrder -/
theorem law_FenceOrder (v : Value) (xs : List Value) (cs : List Cl) (H : List Ck) (hv : Rs v cs.length xs H) (hl : xs.length = cs.length * 6) (hc : ∀ i (h : i < cs.length), ClE ((xs.drop (i * 6)).take 6) cs[i] H) (hm : cs.length ≤ 9223372036854775807) (sw : Int) : Reads Try.prog 9 [v, .int .i64 sw] H (.bool true) := by
  refine Tells.enter Try.func9 rfl Try.ntmps9 rfl ?_
  intro w0 R
  obtain ⟨vo, vc, rfl, hvc⟩ := hv.form
  refine WC.seq ?_
  refine WC.region ?_
  refine WL.y rfl (Yd.assign rfl) ?_
  refine WL.nil ?_
  refine DN.then_normal ?_
  refine WC.seq ?_
  refine WC.region ?_
  refine WL.y rfl (Yd.assign rfl) ?_
  refine WL.nil ?_
  refine DN.then_normal ?_
  refine WC.seq ?_
  refine WC.seq ?_
  refine WC.region ?_
  refine WL.y rfl (Yd.assign rfl) ?_
  refine WL.nil ?_
  refine DN.then_normal ?_
  refine WC.block ?_
  refine WC.loopS (fun z : Nat × Value × List Value × List Ck × List Ck => z.1 ≤ cs.length ∧ z.1 ≤ 12 ∧ Own z.2.1 z.1 z.2.2.1 29 11 z.2.2.2.1 ∧ NVs z.2.2.2.2 z.2.2.1 (nsO cs z.1)) (fun z : Nat × Value × List Value × List Ck × List Ck => [(5, z.2.1), (6, .int .i64 (z.1 : Int))]) (fun z : Nat × Value × List Value × List Ck × List Ck => (z.2.2.2.1 ++ (z.2.2.2.2 ++ H))) (fun z : Nat × Value × List Value × List Ck × List Ck => 12 - z.1) (⟨0, .slice none 0 0, [], [], []⟩) (show 0 ≤ cs.length ∧ 0 ≤ 12 ∧ Own (.slice none 0 0) 0 [] 29 11 [] ∧ NVs [] [] (nsO cs 0) from ⟨Nat.zero_le _, Nat.zero_le _, Own.nil _ _, .nil⟩) (Sx.put rfl (Sx.put rfl (sx_))) sp_ ?_
  rintro ⟨i, vl, cl, CN, DD⟩ hI
  replace hI : i ≤ cs.length ∧ i ≤ 12 ∧ Own vl i cl 29 11 CN ∧ NVs DD cl (nsO cs i) := hI
  obtain ⟨hi, hi12, hO, hN⟩ := hI
  change WC _ _ _ _ _ _ ([(5, vl), (6, .int .i64 (i : Int))] ++ _) ((CN ++ (DD ++ H)))
  obtain ⟨lo, lc, rfl, hlc⟩ := hO.form
  refine WC.seq ?_
  refine WC.seq ?_
  refine WC.region ?_
  refine WL.y rfl (Yd.move rfl) ?_
  refine WL.y rfl (Yd.move rfl) ?_
  refine WL.y rfl (Yd.len (e := 70) kr_ rfl) ?_
  refine WL.y rfl (Yd.lss rfl rfl) ?_
  refine WL.y rfl (Yd.move rfl) ?_
  refine WL.partP (t := 24) rfl (fun hg24 => ?_) (fun hg24 => ?_)
  · refine WL.gy (dj := 24) rfl rfl rfl (Yd.move rfl) ?_
    refine WL.gy (dj := 24) rfl rfl rfl (Yd.lss rfl rfl) ?_
    refine WL.y rfl (Yd.pickT rfl rfl) ?_
    refine WL.nil ?_
    refine DN.then_normal ?_
    refine WC.ite rfl (fun h27 => ?_) (fun h27 => ?_)
    · have hlt : i < cs.length := by omega
      obtain ⟨vd, hg, hvd, hld, hs0, hs1⟩ := hc i hlt
      have h16 := (st16_lt cs i).2
      rw [st16_at hlt] at h16
      obtain ⟨lb, lf, lcs, lT, lfr, lex, elo, _, hlm, hlcs⟩ := hv.lies (by omega)
      refine WC.skip ?_
      refine DN.then_normal ?_
      refine WC.seq ?_
      refine WC.block ?_
      refine WC.region ?_
      refine WL.y rfl (Yd.move rfl) ?_
      refine WL.y rfl (Yd.move rfl) ?_
      refine WL.y rfl (Yd.to32 _ kr_ kr_ rfl rfl) ?_
      refine WL.y rfl (Yd.add32 (1#32) _ rfl rfl rfl rfl) ?_
      refine WL.y rfl (Yd.move rfl) ?_
      refine WL.y rfl (Yd.move rfl) ?_
      refine WL.y rfl (Yd.indexAddr (e := 70) (s := 6) (b := lb) (o := lf) (n := cs.length) (c := vc) kr_ kr_ (congrArg (fun q => some (Value.slice q cs.length vc)) elo) rfl (by omega) (by omega)) ?_
      refine WL.y rfl (Yd.fieldAddr (k := 2) kr_ rfl) ?_
      refine WL.h rfl (Hd.load1 (v := .int .i64 cs[i].step) (b := lb) (o := lf + (i : Int).toNat * 6 + 2) (cs := lcs) kr_ rfl (Gr.get gr_ hlm) (kc_cell hlcs (by omega) hg rfl) ⟨_, rfl, ?_⟩)
      refine WL.y rfl (Yd.to64 _ kr_ kr_ rfl rfl) ?_
      refine WL.y rfl (Yd.rem64 _ (16#64) rfl rfl rfl rfl (by decide)) ?_
      refine WL.y rfl (Yd.toInt kr_ kr_ rfl (by omega) (by omega)) ?_
      refine WL.renamed (t := 41) (v := .int .i64 (st16 cs i)) rfl (congrArg (Value.int .i64) (st16_at hlt).symm) ?_
      refine WL.c rfl (Ent.func Try.call23 rfl) (step_tells 1#32 (orO i) (st16 cs i) false [120#8]) (Sp.p sp_) ?_
      rintro x H9 ⟨bd, cd, blk, rfl, hbk, rfl⟩
      refine WL.h rfl (Hd.buildA (e := 29) (sz := 11) (zs := [.int .i64 0, .int .u32 0, .int .u32 0, .int .u64 0, .int .u64 0, .int .u32 0, .int .i64 0, .bool false, .int .i64 0, .slice none 0 0, .slice none 0 0]) kr_ kr_ kr_ rfl rfl (by rfl) kr_ fun b43 => ⟨_, rfl, ?_⟩)
      refine WL.h rfl (Hd.appendRow (e := 29) (sz := 11) (bytes := 112) (zs := [.int .i64 0, .int .u32 0, .int .u32 0, .int .u64 0, .int .u64 0, .int .u32 0, .int .i64 0, .bool false, .int .i64 0, .slice none 0 0, .slice none 0 0]) kr_ kr_ rfl (by omega) rfl rfl (hO) sp_ mem_ (by rfl) (ntc_one (by rfl) (by rfl)) (by simp only [maxLen]; omega) (by omega) fun v2 C2 h2 => ⟨_, rfl, ?_⟩)
      refine WL.y rfl (Yd.assign rfl) ?_
      refine WL.nil ?_
      refine DN.block_normal ?_
      refine DN.then_normal ?_
      refine WC.region ?_
      refine WL.y rfl (Yd.move rfl) ?_
      refine WL.y rfl (Yd.add rfl rfl (by omega) (by omega)) ?_
      refine WL.y rfl (Yd.assign rfl) ?_
      refine WL.nil ?_
      exact DN.againS (⟨i + 1, v2, cl ++ ntc (stepN 1#32 (orO i) (st16 cs i) false [120#8]) (.slice none 0 0) (.slice (some ⟨bd, 0, none⟩) 1 cd), C2, DD ++ [blk]⟩) (show (i + 1) ≤ cs.length ∧ (i + 1) ≤ 12 ∧ Own v2 (i + 1) (cl ++ ntc (stepN 1#32 (orO i) (st16 cs i) false [120#8]) (.slice none 0 0) (.slice (some ⟨bd, 0, none⟩) 1 cd)) 29 11 C2 ∧ NVs (DD ++ [blk]) (cl ++ ntc (stepN 1#32 (orO i) (st16 cs i) false [120#8]) (.slice none 0 0) (.slice (some ⟨bd, 0, none⟩) 1 cd)) (nsO cs (i + 1)) from ⟨by omega, by omega, h2, by rw [nsO_next]; exact hN.snoc rfl hbk⟩) (show 12 - (i + 1) < 12 - i by omega) (Sx.put rfl (Sx.put rfl (sx_))) sp_
    · refine WC.exit ?_
      refine DN.then_exit ?_
      refine DN.then_exit ?_
      refine DN.block_exit ?_
      refine DN.then_normal ?_
      refine WC.seq ?_
      refine WC.region ?_
      refine WL.y rfl (Yd.buildL (pl := [(0, 1), (1, 1)]) (zs := [.int .u32 0, .slice none 0 0]) (parts := []) (vs := []) (cells := [.int .u32 0, .slice none 0 0]) kr_ kr_ rfl rfl) ?_
      refine WL.h rfl (Hd.alloc (zs := [.int .u32 0, .slice none 0 0]) kr_ fun b7 => ⟨_, rfl, ?_⟩)
      refine WL.s (Hd.storeAll (n := 2) kr_ rfl rfl (by rfl) one_ fr_ (by rfl) ⟨rfl, ?_⟩)
      refine WL.nil ?_
      refine DN.then_normal ?_
      refine WC.seq ?_
      refine WC.region ?_
      refine WL.y rfl (Yd.buildL (pl := [(0, 1), (1, 1)]) (zs := [.int .u32 0, .slice none 0 0]) (parts := []) (vs := []) (cells := [.int .u32 0, .slice none 0 0]) kr_ kr_ rfl rfl) ?_
      refine WL.h rfl (Hd.alloc (zs := [.int .u32 0, .slice none 0 0]) kr_ fun b8 => ⟨_, rfl, ?_⟩)
      refine WL.s (Hd.storeAll (n := 2) kr_ rfl rfl (by rfl) one_ fr_ (by rfl) ⟨rfl, ?_⟩)
      refine WL.nil ?_
      refine DN.then_normal ?_
      refine WC.seq ?_
      refine WC.region ?_
      refine WL.y rfl (Yd.move rfl) ?_
      refine WL.y rfl (Yd.len (e := 29) kr_ rfl) ?_
      refine WL.y rfl (Yd.assign rfl) ?_
      refine WL.nil ?_
      refine DN.then_normal ?_
      refine WC.seq ?_
      refine WC.region ?_
      refine WL.y rfl (Yd.assign rfl) ?_
      refine WL.nil ?_
      refine DN.then_normal ?_
      refine WC.cutK (fun k : Nat => k < i ∨ i = 0) (fun k : Nat => [(10, .int .i64 (k : Int))]) (fun k : Nat => row b8 [.int .u32 0, .slice none 0 0] 25 :: (row b7 [.int .u32 0, .slice none 0 0] 25 :: (CN ++ (DD ++ H)))) ?_ ?_
      · refine WC.seq ?_
        refine WC.region ?_
        refine WL.y rfl (Yd.move rfl) ?_
        refine WL.y rfl (Yd.gtr rfl rfl) ?_
        refine WL.nil ?_
        refine DN.then_normal ?_
        refine WC.ite rfl (fun h50 => ?_) (fun h50 => ?_)
        · have hi0 : 0 < i := by omega
          have hie : (BitVec.ofInt 64 (i : Int)).toNat = i := by rw [BitVec.toNat_ofInt]; omega
          have hne : (BitVec.ofInt 64 (i : Int)).toNat ≠ 0 := by omega
          have hrm : (BitVec.ofInt 64 sw % BitVec.ofInt 64 (i : Int)).toNat < i := by rw [BitVec.toNat_umod, hie]; exact Nat.mod_lt _ hi0
          refine WC.region ?_
          refine WL.y rfl (Yd.move rfl) ?_
          refine WL.y rfl (Yd.to64 _ kr_ kr_ rfl rfl) ?_
          refine WL.y rfl (Yd.move rfl) ?_
          refine WL.y rfl (Yd.to64 _ kr_ kr_ rfl rfl) ?_
          refine WL.y rfl (Yd.rem64 (BitVec.ofInt 64 sw) (BitVec.ofInt 64 (i : Int)) rfl rfl rfl rfl hne) ?_
          refine WL.y rfl (Yd.toInt kr_ kr_ rfl (by omega) (by omega)) ?_
          refine WL.y rfl (Yd.assign rfl) ?_
          refine WL.nil ?_
          exact DN.reachK (((BitVec.ofInt 64 sw % BitVec.ofInt 64 (i : Int)).toNat)) (.inl hrm) (Sx.put rfl (sx_)) (Sp.all sp_)
        · refine WC.skip ?_
          exact DN.reachK (0) (.inr (by omega)) (Sx.put rfl (sx_)) (Sp.all sp_)
      · intro k hk
        obtain ⟨n, rfl⟩ : ∃ n, n = i := ⟨_, rfl⟩
        refine WC.seq ?_
        refine WC.seq ?_
        refine WC.region ?_
        refine WL.y rfl (Yd.assign rfl) ?_
        refine WL.nil ?_
        refine DN.then_normal ?_
        refine WC.block ?_
        refine WC.loopS (fun z : Nat × List Kp × List Kp × Value × Value × List Ck × List Ck => z.1 ≤ n ∧ OrdInv cs n id z.2.1 z.1 ∧ OrdInv cs n (rot n k) z.2.2.1 z.1 ∧ FAt 5 43 z.2.2.2.1 z.2.1 z.2.2.2.2.2.1 ∧ FAt 5 43 z.2.2.2.2.1 z.2.2.1 z.2.2.2.2.2.2) (fun z : Nat × List Kp × List Kp × Value × Value × List Ck × List Ck => [(11, .int .i64 (z.1 : Int))]) (fun z : Nat × List Kp × List Kp × Value × Value × List Ck × List Ck => row b7 [.int .u32 (eN z.1).toNat, z.2.2.2.1] 25 :: (row b8 [.int .u32 (eN z.1).toNat, z.2.2.2.2.1] 25 :: (z.2.2.2.2.2.1 ++ (z.2.2.2.2.2.2 ++ (CN ++ (DD ++ H)))))) (fun z : Nat × List Kp × List Kp × Value × Value × List Ck × List Ck => n - z.1) (⟨0, [], [], .slice none 0 0, .slice none 0 0, [], []⟩) (show 0 ≤ n ∧ OrdInv cs n id [] 0 ∧ OrdInv cs n (rot n k) [] 0 ∧ FAt 5 43 (.slice none 0 0) [] [] ∧ FAt 5 43 (.slice none 0 0) [] [] from ⟨Nat.zero_le _, OrdInv.start _ _ _, OrdInv.start _ _ _, FAt.nil _ _, FAt.nil _ _⟩) (Sx.put rfl (sx_)) sp_ ?_
        rintro ⟨j, ksF, ksG, vf, vg, DF, DG⟩ hI
        replace hI : j ≤ n ∧ OrdInv cs n id ksF j ∧ OrdInv cs n (rot n k) ksG j ∧ FAt 5 43 vf ksF DF ∧ FAt 5 43 vg ksG DG := hI
        obtain ⟨hj, iF, iG, hF, hG⟩ := hI
        change WC _ _ _ _ _ _ ([(11, .int .i64 (j : Int))] ++ _) (row b7 [.int .u32 (eN j).toNat, vf] 25 :: (row b8 [.int .u32 (eN j).toNat, vg] 25 :: (DF ++ (DG ++ (CN ++ (DD ++ H))))))
        obtain ⟨fo, fc, rfl⟩ := hF.form
        obtain ⟨go, gc, rfl⟩ := hG.form
        have hfl := iF.len
        have hgl := iG.len
        refine WC.seq ?_
        refine WC.seq ?_
        refine WC.region ?_
        refine WL.y rfl (Yd.move rfl) ?_
        refine WL.y rfl (Yd.move rfl) ?_
        refine WL.y rfl (Yd.lss rfl rfl) ?_
        refine WL.nil ?_
        refine DN.then_normal ?_
        refine WC.ite rfl (fun h59 => ?_) (fun h59 => ?_)
        · have hlt2 : j < n := by omega
          have hcl := hN.len
          rw [nsO_len] at hcl
          obtain ⟨lb, lf, lcs, lT, lfr, lex, elo, _, hlm, hlcs⟩ := hO.rs.lies (by omega)
          have hrl := rot_lt (n := n) (k := k) (j := j) (by omega)
          obtain ⟨nv1, hng1, hnd1, _⟩ := hN.at j (by rw [nsO_len]; exact hlt2)
          obtain ⟨nv2, hng2, hnd2, _⟩ := hN.at (rot n k j) (by rw [nsO_len]; exact hrl)
          rw [nsO_at] at hng1 hnd1 hng2 hnd2
          obtain ⟨no1, nc1, rfl, _⟩ := hnd1.form
          obtain ⟨no2, nc2, rfl, _⟩ := hnd2.form
          refine WC.skip ?_
          refine DN.then_normal ?_
          refine WC.seq ?_
          refine WC.block ?_
          refine WC.seq ?_
          refine WC.draw 12 kr_ rfl ?_
          refine WA.float (N := 12) rfl ?_
          refine WAF.add (i := 0) (d := 63) rfl (QF.mk [] [] rfl rfl kr_ rfl (QAt.rd Wt.none (Rd.loadAll (n := 2) kr_ rfl mem_ (by rfl)))) ?_
          refine WAF.add (i := 1) (d := 64) rfl (QF.mk [] [] rfl rfl kr_ rfl (QAt.y Wt.none (Yd.move rfl))) ?_
          refine WAF.add (i := 2) (d := 65) rfl (QF.mk [] [] rfl rfl kr_ rfl (QAt.y Wt.none (Yd.move rfl))) ?_
          refine WAF.add (i := 3) (d := 66) rfl (QF.mk [2, 1] [(65, _), (64, _)] rfl rfl kr_ rfl (QAt.y Wt.none (Yd.indexAddr (e := 29) (s := 11) (b := lb) (o := lf) (n := n) (c := lc) kr_ kr_ (congrArg (fun q => some (Value.slice q n lc)) elo) rfl (by omega) (by omega)))) ?_
          refine WAF.add (i := 4) (d := 67) rfl (QF.mk [3] [(66, _)] rfl rfl kr_ rfl (QAt.rd Wt.none (Rd.loadA (n := 11) (b := lb) (o := lf + ((j : Nat) : Int).toNat * 11) (cs := lcs) (vs := ntc (noteO cs (j)) (.slice none 0 0) (.slice no1 (noteO cs (j)).data.length nc1)) kr_ rfl (Gr.get gr_ hlm) rfl (rs_cell hlcs (by omega) hng1)))) ?_
          refine WAF.step (pd := [(4, 67), (3, 66), (2, 65), (1, 64), (0, 63)]) [(5, [4, 0]), (9, [])] rfl kr_ kr_ (all_c rfl (all_c rfl (all_c rfl (all_c rfl (all_c rfl (all_n)))))) (all_c (QF.mk [3] [(66, _)] rfl rfl kr_ rfl (QAt.rd Wt.none (Rd.loadA (n := 11) (b := lb) (o := lf + ((j : Nat) : Int).toNat * 11) (cs := lcs) (vs := ntc (noteO cs (j)) (.slice none 0 0) (.slice no1 (noteO cs (j)).data.length nc1)) kr_ rfl (Gr.get gr_ hlm) rfl (rs_cell hlcs (by omega) hng1)))) (all_c (QF.mk [2, 1] [(65, _), (64, _)] rfl rfl kr_ rfl (QAt.y Wt.none (Yd.indexAddr (e := 29) (s := 11) (b := lb) (o := lf) (n := n) (c := lc) kr_ kr_ (congrArg (fun q => some (Value.slice q n lc)) elo) rfl (by omega) (by omega)))) (all_c (QF.mk [] [] rfl rfl kr_ rfl (QAt.y Wt.none (Yd.move rfl))) (all_c (QF.mk [] [] rfl rfl kr_ rfl (QAt.y Wt.none (Yd.move rfl))) (all_c (QF.mk [] [] rfl rfl kr_ rfl (QAt.rd Wt.none (Rd.loadAll (n := 2) kr_ rfl mem_ (by rfl)))) (all_n)))))) (all_c ?_ (all_c ?_ (all_n)))
          · change SO _ _ _ _ _ _ 5 ([(67, _), (63, _)] ++ _) _ _
            refine SO.c rfl Wt.none rfl (Ent.func Try.call15 rfl) (keep_tells (eN j) (.slice fo ksF.length fc) ksF (DF ++ DD) (hF.kv.mono gr_) (by omega) (noteO cs (j)) (.slice none 0 0) _ (Bs_nil _) (hnd1.mono gr_) 2 (.slice none 0 0) [] (Bs_nil _)) (Sp.p sp_) ?_
            rintro x1 H1 ⟨w1, D1, rfl, hF1, rfl⟩
            obtain ⟨hke1, hin1⟩ := iF.keep (fun j h => (by show j < 100; omega)) (fun a b _ _ h => h) hlt2 (by omega)
            rw [show id j = j from rfl] at hke1 hin1
            rw [hke1] at hF1 ⊢
            obtain ⟨wo1, wc1, rfl⟩ := hF1.form
            have hil1 := hin1.len
            change WAF _ _ _ _ _ _ [(3, 66, _), (2, 65, _), (1, 64, _)] _ [5, 4, 0] ((68, _) :: ([(67, _), (63, _)] ++ _)) _
            refine WAF.add (i := 6) (d := 62) rfl (QF.mk [] [] rfl rfl kr_ rfl (QAt.y Wt.none (Yd.move rfl))) ?_
            refine WAF.add (i := 7) (d := 69) rfl (QF.mk [6] [(62, _)] rfl rfl kr_ rfl (QAt.y Wt.none (Yd.extract rfl rfl))) ?_
            refine WAF.add (i := 8) (d := 70) rfl (QF.mk [6] [(62, _)] rfl rfl kr_ rfl (QAt.y Wt.none (Yd.extract rfl rfl))) ?_
            refine WAF.step (pd := [(8, 70), (7, 69), (6, 62), (3, 66), (2, 65), (1, 64)]) [(9, [])] rfl kr_ kr_ (all_c rfl (all_c rfl (all_c rfl (all_c rfl (all_c rfl (all_c rfl (all_n))))))) (all_c (QF.mk [6] [(62, _)] rfl rfl kr_ rfl (QAt.y Wt.none (Yd.extract rfl rfl))) (all_c (QF.mk [6] [(62, _)] rfl rfl kr_ rfl (QAt.y Wt.none (Yd.extract rfl rfl))) (all_c (QF.mk [] [] rfl rfl kr_ rfl (QAt.y Wt.none (Yd.move rfl))) (all_c (QF.mk [2, 1] [(65, _), (64, _)] rfl rfl kr_ rfl (QAt.y Wt.none (Yd.indexAddr (e := 29) (s := 11) (b := lb) (o := lf) (n := n) (c := lc) kr_ kr_ (congrArg (fun q => some (Value.slice q n lc)) elo) rfl (by omega) (by omega)))) (all_c (QF.mk [] [] rfl rfl kr_ rfl (QAt.y Wt.none (Yd.move rfl))) (all_c (QF.mk [] [] rfl rfl kr_ rfl (QAt.y Wt.none (Yd.move rfl))) (all_n))))))) (all_c ?_ (all_n))
            · change SO _ _ _ _ _ _ 9 ([] ++ _) _ _
              refine SO.h rfl Wt.none rfl (Hd.alloc (zs := [.int .u32 0, .slice none 0 0]) kr_ fun b12 => ⟨_, rfl, ?_⟩)
              change WAF _ _ _ _ _ _ [(8, 70, _), (7, 69, _), (6, 62, _), (3, 66, _), (2, 65, _), (1, 64, _)] _ [9, 5, 4, 0] ((12, _) :: ([] ++ _)) _
              refine WAF.step (pd := [(8, 70), (7, 69), (6, 62), (3, 66), (2, 65), (1, 64)]) [(10, [7, 6, 3, 2, 1])] rfl kr_ kr_ (all_c rfl (all_c rfl (all_c rfl (all_c rfl (all_c rfl (all_c rfl (all_n))))))) (all_c (QF.mk [6] [(62, _)] rfl rfl kr_ rfl (QAt.y Wt.none (Yd.extract rfl rfl))) (all_c (QF.mk [6] [(62, _)] rfl rfl kr_ rfl (QAt.y Wt.none (Yd.extract rfl rfl))) (all_c (QF.mk [] [] rfl rfl kr_ rfl (QAt.y Wt.none (Yd.move rfl))) (all_c (QF.mk [2, 1] [(65, _), (64, _)] rfl rfl kr_ rfl (QAt.y Wt.none (Yd.indexAddr (e := 29) (s := 11) (b := lb) (o := lf) (n := n) (c := lc) kr_ kr_ (congrArg (fun q => some (Value.slice q n lc)) elo) rfl (by omega) (by omega)))) (all_c (QF.mk [] [] rfl rfl kr_ rfl (QAt.y Wt.none (Yd.move rfl))) (all_c (QF.mk [] [] rfl rfl kr_ rfl (QAt.y Wt.none (Yd.move rfl))) (all_n))))))) (all_c ?_ (all_n))
              · change SO _ _ _ _ _ _ 10 ([(69, _), (62, _), (66, _), (65, _), (64, _)] ++ _) _ _
                refine SO.s rfl Wt.none (Hd.storeAll (n := 2) kr_ rfl rfl (by rfl) one_ fr_ (by rfl) ⟨rfl, ?_⟩)
                change WAF _ _ _ _ _ _ [(8, 70, _)] _ [10, 7, 6, 3, 2, 1, 9, 5, 4, 0] (([(69, _), (62, _), (66, _), (65, _), (64, _)] ++ _)) _
                refine WAF.add (i := 11) (d := 13) rfl (QF.mk [8] [(70, _)] rfl rfl kr_ rfl (QAt.y Wt.none (Yd.assign rfl))) ?_
                refine WAF.done (pd := [(11, 13), (8, 70)]) rfl kr_ kr_ (all_c rfl (all_c rfl (all_n))) (all_c (QF.mk [8] [(70, _)] rfl rfl kr_ rfl (QAt.y Wt.none (Yd.assign rfl))) (all_c (QF.mk [] [] rfl rfl kr_ rfl (QAt.y Wt.none (Yd.extract rfl rfl))) (all_n))) ?_
                change DN _ _ _ _ _ _ ([(13, _), (70, _)] ++ _) _
                refine DN.then_normal ?_
                refine WC.seq ?_
                refine WC.draw 16 kr_ rfl ?_
                refine WA.float (N := 16) rfl ?_
                refine WAF.add (i := 0) (d := 72) rfl (QF.mk [] [] rfl rfl kr_ rfl (QAt.rd Wt.none (Rd.loadAll (n := 2) kr_ rfl mem_ (by rfl)))) ?_
                refine WAF.add (i := 1) (d := 73) rfl (QF.mk [] [] rfl rfl kr_ rfl (QAt.y Wt.none (Yd.move rfl))) ?_
                refine WAF.add (i := 2) (d := 74) rfl (QF.mk [] [] rfl rfl kr_ rfl (QAt.y Wt.none (Yd.move rfl))) ?_
                refine WAF.add (i := 3) (d := 75) rfl (QF.mk [] [] rfl rfl kr_ rfl (QAt.y Wt.none (Yd.move rfl))) ?_
                refine WAF.add (i := 4) (d := 76) rfl (QF.mk [3, 2] [(75, _), (74, _)] rfl rfl kr_ rfl (QAt.y Wt.none (Yd.add rfl rfl (by omega) (by omega)))) ?_
                refine WAF.add (i := 5) (d := 77) rfl (QF.mk [] [] rfl rfl kr_ rfl (QAt.y Wt.none (Yd.move rfl))) ?_
                refine WAF.add (i := 6) (d := 78) rfl (QF.mk [5, 4] [(77, _), (76, _)] rfl rfl kr_ rfl (QAt.y Wt.none (Yd.rem rfl rfl (by omega) (by omega)))) ?_
                refine WAF.ren (v := .int .i64 ((rot n k j : Nat) : Int)) (congrArg (Value.int .i64) (rot_int n k j)) ?_
                refine WAF.add (i := 7) (d := 79) rfl (QF.mk [6, 1] [(78, _), (73, _)] rfl rfl kr_ rfl (QAt.y Wt.none (Yd.indexAddr (e := 29) (s := 11) (b := lb) (o := lf) (n := n) (c := lc) kr_ kr_ (congrArg (fun q => some (Value.slice q n lc)) elo) rfl (by omega) (by omega)))) ?_
                refine WAF.add (i := 8) (d := 80) rfl (QF.mk [7] [(79, _)] rfl rfl kr_ rfl (QAt.rd Wt.none (Rd.loadA (n := 11) (b := lb) (o := lf + ((rot n k j : Nat) : Int).toNat * 11) (cs := lcs) (vs := ntc (noteO cs (rot n k j)) (.slice none 0 0) (.slice no2 (noteO cs (rot n k j)).data.length nc2)) kr_ rfl (Gr.get gr_ hlm) rfl (rs_cell hlcs (by omega) hng2)))) ?_
                refine WAF.step (pd := [(8, 80), (7, 79), (6, 78), (5, 77), (4, 76), (3, 75), (2, 74), (1, 73), (0, 72)]) [(9, [8, 0]), (13, [])] rfl kr_ kr_ (all_c rfl (all_c rfl (all_c rfl (all_c rfl (all_c rfl (all_c rfl (all_c rfl (all_c rfl (all_c rfl (all_n)))))))))) (all_c (QF.mk [7] [(79, _)] rfl rfl kr_ rfl (QAt.rd Wt.none (Rd.loadA (n := 11) (b := lb) (o := lf + ((rot n k j : Nat) : Int).toNat * 11) (cs := lcs) (vs := ntc (noteO cs (rot n k j)) (.slice none 0 0) (.slice no2 (noteO cs (rot n k j)).data.length nc2)) kr_ rfl (Gr.get gr_ hlm) rfl (rs_cell hlcs (by omega) hng2)))) (all_c (QF.mk [6, 1] [(78, _), (73, _)] rfl rfl kr_ rfl (QAt.y Wt.none (Yd.indexAddr (e := 29) (s := 11) (b := lb) (o := lf) (n := n) (c := lc) kr_ kr_ (congrArg (fun q => some (Value.slice q n lc)) elo) rfl (by omega) (by omega)))) (all_c (QF.ren (congrArg (Value.int .i64) (rot_int n k j)) (QF.mk [5, 4] [(77, _), (76, _)] rfl rfl kr_ rfl (QAt.y Wt.none (Yd.rem rfl rfl (by omega) (by omega))))) (all_c (QF.mk [] [] rfl rfl kr_ rfl (QAt.y Wt.none (Yd.move rfl))) (all_c (QF.mk [3, 2] [(75, _), (74, _)] rfl rfl kr_ rfl (QAt.y Wt.none (Yd.add rfl rfl (by omega) (by omega)))) (all_c (QF.mk [] [] rfl rfl kr_ rfl (QAt.y Wt.none (Yd.move rfl))) (all_c (QF.mk [] [] rfl rfl kr_ rfl (QAt.y Wt.none (Yd.move rfl))) (all_c (QF.mk [] [] rfl rfl kr_ rfl (QAt.y Wt.none (Yd.move rfl))) (all_c (QF.mk [] [] rfl rfl kr_ rfl (QAt.rd Wt.none (Rd.loadAll (n := 2) kr_ rfl mem_ (by rfl)))) (all_n)))))))))) (all_c ?_ (all_c ?_ (all_n)))
                · change SO _ _ _ _ _ _ 9 ([(80, _), (72, _)] ++ _) _ _
                  refine SO.c rfl Wt.none rfl (Ent.func Try.call15 rfl) (keep_tells (eN j) (.slice go ksG.length gc) ksG (DG ++ DD) (hG.kv.mono gr_) (by omega) (noteO cs (rot n k j)) (.slice none 0 0) _ (Bs_nil _) (hnd2.mono gr_) 2 (.slice none 0 0) [] (Bs_nil _)) (Sp.p sp_) ?_
                  rintro x2 H2 ⟨w2, D2, rfl, hF2, rfl⟩
                  obtain ⟨hke2, hin2⟩ := iG.keep (fun j h => by have := rot_lt (n := n) (k := k) (j := j) (by omega); omega) (fun a b ha hb h => rot_inj (hk.resolve_right (by omega)) ha hb h) hlt2 (by omega)
                  rw [hke2] at hF2 ⊢
                  obtain ⟨wo2, wc2, rfl⟩ := hF2.form
                  have hil2 := hin2.len
                  change WAF _ _ _ _ _ _ [(7, 79, _), (6, 78, _), (5, 77, _), (4, 76, _), (3, 75, _), (2, 74, _), (1, 73, _)] _ [9, 8, 0] ((81, _) :: ([(80, _), (72, _)] ++ _)) _
                  refine WAF.add (i := 10) (d := 71) rfl (QF.mk [] [] rfl rfl kr_ rfl (QAt.y Wt.none (Yd.move rfl))) ?_
                  refine WAF.add (i := 11) (d := 82) rfl (QF.mk [10] [(71, _)] rfl rfl kr_ rfl (QAt.y Wt.none (Yd.extract rfl rfl))) ?_
                  refine WAF.add (i := 12) (d := 83) rfl (QF.mk [10] [(71, _)] rfl rfl kr_ rfl (QAt.y Wt.none (Yd.extract rfl rfl))) ?_
                  refine WAF.step (pd := [(12, 83), (11, 82), (10, 71), (7, 79), (6, 78), (5, 77), (4, 76), (3, 75), (2, 74), (1, 73)]) [(13, [])] rfl kr_ kr_ (all_c rfl (all_c rfl (all_c rfl (all_c rfl (all_c rfl (all_c rfl (all_c rfl (all_c rfl (all_c rfl (all_c rfl (all_n))))))))))) (all_c (QF.mk [10] [(71, _)] rfl rfl kr_ rfl (QAt.y Wt.none (Yd.extract rfl rfl))) (all_c (QF.mk [10] [(71, _)] rfl rfl kr_ rfl (QAt.y Wt.none (Yd.extract rfl rfl))) (all_c (QF.mk [] [] rfl rfl kr_ rfl (QAt.y Wt.none (Yd.move rfl))) (all_c (QF.mk [6, 1] [(78, _), (73, _)] rfl rfl kr_ rfl (QAt.y Wt.none (Yd.indexAddr (e := 29) (s := 11) (b := lb) (o := lf) (n := n) (c := lc) kr_ kr_ (congrArg (fun q => some (Value.slice q n lc)) elo) rfl (by omega) (by omega)))) (all_c (QF.ren (congrArg (Value.int .i64) (rot_int n k j)) (QF.mk [5, 4] [(77, _), (76, _)] rfl rfl kr_ rfl (QAt.y Wt.none (Yd.rem rfl rfl (by omega) (by omega))))) (all_c (QF.mk [] [] rfl rfl kr_ rfl (QAt.y Wt.none (Yd.move rfl))) (all_c (QF.mk [3, 2] [(75, _), (74, _)] rfl rfl kr_ rfl (QAt.y Wt.none (Yd.add rfl rfl (by omega) (by omega)))) (all_c (QF.mk [] [] rfl rfl kr_ rfl (QAt.y Wt.none (Yd.move rfl))) (all_c (QF.mk [] [] rfl rfl kr_ rfl (QAt.y Wt.none (Yd.move rfl))) (all_c (QF.mk [] [] rfl rfl kr_ rfl (QAt.y Wt.none (Yd.move rfl))) (all_n))))))))))) (all_c ?_ (all_n))
                  · change SO _ _ _ _ _ _ 13 ([] ++ _) _ _
                    refine SO.h rfl Wt.none rfl (Hd.alloc (zs := [.int .u32 0, .slice none 0 0]) kr_ fun b14 => ⟨_, rfl, ?_⟩)
                    change WAF _ _ _ _ _ _ [(12, 83, _), (11, 82, _), (10, 71, _), (7, 79, _), (6, 78, _), (5, 77, _), (4, 76, _), (3, 75, _), (2, 74, _), (1, 73, _)] _ [13, 9, 8, 0] ((14, _) :: ([] ++ _)) _
                    refine WAF.step (pd := [(12, 83), (11, 82), (10, 71), (7, 79), (6, 78), (5, 77), (4, 76), (3, 75), (2, 74), (1, 73)]) [(14, [11, 10, 7, 6, 5, 4, 3, 2, 1])] rfl kr_ kr_ (all_c rfl (all_c rfl (all_c rfl (all_c rfl (all_c rfl (all_c rfl (all_c rfl (all_c rfl (all_c rfl (all_c rfl (all_n))))))))))) (all_c (QF.mk [10] [(71, _)] rfl rfl kr_ rfl (QAt.y Wt.none (Yd.extract rfl rfl))) (all_c (QF.mk [10] [(71, _)] rfl rfl kr_ rfl (QAt.y Wt.none (Yd.extract rfl rfl))) (all_c (QF.mk [] [] rfl rfl kr_ rfl (QAt.y Wt.none (Yd.move rfl))) (all_c (QF.mk [6, 1] [(78, _), (73, _)] rfl rfl kr_ rfl (QAt.y Wt.none (Yd.indexAddr (e := 29) (s := 11) (b := lb) (o := lf) (n := n) (c := lc) kr_ kr_ (congrArg (fun q => some (Value.slice q n lc)) elo) rfl (by omega) (by omega)))) (all_c (QF.ren (congrArg (Value.int .i64) (rot_int n k j)) (QF.mk [5, 4] [(77, _), (76, _)] rfl rfl kr_ rfl (QAt.y Wt.none (Yd.rem rfl rfl (by omega) (by omega))))) (all_c (QF.mk [] [] rfl rfl kr_ rfl (QAt.y Wt.none (Yd.move rfl))) (all_c (QF.mk [3, 2] [(75, _), (74, _)] rfl rfl kr_ rfl (QAt.y Wt.none (Yd.add rfl rfl (by omega) (by omega)))) (all_c (QF.mk [] [] rfl rfl kr_ rfl (QAt.y Wt.none (Yd.move rfl))) (all_c (QF.mk [] [] rfl rfl kr_ rfl (QAt.y Wt.none (Yd.move rfl))) (all_c (QF.mk [] [] rfl rfl kr_ rfl (QAt.y Wt.none (Yd.move rfl))) (all_n))))))))))) (all_c ?_ (all_n))
                    · change SO _ _ _ _ _ _ 14 ([(82, _), (71, _), (79, _), (78, _), (77, _), (76, _), (75, _), (74, _), (73, _)] ++ _) _ _
                      refine SO.s rfl Wt.none (Hd.storeAll (n := 2) kr_ rfl rfl (by rfl) one_ fr_ (by rfl) ⟨rfl, ?_⟩)
                      change WAF _ _ _ _ _ _ [(12, 83, _)] _ [14, 11, 10, 7, 6, 5, 4, 3, 2, 1, 13, 9, 8, 0] (([(82, _), (71, _), (79, _), (78, _), (77, _), (76, _), (75, _), (74, _), (73, _)] ++ _)) _
                      refine WAF.add (i := 15) (d := 15) rfl (QF.mk [12] [(83, _)] rfl rfl kr_ rfl (QAt.y Wt.none (Yd.assign rfl))) ?_
                      refine WAF.done (pd := [(15, 15), (12, 83)]) rfl kr_ kr_ (all_c rfl (all_c rfl (all_n))) (all_c (QF.mk [12] [(83, _)] rfl rfl kr_ rfl (QAt.y Wt.none (Yd.assign rfl))) (all_c (QF.mk [] [] rfl rfl kr_ rfl (QAt.y Wt.none (Yd.extract rfl rfl))) (all_n))) ?_
                      change DN _ _ _ _ _ _ ([(15, _), (83, _)] ++ _) _
                      refine DN.then_normal ?_
                      refine WC.seq ?_
                      refine WC.seq ?_
                      refine WC.region ?_
                      refine WL.y rfl (Yd.move rfl) ?_
                      refine WL.y rfl (Yd.neq rfl rfl) ?_
                      refine WL.renamed (t := 85) (v := .bool false) rfl (congrArg Value.bool (decide_eq_false (fun h => h rfl))) ?_
                      refine WL.y rfl (Yd.move rfl) ?_
                      refine WL.gy (dj := 86) rfl rfl rfl (Yd.move rfl) ?_
                      refine WL.gy (dj := 86) rfl rfl rfl (Yd.neq rfl rfl) ?_
                      refine WL.renamed (t := 88) (v := .bool false) rfl (congrArg Value.bool (decide_eq_false (fun h => h rfl))) ?_
                      refine WL.y rfl (Yd.pickF rfl rfl) ?_
                      refine WL.nil ?_
                      refine DN.then_normal ?_
                      refine WC.no rfl ?_
                      refine WC.skip ?_
                      refine DN.then_normal ?_
                      refine WC.seq ?_
                      refine WC.region ?_
                      refine WL.h rfl (Hd.loadAll (n := 2) kr_ rfl mem_ (by rfl) ⟨_, rfl, ?_⟩)
                      refine WL.s (Hd.storeAll (n := 2) kr_ rfl rfl (by rfl) one_ fr_ (by rfl) ⟨rfl, ?_⟩)
                      refine WL.nil ?_
                      refine DN.then_normal ?_
                      refine WC.region ?_
                      refine WL.h rfl (Hd.loadAll (n := 2) kr_ rfl mem_ (by rfl) ⟨_, rfl, ?_⟩)
                      refine WL.s (Hd.storeAll (n := 2) kr_ rfl rfl (by rfl) one_ fr_ (by rfl) ⟨rfl, ?_⟩)
                      refine WL.nil ?_
                      refine DN.block_normal ?_
                      refine DN.then_normal ?_
                      refine WC.region ?_
                      refine WL.y rfl (Yd.move rfl) ?_
                      refine WL.y rfl (Yd.add rfl rfl (by omega) (by omega)) ?_
                      refine WL.y rfl (Yd.assign rfl) ?_
                      refine WL.nil ?_
                      rw [one_fst j]
                      exact DN.againS (j + 1, _, _, _, _, D1, D2) ⟨by show j + 1 ≤ n; omega, hin1, hin2, hF1, hF2⟩ (by show n - (j + 1) < n - j; omega) ((Sx.put rfl (sx_))) sp_
                · change SO _ _ _ _ _ _ 13 ([] ++ _) _ _
                  refine SO.h rfl Wt.none rfl (Hd.alloc (zs := [.int .u32 0, .slice none 0 0]) kr_ fun b14 => ⟨_, rfl, ?_⟩)
                  change WAF _ _ _ _ _ _ [(8, 80, _), (7, 79, _), (6, 78, _), (5, 77, _), (4, 76, _), (3, 75, _), (2, 74, _), (1, 73, _), (0, 72, _)] _ [13] ((14, _) :: ([] ++ _)) _
                  refine WAF.step (pd := [(8, 80), (7, 79), (6, 78), (5, 77), (4, 76), (3, 75), (2, 74), (1, 73), (0, 72)]) [(9, [8, 0])] rfl kr_ kr_ (all_c rfl (all_c rfl (all_c rfl (all_c rfl (all_c rfl (all_c rfl (all_c rfl (all_c rfl (all_c rfl (all_n)))))))))) (all_c (QF.mk [7] [(79, _)] rfl rfl kr_ rfl (QAt.rd Wt.none (Rd.loadA (n := 11) (b := lb) (o := lf + ((rot n k j : Nat) : Int).toNat * 11) (cs := lcs) (vs := ntc (noteO cs (rot n k j)) (.slice none 0 0) (.slice no2 (noteO cs (rot n k j)).data.length nc2)) kr_ rfl (Gr.get gr_ hlm) rfl (rs_cell hlcs (by omega) hng2)))) (all_c (QF.mk [6, 1] [(78, _), (73, _)] rfl rfl kr_ rfl (QAt.y Wt.none (Yd.indexAddr (e := 29) (s := 11) (b := lb) (o := lf) (n := n) (c := lc) kr_ kr_ (congrArg (fun q => some (Value.slice q n lc)) elo) rfl (by omega) (by omega)))) (all_c (QF.ren (congrArg (Value.int .i64) (rot_int n k j)) (QF.mk [5, 4] [(77, _), (76, _)] rfl rfl kr_ rfl (QAt.y Wt.none (Yd.rem rfl rfl (by omega) (by omega))))) (all_c (QF.mk [] [] rfl rfl kr_ rfl (QAt.y Wt.none (Yd.move rfl))) (all_c (QF.mk [3, 2] [(75, _), (74, _)] rfl rfl kr_ rfl (QAt.y Wt.none (Yd.add rfl rfl (by omega) (by omega)))) (all_c (QF.mk [] [] rfl rfl kr_ rfl (QAt.y Wt.none (Yd.move rfl))) (all_c (QF.mk [] [] rfl rfl kr_ rfl (QAt.y Wt.none (Yd.move rfl))) (all_c (QF.mk [] [] rfl rfl kr_ rfl (QAt.y Wt.none (Yd.move rfl))) (all_c (QF.mk [] [] rfl rfl kr_ rfl (QAt.rd Wt.none (Rd.loadAll (n := 2) kr_ rfl mem_ (by rfl)))) (all_n)))))))))) (all_c ?_ (all_n))
                  · change SO _ _ _ _ _ _ 9 ([(80, _), (72, _)] ++ _) _ _
                    refine SO.c rfl Wt.none rfl (Ent.func Try.call15 rfl) (keep_tells (eN j) (.slice go ksG.length gc) ksG (DG ++ DD) (hG.kv.mono gr_) (by omega) (noteO cs (rot n k j)) (.slice none 0 0) _ (Bs_nil _) (hnd2.mono gr_) 2 (.slice none 0 0) [] (Bs_nil _)) (Sp.p sp_) ?_
                    rintro x2 H2 ⟨w2, D2, rfl, hF2, rfl⟩
                    obtain ⟨hke2, hin2⟩ := iG.keep (fun j h => by have := rot_lt (n := n) (k := k) (j := j) (by omega); omega) (fun a b ha hb h => rot_inj (hk.resolve_right (by omega)) ha hb h) hlt2 (by omega)
                    rw [hke2] at hF2 ⊢
                    obtain ⟨wo2, wc2, rfl⟩ := hF2.form
                    have hil2 := hin2.len
                    change WAF _ _ _ _ _ _ [(7, 79, _), (6, 78, _), (5, 77, _), (4, 76, _), (3, 75, _), (2, 74, _), (1, 73, _)] _ [9, 8, 0, 13] ((81, _) :: ([(80, _), (72, _)] ++ _)) _
                    refine WAF.add (i := 10) (d := 71) rfl (QF.mk [] [] rfl rfl kr_ rfl (QAt.y Wt.none (Yd.move rfl))) ?_
                    refine WAF.add (i := 11) (d := 82) rfl (QF.mk [10] [(71, _)] rfl rfl kr_ rfl (QAt.y Wt.none (Yd.extract rfl rfl))) ?_
                    refine WAF.add (i := 12) (d := 83) rfl (QF.mk [10] [(71, _)] rfl rfl kr_ rfl (QAt.y Wt.none (Yd.extract rfl rfl))) ?_
                    refine WAF.step (pd := [(12, 83), (11, 82), (10, 71), (7, 79), (6, 78), (5, 77), (4, 76), (3, 75), (2, 74), (1, 73)]) [(14, [11, 10, 7, 6, 5, 4, 3, 2, 1])] rfl kr_ kr_ (all_c rfl (all_c rfl (all_c rfl (all_c rfl (all_c rfl (all_c rfl (all_c rfl (all_c rfl (all_c rfl (all_c rfl (all_n))))))))))) (all_c (QF.mk [10] [(71, _)] rfl rfl kr_ rfl (QAt.y Wt.none (Yd.extract rfl rfl))) (all_c (QF.mk [10] [(71, _)] rfl rfl kr_ rfl (QAt.y Wt.none (Yd.extract rfl rfl))) (all_c (QF.mk [] [] rfl rfl kr_ rfl (QAt.y Wt.none (Yd.move rfl))) (all_c (QF.mk [6, 1] [(78, _), (73, _)] rfl rfl kr_ rfl (QAt.y Wt.none (Yd.indexAddr (e := 29) (s := 11) (b := lb) (o := lf) (n := n) (c := lc) kr_ kr_ (congrArg (fun q => some (Value.slice q n lc)) elo) rfl (by omega) (by omega)))) (all_c (QF.ren (congrArg (Value.int .i64) (rot_int n k j)) (QF.mk [5, 4] [(77, _), (76, _)] rfl rfl kr_ rfl (QAt.y Wt.none (Yd.rem rfl rfl (by omega) (by omega))))) (all_c (QF.mk [] [] rfl rfl kr_ rfl (QAt.y Wt.none (Yd.move rfl))) (all_c (QF.mk [3, 2] [(75, _), (74, _)] rfl rfl kr_ rfl (QAt.y Wt.none (Yd.add rfl rfl (by omega) (by omega)))) (all_c (QF.mk [] [] rfl rfl kr_ rfl (QAt.y Wt.none (Yd.move rfl))) (all_c (QF.mk [] [] rfl rfl kr_ rfl (QAt.y Wt.none (Yd.move rfl))) (all_c (QF.mk [] [] rfl rfl kr_ rfl (QAt.y Wt.none (Yd.move rfl))) (all_n))))))))))) (all_c ?_ (all_n))
                    · change SO _ _ _ _ _ _ 14 ([(82, _), (71, _), (79, _), (78, _), (77, _), (76, _), (75, _), (74, _), (73, _)] ++ _) _ _
                      refine SO.s rfl Wt.none (Hd.storeAll (n := 2) kr_ rfl rfl (by rfl) one_ fr_ (by rfl) ⟨rfl, ?_⟩)
                      change WAF _ _ _ _ _ _ [(12, 83, _)] _ [14, 11, 10, 7, 6, 5, 4, 3, 2, 1, 9, 8, 0, 13] (([(82, _), (71, _), (79, _), (78, _), (77, _), (76, _), (75, _), (74, _), (73, _)] ++ _)) _
                      refine WAF.add (i := 15) (d := 15) rfl (QF.mk [12] [(83, _)] rfl rfl kr_ rfl (QAt.y Wt.none (Yd.assign rfl))) ?_
                      refine WAF.done (pd := [(15, 15), (12, 83)]) rfl kr_ kr_ (all_c rfl (all_c rfl (all_n))) (all_c (QF.mk [12] [(83, _)] rfl rfl kr_ rfl (QAt.y Wt.none (Yd.assign rfl))) (all_c (QF.mk [] [] rfl rfl kr_ rfl (QAt.y Wt.none (Yd.extract rfl rfl))) (all_n))) ?_
                      change DN _ _ _ _ _ _ ([(15, _), (83, _)] ++ _) _
                      refine DN.then_normal ?_
                      refine WC.seq ?_
                      refine WC.seq ?_
                      refine WC.region ?_
                      refine WL.y rfl (Yd.move rfl) ?_
                      refine WL.y rfl (Yd.neq rfl rfl) ?_
                      refine WL.renamed (t := 85) (v := .bool false) rfl (congrArg Value.bool (decide_eq_false (fun h => h rfl))) ?_
                      refine WL.y rfl (Yd.move rfl) ?_
                      refine WL.gy (dj := 86) rfl rfl rfl (Yd.move rfl) ?_
                      refine WL.gy (dj := 86) rfl rfl rfl (Yd.neq rfl rfl) ?_
                      refine WL.renamed (t := 88) (v := .bool false) rfl (congrArg Value.bool (decide_eq_false (fun h => h rfl))) ?_
                      refine WL.y rfl (Yd.pickF rfl rfl) ?_
                      refine WL.nil ?_
                      refine DN.then_normal ?_
                      refine WC.no rfl ?_
                      refine WC.skip ?_
                      refine DN.then_normal ?_
                      refine WC.seq ?_
                      refine WC.region ?_
                      refine WL.h rfl (Hd.loadAll (n := 2) kr_ rfl mem_ (by rfl) ⟨_, rfl, ?_⟩)
                      refine WL.s (Hd.storeAll (n := 2) kr_ rfl rfl (by rfl) one_ fr_ (by rfl) ⟨rfl, ?_⟩)
                      refine WL.nil ?_
                      refine DN.then_normal ?_
                      refine WC.region ?_
                      refine WL.h rfl (Hd.loadAll (n := 2) kr_ rfl mem_ (by rfl) ⟨_, rfl, ?_⟩)
                      refine WL.s (Hd.storeAll (n := 2) kr_ rfl rfl (by rfl) one_ fr_ (by rfl) ⟨rfl, ?_⟩)
                      refine WL.nil ?_
                      refine DN.block_normal ?_
                      refine DN.then_normal ?_
                      refine WC.region ?_
                      refine WL.y rfl (Yd.move rfl) ?_
                      refine WL.y rfl (Yd.add rfl rfl (by omega) (by omega)) ?_
                      refine WL.y rfl (Yd.assign rfl) ?_
                      refine WL.nil ?_
                      rw [one_fst j]
                      exact DN.againS (j + 1, _, _, _, _, D1, D2) ⟨by show j + 1 ≤ n; omega, hin1, hin2, hF1, hF2⟩ (by show n - (j + 1) < n - j; omega) ((Sx.put rfl (sx_))) sp_
          · change SO _ _ _ _ _ _ 9 ([] ++ _) _ _
            refine SO.h rfl Wt.none rfl (Hd.alloc (zs := [.int .u32 0, .slice none 0 0]) kr_ fun b12 => ⟨_, rfl, ?_⟩)
            change WAF _ _ _ _ _ _ [(4, 67, _), (3, 66, _), (2, 65, _), (1, 64, _), (0, 63, _)] _ [9] ((12, _) :: ([] ++ _)) _
            refine WAF.step (pd := [(4, 67), (3, 66), (2, 65), (1, 64), (0, 63)]) [(5, [4, 0])] rfl kr_ kr_ (all_c rfl (all_c rfl (all_c rfl (all_c rfl (all_c rfl (all_n)))))) (all_c (QF.mk [3] [(66, _)] rfl rfl kr_ rfl (QAt.rd Wt.none (Rd.loadA (n := 11) (b := lb) (o := lf + ((j : Nat) : Int).toNat * 11) (cs := lcs) (vs := ntc (noteO cs (j)) (.slice none 0 0) (.slice no1 (noteO cs (j)).data.length nc1)) kr_ rfl (Gr.get gr_ hlm) rfl (rs_cell hlcs (by omega) hng1)))) (all_c (QF.mk [2, 1] [(65, _), (64, _)] rfl rfl kr_ rfl (QAt.y Wt.none (Yd.indexAddr (e := 29) (s := 11) (b := lb) (o := lf) (n := n) (c := lc) kr_ kr_ (congrArg (fun q => some (Value.slice q n lc)) elo) rfl (by omega) (by omega)))) (all_c (QF.mk [] [] rfl rfl kr_ rfl (QAt.y Wt.none (Yd.move rfl))) (all_c (QF.mk [] [] rfl rfl kr_ rfl (QAt.y Wt.none (Yd.move rfl))) (all_c (QF.mk [] [] rfl rfl kr_ rfl (QAt.rd Wt.none (Rd.loadAll (n := 2) kr_ rfl mem_ (by rfl)))) (all_n)))))) (all_c ?_ (all_n))
            · change SO _ _ _ _ _ _ 5 ([(67, _), (63, _)] ++ _) _ _
              refine SO.c rfl Wt.none rfl (Ent.func Try.call15 rfl) (keep_tells (eN j) (.slice fo ksF.length fc) ksF (DF ++ DD) (hF.kv.mono gr_) (by omega) (noteO cs (j)) (.slice none 0 0) _ (Bs_nil _) (hnd1.mono gr_) 2 (.slice none 0 0) [] (Bs_nil _)) (Sp.p sp_) ?_
              rintro x1 H1 ⟨w1, D1, rfl, hF1, rfl⟩
              obtain ⟨hke1, hin1⟩ := iF.keep (fun j h => (by show j < 100; omega)) (fun a b _ _ h => h) hlt2 (by omega)
              rw [show id j = j from rfl] at hke1 hin1
              rw [hke1] at hF1 ⊢
              obtain ⟨wo1, wc1, rfl⟩ := hF1.form
              have hil1 := hin1.len
              change WAF _ _ _ _ _ _ [(3, 66, _), (2, 65, _), (1, 64, _)] _ [5, 4, 0, 9] ((68, _) :: ([(67, _), (63, _)] ++ _)) _
              refine WAF.add (i := 6) (d := 62) rfl (QF.mk [] [] rfl rfl kr_ rfl (QAt.y Wt.none (Yd.move rfl))) ?_
              refine WAF.add (i := 7) (d := 69) rfl (QF.mk [6] [(62, _)] rfl rfl kr_ rfl (QAt.y Wt.none (Yd.extract rfl rfl))) ?_
              refine WAF.add (i := 8) (d := 70) rfl (QF.mk [6] [(62, _)] rfl rfl kr_ rfl (QAt.y Wt.none (Yd.extract rfl rfl))) ?_
              refine WAF.step (pd := [(8, 70), (7, 69), (6, 62), (3, 66), (2, 65), (1, 64)]) [(10, [7, 6, 3, 2, 1])] rfl kr_ kr_ (all_c rfl (all_c rfl (all_c rfl (all_c rfl (all_c rfl (all_c rfl (all_n))))))) (all_c (QF.mk [6] [(62, _)] rfl rfl kr_ rfl (QAt.y Wt.none (Yd.extract rfl rfl))) (all_c (QF.mk [6] [(62, _)] rfl rfl kr_ rfl (QAt.y Wt.none (Yd.extract rfl rfl))) (all_c (QF.mk [] [] rfl rfl kr_ rfl (QAt.y Wt.none (Yd.move rfl))) (all_c (QF.mk [2, 1] [(65, _), (64, _)] rfl rfl kr_ rfl (QAt.y Wt.none (Yd.indexAddr (e := 29) (s := 11) (b := lb) (o := lf) (n := n) (c := lc) kr_ kr_ (congrArg (fun q => some (Value.slice q n lc)) elo) rfl (by omega) (by omega)))) (all_c (QF.mk [] [] rfl rfl kr_ rfl (QAt.y Wt.none (Yd.move rfl))) (all_c (QF.mk [] [] rfl rfl kr_ rfl (QAt.y Wt.none (Yd.move rfl))) (all_n))))))) (all_c ?_ (all_n))
              · change SO _ _ _ _ _ _ 10 ([(69, _), (62, _), (66, _), (65, _), (64, _)] ++ _) _ _
                refine SO.s rfl Wt.none (Hd.storeAll (n := 2) kr_ rfl rfl (by rfl) one_ fr_ (by rfl) ⟨rfl, ?_⟩)
                change WAF _ _ _ _ _ _ [(8, 70, _)] _ [10, 7, 6, 3, 2, 1, 5, 4, 0, 9] (([(69, _), (62, _), (66, _), (65, _), (64, _)] ++ _)) _
                refine WAF.add (i := 11) (d := 13) rfl (QF.mk [8] [(70, _)] rfl rfl kr_ rfl (QAt.y Wt.none (Yd.assign rfl))) ?_
                refine WAF.done (pd := [(11, 13), (8, 70)]) rfl kr_ kr_ (all_c rfl (all_c rfl (all_n))) (all_c (QF.mk [8] [(70, _)] rfl rfl kr_ rfl (QAt.y Wt.none (Yd.assign rfl))) (all_c (QF.mk [] [] rfl rfl kr_ rfl (QAt.y Wt.none (Yd.extract rfl rfl))) (all_n))) ?_
                change DN _ _ _ _ _ _ ([(13, _), (70, _)] ++ _) _
                refine DN.then_normal ?_
                refine WC.seq ?_
                refine WC.draw 16 kr_ rfl ?_
                refine WA.float (N := 16) rfl ?_
                refine WAF.add (i := 0) (d := 72) rfl (QF.mk [] [] rfl rfl kr_ rfl (QAt.rd Wt.none (Rd.loadAll (n := 2) kr_ rfl mem_ (by rfl)))) ?_
                refine WAF.add (i := 1) (d := 73) rfl (QF.mk [] [] rfl rfl kr_ rfl (QAt.y Wt.none (Yd.move rfl))) ?_
                refine WAF.add (i := 2) (d := 74) rfl (QF.mk [] [] rfl rfl kr_ rfl (QAt.y Wt.none (Yd.move rfl))) ?_
                refine WAF.add (i := 3) (d := 75) rfl (QF.mk [] [] rfl rfl kr_ rfl (QAt.y Wt.none (Yd.move rfl))) ?_
                refine WAF.add (i := 4) (d := 76) rfl (QF.mk [3, 2] [(75, _), (74, _)] rfl rfl kr_ rfl (QAt.y Wt.none (Yd.add rfl rfl (by omega) (by omega)))) ?_
                refine WAF.add (i := 5) (d := 77) rfl (QF.mk [] [] rfl rfl kr_ rfl (QAt.y Wt.none (Yd.move rfl))) ?_
                refine WAF.add (i := 6) (d := 78) rfl (QF.mk [5, 4] [(77, _), (76, _)] rfl rfl kr_ rfl (QAt.y Wt.none (Yd.rem rfl rfl (by omega) (by omega)))) ?_
                refine WAF.ren (v := .int .i64 ((rot n k j : Nat) : Int)) (congrArg (Value.int .i64) (rot_int n k j)) ?_
                refine WAF.add (i := 7) (d := 79) rfl (QF.mk [6, 1] [(78, _), (73, _)] rfl rfl kr_ rfl (QAt.y Wt.none (Yd.indexAddr (e := 29) (s := 11) (b := lb) (o := lf) (n := n) (c := lc) kr_ kr_ (congrArg (fun q => some (Value.slice q n lc)) elo) rfl (by omega) (by omega)))) ?_
                refine WAF.add (i := 8) (d := 80) rfl (QF.mk [7] [(79, _)] rfl rfl kr_ rfl (QAt.rd Wt.none (Rd.loadA (n := 11) (b := lb) (o := lf + ((rot n k j : Nat) : Int).toNat * 11) (cs := lcs) (vs := ntc (noteO cs (rot n k j)) (.slice none 0 0) (.slice no2 (noteO cs (rot n k j)).data.length nc2)) kr_ rfl (Gr.get gr_ hlm) rfl (rs_cell hlcs (by omega) hng2)))) ?_
                refine WAF.step (pd := [(8, 80), (7, 79), (6, 78), (5, 77), (4, 76), (3, 75), (2, 74), (1, 73), (0, 72)]) [(9, [8, 0]), (13, [])] rfl kr_ kr_ (all_c rfl (all_c rfl (all_c rfl (all_c rfl (all_c rfl (all_c rfl (all_c rfl (all_c rfl (all_c rfl (all_n)))))))))) (all_c (QF.mk [7] [(79, _)] rfl rfl kr_ rfl (QAt.rd Wt.none (Rd.loadA (n := 11) (b := lb) (o := lf + ((rot n k j : Nat) : Int).toNat * 11) (cs := lcs) (vs := ntc (noteO cs (rot n k j)) (.slice none 0 0) (.slice no2 (noteO cs (rot n k j)).data.length nc2)) kr_ rfl (Gr.get gr_ hlm) rfl (rs_cell hlcs (by omega) hng2)))) (all_c (QF.mk [6, 1] [(78, _), (73, _)] rfl rfl kr_ rfl (QAt.y Wt.none (Yd.indexAddr (e := 29) (s := 11) (b := lb) (o := lf) (n := n) (c := lc) kr_ kr_ (congrArg (fun q => some (Value.slice q n lc)) elo) rfl (by omega) (by omega)))) (all_c (QF.ren (congrArg (Value.int .i64) (rot_int n k j)) (QF.mk [5, 4] [(77, _), (76, _)] rfl rfl kr_ rfl (QAt.y Wt.none (Yd.rem rfl rfl (by omega) (by omega))))) (all_c (QF.mk [] [] rfl rfl kr_ rfl (QAt.y Wt.none (Yd.move rfl))) (all_c (QF.mk [3, 2] [(75, _), (74, _)] rfl rfl kr_ rfl (QAt.y Wt.none (Yd.add rfl rfl (by omega) (by omega)))) (all_c (QF.mk [] [] rfl rfl kr_ rfl (QAt.y Wt.none (Yd.move rfl))) (all_c (QF.mk [] [] rfl rfl kr_ rfl (QAt.y Wt.none (Yd.move rfl))) (all_c (QF.mk [] [] rfl rfl kr_ rfl (QAt.y Wt.none (Yd.move rfl))) (all_c (QF.mk [] [] rfl rfl kr_ rfl (QAt.rd Wt.none (Rd.loadAll (n := 2) kr_ rfl mem_ (by rfl)))) (all_n)))))))))) (all_c ?_ (all_c ?_ (all_n)))
                · change SO _ _ _ _ _ _ 9 ([(80, _), (72, _)] ++ _) _ _
                  refine SO.c rfl Wt.none rfl (Ent.func Try.call15 rfl) (keep_tells (eN j) (.slice go ksG.length gc) ksG (DG ++ DD) (hG.kv.mono gr_) (by omega) (noteO cs (rot n k j)) (.slice none 0 0) _ (Bs_nil _) (hnd2.mono gr_) 2 (.slice none 0 0) [] (Bs_nil _)) (Sp.p sp_) ?_
                  rintro x2 H2 ⟨w2, D2, rfl, hF2, rfl⟩
                  obtain ⟨hke2, hin2⟩ := iG.keep (fun j h => by have := rot_lt (n := n) (k := k) (j := j) (by omega); omega) (fun a b ha hb h => rot_inj (hk.resolve_right (by omega)) ha hb h) hlt2 (by omega)
                  rw [hke2] at hF2 ⊢
                  obtain ⟨wo2, wc2, rfl⟩ := hF2.form
                  have hil2 := hin2.len
                  change WAF _ _ _ _ _ _ [(7, 79, _), (6, 78, _), (5, 77, _), (4, 76, _), (3, 75, _), (2, 74, _), (1, 73, _)] _ [9, 8, 0] ((81, _) :: ([(80, _), (72, _)] ++ _)) _
                  refine WAF.add (i := 10) (d := 71) rfl (QF.mk [] [] rfl rfl kr_ rfl (QAt.y Wt.none (Yd.move rfl))) ?_
                  refine WAF.add (i := 11) (d := 82) rfl (QF.mk [10] [(71, _)] rfl rfl kr_ rfl (QAt.y Wt.none (Yd.extract rfl rfl))) ?_
                  refine WAF.add (i := 12) (d := 83) rfl (QF.mk [10] [(71, _)] rfl rfl kr_ rfl (QAt.y Wt.none (Yd.extract rfl rfl))) ?_
                  refine WAF.step (pd := [(12, 83), (11, 82), (10, 71), (7, 79), (6, 78), (5, 77), (4, 76), (3, 75), (2, 74), (1, 73)]) [(13, [])] rfl kr_ kr_ (all_c rfl (all_c rfl (all_c rfl (all_c rfl (all_c rfl (all_c rfl (all_c rfl (all_c rfl (all_c rfl (all_c rfl (all_n))))))))))) (all_c (QF.mk [10] [(71, _)] rfl rfl kr_ rfl (QAt.y Wt.none (Yd.extract rfl rfl))) (all_c (QF.mk [10] [(71, _)] rfl rfl kr_ rfl (QAt.y Wt.none (Yd.extract rfl rfl))) (all_c (QF.mk [] [] rfl rfl kr_ rfl (QAt.y Wt.none (Yd.move rfl))) (all_c (QF.mk [6, 1] [(78, _), (73, _)] rfl rfl kr_ rfl (QAt.y Wt.none (Yd.indexAddr (e := 29) (s := 11) (b := lb) (o := lf) (n := n) (c := lc) kr_ kr_ (congrArg (fun q => some (Value.slice q n lc)) elo) rfl (by omega) (by omega)))) (all_c (QF.ren (congrArg (Value.int .i64) (rot_int n k j)) (QF.mk [5, 4] [(77, _), (76, _)] rfl rfl kr_ rfl (QAt.y Wt.none (Yd.rem rfl rfl (by omega) (by omega))))) (all_c (QF.mk [] [] rfl rfl kr_ rfl (QAt.y Wt.none (Yd.move rfl))) (all_c (QF.mk [3, 2] [(75, _), (74, _)] rfl rfl kr_ rfl (QAt.y Wt.none (Yd.add rfl rfl (by omega) (by omega)))) (all_c (QF.mk [] [] rfl rfl kr_ rfl (QAt.y Wt.none (Yd.move rfl))) (all_c (QF.mk [] [] rfl rfl kr_ rfl (QAt.y Wt.none (Yd.move rfl))) (all_c (QF.mk [] [] rfl rfl kr_ rfl (QAt.y Wt.none (Yd.move rfl))) (all_n))))))))))) (all_c ?_ (all_n))
                  · change SO _ _ _ _ _ _ 13 ([] ++ _) _ _
                    refine SO.h rfl Wt.none rfl (Hd.alloc (zs := [.int .u32 0, .slice none 0 0]) kr_ fun b14 => ⟨_, rfl, ?_⟩)
                    change WAF _ _ _ _ _ _ [(12, 83, _), (11, 82, _), (10, 71, _), (7, 79, _), (6, 78, _), (5, 77, _), (4, 76, _), (3, 75, _), (2, 74, _), (1, 73, _)] _ [13, 9, 8, 0] ((14, _) :: ([] ++ _)) _
                    refine WAF.step (pd := [(12, 83), (11, 82), (10, 71), (7, 79), (6, 78), (5, 77), (4, 76), (3, 75), (2, 74), (1, 73)]) [(14, [11, 10, 7, 6, 5, 4, 3, 2, 1])] rfl kr_ kr_ (all_c rfl (all_c rfl (all_c rfl (all_c rfl (all_c rfl (all_c rfl (all_c rfl (all_c rfl (all_c rfl (all_c rfl (all_n))))))))))) (all_c (QF.mk [10] [(71, _)] rfl rfl kr_ rfl (QAt.y Wt.none (Yd.extract rfl rfl))) (all_c (QF.mk [10] [(71, _)] rfl rfl kr_ rfl (QAt.y Wt.none (Yd.extract rfl rfl))) (all_c (QF.mk [] [] rfl rfl kr_ rfl (QAt.y Wt.none (Yd.move rfl))) (all_c (QF.mk [6, 1] [(78, _), (73, _)] rfl rfl kr_ rfl (QAt.y Wt.none (Yd.indexAddr (e := 29) (s := 11) (b := lb) (o := lf) (n := n) (c := lc) kr_ kr_ (congrArg (fun q => some (Value.slice q n lc)) elo) rfl (by omega) (by omega)))) (all_c (QF.ren (congrArg (Value.int .i64) (rot_int n k j)) (QF.mk [5, 4] [(77, _), (76, _)] rfl rfl kr_ rfl (QAt.y Wt.none (Yd.rem rfl rfl (by omega) (by omega))))) (all_c (QF.mk [] [] rfl rfl kr_ rfl (QAt.y Wt.none (Yd.move rfl))) (all_c (QF.mk [3, 2] [(75, _), (74, _)] rfl rfl kr_ rfl (QAt.y Wt.none (Yd.add rfl rfl (by omega) (by omega)))) (all_c (QF.mk [] [] rfl rfl kr_ rfl (QAt.y Wt.none (Yd.move rfl))) (all_c (QF.mk [] [] rfl rfl kr_ rfl (QAt.y Wt.none (Yd.move rfl))) (all_c (QF.mk [] [] rfl rfl kr_ rfl (QAt.y Wt.none (Yd.move rfl))) (all_n))))))))))) (all_c ?_ (all_n))
                    · change SO _ _ _ _ _ _ 14 ([(82, _), (71, _), (79, _), (78, _), (77, _), (76, _), (75, _), (74, _), (73, _)] ++ _) _ _
                      refine SO.s rfl Wt.none (Hd.storeAll (n := 2) kr_ rfl rfl (by rfl) one_ fr_ (by rfl) ⟨rfl, ?_⟩)
                      change WAF _ _ _ _ _ _ [(12, 83, _)] _ [14, 11, 10, 7, 6, 5, 4, 3, 2, 1, 13, 9, 8, 0] (([(82, _), (71, _), (79, _), (78, _), (77, _), (76, _), (75, _), (74, _), (73, _)] ++ _)) _
                      refine WAF.add (i := 15) (d := 15) rfl (QF.mk [12] [(83, _)] rfl rfl kr_ rfl (QAt.y Wt.none (Yd.assign rfl))) ?_
                      refine WAF.done (pd := [(15, 15), (12, 83)]) rfl kr_ kr_ (all_c rfl (all_c rfl (all_n))) (all_c (QF.mk [12] [(83, _)] rfl rfl kr_ rfl (QAt.y Wt.none (Yd.assign rfl))) (all_c (QF.mk [] [] rfl rfl kr_ rfl (QAt.y Wt.none (Yd.extract rfl rfl))) (all_n))) ?_
                      change DN _ _ _ _ _ _ ([(15, _), (83, _)] ++ _) _
                      refine DN.then_normal ?_
                      refine WC.seq ?_
                      refine WC.seq ?_
                      refine WC.region ?_
                      refine WL.y rfl (Yd.move rfl) ?_
                      refine WL.y rfl (Yd.neq rfl rfl) ?_
                      refine WL.renamed (t := 85) (v := .bool false) rfl (congrArg Value.bool (decide_eq_false (fun h => h rfl))) ?_
                      refine WL.y rfl (Yd.move rfl) ?_
                      refine WL.gy (dj := 86) rfl rfl rfl (Yd.move rfl) ?_
                      refine WL.gy (dj := 86) rfl rfl rfl (Yd.neq rfl rfl) ?_
                      refine WL.renamed (t := 88) (v := .bool false) rfl (congrArg Value.bool (decide_eq_false (fun h => h rfl))) ?_
                      refine WL.y rfl (Yd.pickF rfl rfl) ?_
                      refine WL.nil ?_
                      refine DN.then_normal ?_
                      refine WC.no rfl ?_
                      refine WC.skip ?_
                      refine DN.then_normal ?_
                      refine WC.seq ?_
                      refine WC.region ?_
                      refine WL.h rfl (Hd.loadAll (n := 2) kr_ rfl mem_ (by rfl) ⟨_, rfl, ?_⟩)
                      refine WL.s (Hd.storeAll (n := 2) kr_ rfl rfl (by rfl) one_ fr_ (by rfl) ⟨rfl, ?_⟩)
                      refine WL.nil ?_
                      refine DN.then_normal ?_
                      refine WC.region ?_
                      refine WL.h rfl (Hd.loadAll (n := 2) kr_ rfl mem_ (by rfl) ⟨_, rfl, ?_⟩)
                      refine WL.s (Hd.storeAll (n := 2) kr_ rfl rfl (by rfl) one_ fr_ (by rfl) ⟨rfl, ?_⟩)
                      refine WL.nil ?_
                      refine DN.block_normal ?_
                      refine DN.then_normal ?_
                      refine WC.region ?_
                      refine WL.y rfl (Yd.move rfl) ?_
                      refine WL.y rfl (Yd.add rfl rfl (by omega) (by omega)) ?_
                      refine WL.y rfl (Yd.assign rfl) ?_
                      refine WL.nil ?_
                      rw [one_fst j]
                      exact DN.againS (j + 1, _, _, _, _, D1, D2) ⟨by show j + 1 ≤ n; omega, hin1, hin2, hF1, hF2⟩ (by show n - (j + 1) < n - j; omega) ((Sx.put rfl (sx_))) sp_
                · change SO _ _ _ _ _ _ 13 ([] ++ _) _ _
                  refine SO.h rfl Wt.none rfl (Hd.alloc (zs := [.int .u32 0, .slice none 0 0]) kr_ fun b14 => ⟨_, rfl, ?_⟩)
                  change WAF _ _ _ _ _ _ [(8, 80, _), (7, 79, _), (6, 78, _), (5, 77, _), (4, 76, _), (3, 75, _), (2, 74, _), (1, 73, _), (0, 72, _)] _ [13] ((14, _) :: ([] ++ _)) _
                  refine WAF.step (pd := [(8, 80), (7, 79), (6, 78), (5, 77), (4, 76), (3, 75), (2, 74), (1, 73), (0, 72)]) [(9, [8, 0])] rfl kr_ kr_ (all_c rfl (all_c rfl (all_c rfl (all_c rfl (all_c rfl (all_c rfl (all_c rfl (all_c rfl (all_c rfl (all_n)))))))))) (all_c (QF.mk [7] [(79, _)] rfl rfl kr_ rfl (QAt.rd Wt.none (Rd.loadA (n := 11) (b := lb) (o := lf + ((rot n k j : Nat) : Int).toNat * 11) (cs := lcs) (vs := ntc (noteO cs (rot n k j)) (.slice none 0 0) (.slice no2 (noteO cs (rot n k j)).data.length nc2)) kr_ rfl (Gr.get gr_ hlm) rfl (rs_cell hlcs (by omega) hng2)))) (all_c (QF.mk [6, 1] [(78, _), (73, _)] rfl rfl kr_ rfl (QAt.y Wt.none (Yd.indexAddr (e := 29) (s := 11) (b := lb) (o := lf) (n := n) (c := lc) kr_ kr_ (congrArg (fun q => some (Value.slice q n lc)) elo) rfl (by omega) (by omega)))) (all_c (QF.ren (congrArg (Value.int .i64) (rot_int n k j)) (QF.mk [5, 4] [(77, _), (76, _)] rfl rfl kr_ rfl (QAt.y Wt.none (Yd.rem rfl rfl (by omega) (by omega))))) (all_c (QF.mk [] [] rfl rfl kr_ rfl (QAt.y Wt.none (Yd.move rfl))) (all_c (QF.mk [3, 2] [(75, _), (74, _)] rfl rfl kr_ rfl (QAt.y Wt.none (Yd.add rfl rfl (by omega) (by omega)))) (all_c (QF.mk [] [] rfl rfl kr_ rfl (QAt.y Wt.none (Yd.move rfl))) (all_c (QF.mk [] [] rfl rfl kr_ rfl (QAt.y Wt.none (Yd.move rfl))) (all_c (QF.mk [] [] rfl rfl kr_ rfl (QAt.y Wt.none (Yd.move rfl))) (all_c (QF.mk [] [] rfl rfl kr_ rfl (QAt.rd Wt.none (Rd.loadAll (n := 2) kr_ rfl mem_ (by rfl)))) (all_n)))))))))) (all_c ?_ (all_n))
                  · change SO _ _ _ _ _ _ 9 ([(80, _), (72, _)] ++ _) _ _
                    refine SO.c rfl Wt.none rfl (Ent.func Try.call15 rfl) (keep_tells (eN j) (.slice go ksG.length gc) ksG (DG ++ DD) (hG.kv.mono gr_) (by omega) (noteO cs (rot n k j)) (.slice none 0 0) _ (Bs_nil _) (hnd2.mono gr_) 2 (.slice none 0 0) [] (Bs_nil _)) (Sp.p sp_) ?_
                    rintro x2 H2 ⟨w2, D2, rfl, hF2, rfl⟩
                    obtain ⟨hke2, hin2⟩ := iG.keep (fun j h => by have := rot_lt (n := n) (k := k) (j := j) (by omega); omega) (fun a b ha hb h => rot_inj (hk.resolve_right (by omega)) ha hb h) hlt2 (by omega)
                    rw [hke2] at hF2 ⊢
                    obtain ⟨wo2, wc2, rfl⟩ := hF2.form
                    have hil2 := hin2.len
                    change WAF _ _ _ _ _ _ [(7, 79, _), (6, 78, _), (5, 77, _), (4, 76, _), (3, 75, _), (2, 74, _), (1, 73, _)] _ [9, 8, 0, 13] ((81, _) :: ([(80, _), (72, _)] ++ _)) _
                    refine WAF.add (i := 10) (d := 71) rfl (QF.mk [] [] rfl rfl kr_ rfl (QAt.y Wt.none (Yd.move rfl))) ?_
                    refine WAF.add (i := 11) (d := 82) rfl (QF.mk [10] [(71, _)] rfl rfl kr_ rfl (QAt.y Wt.none (Yd.extract rfl rfl))) ?_
                    refine WAF.add (i := 12) (d := 83) rfl (QF.mk [10] [(71, _)] rfl rfl kr_ rfl (QAt.y Wt.none (Yd.extract rfl rfl))) ?_
                    refine WAF.step (pd := [(12, 83), (11, 82), (10, 71), (7, 79), (6, 78), (5, 77), (4, 76), (3, 75), (2, 74), (1, 73)]) [(14, [11, 10, 7, 6, 5, 4, 3, 2, 1])] rfl kr_ kr_ (all_c rfl (all_c rfl (all_c rfl (all_c rfl (all_c rfl (all_c rfl (all_c rfl (all_c rfl (all_c rfl (all_c rfl (all_n))))))))))) (all_c (QF.mk [10] [(71, _)] rfl rfl kr_ rfl (QAt.y Wt.none (Yd.extract rfl rfl))) (all_c (QF.mk [10] [(71, _)] rfl rfl kr_ rfl (QAt.y Wt.none (Yd.extract rfl rfl))) (all_c (QF.mk [] [] rfl rfl kr_ rfl (QAt.y Wt.none (Yd.move rfl))) (all_c (QF.mk [6, 1] [(78, _), (73, _)] rfl rfl kr_ rfl (QAt.y Wt.none (Yd.indexAddr (e := 29) (s := 11) (b := lb) (o := lf) (n := n) (c := lc) kr_ kr_ (congrArg (fun q => some (Value.slice q n lc)) elo) rfl (by omega) (by omega)))) (all_c (QF.ren (congrArg (Value.int .i64) (rot_int n k j)) (QF.mk [5, 4] [(77, _), (76, _)] rfl rfl kr_ rfl (QAt.y Wt.none (Yd.rem rfl rfl (by omega) (by omega))))) (all_c (QF.mk [] [] rfl rfl kr_ rfl (QAt.y Wt.none (Yd.move rfl))) (all_c (QF.mk [3, 2] [(75, _), (74, _)] rfl rfl kr_ rfl (QAt.y Wt.none (Yd.add rfl rfl (by omega) (by omega)))) (all_c (QF.mk [] [] rfl rfl kr_ rfl (QAt.y Wt.none (Yd.move rfl))) (all_c (QF.mk [] [] rfl rfl kr_ rfl (QAt.y Wt.none (Yd.move rfl))) (all_c (QF.mk [] [] rfl rfl kr_ rfl (QAt.y Wt.none (Yd.move rfl))) (all_n))))))))))) (all_c ?_ (all_n))
                    · change SO _ _ _ _ _ _ 14 ([(82, _), (71, _), (79, _), (78, _), (77, _), (76, _), (75, _), (74, _), (73, _)] ++ _) _ _
                      refine SO.s rfl Wt.none (Hd.storeAll (n := 2) kr_ rfl rfl (by rfl) one_ fr_ (by rfl) ⟨rfl, ?_⟩)
                      change WAF _ _ _ _ _ _ [(12, 83, _)] _ [14, 11, 10, 7, 6, 5, 4, 3, 2, 1, 9, 8, 0, 13] (([(82, _), (71, _), (79, _), (78, _), (77, _), (76, _), (75, _), (74, _), (73, _)] ++ _)) _
                      refine WAF.add (i := 15) (d := 15) rfl (QF.mk [12] [(83, _)] rfl rfl kr_ rfl (QAt.y Wt.none (Yd.assign rfl))) ?_
                      refine WAF.done (pd := [(15, 15), (12, 83)]) rfl kr_ kr_ (all_c rfl (all_c rfl (all_n))) (all_c (QF.mk [12] [(83, _)] rfl rfl kr_ rfl (QAt.y Wt.none (Yd.assign rfl))) (all_c (QF.mk [] [] rfl rfl kr_ rfl (QAt.y Wt.none (Yd.extract rfl rfl))) (all_n))) ?_
                      change DN _ _ _ _ _ _ ([(15, _), (83, _)] ++ _) _
                      refine DN.then_normal ?_
                      refine WC.seq ?_
                      refine WC.seq ?_
                      refine WC.region ?_
                      refine WL.y rfl (Yd.move rfl) ?_
                      refine WL.y rfl (Yd.neq rfl rfl) ?_
                      refine WL.renamed (t := 85) (v := .bool false) rfl (congrArg Value.bool (decide_eq_false (fun h => h rfl))) ?_
                      refine WL.y rfl (Yd.move rfl) ?_
                      refine WL.gy (dj := 86) rfl rfl rfl (Yd.move rfl) ?_
                      refine WL.gy (dj := 86) rfl rfl rfl (Yd.neq rfl rfl) ?_
                      refine WL.renamed (t := 88) (v := .bool false) rfl (congrArg Value.bool (decide_eq_false (fun h => h rfl))) ?_
                      refine WL.y rfl (Yd.pickF rfl rfl) ?_
                      refine WL.nil ?_
                      refine DN.then_normal ?_
                      refine WC.no rfl ?_
                      refine WC.skip ?_
                      refine DN.then_normal ?_
                      refine WC.seq ?_
                      refine WC.region ?_
                      refine WL.h rfl (Hd.loadAll (n := 2) kr_ rfl mem_ (by rfl) ⟨_, rfl, ?_⟩)
                      refine WL.s (Hd.storeAll (n := 2) kr_ rfl rfl (by rfl) one_ fr_ (by rfl) ⟨rfl, ?_⟩)
                      refine WL.nil ?_
                      refine DN.then_normal ?_
                      refine WC.region ?_
                      refine WL.h rfl (Hd.loadAll (n := 2) kr_ rfl mem_ (by rfl) ⟨_, rfl, ?_⟩)
                      refine WL.s (Hd.storeAll (n := 2) kr_ rfl rfl (by rfl) one_ fr_ (by rfl) ⟨rfl, ?_⟩)
                      refine WL.nil ?_
                      refine DN.block_normal ?_
                      refine DN.then_normal ?_
                      refine WC.region ?_
                      refine WL.y rfl (Yd.move rfl) ?_
                      refine WL.y rfl (Yd.add rfl rfl (by omega) (by omega)) ?_
                      refine WL.y rfl (Yd.assign rfl) ?_
                      refine WL.nil ?_
                      rw [one_fst j]
                      exact DN.againS (j + 1, _, _, _, _, D1, D2) ⟨by show j + 1 ≤ n; omega, hin1, hin2, hF1, hF2⟩ (by show n - (j + 1) < n - j; omega) ((Sx.put rfl (sx_))) sp_
        · obtain rfl : j = n := by omega
          obtain rfl := ord_same hk iF iG
          refine WC.exit ?_
          refine DN.then_exit ?_
          refine DN.then_exit ?_
          refine DN.block_exit ?_
          refine DN.then_normal ?_
          refine WC.seq ?_
          refine WC.region ?_
          refine WL.h rfl (Hd.loadAll (n := 2) kr_ rfl mem_ (by rfl) ⟨_, rfl, ?_⟩)
          refine WL.c rfl (Ent.func Try.call32 rfl) (fput_tells (eN j) _ ksF DF hF.kv (by omega)) (Sp.p sp_) ?_
          rintro x H9 ⟨w5, P1, rfl, hP1, rfl⟩
          rw [if_pos iF.chk] at hP1 ⊢
          obtain ⟨o5, c5, rfl, _⟩ := hP1.form
          refine WL.y rfl (Yd.move rfl) ?_
          refine WL.y rfl (Yd.extract rfl rfl) ?_
          refine WL.y rfl (Yd.extract rfl rfl) ?_
          refine WL.y rfl (Yd.assign rfl) ?_
          refine WL.y rfl (Yd.assign rfl) ?_
          refine WL.nil ?_
          refine DN.then_normal ?_
          refine WC.seq ?_
          refine WC.region ?_
          refine WL.h rfl (Hd.loadAll (n := 2) kr_ rfl mem_ (by rfl) ⟨_, rfl, ?_⟩)
          refine WL.c rfl (Ent.func Try.call32 rfl) (fput_tells (eN j) _ ksF DG hG.kv (by omega)) (Sp.p sp_) ?_
          rintro x H9 ⟨w6, P2, rfl, hP2, rfl⟩
          rw [if_pos iF.chk] at hP2 ⊢
          obtain ⟨o6, c6, rfl, _⟩ := hP2.form
          refine WL.y rfl (Yd.move rfl) ?_
          refine WL.y rfl (Yd.extract rfl rfl) ?_
          refine WL.y rfl (Yd.extract rfl rfl) ?_
          refine WL.y rfl (Yd.assign rfl) ?_
          refine WL.y rfl (Yd.assign rfl) ?_
          refine WL.nil ?_
          refine DN.then_normal ?_
          refine WC.seq ?_
          refine WC.region ?_
          refine WL.y rfl (Yd.move rfl) ?_
          refine WL.y rfl (Yd.eql rfl rfl) ?_
          refine WL.renamed (t := 103) (v := .bool true) rfl (congrArg Value.bool (decide_eq_true rfl)) ?_
          refine WL.y rfl (Yd.move rfl) ?_
          refine WL.gy (dj := 104) rfl rfl rfl (Yd.move rfl) ?_
          refine WL.gy (dj := 104) rfl rfl rfl (Yd.eql rfl rfl) ?_
          refine WL.renamed (t := 106) (v := .bool true) rfl (congrArg Value.bool (decide_eq_true rfl)) ?_
          refine WL.y rfl (Yd.pickT rfl rfl) ?_
          refine WL.y rfl (Yd.move rfl) ?_
          refine WL.gy (dj := 108) rfl rfl rfl (Yd.move rfl) ?_
          refine WL.gh (dj := 108) rfl rfl rfl (Hd.toStr (e := 5) (bs := putB (eN j) ksF) kr_ kr_ Try.underlying9 rfl (hP1.bs.mono gr_) ⟨_, rfl, ?_⟩)
          refine WL.gy (dj := 108) rfl rfl rfl (Yd.move rfl) ?_
          refine WL.gh (dj := 108) rfl rfl rfl (Hd.toStr (e := 5) (bs := putB (eN j) ksF) kr_ kr_ Try.underlying9 rfl (hP2.bs.mono gr_) ⟨_, rfl, ?_⟩)
          refine WL.gy (dj := 108) rfl rfl rfl (Yd.eqlS rfl rfl) ?_
          refine WL.renamed (t := 113) (v := .bool true) rfl (congrArg Value.bool (decide_eq_true rfl)) ?_
          refine WL.y rfl (Yd.pickT rfl rfl) ?_
          refine WL.y rfl (Yd.move rfl) ?_
          refine WL.grf (dj := 115) rfl rfl rfl (Ent.func Try.call12 rfl) (known_reads) sp_ ?_
          refine WL.y rfl (Yd.pickT rfl rfl) ?_
          refine WL.y rfl (Yd.assign rfl) ?_
          refine WL.nil ?_
          refine DN.then_normal ?_
          refine WC.ret ?_
          refine DN.fit (C := H) sp_ ?_
          refine DN.ret1 Try.results9 rfl ?_
          exact ⟨rfl, rfl⟩
  · refine WL.gn (dj := 24) rfl rfl rfl rfl ?_
    refine WL.gn (dj := 24) rfl rfl rfl rfl ?_
    refine WL.y rfl (Yd.pickF rfl rfl) ?_
    refine WL.nil ?_
    refine DN.then_normal ?_
    refine WC.no rfl ?_
    refine WC.exit ?_
    refine DN.then_exit ?_
    refine DN.then_exit ?_
    refine DN.block_exit ?_
    refine DN.then_normal ?_
    refine WC.seq ?_
    refine WC.region ?_
    refine WL.y rfl (Yd.buildL (pl := [(0, 1), (1, 1)]) (zs := [.int .u32 0, .slice none 0 0]) (parts := []) (vs := []) (cells := [.int .u32 0, .slice none 0 0]) kr_ kr_ rfl rfl) ?_
    refine WL.h rfl (Hd.alloc (zs := [.int .u32 0, .slice none 0 0]) kr_ fun b7 => ⟨_, rfl, ?_⟩)
    refine WL.s (Hd.storeAll (n := 2) kr_ rfl rfl (by rfl) one_ fr_ (by rfl) ⟨rfl, ?_⟩)
    refine WL.nil ?_
    refine DN.then_normal ?_
    refine WC.seq ?_
    refine WC.region ?_
    refine WL.y rfl (Yd.buildL (pl := [(0, 1), (1, 1)]) (zs := [.int .u32 0, .slice none 0 0]) (parts := []) (vs := []) (cells := [.int .u32 0, .slice none 0 0]) kr_ kr_ rfl rfl) ?_
    refine WL.h rfl (Hd.alloc (zs := [.int .u32 0, .slice none 0 0]) kr_ fun b8 => ⟨_, rfl, ?_⟩)
    refine WL.s (Hd.storeAll (n := 2) kr_ rfl rfl (by rfl) one_ fr_ (by rfl) ⟨rfl, ?_⟩)
    refine WL.nil ?_
    refine DN.then_normal ?_
    refine WC.seq ?_
    refine WC.region ?_
    refine WL.y rfl (Yd.move rfl) ?_
    refine WL.y rfl (Yd.len (e := 29) kr_ rfl) ?_
    refine WL.y rfl (Yd.assign rfl) ?_
    refine WL.nil ?_
    refine DN.then_normal ?_
    refine WC.seq ?_
    refine WC.region ?_
    refine WL.y rfl (Yd.assign rfl) ?_
    refine WL.nil ?_
    refine DN.then_normal ?_
    refine WC.cutK (fun k : Nat => k < i ∨ i = 0) (fun k : Nat => [(10, .int .i64 (k : Int))]) (fun k : Nat => row b8 [.int .u32 0, .slice none 0 0] 25 :: (row b7 [.int .u32 0, .slice none 0 0] 25 :: (CN ++ (DD ++ H)))) ?_ ?_
    · refine WC.seq ?_
      refine WC.region ?_
      refine WL.y rfl (Yd.move rfl) ?_
      refine WL.y rfl (Yd.gtr rfl rfl) ?_
      refine WL.nil ?_
      refine DN.then_normal ?_
      refine WC.ite rfl (fun h50 => ?_) (fun h50 => ?_)
      · have hi0 : 0 < i := by omega
        have hie : (BitVec.ofInt 64 (i : Int)).toNat = i := by rw [BitVec.toNat_ofInt]; omega
        have hne : (BitVec.ofInt 64 (i : Int)).toNat ≠ 0 := by omega
        have hrm : (BitVec.ofInt 64 sw % BitVec.ofInt 64 (i : Int)).toNat < i := by rw [BitVec.toNat_umod, hie]; exact Nat.mod_lt _ hi0
        refine WC.region ?_
        refine WL.y rfl (Yd.move rfl) ?_
        refine WL.y rfl (Yd.to64 _ kr_ kr_ rfl rfl) ?_
        refine WL.y rfl (Yd.move rfl) ?_
        refine WL.y rfl (Yd.to64 _ kr_ kr_ rfl rfl) ?_
        refine WL.y rfl (Yd.rem64 (BitVec.ofInt 64 sw) (BitVec.ofInt 64 (i : Int)) rfl rfl rfl rfl hne) ?_
        refine WL.y rfl (Yd.toInt kr_ kr_ rfl (by omega) (by omega)) ?_
        refine WL.y rfl (Yd.assign rfl) ?_
        refine WL.nil ?_
        exact DN.reachK (((BitVec.ofInt 64 sw % BitVec.ofInt 64 (i : Int)).toNat)) (.inl hrm) (Sx.put rfl (sx_)) (Sp.all sp_)
      · refine WC.skip ?_
        exact DN.reachK (0) (.inr (by omega)) (Sx.put rfl (sx_)) (Sp.all sp_)
    · intro k hk
      obtain ⟨n, rfl⟩ : ∃ n, n = i := ⟨_, rfl⟩
      refine WC.seq ?_
      refine WC.seq ?_
      refine WC.region ?_
      refine WL.y rfl (Yd.assign rfl) ?_
      refine WL.nil ?_
      refine DN.then_normal ?_
      refine WC.block ?_
      refine WC.loopS (fun z : Nat × List Kp × List Kp × Value × Value × List Ck × List Ck => z.1 ≤ n ∧ OrdInv cs n id z.2.1 z.1 ∧ OrdInv cs n (rot n k) z.2.2.1 z.1 ∧ FAt 5 43 z.2.2.2.1 z.2.1 z.2.2.2.2.2.1 ∧ FAt 5 43 z.2.2.2.2.1 z.2.2.1 z.2.2.2.2.2.2) (fun z : Nat × List Kp × List Kp × Value × Value × List Ck × List Ck => [(11, .int .i64 (z.1 : Int))]) (fun z : Nat × List Kp × List Kp × Value × Value × List Ck × List Ck => row b7 [.int .u32 (eN z.1).toNat, z.2.2.2.1] 25 :: (row b8 [.int .u32 (eN z.1).toNat, z.2.2.2.2.1] 25 :: (z.2.2.2.2.2.1 ++ (z.2.2.2.2.2.2 ++ (CN ++ (DD ++ H)))))) (fun z : Nat × List Kp × List Kp × Value × Value × List Ck × List Ck => n - z.1) (⟨0, [], [], .slice none 0 0, .slice none 0 0, [], []⟩) (show 0 ≤ n ∧ OrdInv cs n id [] 0 ∧ OrdInv cs n (rot n k) [] 0 ∧ FAt 5 43 (.slice none 0 0) [] [] ∧ FAt 5 43 (.slice none 0 0) [] [] from ⟨Nat.zero_le _, OrdInv.start _ _ _, OrdInv.start _ _ _, FAt.nil _ _, FAt.nil _ _⟩) (Sx.put rfl (sx_)) sp_ ?_
      rintro ⟨j, ksF, ksG, vf, vg, DF, DG⟩ hI
      replace hI : j ≤ n ∧ OrdInv cs n id ksF j ∧ OrdInv cs n (rot n k) ksG j ∧ FAt 5 43 vf ksF DF ∧ FAt 5 43 vg ksG DG := hI
      obtain ⟨hj, iF, iG, hF, hG⟩ := hI
      change WC _ _ _ _ _ _ ([(11, .int .i64 (j : Int))] ++ _) (row b7 [.int .u32 (eN j).toNat, vf] 25 :: (row b8 [.int .u32 (eN j).toNat, vg] 25 :: (DF ++ (DG ++ (CN ++ (DD ++ H))))))
      obtain ⟨fo, fc, rfl⟩ := hF.form
      obtain ⟨go, gc, rfl⟩ := hG.form
      have hfl := iF.len
      have hgl := iG.len
      refine WC.seq ?_
      refine WC.seq ?_
      refine WC.region ?_
      refine WL.y rfl (Yd.move rfl) ?_
      refine WL.y rfl (Yd.move rfl) ?_
      refine WL.y rfl (Yd.lss rfl rfl) ?_
      refine WL.nil ?_
      refine DN.then_normal ?_
      refine WC.ite rfl (fun h59 => ?_) (fun h59 => ?_)
      · have hlt2 : j < n := by omega
        have hcl := hN.len
        rw [nsO_len] at hcl
        obtain ⟨lb, lf, lcs, lT, lfr, lex, elo, _, hlm, hlcs⟩ := hO.rs.lies (by omega)
        have hrl := rot_lt (n := n) (k := k) (j := j) (by omega)
        obtain ⟨nv1, hng1, hnd1, _⟩ := hN.at j (by rw [nsO_len]; exact hlt2)
        obtain ⟨nv2, hng2, hnd2, _⟩ := hN.at (rot n k j) (by rw [nsO_len]; exact hrl)
        rw [nsO_at] at hng1 hnd1 hng2 hnd2
        obtain ⟨no1, nc1, rfl, _⟩ := hnd1.form
        obtain ⟨no2, nc2, rfl, _⟩ := hnd2.form
        refine WC.skip ?_
        refine DN.then_normal ?_
        refine WC.seq ?_
        refine WC.block ?_
        refine WC.seq ?_
        refine WC.draw 12 kr_ rfl ?_
        refine WA.float (N := 12) rfl ?_
        refine WAF.add (i := 0) (d := 63) rfl (QF.mk [] [] rfl rfl kr_ rfl (QAt.rd Wt.none (Rd.loadAll (n := 2) kr_ rfl mem_ (by rfl)))) ?_
        refine WAF.add (i := 1) (d := 64) rfl (QF.mk [] [] rfl rfl kr_ rfl (QAt.y Wt.none (Yd.move rfl))) ?_
        refine WAF.add (i := 2) (d := 65) rfl (QF.mk [] [] rfl rfl kr_ rfl (QAt.y Wt.none (Yd.move rfl))) ?_
        refine WAF.add (i := 3) (d := 66) rfl (QF.mk [2, 1] [(65, _), (64, _)] rfl rfl kr_ rfl (QAt.y Wt.none (Yd.indexAddr (e := 29) (s := 11) (b := lb) (o := lf) (n := n) (c := lc) kr_ kr_ (congrArg (fun q => some (Value.slice q n lc)) elo) rfl (by omega) (by omega)))) ?_
        refine WAF.add (i := 4) (d := 67) rfl (QF.mk [3] [(66, _)] rfl rfl kr_ rfl (QAt.rd Wt.none (Rd.loadA (n := 11) (b := lb) (o := lf + ((j : Nat) : Int).toNat * 11) (cs := lcs) (vs := ntc (noteO cs (j)) (.slice none 0 0) (.slice no1 (noteO cs (j)).data.length nc1)) kr_ rfl (Gr.get gr_ hlm) rfl (rs_cell hlcs (by omega) hng1)))) ?_
        refine WAF.step (pd := [(4, 67), (3, 66), (2, 65), (1, 64), (0, 63)]) [(5, [4, 0]), (9, [])] rfl kr_ kr_ (all_c rfl (all_c rfl (all_c rfl (all_c rfl (all_c rfl (all_n)))))) (all_c (QF.mk [3] [(66, _)] rfl rfl kr_ rfl (QAt.rd Wt.none (Rd.loadA (n := 11) (b := lb) (o := lf + ((j : Nat) : Int).toNat * 11) (cs := lcs) (vs := ntc (noteO cs (j)) (.slice none 0 0) (.slice no1 (noteO cs (j)).data.length nc1)) kr_ rfl (Gr.get gr_ hlm) rfl (rs_cell hlcs (by omega) hng1)))) (all_c (QF.mk [2, 1] [(65, _), (64, _)] rfl rfl kr_ rfl (QAt.y Wt.none (Yd.indexAddr (e := 29) (s := 11) (b := lb) (o := lf) (n := n) (c := lc) kr_ kr_ (congrArg (fun q => some (Value.slice q n lc)) elo) rfl (by omega) (by omega)))) (all_c (QF.mk [] [] rfl rfl kr_ rfl (QAt.y Wt.none (Yd.move rfl))) (all_c (QF.mk [] [] rfl rfl kr_ rfl (QAt.y Wt.none (Yd.move rfl))) (all_c (QF.mk [] [] rfl rfl kr_ rfl (QAt.rd Wt.none (Rd.loadAll (n := 2) kr_ rfl mem_ (by rfl)))) (all_n)))))) (all_c ?_ (all_c ?_ (all_n)))
        · change SO _ _ _ _ _ _ 5 ([(67, _), (63, _)] ++ _) _ _
          refine SO.c rfl Wt.none rfl (Ent.func Try.call15 rfl) (keep_tells (eN j) (.slice fo ksF.length fc) ksF (DF ++ DD) (hF.kv.mono gr_) (by omega) (noteO cs (j)) (.slice none 0 0) _ (Bs_nil _) (hnd1.mono gr_) 2 (.slice none 0 0) [] (Bs_nil _)) (Sp.p sp_) ?_
          rintro x1 H1 ⟨w1, D1, rfl, hF1, rfl⟩
          obtain ⟨hke1, hin1⟩ := iF.keep (fun j h => (by show j < 100; omega)) (fun a b _ _ h => h) hlt2 (by omega)
          rw [show id j = j from rfl] at hke1 hin1
          rw [hke1] at hF1 ⊢
          obtain ⟨wo1, wc1, rfl⟩ := hF1.form
          have hil1 := hin1.len
          change WAF _ _ _ _ _ _ [(3, 66, _), (2, 65, _), (1, 64, _)] _ [5, 4, 0] ((68, _) :: ([(67, _), (63, _)] ++ _)) _
          refine WAF.add (i := 6) (d := 62) rfl (QF.mk [] [] rfl rfl kr_ rfl (QAt.y Wt.none (Yd.move rfl))) ?_
          refine WAF.add (i := 7) (d := 69) rfl (QF.mk [6] [(62, _)] rfl rfl kr_ rfl (QAt.y Wt.none (Yd.extract rfl rfl))) ?_
          refine WAF.add (i := 8) (d := 70) rfl (QF.mk [6] [(62, _)] rfl rfl kr_ rfl (QAt.y Wt.none (Yd.extract rfl rfl))) ?_
          refine WAF.step (pd := [(8, 70), (7, 69), (6, 62), (3, 66), (2, 65), (1, 64)]) [(9, [])] rfl kr_ kr_ (all_c rfl (all_c rfl (all_c rfl (all_c rfl (all_c rfl (all_c rfl (all_n))))))) (all_c (QF.mk [6] [(62, _)] rfl rfl kr_ rfl (QAt.y Wt.none (Yd.extract rfl rfl))) (all_c (QF.mk [6] [(62, _)] rfl rfl kr_ rfl (QAt.y Wt.none (Yd.extract rfl rfl))) (all_c (QF.mk [] [] rfl rfl kr_ rfl (QAt.y Wt.none (Yd.move rfl))) (all_c (QF.mk [2, 1] [(65, _), (64, _)] rfl rfl kr_ rfl (QAt.y Wt.none (Yd.indexAddr (e := 29) (s := 11) (b := lb) (o := lf) (n := n) (c := lc) kr_ kr_ (congrArg (fun q => some (Value.slice q n lc)) elo) rfl (by omega) (by omega)))) (all_c (QF.mk [] [] rfl rfl kr_ rfl (QAt.y Wt.none (Yd.move rfl))) (all_c (QF.mk [] [] rfl rfl kr_ rfl (QAt.y Wt.none (Yd.move rfl))) (all_n))))))) (all_c ?_ (all_n))
          · change SO _ _ _ _ _ _ 9 ([] ++ _) _ _
            refine SO.h rfl Wt.none rfl (Hd.alloc (zs := [.int .u32 0, .slice none 0 0]) kr_ fun b12 => ⟨_, rfl, ?_⟩)
            change WAF _ _ _ _ _ _ [(8, 70, _), (7, 69, _), (6, 62, _), (3, 66, _), (2, 65, _), (1, 64, _)] _ [9, 5, 4, 0] ((12, _) :: ([] ++ _)) _
            refine WAF.step (pd := [(8, 70), (7, 69), (6, 62), (3, 66), (2, 65), (1, 64)]) [(10, [7, 6, 3, 2, 1])] rfl kr_ kr_ (all_c rfl (all_c rfl (all_c rfl (all_c rfl (all_c rfl (all_c rfl (all_n))))))) (all_c (QF.mk [6] [(62, _)] rfl rfl kr_ rfl (QAt.y Wt.none (Yd.extract rfl rfl))) (all_c (QF.mk [6] [(62, _)] rfl rfl kr_ rfl (QAt.y Wt.none (Yd.extract rfl rfl))) (all_c (QF.mk [] [] rfl rfl kr_ rfl (QAt.y Wt.none (Yd.move rfl))) (all_c (QF.mk [2, 1] [(65, _), (64, _)] rfl rfl kr_ rfl (QAt.y Wt.none (Yd.indexAddr (e := 29) (s := 11) (b := lb) (o := lf) (n := n) (c := lc) kr_ kr_ (congrArg (fun q => some (Value.slice q n lc)) elo) rfl (by omega) (by omega)))) (all_c (QF.mk [] [] rfl rfl kr_ rfl (QAt.y Wt.none (Yd.move rfl))) (all_c (QF.mk [] [] rfl rfl kr_ rfl (QAt.y Wt.none (Yd.move rfl))) (all_n))))))) (all_c ?_ (all_n))
            · change SO _ _ _ _ _ _ 10 ([(69, _), (62, _), (66, _), (65, _), (64, _)] ++ _) _ _
              refine SO.s rfl Wt.none (Hd.storeAll (n := 2) kr_ rfl rfl (by rfl) one_ fr_ (by rfl) ⟨rfl, ?_⟩)
              change WAF _ _ _ _ _ _ [(8, 70, _)] _ [10, 7, 6, 3, 2, 1, 9, 5, 4, 0] (([(69, _), (62, _), (66, _), (65, _), (64, _)] ++ _)) _
              refine WAF.add (i := 11) (d := 13) rfl (QF.mk [8] [(70, _)] rfl rfl kr_ rfl (QAt.y Wt.none (Yd.assign rfl))) ?_
              refine WAF.done (pd := [(11, 13), (8, 70)]) rfl kr_ kr_ (all_c rfl (all_c rfl (all_n))) (all_c (QF.mk [8] [(70, _)] rfl rfl kr_ rfl (QAt.y Wt.none (Yd.assign rfl))) (all_c (QF.mk [] [] rfl rfl kr_ rfl (QAt.y Wt.none (Yd.extract rfl rfl))) (all_n))) ?_
              change DN _ _ _ _ _ _ ([(13, _), (70, _)] ++ _) _
              refine DN.then_normal ?_
              refine WC.seq ?_
              refine WC.draw 16 kr_ rfl ?_
              refine WA.float (N := 16) rfl ?_
              refine WAF.add (i := 0) (d := 72) rfl (QF.mk [] [] rfl rfl kr_ rfl (QAt.rd Wt.none (Rd.loadAll (n := 2) kr_ rfl mem_ (by rfl)))) ?_
              refine WAF.add (i := 1) (d := 73) rfl (QF.mk [] [] rfl rfl kr_ rfl (QAt.y Wt.none (Yd.move rfl))) ?_
              refine WAF.add (i := 2) (d := 74) rfl (QF.mk [] [] rfl rfl kr_ rfl (QAt.y Wt.none (Yd.move rfl))) ?_
              refine WAF.add (i := 3) (d := 75) rfl (QF.mk [] [] rfl rfl kr_ rfl (QAt.y Wt.none (Yd.move rfl))) ?_
              refine WAF.add (i := 4) (d := 76) rfl (QF.mk [3, 2] [(75, _), (74, _)] rfl rfl kr_ rfl (QAt.y Wt.none (Yd.add rfl rfl (by omega) (by omega)))) ?_
              refine WAF.add (i := 5) (d := 77) rfl (QF.mk [] [] rfl rfl kr_ rfl (QAt.y Wt.none (Yd.move rfl))) ?_
              refine WAF.add (i := 6) (d := 78) rfl (QF.mk [5, 4] [(77, _), (76, _)] rfl rfl kr_ rfl (QAt.y Wt.none (Yd.rem rfl rfl (by omega) (by omega)))) ?_
              refine WAF.ren (v := .int .i64 ((rot n k j : Nat) : Int)) (congrArg (Value.int .i64) (rot_int n k j)) ?_
              refine WAF.add (i := 7) (d := 79) rfl (QF.mk [6, 1] [(78, _), (73, _)] rfl rfl kr_ rfl (QAt.y Wt.none (Yd.indexAddr (e := 29) (s := 11) (b := lb) (o := lf) (n := n) (c := lc) kr_ kr_ (congrArg (fun q => some (Value.slice q n lc)) elo) rfl (by omega) (by omega)))) ?_
              refine WAF.add (i := 8) (d := 80) rfl (QF.mk [7] [(79, _)] rfl rfl kr_ rfl (QAt.rd Wt.none (Rd.loadA (n := 11) (b := lb) (o := lf + ((rot n k j : Nat) : Int).toNat * 11) (cs := lcs) (vs := ntc (noteO cs (rot n k j)) (.slice none 0 0) (.slice no2 (noteO cs (rot n k j)).data.length nc2)) kr_ rfl (Gr.get gr_ hlm) rfl (rs_cell hlcs (by omega) hng2)))) ?_
              refine WAF.step (pd := [(8, 80), (7, 79), (6, 78), (5, 77), (4, 76), (3, 75), (2, 74), (1, 73), (0, 72)]) [(9, [8, 0]), (13, [])] rfl kr_ kr_ (all_c rfl (all_c rfl (all_c rfl (all_c rfl (all_c rfl (all_c rfl (all_c rfl (all_c rfl (all_c rfl (all_n)))))))))) (all_c (QF.mk [7] [(79, _)] rfl rfl kr_ rfl (QAt.rd Wt.none (Rd.loadA (n := 11) (b := lb) (o := lf + ((rot n k j : Nat) : Int).toNat * 11) (cs := lcs) (vs := ntc (noteO cs (rot n k j)) (.slice none 0 0) (.slice no2 (noteO cs (rot n k j)).data.length nc2)) kr_ rfl (Gr.get gr_ hlm) rfl (rs_cell hlcs (by omega) hng2)))) (all_c (QF.mk [6, 1] [(78, _), (73, _)] rfl rfl kr_ rfl (QAt.y Wt.none (Yd.indexAddr (e := 29) (s := 11) (b := lb) (o := lf) (n := n) (c := lc) kr_ kr_ (congrArg (fun q => some (Value.slice q n lc)) elo) rfl (by omega) (by omega)))) (all_c (QF.ren (congrArg (Value.int .i64) (rot_int n k j)) (QF.mk [5, 4] [(77, _), (76, _)] rfl rfl kr_ rfl (QAt.y Wt.none (Yd.rem rfl rfl (by omega) (by omega))))) (all_c (QF.mk [] [] rfl rfl kr_ rfl (QAt.y Wt.none (Yd.move rfl))) (all_c (QF.mk [3, 2] [(75, _), (74, _)] rfl rfl kr_ rfl (QAt.y Wt.none (Yd.add rfl rfl (by omega) (by omega)))) (all_c (QF.mk [] [] rfl rfl kr_ rfl (QAt.y Wt.none (Yd.move rfl))) (all_c (QF.mk [] [] rfl rfl kr_ rfl (QAt.y Wt.none (Yd.move rfl))) (all_c (QF.mk [] [] rfl rfl kr_ rfl (QAt.y Wt.none (Yd.move rfl))) (all_c (QF.mk [] [] rfl rfl kr_ rfl (QAt.rd Wt.none (Rd.loadAll (n := 2) kr_ rfl mem_ (by rfl)))) (all_n)))))))))) (all_c ?_ (all_c ?_ (all_n)))
              · change SO _ _ _ _ _ _ 9 ([(80, _), (72, _)] ++ _) _ _
                refine SO.c rfl Wt.none rfl (Ent.func Try.call15 rfl) (keep_tells (eN j) (.slice go ksG.length gc) ksG (DG ++ DD) (hG.kv.mono gr_) (by omega) (noteO cs (rot n k j)) (.slice none 0 0) _ (Bs_nil _) (hnd2.mono gr_) 2 (.slice none 0 0) [] (Bs_nil _)) (Sp.p sp_) ?_
                rintro x2 H2 ⟨w2, D2, rfl, hF2, rfl⟩
                obtain ⟨hke2, hin2⟩ := iG.keep (fun j h => by have := rot_lt (n := n) (k := k) (j := j) (by omega); omega) (fun a b ha hb h => rot_inj (hk.resolve_right (by omega)) ha hb h) hlt2 (by omega)
                rw [hke2] at hF2 ⊢
                obtain ⟨wo2, wc2, rfl⟩ := hF2.form
                have hil2 := hin2.len
                change WAF _ _ _ _ _ _ [(7, 79, _), (6, 78, _), (5, 77, _), (4, 76, _), (3, 75, _), (2, 74, _), (1, 73, _)] _ [9, 8, 0] ((81, _) :: ([(80, _), (72, _)] ++ _)) _
                refine WAF.add (i := 10) (d := 71) rfl (QF.mk [] [] rfl rfl kr_ rfl (QAt.y Wt.none (Yd.move rfl))) ?_
                refine WAF.add (i := 11) (d := 82) rfl (QF.mk [10] [(71, _)] rfl rfl kr_ rfl (QAt.y Wt.none (Yd.extract rfl rfl))) ?_
                refine WAF.add (i := 12) (d := 83) rfl (QF.mk [10] [(71, _)] rfl rfl kr_ rfl (QAt.y Wt.none (Yd.extract rfl rfl))) ?_
                refine WAF.step (pd := [(12, 83), (11, 82), (10, 71), (7, 79), (6, 78), (5, 77), (4, 76), (3, 75), (2, 74), (1, 73)]) [(13, [])] rfl kr_ kr_ (all_c rfl (all_c rfl (all_c rfl (all_c rfl (all_c rfl (all_c rfl (all_c rfl (all_c rfl (all_c rfl (all_c rfl (all_n))))))))))) (all_c (QF.mk [10] [(71, _)] rfl rfl kr_ rfl (QAt.y Wt.none (Yd.extract rfl rfl))) (all_c (QF.mk [10] [(71, _)] rfl rfl kr_ rfl (QAt.y Wt.none (Yd.extract rfl rfl))) (all_c (QF.mk [] [] rfl rfl kr_ rfl (QAt.y Wt.none (Yd.move rfl))) (all_c (QF.mk [6, 1] [(78, _), (73, _)] rfl rfl kr_ rfl (QAt.y Wt.none (Yd.indexAddr (e := 29) (s := 11) (b := lb) (o := lf) (n := n) (c := lc) kr_ kr_ (congrArg (fun q => some (Value.slice q n lc)) elo) rfl (by omega) (by omega)))) (all_c (QF.ren (congrArg (Value.int .i64) (rot_int n k j)) (QF.mk [5, 4] [(77, _), (76, _)] rfl rfl kr_ rfl (QAt.y Wt.none (Yd.rem rfl rfl (by omega) (by omega))))) (all_c (QF.mk [] [] rfl rfl kr_ rfl (QAt.y Wt.none (Yd.move rfl))) (all_c (QF.mk [3, 2] [(75, _), (74, _)] rfl rfl kr_ rfl (QAt.y Wt.none (Yd.add rfl rfl (by omega) (by omega)))) (all_c (QF.mk [] [] rfl rfl kr_ rfl (QAt.y Wt.none (Yd.move rfl))) (all_c (QF.mk [] [] rfl rfl kr_ rfl (QAt.y Wt.none (Yd.move rfl))) (all_c (QF.mk [] [] rfl rfl kr_ rfl (QAt.y Wt.none (Yd.move rfl))) (all_n))))))))))) (all_c ?_ (all_n))
                · change SO _ _ _ _ _ _ 13 ([] ++ _) _ _
                  refine SO.h rfl Wt.none rfl (Hd.alloc (zs := [.int .u32 0, .slice none 0 0]) kr_ fun b14 => ⟨_, rfl, ?_⟩)
                  change WAF _ _ _ _ _ _ [(12, 83, _), (11, 82, _), (10, 71, _), (7, 79, _), (6, 78, _), (5, 77, _), (4, 76, _), (3, 75, _), (2, 74, _), (1, 73, _)] _ [13, 9, 8, 0] ((14, _) :: ([] ++ _)) _
                  refine WAF.step (pd := [(12, 83), (11, 82), (10, 71), (7, 79), (6, 78), (5, 77), (4, 76), (3, 75), (2, 74), (1, 73)]) [(14, [11, 10, 7, 6, 5, 4, 3, 2, 1])] rfl kr_ kr_ (all_c rfl (all_c rfl (all_c rfl (all_c rfl (all_c rfl (all_c rfl (all_c rfl (all_c rfl (all_c rfl (all_c rfl (all_n))))))))))) (all_c (QF.mk [10] [(71, _)] rfl rfl kr_ rfl (QAt.y Wt.none (Yd.extract rfl rfl))) (all_c (QF.mk [10] [(71, _)] rfl rfl kr_ rfl (QAt.y Wt.none (Yd.extract rfl rfl))) (all_c (QF.mk [] [] rfl rfl kr_ rfl (QAt.y Wt.none (Yd.move rfl))) (all_c (QF.mk [6, 1] [(78, _), (73, _)] rfl rfl kr_ rfl (QAt.y Wt.none (Yd.indexAddr (e := 29) (s := 11) (b := lb) (o := lf) (n := n) (c := lc) kr_ kr_ (congrArg (fun q => some (Value.slice q n lc)) elo) rfl (by omega) (by omega)))) (all_c (QF.ren (congrArg (Value.int .i64) (rot_int n k j)) (QF.mk [5, 4] [(77, _), (76, _)] rfl rfl kr_ rfl (QAt.y Wt.none (Yd.rem rfl rfl (by omega) (by omega))))) (all_c (QF.mk [] [] rfl rfl kr_ rfl (QAt.y Wt.none (Yd.move rfl))) (all_c (QF.mk [3, 2] [(75, _), (74, _)] rfl rfl kr_ rfl (QAt.y Wt.none (Yd.add rfl rfl (by omega) (by omega)))) (all_c (QF.mk [] [] rfl rfl kr_ rfl (QAt.y Wt.none (Yd.move rfl))) (all_c (QF.mk [] [] rfl rfl kr_ rfl (QAt.y Wt.none (Yd.move rfl))) (all_c (QF.mk [] [] rfl rfl kr_ rfl (QAt.y Wt.none (Yd.move rfl))) (all_n))))))))))) (all_c ?_ (all_n))
                  · change SO _ _ _ _ _ _ 14 ([(82, _), (71, _), (79, _), (78, _), (77, _), (76, _), (75, _), (74, _), (73, _)] ++ _) _ _
                    refine SO.s rfl Wt.none (Hd.storeAll (n := 2) kr_ rfl rfl (by rfl) one_ fr_ (by rfl) ⟨rfl, ?_⟩)
                    change WAF _ _ _ _ _ _ [(12, 83, _)] _ [14, 11, 10, 7, 6, 5, 4, 3, 2, 1, 13, 9, 8, 0] (([(82, _), (71, _), (79, _), (78, _), (77, _), (76, _), (75, _), (74, _), (73, _)] ++ _)) _
                    refine WAF.add (i := 15) (d := 15) rfl (QF.mk [12] [(83, _)] rfl rfl kr_ rfl (QAt.y Wt.none (Yd.assign rfl))) ?_
                    refine WAF.done (pd := [(15, 15), (12, 83)]) rfl kr_ kr_ (all_c rfl (all_c rfl (all_n))) (all_c (QF.mk [12] [(83, _)] rfl rfl kr_ rfl (QAt.y Wt.none (Yd.assign rfl))) (all_c (QF.mk [] [] rfl rfl kr_ rfl (QAt.y Wt.none (Yd.extract rfl rfl))) (all_n))) ?_
                    change DN _ _ _ _ _ _ ([(15, _), (83, _)] ++ _) _
                    refine DN.then_normal ?_
                    refine WC.seq ?_
                    refine WC.seq ?_
                    refine WC.region ?_
                    refine WL.y rfl (Yd.move rfl) ?_
                    refine WL.y rfl (Yd.neq rfl rfl) ?_
                    refine WL.renamed (t := 85) (v := .bool false) rfl (congrArg Value.bool (decide_eq_false (fun h => h rfl))) ?_
                    refine WL.y rfl (Yd.move rfl) ?_
                    refine WL.gy (dj := 86) rfl rfl rfl (Yd.move rfl) ?_
                    refine WL.gy (dj := 86) rfl rfl rfl (Yd.neq rfl rfl) ?_
                    refine WL.renamed (t := 88) (v := .bool false) rfl (congrArg Value.bool (decide_eq_false (fun h => h rfl))) ?_
                    refine WL.y rfl (Yd.pickF rfl rfl) ?_
                    refine WL.nil ?_
                    refine DN.then_normal ?_
                    refine WC.no rfl ?_
                    refine WC.skip ?_
                    refine DN.then_normal ?_
                    refine WC.seq ?_
                    refine WC.region ?_
                    refine WL.h rfl (Hd.loadAll (n := 2) kr_ rfl mem_ (by rfl) ⟨_, rfl, ?_⟩)
                    refine WL.s (Hd.storeAll (n := 2) kr_ rfl rfl (by rfl) one_ fr_ (by rfl) ⟨rfl, ?_⟩)
                    refine WL.nil ?_
                    refine DN.then_normal ?_
                    refine WC.region ?_
                    refine WL.h rfl (Hd.loadAll (n := 2) kr_ rfl mem_ (by rfl) ⟨_, rfl, ?_⟩)
                    refine WL.s (Hd.storeAll (n := 2) kr_ rfl rfl (by rfl) one_ fr_ (by rfl) ⟨rfl, ?_⟩)
                    refine WL.nil ?_
                    refine DN.block_normal ?_
                    refine DN.then_normal ?_
                    refine WC.region ?_
                    refine WL.y rfl (Yd.move rfl) ?_
                    refine WL.y rfl (Yd.add rfl rfl (by omega) (by omega)) ?_
                    refine WL.y rfl (Yd.assign rfl) ?_
                    refine WL.nil ?_
                    rw [one_fst j]
                    exact DN.againS (j + 1, _, _, _, _, D1, D2) ⟨by show j + 1 ≤ n; omega, hin1, hin2, hF1, hF2⟩ (by show n - (j + 1) < n - j; omega) ((Sx.put rfl (sx_))) sp_
              · change SO _ _ _ _ _ _ 13 ([] ++ _) _ _
                refine SO.h rfl Wt.none rfl (Hd.alloc (zs := [.int .u32 0, .slice none 0 0]) kr_ fun b14 => ⟨_, rfl, ?_⟩)
                change WAF _ _ _ _ _ _ [(8, 80, _), (7, 79, _), (6, 78, _), (5, 77, _), (4, 76, _), (3, 75, _), (2, 74, _), (1, 73, _), (0, 72, _)] _ [13] ((14, _) :: ([] ++ _)) _
                refine WAF.step (pd := [(8, 80), (7, 79), (6, 78), (5, 77), (4, 76), (3, 75), (2, 74), (1, 73), (0, 72)]) [(9, [8, 0])] rfl kr_ kr_ (all_c rfl (all_c rfl (all_c rfl (all_c rfl (all_c rfl (all_c rfl (all_c rfl (all_c rfl (all_c rfl (all_n)))))))))) (all_c (QF.mk [7] [(79, _)] rfl rfl kr_ rfl (QAt.rd Wt.none (Rd.loadA (n := 11) (b := lb) (o := lf + ((rot n k j : Nat) : Int).toNat * 11) (cs := lcs) (vs := ntc (noteO cs (rot n k j)) (.slice none 0 0) (.slice no2 (noteO cs (rot n k j)).data.length nc2)) kr_ rfl (Gr.get gr_ hlm) rfl (rs_cell hlcs (by omega) hng2)))) (all_c (QF.mk [6, 1] [(78, _), (73, _)] rfl rfl kr_ rfl (QAt.y Wt.none (Yd.indexAddr (e := 29) (s := 11) (b := lb) (o := lf) (n := n) (c := lc) kr_ kr_ (congrArg (fun q => some (Value.slice q n lc)) elo) rfl (by omega) (by omega)))) (all_c (QF.ren (congrArg (Value.int .i64) (rot_int n k j)) (QF.mk [5, 4] [(77, _), (76, _)] rfl rfl kr_ rfl (QAt.y Wt.none (Yd.rem rfl rfl (by omega) (by omega))))) (all_c (QF.mk [] [] rfl rfl kr_ rfl (QAt.y Wt.none (Yd.move rfl))) (all_c (QF.mk [3, 2] [(75, _), (74, _)] rfl rfl kr_ rfl (QAt.y Wt.none (Yd.add rfl rfl (by omega) (by omega)))) (all_c (QF.mk [] [] rfl rfl kr_ rfl (QAt.y Wt.none (Yd.move rfl))) (all_c (QF.mk [] [] rfl rfl kr_ rfl (QAt.y Wt.none (Yd.move rfl))) (all_c (QF.mk [] [] rfl rfl kr_ rfl (QAt.y Wt.none (Yd.move rfl))) (all_c (QF.mk [] [] rfl rfl kr_ rfl (QAt.rd Wt.none (Rd.loadAll (n := 2) kr_ rfl mem_ (by rfl)))) (all_n)))))))))) (all_c ?_ (all_n))
                · change SO _ _ _ _ _ _ 9 ([(80, _), (72, _)] ++ _) _ _
                  refine SO.c rfl Wt.none rfl (Ent.func Try.call15 rfl) (keep_tells (eN j) (.slice go ksG.length gc) ksG (DG ++ DD) (hG.kv.mono gr_) (by omega) (noteO cs (rot n k j)) (.slice none 0 0) _ (Bs_nil _) (hnd2.mono gr_) 2 (.slice none 0 0) [] (Bs_nil _)) (Sp.p sp_) ?_
                  rintro x2 H2 ⟨w2, D2, rfl, hF2, rfl⟩
                  obtain ⟨hke2, hin2⟩ := iG.keep (fun j h => by have := rot_lt (n := n) (k := k) (j := j) (by omega); omega) (fun a b ha hb h => rot_inj (hk.resolve_right (by omega)) ha hb h) hlt2 (by omega)
                  rw [hke2] at hF2 ⊢
                  obtain ⟨wo2, wc2, rfl⟩ := hF2.form
                  have hil2 := hin2.len
                  change WAF _ _ _ _ _ _ [(7, 79, _), (6, 78, _), (5, 77, _), (4, 76, _), (3, 75, _), (2, 74, _), (1, 73, _)] _ [9, 8, 0, 13] ((81, _) :: ([(80, _), (72, _)] ++ _)) _
                  refine WAF.add (i := 10) (d := 71) rfl (QF.mk [] [] rfl rfl kr_ rfl (QAt.y Wt.none (Yd.move rfl))) ?_
                  refine WAF.add (i := 11) (d := 82) rfl (QF.mk [10] [(71, _)] rfl rfl kr_ rfl (QAt.y Wt.none (Yd.extract rfl rfl))) ?_
                  refine WAF.add (i := 12) (d := 83) rfl (QF.mk [10] [(71, _)] rfl rfl kr_ rfl (QAt.y Wt.none (Yd.extract rfl rfl))) ?_
                  refine WAF.step (pd := [(12, 83), (11, 82), (10, 71), (7, 79), (6, 78), (5, 77), (4, 76), (3, 75), (2, 74), (1, 73)]) [(14, [11, 10, 7, 6, 5, 4, 3, 2, 1])] rfl kr_ kr_ (all_c rfl (all_c rfl (all_c rfl (all_c rfl (all_c rfl (all_c rfl (all_c rfl (all_c rfl (all_c rfl (all_c rfl (all_n))))))))))) (all_c (QF.mk [10] [(71, _)] rfl rfl kr_ rfl (QAt.y Wt.none (Yd.extract rfl rfl))) (all_c (QF.mk [10] [(71, _)] rfl rfl kr_ rfl (QAt.y Wt.none (Yd.extract rfl rfl))) (all_c (QF.mk [] [] rfl rfl kr_ rfl (QAt.y Wt.none (Yd.move rfl))) (all_c (QF.mk [6, 1] [(78, _), (73, _)] rfl rfl kr_ rfl (QAt.y Wt.none (Yd.indexAddr (e := 29) (s := 11) (b := lb) (o := lf) (n := n) (c := lc) kr_ kr_ (congrArg (fun q => some (Value.slice q n lc)) elo) rfl (by omega) (by omega)))) (all_c (QF.ren (congrArg (Value.int .i64) (rot_int n k j)) (QF.mk [5, 4] [(77, _), (76, _)] rfl rfl kr_ rfl (QAt.y Wt.none (Yd.rem rfl rfl (by omega) (by omega))))) (all_c (QF.mk [] [] rfl rfl kr_ rfl (QAt.y Wt.none (Yd.move rfl))) (all_c (QF.mk [3, 2] [(75, _), (74, _)] rfl rfl kr_ rfl (QAt.y Wt.none (Yd.add rfl rfl (by omega) (by omega)))) (all_c (QF.mk [] [] rfl rfl kr_ rfl (QAt.y Wt.none (Yd.move rfl))) (all_c (QF.mk [] [] rfl rfl kr_ rfl (QAt.y Wt.none (Yd.move rfl))) (all_c (QF.mk [] [] rfl rfl kr_ rfl (QAt.y Wt.none (Yd.move rfl))) (all_n))))))))))) (all_c ?_ (all_n))
                  · change SO _ _ _ _ _ _ 14 ([(82, _), (71, _), (79, _), (78, _), (77, _), (76, _), (75, _), (74, _), (73, _)] ++ _) _ _
                    refine SO.s rfl Wt.none (Hd.storeAll (n := 2) kr_ rfl rfl (by rfl) one_ fr_ (by rfl) ⟨rfl, ?_⟩)
                    change WAF _ _ _ _ _ _ [(12, 83, _)] _ [14, 11, 10, 7, 6, 5, 4, 3, 2, 1, 9, 8, 0, 13] (([(82, _), (71, _), (79, _), (78, _), (77, _), (76, _), (75, _), (74, _), (73, _)] ++ _)) _
                    refine WAF.add (i := 15) (d := 15) rfl (QF.mk [12] [(83, _)] rfl rfl kr_ rfl (QAt.y Wt.none (Yd.assign rfl))) ?_
                    refine WAF.done (pd := [(15, 15), (12, 83)]) rfl kr_ kr_ (all_c rfl (all_c rfl (all_n))) (all_c (QF.mk [12] [(83, _)] rfl rfl kr_ rfl (QAt.y Wt.none (Yd.assign rfl))) (all_c (QF.mk [] [] rfl rfl kr_ rfl (QAt.y Wt.none (Yd.extract rfl rfl))) (all_n))) ?_
                    change DN _ _ _ _ _ _ ([(15, _), (83, _)] ++ _) _
                    refine DN.then_normal ?_
                    refine WC.seq ?_
                    refine WC.seq ?_
                    refine WC.region ?_
                    refine WL.y rfl (Yd.move rfl) ?_
                    refine WL.y rfl (Yd.neq rfl rfl) ?_
                    refine WL.renamed (t := 85) (v := .bool false) rfl (congrArg Value.bool (decide_eq_false (fun h => h rfl))) ?_
                    refine WL.y rfl (Yd.move rfl) ?_
                    refine WL.gy (dj := 86) rfl rfl rfl (Yd.move rfl) ?_
                    refine WL.gy (dj := 86) rfl rfl rfl (Yd.neq rfl rfl) ?_
                    refine WL.renamed (t := 88) (v := .bool false) rfl (congrArg Value.bool (decide_eq_false (fun h => h rfl))) ?_
                    refine WL.y rfl (Yd.pickF rfl rfl) ?_
                    refine WL.nil ?_
                    refine DN.then_normal ?_
                    refine WC.no rfl ?_
                    refine WC.skip ?_
                    refine DN.then_normal ?_
                    refine WC.seq ?_
                    refine WC.region ?_
                    refine WL.h rfl (Hd.loadAll (n := 2) kr_ rfl mem_ (by rfl) ⟨_, rfl, ?_⟩)
                    refine WL.s (Hd.storeAll (n := 2) kr_ rfl rfl (by rfl) one_ fr_ (by rfl) ⟨rfl, ?_⟩)
                    refine WL.nil ?_
                    refine DN.then_normal ?_
                    refine WC.region ?_
                    refine WL.h rfl (Hd.loadAll (n := 2) kr_ rfl mem_ (by rfl) ⟨_, rfl, ?_⟩)
                    refine WL.s (Hd.storeAll (n := 2) kr_ rfl rfl (by rfl) one_ fr_ (by rfl) ⟨rfl, ?_⟩)
                    refine WL.nil ?_
                    refine DN.block_normal ?_
                    refine DN.then_normal ?_
                    refine WC.region ?_
                    refine WL.y rfl (Yd.move rfl) ?_
                    refine WL.y rfl (Yd.add rfl rfl (by omega) (by omega)) ?_
                    refine WL.y rfl (Yd.assign rfl) ?_
                    refine WL.nil ?_
                    rw [one_fst j]
                    exact DN.againS (j + 1, _, _, _, _, D1, D2) ⟨by show j + 1 ≤ n; omega, hin1, hin2, hF1, hF2⟩ (by show n - (j + 1) < n - j; omega) ((Sx.put rfl (sx_))) sp_
        · change SO _ _ _ _ _ _ 9 ([] ++ _) _ _
          refine SO.h rfl Wt.none rfl (Hd.alloc (zs := [.int .u32 0, .slice none 0 0]) kr_ fun b12 => ⟨_, rfl, ?_⟩)
          change WAF _ _ _ _ _ _ [(4, 67, _), (3, 66, _), (2, 65, _), (1, 64, _), (0, 63, _)] _ [9] ((12, _) :: ([] ++ _)) _
          refine WAF.step (pd := [(4, 67), (3, 66), (2, 65), (1, 64), (0, 63)]) [(5, [4, 0])] rfl kr_ kr_ (all_c rfl (all_c rfl (all_c rfl (all_c rfl (all_c rfl (all_n)))))) (all_c (QF.mk [3] [(66, _)] rfl rfl kr_ rfl (QAt.rd Wt.none (Rd.loadA (n := 11) (b := lb) (o := lf + ((j : Nat) : Int).toNat * 11) (cs := lcs) (vs := ntc (noteO cs (j)) (.slice none 0 0) (.slice no1 (noteO cs (j)).data.length nc1)) kr_ rfl (Gr.get gr_ hlm) rfl (rs_cell hlcs (by omega) hng1)))) (all_c (QF.mk [2, 1] [(65, _), (64, _)] rfl rfl kr_ rfl (QAt.y Wt.none (Yd.indexAddr (e := 29) (s := 11) (b := lb) (o := lf) (n := n) (c := lc) kr_ kr_ (congrArg (fun q => some (Value.slice q n lc)) elo) rfl (by omega) (by omega)))) (all_c (QF.mk [] [] rfl rfl kr_ rfl (QAt.y Wt.none (Yd.move rfl))) (all_c (QF.mk [] [] rfl rfl kr_ rfl (QAt.y Wt.none (Yd.move rfl))) (all_c (QF.mk [] [] rfl rfl kr_ rfl (QAt.rd Wt.none (Rd.loadAll (n := 2) kr_ rfl mem_ (by rfl)))) (all_n)))))) (all_c ?_ (all_n))
          · change SO _ _ _ _ _ _ 5 ([(67, _), (63, _)] ++ _) _ _
            refine SO.c rfl Wt.none rfl (Ent.func Try.call15 rfl) (keep_tells (eN j) (.slice fo ksF.length fc) ksF (DF ++ DD) (hF.kv.mono gr_) (by omega) (noteO cs (j)) (.slice none 0 0) _ (Bs_nil _) (hnd1.mono gr_) 2 (.slice none 0 0) [] (Bs_nil _)) (Sp.p sp_) ?_
            rintro x1 H1 ⟨w1, D1, rfl, hF1, rfl⟩
            obtain ⟨hke1, hin1⟩ := iF.keep (fun j h => (by show j < 100; omega)) (fun a b _ _ h => h) hlt2 (by omega)
            rw [show id j = j from rfl] at hke1 hin1
            rw [hke1] at hF1 ⊢
            obtain ⟨wo1, wc1, rfl⟩ := hF1.form
            have hil1 := hin1.len
            change WAF _ _ _ _ _ _ [(3, 66, _), (2, 65, _), (1, 64, _)] _ [5, 4, 0, 9] ((68, _) :: ([(67, _), (63, _)] ++ _)) _
            refine WAF.add (i := 6) (d := 62) rfl (QF.mk [] [] rfl rfl kr_ rfl (QAt.y Wt.none (Yd.move rfl))) ?_
            refine WAF.add (i := 7) (d := 69) rfl (QF.mk [6] [(62, _)] rfl rfl kr_ rfl (QAt.y Wt.none (Yd.extract rfl rfl))) ?_
            refine WAF.add (i := 8) (d := 70) rfl (QF.mk [6] [(62, _)] rfl rfl kr_ rfl (QAt.y Wt.none (Yd.extract rfl rfl))) ?_
            refine WAF.step (pd := [(8, 70), (7, 69), (6, 62), (3, 66), (2, 65), (1, 64)]) [(10, [7, 6, 3, 2, 1])] rfl kr_ kr_ (all_c rfl (all_c rfl (all_c rfl (all_c rfl (all_c rfl (all_c rfl (all_n))))))) (all_c (QF.mk [6] [(62, _)] rfl rfl kr_ rfl (QAt.y Wt.none (Yd.extract rfl rfl))) (all_c (QF.mk [6] [(62, _)] rfl rfl kr_ rfl (QAt.y Wt.none (Yd.extract rfl rfl))) (all_c (QF.mk [] [] rfl rfl kr_ rfl (QAt.y Wt.none (Yd.move rfl))) (all_c (QF.mk [2, 1] [(65, _), (64, _)] rfl rfl kr_ rfl (QAt.y Wt.none (Yd.indexAddr (e := 29) (s := 11) (b := lb) (o := lf) (n := n) (c := lc) kr_ kr_ (congrArg (fun q => some (Value.slice q n lc)) elo) rfl (by omega) (by omega)))) (all_c (QF.mk [] [] rfl rfl kr_ rfl (QAt.y Wt.none (Yd.move rfl))) (all_c (QF.mk [] [] rfl rfl kr_ rfl (QAt.y Wt.none (Yd.move rfl))) (all_n))))))) (all_c ?_ (all_n))
            · change SO _ _ _ _ _ _ 10 ([(69, _), (62, _), (66, _), (65, _), (64, _)] ++ _) _ _
              refine SO.s rfl Wt.none (Hd.storeAll (n := 2) kr_ rfl rfl (by rfl) one_ fr_ (by rfl) ⟨rfl, ?_⟩)
              change WAF _ _ _ _ _ _ [(8, 70, _)] _ [10, 7, 6, 3, 2, 1, 5, 4, 0, 9] (([(69, _), (62, _), (66, _), (65, _), (64, _)] ++ _)) _
              refine WAF.add (i := 11) (d := 13) rfl (QF.mk [8] [(70, _)] rfl rfl kr_ rfl (QAt.y Wt.none (Yd.assign rfl))) ?_
              refine WAF.done (pd := [(11, 13), (8, 70)]) rfl kr_ kr_ (all_c rfl (all_c rfl (all_n))) (all_c (QF.mk [8] [(70, _)] rfl rfl kr_ rfl (QAt.y Wt.none (Yd.assign rfl))) (all_c (QF.mk [] [] rfl rfl kr_ rfl (QAt.y Wt.none (Yd.extract rfl rfl))) (all_n))) ?_
              change DN _ _ _ _ _ _ ([(13, _), (70, _)] ++ _) _
              refine DN.then_normal ?_
              refine WC.seq ?_
              refine WC.draw 16 kr_ rfl ?_
              refine WA.float (N := 16) rfl ?_
              refine WAF.add (i := 0) (d := 72) rfl (QF.mk [] [] rfl rfl kr_ rfl (QAt.rd Wt.none (Rd.loadAll (n := 2) kr_ rfl mem_ (by rfl)))) ?_
              refine WAF.add (i := 1) (d := 73) rfl (QF.mk [] [] rfl rfl kr_ rfl (QAt.y Wt.none (Yd.move rfl))) ?_
              refine WAF.add (i := 2) (d := 74) rfl (QF.mk [] [] rfl rfl kr_ rfl (QAt.y Wt.none (Yd.move rfl))) ?_
              refine WAF.add (i := 3) (d := 75) rfl (QF.mk [] [] rfl rfl kr_ rfl (QAt.y Wt.none (Yd.move rfl))) ?_
              refine WAF.add (i := 4) (d := 76) rfl (QF.mk [3, 2] [(75, _), (74, _)] rfl rfl kr_ rfl (QAt.y Wt.none (Yd.add rfl rfl (by omega) (by omega)))) ?_
              refine WAF.add (i := 5) (d := 77) rfl (QF.mk [] [] rfl rfl kr_ rfl (QAt.y Wt.none (Yd.move rfl))) ?_
              refine WAF.add (i := 6) (d := 78) rfl (QF.mk [5, 4] [(77, _), (76, _)] rfl rfl kr_ rfl (QAt.y Wt.none (Yd.rem rfl rfl (by omega) (by omega)))) ?_
              refine WAF.ren (v := .int .i64 ((rot n k j : Nat) : Int)) (congrArg (Value.int .i64) (rot_int n k j)) ?_
              refine WAF.add (i := 7) (d := 79) rfl (QF.mk [6, 1] [(78, _), (73, _)] rfl rfl kr_ rfl (QAt.y Wt.none (Yd.indexAddr (e := 29) (s := 11) (b := lb) (o := lf) (n := n) (c := lc) kr_ kr_ (congrArg (fun q => some (Value.slice q n lc)) elo) rfl (by omega) (by omega)))) ?_
              refine WAF.add (i := 8) (d := 80) rfl (QF.mk [7] [(79, _)] rfl rfl kr_ rfl (QAt.rd Wt.none (Rd.loadA (n := 11) (b := lb) (o := lf + ((rot n k j : Nat) : Int).toNat * 11) (cs := lcs) (vs := ntc (noteO cs (rot n k j)) (.slice none 0 0) (.slice no2 (noteO cs (rot n k j)).data.length nc2)) kr_ rfl (Gr.get gr_ hlm) rfl (rs_cell hlcs (by omega) hng2)))) ?_
              refine WAF.step (pd := [(8, 80), (7, 79), (6, 78), (5, 77), (4, 76), (3, 75), (2, 74), (1, 73), (0, 72)]) [(9, [8, 0]), (13, [])] rfl kr_ kr_ (all_c rfl (all_c rfl (all_c rfl (all_c rfl (all_c rfl (all_c rfl (all_c rfl (all_c rfl (all_c rfl (all_n)))))))))) (all_c (QF.mk [7] [(79, _)] rfl rfl kr_ rfl (QAt.rd Wt.none (Rd.loadA (n := 11) (b := lb) (o := lf + ((rot n k j : Nat) : Int).toNat * 11) (cs := lcs) (vs := ntc (noteO cs (rot n k j)) (.slice none 0 0) (.slice no2 (noteO cs (rot n k j)).data.length nc2)) kr_ rfl (Gr.get gr_ hlm) rfl (rs_cell hlcs (by omega) hng2)))) (all_c (QF.mk [6, 1] [(78, _), (73, _)] rfl rfl kr_ rfl (QAt.y Wt.none (Yd.indexAddr (e := 29) (s := 11) (b := lb) (o := lf) (n := n) (c := lc) kr_ kr_ (congrArg (fun q => some (Value.slice q n lc)) elo) rfl (by omega) (by omega)))) (all_c (QF.ren (congrArg (Value.int .i64) (rot_int n k j)) (QF.mk [5, 4] [(77, _), (76, _)] rfl rfl kr_ rfl (QAt.y Wt.none (Yd.rem rfl rfl (by omega) (by omega))))) (all_c (QF.mk [] [] rfl rfl kr_ rfl (QAt.y Wt.none (Yd.move rfl))) (all_c (QF.mk [3, 2] [(75, _), (74, _)] rfl rfl kr_ rfl (QAt.y Wt.none (Yd.add rfl rfl (by omega) (by omega)))) (all_c (QF.mk [] [] rfl rfl kr_ rfl (QAt.y Wt.none (Yd.move rfl))) (all_c (QF.mk [] [] rfl rfl kr_ rfl (QAt.y Wt.none (Yd.move rfl))) (all_c (QF.mk [] [] rfl rfl kr_ rfl (QAt.y Wt.none (Yd.move rfl))) (all_c (QF.mk [] [] rfl rfl kr_ rfl (QAt.rd Wt.none (Rd.loadAll (n := 2) kr_ rfl mem_ (by rfl)))) (all_n)))))))))) (all_c ?_ (all_c ?_ (all_n)))
              · change SO _ _ _ _ _ _ 9 ([(80, _), (72, _)] ++ _) _ _
                refine SO.c rfl Wt.none rfl (Ent.func Try.call15 rfl) (keep_tells (eN j) (.slice go ksG.length gc) ksG (DG ++ DD) (hG.kv.mono gr_) (by omega) (noteO cs (rot n k j)) (.slice none 0 0) _ (Bs_nil _) (hnd2.mono gr_) 2 (.slice none 0 0) [] (Bs_nil _)) (Sp.p sp_) ?_
                rintro x2 H2 ⟨w2, D2, rfl, hF2, rfl⟩
                obtain ⟨hke2, hin2⟩ := iG.keep (fun j h => by have := rot_lt (n := n) (k := k) (j := j) (by omega); omega) (fun a b ha hb h => rot_inj (hk.resolve_right (by omega)) ha hb h) hlt2 (by omega)
                rw [hke2] at hF2 ⊢
                obtain ⟨wo2, wc2, rfl⟩ := hF2.form
                have hil2 := hin2.len
                change WAF _ _ _ _ _ _ [(7, 79, _), (6, 78, _), (5, 77, _), (4, 76, _), (3, 75, _), (2, 74, _), (1, 73, _)] _ [9, 8, 0] ((81, _) :: ([(80, _), (72, _)] ++ _)) _
                refine WAF.add (i := 10) (d := 71) rfl (QF.mk [] [] rfl rfl kr_ rfl (QAt.y Wt.none (Yd.move rfl))) ?_
                refine WAF.add (i := 11) (d := 82) rfl (QF.mk [10] [(71, _)] rfl rfl kr_ rfl (QAt.y Wt.none (Yd.extract rfl rfl))) ?_
                refine WAF.add (i := 12) (d := 83) rfl (QF.mk [10] [(71, _)] rfl rfl kr_ rfl (QAt.y Wt.none (Yd.extract rfl rfl))) ?_
                refine WAF.step (pd := [(12, 83), (11, 82), (10, 71), (7, 79), (6, 78), (5, 77), (4, 76), (3, 75), (2, 74), (1, 73)]) [(13, [])] rfl kr_ kr_ (all_c rfl (all_c rfl (all_c rfl (all_c rfl (all_c rfl (all_c rfl (all_c rfl (all_c rfl (all_c rfl (all_c rfl (all_n))))))))))) (all_c (QF.mk [10] [(71, _)] rfl rfl kr_ rfl (QAt.y Wt.none (Yd.extract rfl rfl))) (all_c (QF.mk [10] [(71, _)] rfl rfl kr_ rfl (QAt.y Wt.none (Yd.extract rfl rfl))) (all_c (QF.mk [] [] rfl rfl kr_ rfl (QAt.y Wt.none (Yd.move rfl))) (all_c (QF.mk [6, 1] [(78, _), (73, _)] rfl rfl kr_ rfl (QAt.y Wt.none (Yd.indexAddr (e := 29) (s := 11) (b := lb) (o := lf) (n := n) (c := lc) kr_ kr_ (congrArg (fun q => some (Value.slice q n lc)) elo) rfl (by omega) (by omega)))) (all_c (QF.ren (congrArg (Value.int .i64) (rot_int n k j)) (QF.mk [5, 4] [(77, _), (76, _)] rfl rfl kr_ rfl (QAt.y Wt.none (Yd.rem rfl rfl (by omega) (by omega))))) (all_c (QF.mk [] [] rfl rfl kr_ rfl (QAt.y Wt.none (Yd.move rfl))) (all_c (QF.mk [3, 2] [(75, _), (74, _)] rfl rfl kr_ rfl (QAt.y Wt.none (Yd.add rfl rfl (by omega) (by omega)))) (all_c (QF.mk [] [] rfl rfl kr_ rfl (QAt.y Wt.none (Yd.move rfl))) (all_c (QF.mk [] [] rfl rfl kr_ rfl (QAt.y Wt.none (Yd.move rfl))) (all_c (QF.mk [] [] rfl rfl kr_ rfl (QAt.y Wt.none (Yd.move rfl))) (all_n))))))))))) (all_c ?_ (all_n))
                · change SO _ _ _ _ _ _ 13 ([] ++ _) _ _
                  refine SO.h rfl Wt.none rfl (Hd.alloc (zs := [.int .u32 0, .slice none 0 0]) kr_ fun b14 => ⟨_, rfl, ?_⟩)
                  change WAF _ _ _ _ _ _ [(12, 83, _), (11, 82, _), (10, 71, _), (7, 79, _), (6, 78, _), (5, 77, _), (4, 76, _), (3, 75, _), (2, 74, _), (1, 73, _)] _ [13, 9, 8, 0] ((14, _) :: ([] ++ _)) _
                  refine WAF.step (pd := [(12, 83), (11, 82), (10, 71), (7, 79), (6, 78), (5, 77), (4, 76), (3, 75), (2, 74), (1, 73)]) [(14, [11, 10, 7, 6, 5, 4, 3, 2, 1])] rfl kr_ kr_ (all_c rfl (all_c rfl (all_c rfl (all_c rfl (all_c rfl (all_c rfl (all_c rfl (all_c rfl (all_c rfl (all_c rfl (all_n))))))))))) (all_c (QF.mk [10] [(71, _)] rfl rfl kr_ rfl (QAt.y Wt.none (Yd.extract rfl rfl))) (all_c (QF.mk [10] [(71, _)] rfl rfl kr_ rfl (QAt.y Wt.none (Yd.extract rfl rfl))) (all_c (QF.mk [] [] rfl rfl kr_ rfl (QAt.y Wt.none (Yd.move rfl))) (all_c (QF.mk [6, 1] [(78, _), (73, _)] rfl rfl kr_ rfl (QAt.y Wt.none (Yd.indexAddr (e := 29) (s := 11) (b := lb) (o := lf) (n := n) (c := lc) kr_ kr_ (congrArg (fun q => some (Value.slice q n lc)) elo) rfl (by omega) (by omega)))) (all_c (QF.ren (congrArg (Value.int .i64) (rot_int n k j)) (QF.mk [5, 4] [(77, _), (76, _)] rfl rfl kr_ rfl (QAt.y Wt.none (Yd.rem rfl rfl (by omega) (by omega))))) (all_c (QF.mk [] [] rfl rfl kr_ rfl (QAt.y Wt.none (Yd.move rfl))) (all_c (QF.mk [3, 2] [(75, _), (74, _)] rfl rfl kr_ rfl (QAt.y Wt.none (Yd.add rfl rfl (by omega) (by omega)))) (all_c (QF.mk [] [] rfl rfl kr_ rfl (QAt.y Wt.none (Yd.move rfl))) (all_c (QF.mk [] [] rfl rfl kr_ rfl (QAt.y Wt.none (Yd.move rfl))) (all_c (QF.mk [] [] rfl rfl kr_ rfl (QAt.y Wt.none (Yd.move rfl))) (all_n))))))))))) (all_c ?_ (all_n))
                  · change SO _ _ _ _ _ _ 14 ([(82, _), (71, _), (79, _), (78, _), (77, _), (76, _), (75, _), (74, _), (73, _)] ++ _) _ _
                    refine SO.s rfl Wt.none (Hd.storeAll (n := 2) kr_ rfl rfl (by rfl) one_ fr_ (by rfl) ⟨rfl, ?_⟩)
                    change WAF _ _ _ _ _ _ [(12, 83, _)] _ [14, 11, 10, 7, 6, 5, 4, 3, 2, 1, 13, 9, 8, 0] (([(82, _), (71, _), (79, _), (78, _), (77, _), (76, _), (75, _), (74, _), (73, _)] ++ _)) _
                    refine WAF.add (i := 15) (d := 15) rfl (QF.mk [12] [(83, _)] rfl rfl kr_ rfl (QAt.y Wt.none (Yd.assign rfl))) ?_
                    refine WAF.done (pd := [(15, 15), (12, 83)]) rfl kr_ kr_ (all_c rfl (all_c rfl (all_n))) (all_c (QF.mk [12] [(83, _)] rfl rfl kr_ rfl (QAt.y Wt.none (Yd.assign rfl))) (all_c (QF.mk [] [] rfl rfl kr_ rfl (QAt.y Wt.none (Yd.extract rfl rfl))) (all_n))) ?_
                    change DN _ _ _ _ _ _ ([(15, _), (83, _)] ++ _) _
                    refine DN.then_normal ?_
                    refine WC.seq ?_
                    refine WC.seq ?_
                    refine WC.region ?_
                    refine WL.y rfl (Yd.move rfl) ?_
                    refine WL.y rfl (Yd.neq rfl rfl) ?_
                    refine WL.renamed (t := 85) (v := .bool false) rfl (congrArg Value.bool (decide_eq_false (fun h => h rfl))) ?_
                    refine WL.y rfl (Yd.move rfl) ?_
                    refine WL.gy (dj := 86) rfl rfl rfl (Yd.move rfl) ?_
                    refine WL.gy (dj := 86) rfl rfl rfl (Yd.neq rfl rfl) ?_
                    refine WL.renamed (t := 88) (v := .bool false) rfl (congrArg Value.bool (decide_eq_false (fun h => h rfl))) ?_
                    refine WL.y rfl (Yd.pickF rfl rfl) ?_
                    refine WL.nil ?_
                    refine DN.then_normal ?_
                    refine WC.no rfl ?_
                    refine WC.skip ?_
                    refine DN.then_normal ?_
                    refine WC.seq ?_
                    refine WC.region ?_
                    refine WL.h rfl (Hd.loadAll (n := 2) kr_ rfl mem_ (by rfl) ⟨_, rfl, ?_⟩)
                    refine WL.s (Hd.storeAll (n := 2) kr_ rfl rfl (by rfl) one_ fr_ (by rfl) ⟨rfl, ?_⟩)
                    refine WL.nil ?_
                    refine DN.then_normal ?_
                    refine WC.region ?_
                    refine WL.h rfl (Hd.loadAll (n := 2) kr_ rfl mem_ (by rfl) ⟨_, rfl, ?_⟩)
                    refine WL.s (Hd.storeAll (n := 2) kr_ rfl rfl (by rfl) one_ fr_ (by rfl) ⟨rfl, ?_⟩)
                    refine WL.nil ?_
                    refine DN.block_normal ?_
                    refine DN.then_normal ?_
                    refine WC.region ?_
                    refine WL.y rfl (Yd.move rfl) ?_
                    refine WL.y rfl (Yd.add rfl rfl (by omega) (by omega)) ?_
                    refine WL.y rfl (Yd.assign rfl) ?_
                    refine WL.nil ?_
                    rw [one_fst j]
                    exact DN.againS (j + 1, _, _, _, _, D1, D2) ⟨by show j + 1 ≤ n; omega, hin1, hin2, hF1, hF2⟩ (by show n - (j + 1) < n - j; omega) ((Sx.put rfl (sx_))) sp_
              · change SO _ _ _ _ _ _ 13 ([] ++ _) _ _
                refine SO.h rfl Wt.none rfl (Hd.alloc (zs := [.int .u32 0, .slice none 0 0]) kr_ fun b14 => ⟨_, rfl, ?_⟩)
                change WAF _ _ _ _ _ _ [(8, 80, _), (7, 79, _), (6, 78, _), (5, 77, _), (4, 76, _), (3, 75, _), (2, 74, _), (1, 73, _), (0, 72, _)] _ [13] ((14, _) :: ([] ++ _)) _
                refine WAF.step (pd := [(8, 80), (7, 79), (6, 78), (5, 77), (4, 76), (3, 75), (2, 74), (1, 73), (0, 72)]) [(9, [8, 0])] rfl kr_ kr_ (all_c rfl (all_c rfl (all_c rfl (all_c rfl (all_c rfl (all_c rfl (all_c rfl (all_c rfl (all_c rfl (all_n)))))))))) (all_c (QF.mk [7] [(79, _)] rfl rfl kr_ rfl (QAt.rd Wt.none (Rd.loadA (n := 11) (b := lb) (o := lf + ((rot n k j : Nat) : Int).toNat * 11) (cs := lcs) (vs := ntc (noteO cs (rot n k j)) (.slice none 0 0) (.slice no2 (noteO cs (rot n k j)).data.length nc2)) kr_ rfl (Gr.get gr_ hlm) rfl (rs_cell hlcs (by omega) hng2)))) (all_c (QF.mk [6, 1] [(78, _), (73, _)] rfl rfl kr_ rfl (QAt.y Wt.none (Yd.indexAddr (e := 29) (s := 11) (b := lb) (o := lf) (n := n) (c := lc) kr_ kr_ (congrArg (fun q => some (Value.slice q n lc)) elo) rfl (by omega) (by omega)))) (all_c (QF.ren (congrArg (Value.int .i64) (rot_int n k j)) (QF.mk [5, 4] [(77, _), (76, _)] rfl rfl kr_ rfl (QAt.y Wt.none (Yd.rem rfl rfl (by omega) (by omega))))) (all_c (QF.mk [] [] rfl rfl kr_ rfl (QAt.y Wt.none (Yd.move rfl))) (all_c (QF.mk [3, 2] [(75, _), (74, _)] rfl rfl kr_ rfl (QAt.y Wt.none (Yd.add rfl rfl (by omega) (by omega)))) (all_c (QF.mk [] [] rfl rfl kr_ rfl (QAt.y Wt.none (Yd.move rfl))) (all_c (QF.mk [] [] rfl rfl kr_ rfl (QAt.y Wt.none (Yd.move rfl))) (all_c (QF.mk [] [] rfl rfl kr_ rfl (QAt.y Wt.none (Yd.move rfl))) (all_c (QF.mk [] [] rfl rfl kr_ rfl (QAt.rd Wt.none (Rd.loadAll (n := 2) kr_ rfl mem_ (by rfl)))) (all_n)))))))))) (all_c ?_ (all_n))
                · change SO _ _ _ _ _ _ 9 ([(80, _), (72, _)] ++ _) _ _
                  refine SO.c rfl Wt.none rfl (Ent.func Try.call15 rfl) (keep_tells (eN j) (.slice go ksG.length gc) ksG (DG ++ DD) (hG.kv.mono gr_) (by omega) (noteO cs (rot n k j)) (.slice none 0 0) _ (Bs_nil _) (hnd2.mono gr_) 2 (.slice none 0 0) [] (Bs_nil _)) (Sp.p sp_) ?_
                  rintro x2 H2 ⟨w2, D2, rfl, hF2, rfl⟩
                  obtain ⟨hke2, hin2⟩ := iG.keep (fun j h => by have := rot_lt (n := n) (k := k) (j := j) (by omega); omega) (fun a b ha hb h => rot_inj (hk.resolve_right (by omega)) ha hb h) hlt2 (by omega)
                  rw [hke2] at hF2 ⊢
                  obtain ⟨wo2, wc2, rfl⟩ := hF2.form
                  have hil2 := hin2.len
                  change WAF _ _ _ _ _ _ [(7, 79, _), (6, 78, _), (5, 77, _), (4, 76, _), (3, 75, _), (2, 74, _), (1, 73, _)] _ [9, 8, 0, 13] ((81, _) :: ([(80, _), (72, _)] ++ _)) _
                  refine WAF.add (i := 10) (d := 71) rfl (QF.mk [] [] rfl rfl kr_ rfl (QAt.y Wt.none (Yd.move rfl))) ?_
                  refine WAF.add (i := 11) (d := 82) rfl (QF.mk [10] [(71, _)] rfl rfl kr_ rfl (QAt.y Wt.none (Yd.extract rfl rfl))) ?_
                  refine WAF.add (i := 12) (d := 83) rfl (QF.mk [10] [(71, _)] rfl rfl kr_ rfl (QAt.y Wt.none (Yd.extract rfl rfl))) ?_
                  refine WAF.step (pd := [(12, 83), (11, 82), (10, 71), (7, 79), (6, 78), (5, 77), (4, 76), (3, 75), (2, 74), (1, 73)]) [(14, [11, 10, 7, 6, 5, 4, 3, 2, 1])] rfl kr_ kr_ (all_c rfl (all_c rfl (all_c rfl (all_c rfl (all_c rfl (all_c rfl (all_c rfl (all_c rfl (all_c rfl (all_c rfl (all_n))))))))))) (all_c (QF.mk [10] [(71, _)] rfl rfl kr_ rfl (QAt.y Wt.none (Yd.extract rfl rfl))) (all_c (QF.mk [10] [(71, _)] rfl rfl kr_ rfl (QAt.y Wt.none (Yd.extract rfl rfl))) (all_c (QF.mk [] [] rfl rfl kr_ rfl (QAt.y Wt.none (Yd.move rfl))) (all_c (QF.mk [6, 1] [(78, _), (73, _)] rfl rfl kr_ rfl (QAt.y Wt.none (Yd.indexAddr (e := 29) (s := 11) (b := lb) (o := lf) (n := n) (c := lc) kr_ kr_ (congrArg (fun q => some (Value.slice q n lc)) elo) rfl (by omega) (by omega)))) (all_c (QF.ren (congrArg (Value.int .i64) (rot_int n k j)) (QF.mk [5, 4] [(77, _), (76, _)] rfl rfl kr_ rfl (QAt.y Wt.none (Yd.rem rfl rfl (by omega) (by omega))))) (all_c (QF.mk [] [] rfl rfl kr_ rfl (QAt.y Wt.none (Yd.move rfl))) (all_c (QF.mk [3, 2] [(75, _), (74, _)] rfl rfl kr_ rfl (QAt.y Wt.none (Yd.add rfl rfl (by omega) (by omega)))) (all_c (QF.mk [] [] rfl rfl kr_ rfl (QAt.y Wt.none (Yd.move rfl))) (all_c (QF.mk [] [] rfl rfl kr_ rfl (QAt.y Wt.none (Yd.move rfl))) (all_c (QF.mk [] [] rfl rfl kr_ rfl (QAt.y Wt.none (Yd.move rfl))) (all_n))))))))))) (all_c ?_ (all_n))
                  · change SO _ _ _ _ _ _ 14 ([(82, _), (71, _), (79, _), (78, _), (77, _), (76, _), (75, _), (74, _), (73, _)] ++ _) _ _
                    refine SO.s rfl Wt.none (Hd.storeAll (n := 2) kr_ rfl rfl (by rfl) one_ fr_ (by rfl) ⟨rfl, ?_⟩)
                    change WAF _ _ _ _ _ _ [(12, 83, _)] _ [14, 11, 10, 7, 6, 5, 4, 3, 2, 1, 9, 8, 0, 13] (([(82, _), (71, _), (79, _), (78, _), (77, _), (76, _), (75, _), (74, _), (73, _)] ++ _)) _
                    refine WAF.add (i := 15) (d := 15) rfl (QF.mk [12] [(83, _)] rfl rfl kr_ rfl (QAt.y Wt.none (Yd.assign rfl))) ?_
                    refine WAF.done (pd := [(15, 15), (12, 83)]) rfl kr_ kr_ (all_c rfl (all_c rfl (all_n))) (all_c (QF.mk [12] [(83, _)] rfl rfl kr_ rfl (QAt.y Wt.none (Yd.assign rfl))) (all_c (QF.mk [] [] rfl rfl kr_ rfl (QAt.y Wt.none (Yd.extract rfl rfl))) (all_n))) ?_
                    change DN _ _ _ _ _ _ ([(15, _), (83, _)] ++ _) _
                    refine DN.then_normal ?_
                    refine WC.seq ?_
                    refine WC.seq ?_
                    refine WC.region ?_
                    refine WL.y rfl (Yd.move rfl) ?_
                    refine WL.y rfl (Yd.neq rfl rfl) ?_
                    refine WL.renamed (t := 85) (v := .bool false) rfl (congrArg Value.bool (decide_eq_false (fun h => h rfl))) ?_
                    refine WL.y rfl (Yd.move rfl) ?_
                    refine WL.gy (dj := 86) rfl rfl rfl (Yd.move rfl) ?_
                    refine WL.gy (dj := 86) rfl rfl rfl (Yd.neq rfl rfl) ?_
                    refine WL.renamed (t := 88) (v := .bool false) rfl (congrArg Value.bool (decide_eq_false (fun h => h rfl))) ?_
                    refine WL.y rfl (Yd.pickF rfl rfl) ?_
                    refine WL.nil ?_
                    refine DN.then_normal ?_
                    refine WC.no rfl ?_
                    refine WC.skip ?_
                    refine DN.then_normal ?_
                    refine WC.seq ?_
                    refine WC.region ?_
                    refine WL.h rfl (Hd.loadAll (n := 2) kr_ rfl mem_ (by rfl) ⟨_, rfl, ?_⟩)
                    refine WL.s (Hd.storeAll (n := 2) kr_ rfl rfl (by rfl) one_ fr_ (by rfl) ⟨rfl, ?_⟩)
                    refine WL.nil ?_
                    refine DN.then_normal ?_
                    refine WC.region ?_
                    refine WL.h rfl (Hd.loadAll (n := 2) kr_ rfl mem_ (by rfl) ⟨_, rfl, ?_⟩)
                    refine WL.s (Hd.storeAll (n := 2) kr_ rfl rfl (by rfl) one_ fr_ (by rfl) ⟨rfl, ?_⟩)
                    refine WL.nil ?_
                    refine DN.block_normal ?_
                    refine DN.then_normal ?_
                    refine WC.region ?_
                    refine WL.y rfl (Yd.move rfl) ?_
                    refine WL.y rfl (Yd.add rfl rfl (by omega) (by omega)) ?_
                    refine WL.y rfl (Yd.assign rfl) ?_
                    refine WL.nil ?_
                    rw [one_fst j]
                    exact DN.againS (j + 1, _, _, _, _, D1, D2) ⟨by show j + 1 ≤ n; omega, hin1, hin2, hF1, hF2⟩ (by show n - (j + 1) < n - j; omega) ((Sx.put rfl (sx_))) sp_
      · obtain rfl : j = n := by omega
        obtain rfl := ord_same hk iF iG
        refine WC.exit ?_
        refine DN.then_exit ?_
        refine DN.then_exit ?_
        refine DN.block_exit ?_
        refine DN.then_normal ?_
        refine WC.seq ?_
        refine WC.region ?_
        refine WL.h rfl (Hd.loadAll (n := 2) kr_ rfl mem_ (by rfl) ⟨_, rfl, ?_⟩)
        refine WL.c rfl (Ent.func Try.call32 rfl) (fput_tells (eN j) _ ksF DF hF.kv (by omega)) (Sp.p sp_) ?_
        rintro x H9 ⟨w5, P1, rfl, hP1, rfl⟩
        rw [if_pos iF.chk] at hP1 ⊢
        obtain ⟨o5, c5, rfl, _⟩ := hP1.form
        refine WL.y rfl (Yd.move rfl) ?_
        refine WL.y rfl (Yd.extract rfl rfl) ?_
        refine WL.y rfl (Yd.extract rfl rfl) ?_
        refine WL.y rfl (Yd.assign rfl) ?_
        refine WL.y rfl (Yd.assign rfl) ?_
        refine WL.nil ?_
        refine DN.then_normal ?_
        refine WC.seq ?_
        refine WC.region ?_
        refine WL.h rfl (Hd.loadAll (n := 2) kr_ rfl mem_ (by rfl) ⟨_, rfl, ?_⟩)
        refine WL.c rfl (Ent.func Try.call32 rfl) (fput_tells (eN j) _ ksF DG hG.kv (by omega)) (Sp.p sp_) ?_
        rintro x H9 ⟨w6, P2, rfl, hP2, rfl⟩
        rw [if_pos iF.chk] at hP2 ⊢
        obtain ⟨o6, c6, rfl, _⟩ := hP2.form
        refine WL.y rfl (Yd.move rfl) ?_
        refine WL.y rfl (Yd.extract rfl rfl) ?_
        refine WL.y rfl (Yd.extract rfl rfl) ?_
        refine WL.y rfl (Yd.assign rfl) ?_
        refine WL.y rfl (Yd.assign rfl) ?_
        refine WL.nil ?_
        refine DN.then_normal ?_
        refine WC.seq ?_
        refine WC.region ?_
        refine WL.y rfl (Yd.move rfl) ?_
        refine WL.y rfl (Yd.eql rfl rfl) ?_
        refine WL.renamed (t := 103) (v := .bool true) rfl (congrArg Value.bool (decide_eq_true rfl)) ?_
        refine WL.y rfl (Yd.move rfl) ?_
        refine WL.gy (dj := 104) rfl rfl rfl (Yd.move rfl) ?_
        refine WL.gy (dj := 104) rfl rfl rfl (Yd.eql rfl rfl) ?_
        refine WL.renamed (t := 106) (v := .bool true) rfl (congrArg Value.bool (decide_eq_true rfl)) ?_
        refine WL.y rfl (Yd.pickT rfl rfl) ?_
        refine WL.y rfl (Yd.move rfl) ?_
        refine WL.gy (dj := 108) rfl rfl rfl (Yd.move rfl) ?_
        refine WL.gh (dj := 108) rfl rfl rfl (Hd.toStr (e := 5) (bs := putB (eN j) ksF) kr_ kr_ Try.underlying9 rfl (hP1.bs.mono gr_) ⟨_, rfl, ?_⟩)
        refine WL.gy (dj := 108) rfl rfl rfl (Yd.move rfl) ?_
        refine WL.gh (dj := 108) rfl rfl rfl (Hd.toStr (e := 5) (bs := putB (eN j) ksF) kr_ kr_ Try.underlying9 rfl (hP2.bs.mono gr_) ⟨_, rfl, ?_⟩)
        refine WL.gy (dj := 108) rfl rfl rfl (Yd.eqlS rfl rfl) ?_
        refine WL.renamed (t := 113) (v := .bool true) rfl (congrArg Value.bool (decide_eq_true rfl)) ?_
        refine WL.y rfl (Yd.pickT rfl rfl) ?_
        refine WL.y rfl (Yd.move rfl) ?_
        refine WL.grf (dj := 115) rfl rfl rfl (Ent.func Try.call12 rfl) (known_reads) sp_ ?_
        refine WL.y rfl (Yd.pickT rfl rfl) ?_
        refine WL.y rfl (Yd.assign rfl) ?_
        refine WL.nil ?_
        refine DN.then_normal ?_
        refine WC.ret ?_
        refine DN.fit (C := H) sp_ ?_
        refine DN.ret1 Try.results9 rfl ?_
        exact ⟨rfl, rfl⟩

end Go.Proofs.Ytonnkgblligdkaa
