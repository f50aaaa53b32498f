/-
  The walks of the fence's bytes: Put, Get.
-/
import Derived.Test.YtonnkgblligdkaaField2
import Derived.Test.YtonnkgblligdkaaFenceCode
import Derived.Test.YtonnkgblligdkaaFence3
set_option linter.unusedVariables false
set_option linter.unusedSimpArgs false
set_option maxHeartbeats 4000000
namespace Go.Proofs.Ytonnkgblligdkaa
open Go.SL


/-- drayage/fence.Put -/
theorem fput_tells (e : BitVec 32) (v : Value) (ks : List Kp) (H : List Ck) (hv : KV v ks H) (hl : ks.length ≤ 9223372036854775807) : Tells Try.prog 32 [.agg #[.int .u32 e.toNat, v]] H fun r H' => ∃ w A, r = .tuple #[w, .int .i64 (if chk ks then 0 else 2)] ∧ Ob 5 w (if chk ks then putB e ks else []) A ∧ H' = A ++ H := by
  refine Tells.enter Try.func32 rfl Try.ntmps32 rfl ?_
  intro w0 R
  have hv9 := hv
  obtain ⟨cs, hr, hk⟩ := hv
  obtain ⟨ao, c, rfl, hc⟩ := hr.form
  refine WC.seq ?_
  refine WC.region ?_
  refine WL.h rfl (Hd.boxA rfl fun b1 => ⟨_, rfl, ?_⟩)
  refine WL.y rfl (Yd.assign rfl) ?_
  refine WL.y rfl (Yd.assign rfl) ?_
  refine WL.nil ?_
  refine DN.then_normal ?_
  refine WC.seq ?_
  refine WC.seq ?_
  refine WC.region ?_
  refine WL.h rfl (Hd.loadAll (n := 2) kr_ rfl mem_ (by rfl) ⟨_, rfl, ?_⟩)
  refine WL.r rfl (Ent.func Try.call30 rfl) (check2_reads e _ ks _ (hv9.mono gr_) hl) ?_
  refine WL.y rfl (Yd.assign rfl) ?_
  refine WL.nil ?_
  refine DN.then_normal ?_
  refine WC.seq ?_
  refine WC.region ?_
  refine WL.y rfl (Yd.move rfl) ?_
  refine WL.y rfl (Yd.neq rfl rfl) ?_
  refine WL.nil ?_
  refine DN.then_normal ?_
  refine WC.ite rfl (fun h12 => ?_) (fun h12 => ?_)
  · have hck : ¬ chk ks := fun h => by rw [if_pos h] at h12; exact h12 rfl
    refine WC.seq ?_
    refine WC.region ?_
    refine WL.y rfl (Yd.move rfl) ?_
    refine WL.y rfl (Yd.assign rfl) ?_
    refine WL.y rfl (Yd.assign rfl) ?_
    refine WL.nil ?_
    refine DN.then_normal ?_
    refine WC.ret ?_
    refine DN.then_ret ?_
    refine DN.fit (C := H) sp_ ?_
    refine DN.ret2 Try.results32 rfl rfl ?_
    exact ⟨_, [], rfl, by rw [if_neg hck]; exact Ob.nil _, rfl⟩
  · have hck : chk ks := Classical.byContradiction fun h => by rw [if_neg h] at h12; exact h12 (by decide)
    have h200 := hck.1
    refine WC.skip ?_
    refine DN.then_normal ?_
    refine WC.seq ?_
    refine WC.draw 10 kr_ rfl ?_
    refine WA.float (N := 10) rfl ?_
    refine WAF.add (i := 1) (d := 15) rfl (QF.mk [] [] rfl rfl kr_ rfl (QAt.y Wt.none (Yd.fieldAddr (k := 0) kr_ rfl))) ?_
    refine WAF.add (i := 2) (d := 16) rfl (QF.mk [1] [(15, _)] rfl rfl kr_ rfl (QAt.rd Wt.none (Rd.load1 kr_ rfl mem_ (by rfl)))) ?_
    refine WAF.add (i := 4) (d := 18) rfl (QF.mk [] [] rfl rfl kr_ rfl (QAt.y Wt.none (Yd.fieldAddr (k := 1) kr_ rfl))) ?_
    refine WAF.add (i := 5) (d := 19) rfl (QF.mk [4] [(18, _)] rfl rfl kr_ rfl (QAt.rd Wt.none (Rd.load1 kr_ rfl mem_ (by rfl)))) ?_
    refine WAF.add (i := 6) (d := 20) rfl (QF.mk [5] [(19, _)] rfl rfl kr_ rfl (QAt.y Wt.none (Yd.len (e := 43) kr_ rfl))) ?_
    refine WAF.add (i := 7) (d := 21) rfl (QF.mk [6] [(20, _)] rfl rfl kr_ rfl (QAt.y Wt.none (Yd.to8 _ kr_ kr_ rfl rfl))) ?_
    refine WAF.step (pd := [(7, 21), (6, 20), (5, 19), (4, 18), (2, 16), (1, 15)]) [(0, [])] rfl kr_ kr_ (all_c rfl (all_c rfl (all_c rfl (all_c rfl (all_c rfl (all_c rfl (all_n))))))) (all_c (QF.mk [6] [(20, _)] rfl rfl kr_ rfl (QAt.y Wt.none (Yd.to8 _ kr_ kr_ rfl rfl))) (all_c (QF.mk [5] [(19, _)] rfl rfl kr_ rfl (QAt.y Wt.none (Yd.len (e := 43) kr_ rfl))) (all_c (QF.mk [4] [(18, _)] rfl rfl kr_ rfl (QAt.rd Wt.none (Rd.load1 kr_ rfl mem_ (by rfl)))) (all_c (QF.mk [] [] rfl rfl kr_ rfl (QAt.y Wt.none (Yd.fieldAddr (k := 1) kr_ rfl))) (all_c (QF.mk [1] [(15, _)] rfl rfl kr_ rfl (QAt.rd Wt.none (Rd.load1 kr_ rfl mem_ (by rfl)))) (all_c (QF.mk [] [] rfl rfl kr_ rfl (QAt.y Wt.none (Yd.fieldAddr (k := 0) kr_ rfl))) (all_n))))))) (all_c ?_ (all_n))
    · change SO _ _ _ _ _ _ 0 ([] ++ _) _ _
      refine SO.c rfl Wt.none rfl (Ent.func Try.call49 rfl) (newWriter_tells) (Sp.p sp_) ?_
      rintro x0 H0 ⟨bw, rfl, rfl⟩
      change WAF _ _ _ _ _ _ [(7, 21, _), (6, 20, _), (5, 19, _), (4, 18, _), (2, 16, _), (1, 15, _)] _ [0] ((14, _) :: ([] ++ _)) _
      refine WAF.step (pd := [(7, 21), (6, 20), (5, 19), (4, 18), (2, 16), (1, 15)]) [(3, [2])] rfl kr_ kr_ (all_c rfl (all_c rfl (all_c rfl (all_c rfl (all_c rfl (all_c rfl (all_n))))))) (all_c (QF.mk [6] [(20, _)] rfl rfl kr_ rfl (QAt.y Wt.none (Yd.to8 _ kr_ kr_ rfl rfl))) (all_c (QF.mk [5] [(19, _)] rfl rfl kr_ rfl (QAt.y Wt.none (Yd.len (e := 43) kr_ rfl))) (all_c (QF.mk [4] [(18, _)] rfl rfl kr_ rfl (QAt.rd Wt.none (Rd.load1 kr_ rfl mem_ (by rfl)))) (all_c (QF.mk [] [] rfl rfl kr_ rfl (QAt.y Wt.none (Yd.fieldAddr (k := 1) kr_ rfl))) (all_c (QF.mk [1] [(15, _)] rfl rfl kr_ rfl (QAt.rd Wt.none (Rd.load1 kr_ rfl mem_ (by rfl)))) (all_c (QF.mk [] [] rfl rfl kr_ rfl (QAt.y Wt.none (Yd.fieldAddr (k := 0) kr_ rfl))) (all_n))))))) (all_c ?_ (all_n))
      · change SO _ _ _ _ _ _ 3 ([(16, _)] ++ _) _ _
        refine SO.c rfl Wt.none rfl (Ent.func Try.call50 rfl) (wU32_tells bw (.slice none 0 0) [] [] e (Ob.nil _) (by simp)) (Sp.p sp_) ?_
        rintro x1 H1 ⟨rfl, v1, C1, ho1, rfl⟩
        change WAF _ _ _ _ _ _ [(7, 21, _), (6, 20, _), (5, 19, _), (4, 18, _), (1, 15, _)] _ [3, 2, 0] ((17, _) :: ([(16, _)] ++ _)) _
        refine WAF.step (pd := [(7, 21), (6, 20), (5, 19), (4, 18), (1, 15)]) [(8, [7])] rfl kr_ kr_ (all_c rfl (all_c rfl (all_c rfl (all_c rfl (all_c rfl (all_n)))))) (all_c (QF.mk [6] [(20, _)] rfl rfl kr_ rfl (QAt.y Wt.none (Yd.to8 _ kr_ kr_ rfl rfl))) (all_c (QF.mk [5] [(19, _)] rfl rfl kr_ rfl (QAt.y Wt.none (Yd.len (e := 43) kr_ rfl))) (all_c (QF.mk [4] [(18, _)] rfl rfl kr_ rfl (QAt.rd Wt.none (Rd.load1 kr_ rfl mem_ (by rfl)))) (all_c (QF.mk [] [] rfl rfl kr_ rfl (QAt.y Wt.none (Yd.fieldAddr (k := 1) kr_ rfl))) (all_c (QF.mk [] [] rfl rfl kr_ rfl (QAt.y Wt.none (Yd.fieldAddr (k := 0) kr_ rfl))) (all_n)))))) (all_c ?_ (all_n))
        · change SO _ _ _ _ _ _ 8 ([(21, _)] ++ _) _ _
          refine SO.c rfl Wt.none rfl (Ent.func Try.call51 rfl) (wU8_tells bw v1 ([] ++ beW (e.setWidth 64) 4) C1 (BitVec.ofInt 8 (ks.length : Int)) ho1 (by simp [beW_length])) (Sp.p sp_) ?_
          rintro x2 H2 ⟨rfl, v2, C2, ho2, rfl⟩
          change WAF _ _ _ _ _ _ [(6, 20, _), (5, 19, _), (4, 18, _), (1, 15, _)] _ [8, 7, 3, 2, 0] ((22, _) :: ([(21, _)] ++ _)) _
          refine WAF.add (i := 9) (d := 5) rfl (QF.mk [6, 5, 4, 1] [(20, _), (19, _), (18, _), (15, _)] rfl rfl kr_ rfl (QAt.y Wt.none (Yd.assign rfl))) ?_
          refine WAF.done (pd := [(9, 5), (6, 20), (5, 19), (4, 18), (1, 15)]) rfl kr_ kr_ (all_c rfl (all_c rfl (all_c rfl (all_c rfl (all_c rfl (all_n)))))) (all_c (QF.mk [6, 5, 4, 1] [(20, _), (19, _), (18, _), (15, _)] rfl rfl kr_ rfl (QAt.y Wt.none (Yd.assign rfl))) (all_c (QF.mk [5] [(19, _)] rfl rfl kr_ rfl (QAt.y Wt.none (Yd.len (e := 43) kr_ rfl))) (all_c (QF.mk [4] [(18, _)] rfl rfl kr_ rfl (QAt.rd Wt.none (Rd.load1 kr_ rfl mem_ (by rfl)))) (all_c (QF.mk [] [] rfl rfl kr_ rfl (QAt.y Wt.none (Yd.fieldAddr (k := 1) kr_ rfl))) (all_c (QF.mk [] [] rfl rfl kr_ rfl (QAt.y Wt.none (Yd.fieldAddr (k := 0) kr_ rfl))) (all_n)))))) ?_
          change DN _ _ _ _ _ _ ([(5, _), (20, _), (19, _), (18, _), (15, _)] ++ _) _
          refine DN.then_normal ?_
          refine WC.seq ?_
          refine WC.seq ?_
          refine WC.region ?_
          refine WL.y rfl (Yd.fieldAddr (k := 1) kr_ rfl) ?_
          refine WL.h rfl (Hd.load1 kr_ rfl mem_ (by rfl) ⟨_, rfl, ?_⟩)
          refine WL.y rfl (Yd.len (e := 43) kr_ rfl) ?_
          refine WL.y rfl (Yd.move rfl) ?_
          refine WL.nil ?_
          refine DN.then_normal ?_
          refine WC.block ?_
          refine WC.loopS (fun z : Nat × Value × List Ck => z.1 ≤ ks.length ∧ Ob 5 z.2.1 (putTo e ks z.1) z.2.2) (fun z : Nat × Value × List Ck => [(26, .int .i64 (z.1 : Int))]) (fun z : Nat × Value × List Ck => row bw [z.2.1, .bool false] 121 :: (z.2.2 ++ (row b1 [.int .u32 e.toNat, .slice ao ks.length c] 25 :: H))) (fun z : Nat × Value × List Ck => ks.length - z.1) (⟨0, v2, C2⟩) (show 0 ≤ ks.length ∧ Ob 5 v2 (putTo e ks 0) C2 from ⟨Nat.zero_le _, by simpa [putTo] using ho2⟩) (Sx.put rfl (sx_)) sp_ ?_
          rintro ⟨i, v, C⟩ hI
          replace hI : i ≤ ks.length ∧ Ob 5 v (putTo e ks i) C := hI
          obtain ⟨hi, ho⟩ := hI
          change WC _ _ _ _ _ _ ([(26, .int .i64 (i : Int))] ++ _) (row bw [v, .bool false] 121 :: (C ++ (row b1 [.int .u32 e.toNat, .slice ao ks.length c] 25 :: H)))
          refine WC.seq ?_
          refine WC.region ?_
          refine WL.y rfl (Yd.lss rfl rfl) ?_
          refine WL.nil ?_
          refine DN.then_normal ?_
          refine WC.seq ?_
          refine WC.ite rfl (fun h27 => ?_) (fun h27 => ?_)
          · have hlt : i < ks.length := by omega
            obtain ⟨va, vr, hg, hva, hvr⟩ := hk.at i hlt
            obtain ⟨ao1, ac1, rfl, _⟩ := hva.form
            obtain ⟨ro1, rc1, rfl, _⟩ := hvr.form
            have hrt := chk_right hck hlt
            have hra := hrt.2.2.2.1
            have hrr := hrt.2.2.2.2.1
            refine WC.skip ?_
            refine DN.then_normal ?_
            refine WC.seq ?_
            refine WC.block ?_
            refine WC.seq ?_
            refine WC.region ?_
            refine WL.elemA (e := 43) (s := 6) kr_ kr_ kr_ rfl rfl (rfl) (hr.mono gr_) (hg) (by rfl) (by omega) (hlt) rfl rfl ?_
            intro p28
            refine WL.h rfl (Hd.alloc (zs := [.int .u32 0, .int .i64 0, .bool false, .slice none 0 0, .int .i64 0, .slice none 0 0]) kr_ fun b7 => ⟨_, rfl, ?_⟩)
            refine WL.s (Hd.storeAll (n := 6) kr_ rfl rfl (by rfl) (kc_one rfl rfl) fr_ (by rfl) ⟨rfl, ?_⟩)
            refine WL.nil ?_
            refine DN.then_normal ?_
            refine WC.seq ?_
            refine WC.region ?_
            refine WL.y rfl (Yd.assign (v := .int .u8 ((0#8).toNat : Int)) rfl) ?_
            refine WL.nil ?_
            refine DN.then_normal ?_
            refine WC.seq ?_
            refine WC.seq ?_
            refine WC.region ?_
            refine WL.y rfl (Yd.fieldAddr (k := 2) kr_ rfl) ?_
            refine WL.h rfl (Hd.load1 kr_ rfl mem_ (by rfl) ⟨_, rfl, ?_⟩)
            refine WL.nil ?_
            refine DN.then_normal ?_
            refine WC.cond rfl (fun h31 => ?_) (fun h31 => ?_)
            · refine WC.region ?_
              refine WL.y rfl (Yd.assign (v := .int .u8 ((1#8).toNat : Int)) rfl) ?_
              refine WL.nil ?_
              refine DN.then_normal ?_
              refine WC.draw 20 kr_ rfl ?_
              refine WA.float (N := 20) rfl ?_
              refine WAF.add (i := 0) (d := 32) rfl (QF.mk [] [] rfl rfl kr_ rfl (QAt.y Wt.none (Yd.move rfl))) ?_
              refine WAF.add (i := 1) (d := 33) rfl (QF.mk [] [] rfl rfl kr_ rfl (QAt.y Wt.none (Yd.fieldAddr (k := 0) kr_ rfl))) ?_
              refine WAF.add (i := 2) (d := 34) rfl (QF.mk [1] [(33, _)] rfl rfl kr_ rfl (QAt.rd Wt.none (Rd.load1 kr_ rfl mem_ (by rfl)))) ?_
              refine WAF.add (i := 4) (d := 36) rfl (QF.mk [] [] rfl rfl kr_ rfl (QAt.y Wt.none (Yd.fieldAddr (k := 1) kr_ rfl))) ?_
              refine WAF.add (i := 5) (d := 37) rfl (QF.mk [4] [(36, _)] rfl rfl kr_ rfl (QAt.rd Wt.none (Rd.load1 kr_ rfl mem_ (by rfl)))) ?_
              refine WAF.add (i := 6) (d := 38) rfl (QF.mk [5] [(37, _)] rfl rfl kr_ rfl (QAt.y Wt.none (Yd.to8 _ kr_ kr_ rfl rfl))) ?_
              refine WAF.add (i := 8) (d := 40) rfl (QF.mk [] [] rfl rfl kr_ rfl (QAt.y Wt.none (Yd.move rfl))) ?_
              refine WAF.ren (v := .int .u8 (ub ks[i].undo).toNat) (congrArg (fun q : BitVec 8 => Value.int .u8 q.toNat) (by rw [h31]; rfl)) ?_
              refine WAF.add (i := 10) (d := 42) rfl (QF.mk [] [] rfl rfl kr_ rfl (QAt.y Wt.none (Yd.fieldAddr (k := 4) kr_ rfl))) ?_
              refine WAF.add (i := 11) (d := 43) rfl (QF.mk [10] [(42, _)] rfl rfl kr_ rfl (QAt.rd Wt.none (Rd.load1 kr_ rfl mem_ (by rfl)))) ?_
              refine WAF.add (i := 12) (d := 44) rfl (QF.mk [11] [(43, _)] rfl rfl kr_ rfl (QAt.y Wt.none (Yd.to8 _ kr_ kr_ rfl rfl))) ?_
              refine WAF.add (i := 14) (d := 46) rfl (QF.mk [] [] rfl rfl kr_ rfl (QAt.y Wt.none (Yd.fieldAddr (k := 3) kr_ rfl))) ?_
              refine WAF.add (i := 15) (d := 47) rfl (QF.mk [14] [(46, _)] rfl rfl kr_ rfl (QAt.rd Wt.none (Rd.load1 kr_ rfl mem_ (by rfl)))) ?_
              refine WAF.add (i := 17) (d := 49) rfl (QF.mk [] [] rfl rfl kr_ rfl (QAt.y Wt.none (Yd.fieldAddr (k := 5) kr_ rfl))) ?_
              refine WAF.add (i := 18) (d := 50) rfl (QF.mk [17] [(49, _)] rfl rfl kr_ rfl (QAt.rd Wt.none (Rd.load1 kr_ rfl mem_ (by rfl)))) ?_
              refine WAF.step (pd := [(18, 50), (17, 49), (15, 47), (14, 46), (12, 44), (11, 43), (10, 42), (8, 40), (6, 38), (5, 37), (4, 36), (2, 34), (1, 33), (0, 32)]) [(3, [2, 0])] rfl kr_ kr_ (all_c rfl (all_c rfl (all_c rfl (all_c rfl (all_c rfl (all_c rfl (all_c rfl (all_c rfl (all_c rfl (all_c rfl (all_c rfl (all_c rfl (all_c rfl (all_c rfl (all_n))))))))))))))) (all_c (QF.mk [17] [(49, _)] rfl rfl kr_ rfl (QAt.rd Wt.none (Rd.load1 kr_ rfl mem_ (by rfl)))) (all_c (QF.mk [] [] rfl rfl kr_ rfl (QAt.y Wt.none (Yd.fieldAddr (k := 5) kr_ rfl))) (all_c (QF.mk [14] [(46, _)] rfl rfl kr_ rfl (QAt.rd Wt.none (Rd.load1 kr_ rfl mem_ (by rfl)))) (all_c (QF.mk [] [] rfl rfl kr_ rfl (QAt.y Wt.none (Yd.fieldAddr (k := 3) kr_ rfl))) (all_c (QF.mk [11] [(43, _)] rfl rfl kr_ rfl (QAt.y Wt.none (Yd.to8 _ kr_ kr_ rfl rfl))) (all_c (QF.mk [10] [(42, _)] rfl rfl kr_ rfl (QAt.rd Wt.none (Rd.load1 kr_ rfl mem_ (by rfl)))) (all_c (QF.mk [] [] rfl rfl kr_ rfl (QAt.y Wt.none (Yd.fieldAddr (k := 4) kr_ rfl))) (all_c (QF.ren (congrArg (fun q : BitVec 8 => Value.int .u8 q.toNat) (by rw [h31]; rfl)) (QF.mk [] [] rfl rfl kr_ rfl (QAt.y Wt.none (Yd.move rfl)))) (all_c (QF.mk [5] [(37, _)] rfl rfl kr_ rfl (QAt.y Wt.none (Yd.to8 _ kr_ kr_ rfl rfl))) (all_c (QF.mk [4] [(36, _)] rfl rfl kr_ rfl (QAt.rd Wt.none (Rd.load1 kr_ rfl mem_ (by rfl)))) (all_c (QF.mk [] [] rfl rfl kr_ rfl (QAt.y Wt.none (Yd.fieldAddr (k := 1) kr_ rfl))) (all_c (QF.mk [1] [(33, _)] rfl rfl kr_ rfl (QAt.rd Wt.none (Rd.load1 kr_ rfl mem_ (by rfl)))) (all_c (QF.mk [] [] rfl rfl kr_ rfl (QAt.y Wt.none (Yd.fieldAddr (k := 0) kr_ rfl))) (all_c (QF.mk [] [] rfl rfl kr_ rfl (QAt.y Wt.none (Yd.move rfl))) (all_n))))))))))))))) (all_c ?_ (all_n))
              · change SO _ _ _ _ _ _ 3 ([(34, _), (32, _)] ++ _) _ _
                refine SO.c rfl Wt.none rfl (Ent.func Try.call50 rfl) (wU32_tells bw v (putTo e ks i) C ks[i].order ho (by have := putTo_len (e := e) hck i; (try simp only [List.length_append, List.length_cons, List.length_nil, beW_length]); omega)) (Sp.p sp_) ?_
                rintro x3 H3 ⟨rfl, v3, C3, ho3, rfl⟩
                change WAF _ _ _ _ _ _ [(18, 50, _), (17, 49, _), (15, 47, _), (14, 46, _), (12, 44, _), (11, 43, _), (10, 42, _), (8, 40, _), (6, 38, _), (5, 37, _), (4, 36, _), (1, 33, _)] _ [3, 2, 0] ((35, _) :: ([(34, _), (32, _)] ++ _)) _
                refine WAF.step (pd := [(18, 50), (17, 49), (15, 47), (14, 46), (12, 44), (11, 43), (10, 42), (8, 40), (6, 38), (5, 37), (4, 36), (1, 33)]) [(7, [6])] rfl kr_ kr_ (all_c rfl (all_c rfl (all_c rfl (all_c rfl (all_c rfl (all_c rfl (all_c rfl (all_c rfl (all_c rfl (all_c rfl (all_c rfl (all_c rfl (all_n))))))))))))) (all_c (QF.mk [17] [(49, _)] rfl rfl kr_ rfl (QAt.rd Wt.none (Rd.load1 kr_ rfl mem_ (by rfl)))) (all_c (QF.mk [] [] rfl rfl kr_ rfl (QAt.y Wt.none (Yd.fieldAddr (k := 5) kr_ rfl))) (all_c (QF.mk [14] [(46, _)] rfl rfl kr_ rfl (QAt.rd Wt.none (Rd.load1 kr_ rfl mem_ (by rfl)))) (all_c (QF.mk [] [] rfl rfl kr_ rfl (QAt.y Wt.none (Yd.fieldAddr (k := 3) kr_ rfl))) (all_c (QF.mk [11] [(43, _)] rfl rfl kr_ rfl (QAt.y Wt.none (Yd.to8 _ kr_ kr_ rfl rfl))) (all_c (QF.mk [10] [(42, _)] rfl rfl kr_ rfl (QAt.rd Wt.none (Rd.load1 kr_ rfl mem_ (by rfl)))) (all_c (QF.mk [] [] rfl rfl kr_ rfl (QAt.y Wt.none (Yd.fieldAddr (k := 4) kr_ rfl))) (all_c (QF.ren (congrArg (fun q : BitVec 8 => Value.int .u8 q.toNat) (by rw [h31]; rfl)) (QF.mk [] [] rfl rfl kr_ rfl (QAt.y Wt.none (Yd.move rfl)))) (all_c (QF.mk [5] [(37, _)] rfl rfl kr_ rfl (QAt.y Wt.none (Yd.to8 _ kr_ kr_ rfl rfl))) (all_c (QF.mk [4] [(36, _)] rfl rfl kr_ rfl (QAt.rd Wt.none (Rd.load1 kr_ rfl mem_ (by rfl)))) (all_c (QF.mk [] [] rfl rfl kr_ rfl (QAt.y Wt.none (Yd.fieldAddr (k := 1) kr_ rfl))) (all_c (QF.mk [] [] rfl rfl kr_ rfl (QAt.y Wt.none (Yd.fieldAddr (k := 0) kr_ rfl))) (all_n))))))))))))) (all_c ?_ (all_n))
                · change SO _ _ _ _ _ _ 7 ([(38, _)] ++ _) _ _
                  refine SO.c rfl Wt.none rfl (Ent.func Try.call51 rfl) (wU8_tells bw v3 (putTo e ks i ++ beW (ks[i].order.setWidth 64) 4) C3 (BitVec.ofInt 8 ks[i].step) ho3 (by have := putTo_len (e := e) hck i; (try simp only [List.length_append, List.length_cons, List.length_nil, beW_length]); omega)) (Sp.p sp_) ?_
                  rintro x4 H4 ⟨rfl, v4, C4, ho4, rfl⟩
                  change WAF _ _ _ _ _ _ [(18, 50, _), (17, 49, _), (15, 47, _), (14, 46, _), (12, 44, _), (11, 43, _), (10, 42, _), (8, 40, _), (5, 37, _), (4, 36, _), (1, 33, _)] _ [7, 6, 3, 2, 0] ((39, _) :: ([(38, _)] ++ _)) _
                  refine WAF.step (pd := [(18, 50), (17, 49), (15, 47), (14, 46), (12, 44), (11, 43), (10, 42), (8, 40), (5, 37), (4, 36), (1, 33)]) [(9, [8])] rfl kr_ kr_ (all_c rfl (all_c rfl (all_c rfl (all_c rfl (all_c rfl (all_c rfl (all_c rfl (all_c rfl (all_c rfl (all_c rfl (all_c rfl (all_n)))))))))))) (all_c (QF.mk [17] [(49, _)] rfl rfl kr_ rfl (QAt.rd Wt.none (Rd.load1 kr_ rfl mem_ (by rfl)))) (all_c (QF.mk [] [] rfl rfl kr_ rfl (QAt.y Wt.none (Yd.fieldAddr (k := 5) kr_ rfl))) (all_c (QF.mk [14] [(46, _)] rfl rfl kr_ rfl (QAt.rd Wt.none (Rd.load1 kr_ rfl mem_ (by rfl)))) (all_c (QF.mk [] [] rfl rfl kr_ rfl (QAt.y Wt.none (Yd.fieldAddr (k := 3) kr_ rfl))) (all_c (QF.mk [11] [(43, _)] rfl rfl kr_ rfl (QAt.y Wt.none (Yd.to8 _ kr_ kr_ rfl rfl))) (all_c (QF.mk [10] [(42, _)] rfl rfl kr_ rfl (QAt.rd Wt.none (Rd.load1 kr_ rfl mem_ (by rfl)))) (all_c (QF.mk [] [] rfl rfl kr_ rfl (QAt.y Wt.none (Yd.fieldAddr (k := 4) kr_ rfl))) (all_c (QF.ren (congrArg (fun q : BitVec 8 => Value.int .u8 q.toNat) (by rw [h31]; rfl)) (QF.mk [] [] rfl rfl kr_ rfl (QAt.y Wt.none (Yd.move rfl)))) (all_c (QF.mk [4] [(36, _)] rfl rfl kr_ rfl (QAt.rd Wt.none (Rd.load1 kr_ rfl mem_ (by rfl)))) (all_c (QF.mk [] [] rfl rfl kr_ rfl (QAt.y Wt.none (Yd.fieldAddr (k := 1) kr_ rfl))) (all_c (QF.mk [] [] rfl rfl kr_ rfl (QAt.y Wt.none (Yd.fieldAddr (k := 0) kr_ rfl))) (all_n)))))))))))) (all_c ?_ (all_n))
                  · change SO _ _ _ _ _ _ 9 ([(40, _)] ++ _) _ _
                    refine SO.c rfl Wt.none rfl (Ent.func Try.call51 rfl) (wU8_tells bw v4 ((putTo e ks i ++ beW (ks[i].order.setWidth 64) 4) ++ [BitVec.ofInt 8 ks[i].step]) C4 (ub ks[i].undo) ho4 (by have := putTo_len (e := e) hck i; (try simp only [List.length_append, List.length_cons, List.length_nil, beW_length]); omega)) (Sp.p sp_) ?_
                    rintro x5 H5 ⟨rfl, v5, C5, ho5, rfl⟩
                    change WAF _ _ _ _ _ _ [(18, 50, _), (17, 49, _), (15, 47, _), (14, 46, _), (12, 44, _), (11, 43, _), (10, 42, _), (5, 37, _), (4, 36, _), (1, 33, _)] _ [9, 8, 7, 6, 3, 2, 0] ((41, _) :: ([(40, _)] ++ _)) _
                    refine WAF.step (pd := [(18, 50), (17, 49), (15, 47), (14, 46), (12, 44), (11, 43), (10, 42), (5, 37), (4, 36), (1, 33)]) [(13, [12])] rfl kr_ kr_ (all_c rfl (all_c rfl (all_c rfl (all_c rfl (all_c rfl (all_c rfl (all_c rfl (all_c rfl (all_c rfl (all_c rfl (all_n))))))))))) (all_c (QF.mk [17] [(49, _)] rfl rfl kr_ rfl (QAt.rd Wt.none (Rd.load1 kr_ rfl mem_ (by rfl)))) (all_c (QF.mk [] [] rfl rfl kr_ rfl (QAt.y Wt.none (Yd.fieldAddr (k := 5) kr_ rfl))) (all_c (QF.mk [14] [(46, _)] rfl rfl kr_ rfl (QAt.rd Wt.none (Rd.load1 kr_ rfl mem_ (by rfl)))) (all_c (QF.mk [] [] rfl rfl kr_ rfl (QAt.y Wt.none (Yd.fieldAddr (k := 3) kr_ rfl))) (all_c (QF.mk [11] [(43, _)] rfl rfl kr_ rfl (QAt.y Wt.none (Yd.to8 _ kr_ kr_ rfl rfl))) (all_c (QF.mk [10] [(42, _)] rfl rfl kr_ rfl (QAt.rd Wt.none (Rd.load1 kr_ rfl mem_ (by rfl)))) (all_c (QF.mk [] [] rfl rfl kr_ rfl (QAt.y Wt.none (Yd.fieldAddr (k := 4) kr_ rfl))) (all_c (QF.mk [4] [(36, _)] rfl rfl kr_ rfl (QAt.rd Wt.none (Rd.load1 kr_ rfl mem_ (by rfl)))) (all_c (QF.mk [] [] rfl rfl kr_ rfl (QAt.y Wt.none (Yd.fieldAddr (k := 1) kr_ rfl))) (all_c (QF.mk [] [] rfl rfl kr_ rfl (QAt.y Wt.none (Yd.fieldAddr (k := 0) kr_ rfl))) (all_n))))))))))) (all_c ?_ (all_n))
                    · change SO _ _ _ _ _ _ 13 ([(44, _)] ++ _) _ _
                      refine SO.c rfl Wt.none rfl (Ent.func Try.call51 rfl) (wU8_tells bw v5 (((putTo e ks i ++ beW (ks[i].order.setWidth 64) 4) ++ [BitVec.ofInt 8 ks[i].step]) ++ [ub ks[i].undo]) C5 (BitVec.ofInt 8 ks[i].code) ho5 (by have := putTo_len (e := e) hck i; (try simp only [List.length_append, List.length_cons, List.length_nil, beW_length]); omega)) (Sp.p sp_) ?_
                      rintro x6 H6 ⟨rfl, v6, C6, ho6, rfl⟩
                      change WAF _ _ _ _ _ _ [(18, 50, _), (17, 49, _), (15, 47, _), (14, 46, _), (11, 43, _), (10, 42, _), (5, 37, _), (4, 36, _), (1, 33, _)] _ [13, 12, 9, 8, 7, 6, 3, 2, 0] ((45, _) :: ([(44, _)] ++ _)) _
                      refine WAF.step (pd := [(18, 50), (17, 49), (15, 47), (14, 46), (11, 43), (10, 42), (5, 37), (4, 36), (1, 33)]) [(16, [15])] rfl kr_ kr_ (all_c rfl (all_c rfl (all_c rfl (all_c rfl (all_c rfl (all_c rfl (all_c rfl (all_c rfl (all_c rfl (all_n)))))))))) (all_c (QF.mk [17] [(49, _)] rfl rfl kr_ rfl (QAt.rd Wt.none (Rd.load1 kr_ rfl mem_ (by rfl)))) (all_c (QF.mk [] [] rfl rfl kr_ rfl (QAt.y Wt.none (Yd.fieldAddr (k := 5) kr_ rfl))) (all_c (QF.mk [14] [(46, _)] rfl rfl kr_ rfl (QAt.rd Wt.none (Rd.load1 kr_ rfl mem_ (by rfl)))) (all_c (QF.mk [] [] rfl rfl kr_ rfl (QAt.y Wt.none (Yd.fieldAddr (k := 3) kr_ rfl))) (all_c (QF.mk [10] [(42, _)] rfl rfl kr_ rfl (QAt.rd Wt.none (Rd.load1 kr_ rfl mem_ (by rfl)))) (all_c (QF.mk [] [] rfl rfl kr_ rfl (QAt.y Wt.none (Yd.fieldAddr (k := 4) kr_ rfl))) (all_c (QF.mk [4] [(36, _)] rfl rfl kr_ rfl (QAt.rd Wt.none (Rd.load1 kr_ rfl mem_ (by rfl)))) (all_c (QF.mk [] [] rfl rfl kr_ rfl (QAt.y Wt.none (Yd.fieldAddr (k := 1) kr_ rfl))) (all_c (QF.mk [] [] rfl rfl kr_ rfl (QAt.y Wt.none (Yd.fieldAddr (k := 0) kr_ rfl))) (all_n)))))))))) (all_c ?_ (all_n))
                      · change SO _ _ _ _ _ _ 16 ([(47, _)] ++ _) _ _
                        refine SO.c rfl Wt.none rfl (Ent.func Try.call52 rfl) (wText_tells bw v6 ((((putTo e ks i ++ beW (ks[i].order.setWidth 64) 4) ++ [BitVec.ofInt 8 ks[i].step]) ++ [ub ks[i].undo]) ++ [BitVec.ofInt 8 ks[i].code]) C6 H _ ks[i].asked hva hra ho6 (by have := putTo_len (e := e) hck i; (try simp only [List.length_append, List.length_cons, List.length_nil, beW_length]); omega)) (Sp.p sp_) ?_
                        rintro x7 H7 ⟨rfl, v7, C7, ho7, rfl⟩
                        change WAF _ _ _ _ _ _ [(18, 50, _), (17, 49, _), (14, 46, _), (11, 43, _), (10, 42, _), (5, 37, _), (4, 36, _), (1, 33, _)] _ [16, 15, 13, 12, 9, 8, 7, 6, 3, 2, 0] ((48, _) :: ([(47, _)] ++ _)) _
                        refine WAF.step (pd := [(18, 50), (17, 49), (14, 46), (11, 43), (10, 42), (5, 37), (4, 36), (1, 33)]) [(19, [18])] rfl kr_ kr_ (all_c rfl (all_c rfl (all_c rfl (all_c rfl (all_c rfl (all_c rfl (all_c rfl (all_c rfl (all_n))))))))) (all_c (QF.mk [17] [(49, _)] rfl rfl kr_ rfl (QAt.rd Wt.none (Rd.load1 kr_ rfl mem_ (by rfl)))) (all_c (QF.mk [] [] rfl rfl kr_ rfl (QAt.y Wt.none (Yd.fieldAddr (k := 5) kr_ rfl))) (all_c (QF.mk [] [] rfl rfl kr_ rfl (QAt.y Wt.none (Yd.fieldAddr (k := 3) kr_ rfl))) (all_c (QF.mk [10] [(42, _)] rfl rfl kr_ rfl (QAt.rd Wt.none (Rd.load1 kr_ rfl mem_ (by rfl)))) (all_c (QF.mk [] [] rfl rfl kr_ rfl (QAt.y Wt.none (Yd.fieldAddr (k := 4) kr_ rfl))) (all_c (QF.mk [4] [(36, _)] rfl rfl kr_ rfl (QAt.rd Wt.none (Rd.load1 kr_ rfl mem_ (by rfl)))) (all_c (QF.mk [] [] rfl rfl kr_ rfl (QAt.y Wt.none (Yd.fieldAddr (k := 1) kr_ rfl))) (all_c (QF.mk [] [] rfl rfl kr_ rfl (QAt.y Wt.none (Yd.fieldAddr (k := 0) kr_ rfl))) (all_n))))))))) (all_c ?_ (all_n))
                        · change SO _ _ _ _ _ _ 19 ([(50, _)] ++ _) _ _
                          refine SO.c rfl Wt.none rfl (Ent.func Try.call52 rfl) (wText_tells bw v7 (((((putTo e ks i ++ beW (ks[i].order.setWidth 64) 4) ++ [BitVec.ofInt 8 ks[i].step]) ++ [ub ks[i].undo]) ++ [BitVec.ofInt 8 ks[i].code]) ++ tb ks[i].asked) C7 H _ ks[i].reply hvr hrr ho7 (by have := putTo_len (e := e) hck i; simp only [List.length_append, List.length_cons, List.length_nil, beW_length, tb]; omega)) (Sp.p sp_) ?_
                          rintro x8 H8 ⟨rfl, v8, C8, ho8, rfl⟩
                          change WAF _ _ _ _ _ _ [(17, 49, _), (14, 46, _), (11, 43, _), (10, 42, _), (5, 37, _), (4, 36, _), (1, 33, _)] _ [19, 18, 16, 15, 13, 12, 9, 8, 7, 6, 3, 2, 0] ((51, _) :: ([(50, _)] ++ _)) _
                          refine WAF.done (pd := [(17, 49), (14, 46), (11, 43), (10, 42), (5, 37), (4, 36), (1, 33)]) rfl kr_ kr_ (all_c rfl (all_c rfl (all_c rfl (all_c rfl (all_c rfl (all_c rfl (all_c rfl (all_n)))))))) (all_c (QF.mk [] [] rfl rfl kr_ rfl (QAt.y Wt.none (Yd.fieldAddr (k := 5) kr_ rfl))) (all_c (QF.mk [] [] rfl rfl kr_ rfl (QAt.y Wt.none (Yd.fieldAddr (k := 3) kr_ rfl))) (all_c (QF.mk [10] [(42, _)] rfl rfl kr_ rfl (QAt.rd Wt.none (Rd.load1 kr_ rfl mem_ (by rfl)))) (all_c (QF.mk [] [] rfl rfl kr_ rfl (QAt.y Wt.none (Yd.fieldAddr (k := 4) kr_ rfl))) (all_c (QF.mk [4] [(36, _)] rfl rfl kr_ rfl (QAt.rd Wt.none (Rd.load1 kr_ rfl mem_ (by rfl)))) (all_c (QF.mk [] [] rfl rfl kr_ rfl (QAt.y Wt.none (Yd.fieldAddr (k := 1) kr_ rfl))) (all_c (QF.mk [] [] rfl rfl kr_ rfl (QAt.y Wt.none (Yd.fieldAddr (k := 0) kr_ rfl))) (all_n)))))))) ?_
                          change DN _ _ _ _ _ _ ([(49, _), (46, _), (43, _), (42, _), (37, _), (36, _), (33, _)] ++ _) _
                          refine DN.block_normal ?_
                          refine DN.then_normal ?_
                          refine WC.region ?_
                          refine WL.y rfl (Yd.add rfl rfl (by omega) (by omega)) ?_
                          refine WL.y rfl (Yd.move rfl) ?_
                          refine WL.nil ?_
                          exact DN.againS (⟨i + 1, v8, C8⟩) (show (i + 1) ≤ ks.length ∧ Ob 5 v8 (putTo e ks (i + 1)) C8 from ⟨by omega, by rw [putTo_next hlt, kb_app]; exact ho8⟩) (show ks.length - (i + 1) < ks.length - i by omega) (Sx.put rfl (sx_)) sp_
            · refine WC.skip ?_
              refine DN.then_normal ?_
              refine WC.draw 20 kr_ rfl ?_
              refine WA.float (N := 20) rfl ?_
              refine WAF.add (i := 0) (d := 32) rfl (QF.mk [] [] rfl rfl kr_ rfl (QAt.y Wt.none (Yd.move rfl))) ?_
              refine WAF.add (i := 1) (d := 33) rfl (QF.mk [] [] rfl rfl kr_ rfl (QAt.y Wt.none (Yd.fieldAddr (k := 0) kr_ rfl))) ?_
              refine WAF.add (i := 2) (d := 34) rfl (QF.mk [1] [(33, _)] rfl rfl kr_ rfl (QAt.rd Wt.none (Rd.load1 kr_ rfl mem_ (by rfl)))) ?_
              refine WAF.add (i := 4) (d := 36) rfl (QF.mk [] [] rfl rfl kr_ rfl (QAt.y Wt.none (Yd.fieldAddr (k := 1) kr_ rfl))) ?_
              refine WAF.add (i := 5) (d := 37) rfl (QF.mk [4] [(36, _)] rfl rfl kr_ rfl (QAt.rd Wt.none (Rd.load1 kr_ rfl mem_ (by rfl)))) ?_
              refine WAF.add (i := 6) (d := 38) rfl (QF.mk [5] [(37, _)] rfl rfl kr_ rfl (QAt.y Wt.none (Yd.to8 _ kr_ kr_ rfl rfl))) ?_
              refine WAF.add (i := 8) (d := 40) rfl (QF.mk [] [] rfl rfl kr_ rfl (QAt.y Wt.none (Yd.move rfl))) ?_
              refine WAF.ren (v := .int .u8 (ub ks[i].undo).toNat) (congrArg (fun q : BitVec 8 => Value.int .u8 q.toNat) (by rw [h31]; rfl)) ?_
              refine WAF.add (i := 10) (d := 42) rfl (QF.mk [] [] rfl rfl kr_ rfl (QAt.y Wt.none (Yd.fieldAddr (k := 4) kr_ rfl))) ?_
              refine WAF.add (i := 11) (d := 43) rfl (QF.mk [10] [(42, _)] rfl rfl kr_ rfl (QAt.rd Wt.none (Rd.load1 kr_ rfl mem_ (by rfl)))) ?_
              refine WAF.add (i := 12) (d := 44) rfl (QF.mk [11] [(43, _)] rfl rfl kr_ rfl (QAt.y Wt.none (Yd.to8 _ kr_ kr_ rfl rfl))) ?_
              refine WAF.add (i := 14) (d := 46) rfl (QF.mk [] [] rfl rfl kr_ rfl (QAt.y Wt.none (Yd.fieldAddr (k := 3) kr_ rfl))) ?_
              refine WAF.add (i := 15) (d := 47) rfl (QF.mk [14] [(46, _)] rfl rfl kr_ rfl (QAt.rd Wt.none (Rd.load1 kr_ rfl mem_ (by rfl)))) ?_
              refine WAF.add (i := 17) (d := 49) rfl (QF.mk [] [] rfl rfl kr_ rfl (QAt.y Wt.none (Yd.fieldAddr (k := 5) kr_ rfl))) ?_
              refine WAF.add (i := 18) (d := 50) rfl (QF.mk [17] [(49, _)] rfl rfl kr_ rfl (QAt.rd Wt.none (Rd.load1 kr_ rfl mem_ (by rfl)))) ?_
              refine WAF.step (pd := [(18, 50), (17, 49), (15, 47), (14, 46), (12, 44), (11, 43), (10, 42), (8, 40), (6, 38), (5, 37), (4, 36), (2, 34), (1, 33), (0, 32)]) [(3, [2, 0])] rfl kr_ kr_ (all_c rfl (all_c rfl (all_c rfl (all_c rfl (all_c rfl (all_c rfl (all_c rfl (all_c rfl (all_c rfl (all_c rfl (all_c rfl (all_c rfl (all_c rfl (all_c rfl (all_n))))))))))))))) (all_c (QF.mk [17] [(49, _)] rfl rfl kr_ rfl (QAt.rd Wt.none (Rd.load1 kr_ rfl mem_ (by rfl)))) (all_c (QF.mk [] [] rfl rfl kr_ rfl (QAt.y Wt.none (Yd.fieldAddr (k := 5) kr_ rfl))) (all_c (QF.mk [14] [(46, _)] rfl rfl kr_ rfl (QAt.rd Wt.none (Rd.load1 kr_ rfl mem_ (by rfl)))) (all_c (QF.mk [] [] rfl rfl kr_ rfl (QAt.y Wt.none (Yd.fieldAddr (k := 3) kr_ rfl))) (all_c (QF.mk [11] [(43, _)] rfl rfl kr_ rfl (QAt.y Wt.none (Yd.to8 _ kr_ kr_ rfl rfl))) (all_c (QF.mk [10] [(42, _)] rfl rfl kr_ rfl (QAt.rd Wt.none (Rd.load1 kr_ rfl mem_ (by rfl)))) (all_c (QF.mk [] [] rfl rfl kr_ rfl (QAt.y Wt.none (Yd.fieldAddr (k := 4) kr_ rfl))) (all_c (QF.ren (congrArg (fun q : BitVec 8 => Value.int .u8 q.toNat) (by rw [h31]; rfl)) (QF.mk [] [] rfl rfl kr_ rfl (QAt.y Wt.none (Yd.move rfl)))) (all_c (QF.mk [5] [(37, _)] rfl rfl kr_ rfl (QAt.y Wt.none (Yd.to8 _ kr_ kr_ rfl rfl))) (all_c (QF.mk [4] [(36, _)] rfl rfl kr_ rfl (QAt.rd Wt.none (Rd.load1 kr_ rfl mem_ (by rfl)))) (all_c (QF.mk [] [] rfl rfl kr_ rfl (QAt.y Wt.none (Yd.fieldAddr (k := 1) kr_ rfl))) (all_c (QF.mk [1] [(33, _)] rfl rfl kr_ rfl (QAt.rd Wt.none (Rd.load1 kr_ rfl mem_ (by rfl)))) (all_c (QF.mk [] [] rfl rfl kr_ rfl (QAt.y Wt.none (Yd.fieldAddr (k := 0) kr_ rfl))) (all_c (QF.mk [] [] rfl rfl kr_ rfl (QAt.y Wt.none (Yd.move rfl))) (all_n))))))))))))))) (all_c ?_ (all_n))
              · change SO _ _ _ _ _ _ 3 ([(34, _), (32, _)] ++ _) _ _
                refine SO.c rfl Wt.none rfl (Ent.func Try.call50 rfl) (wU32_tells bw v (putTo e ks i) C ks[i].order ho (by have := putTo_len (e := e) hck i; (try simp only [List.length_append, List.length_cons, List.length_nil, beW_length]); omega)) (Sp.p sp_) ?_
                rintro x3 H3 ⟨rfl, v3, C3, ho3, rfl⟩
                change WAF _ _ _ _ _ _ [(18, 50, _), (17, 49, _), (15, 47, _), (14, 46, _), (12, 44, _), (11, 43, _), (10, 42, _), (8, 40, _), (6, 38, _), (5, 37, _), (4, 36, _), (1, 33, _)] _ [3, 2, 0] ((35, _) :: ([(34, _), (32, _)] ++ _)) _
                refine WAF.step (pd := [(18, 50), (17, 49), (15, 47), (14, 46), (12, 44), (11, 43), (10, 42), (8, 40), (6, 38), (5, 37), (4, 36), (1, 33)]) [(7, [6])] rfl kr_ kr_ (all_c rfl (all_c rfl (all_c rfl (all_c rfl (all_c rfl (all_c rfl (all_c rfl (all_c rfl (all_c rfl (all_c rfl (all_c rfl (all_c rfl (all_n))))))))))))) (all_c (QF.mk [17] [(49, _)] rfl rfl kr_ rfl (QAt.rd Wt.none (Rd.load1 kr_ rfl mem_ (by rfl)))) (all_c (QF.mk [] [] rfl rfl kr_ rfl (QAt.y Wt.none (Yd.fieldAddr (k := 5) kr_ rfl))) (all_c (QF.mk [14] [(46, _)] rfl rfl kr_ rfl (QAt.rd Wt.none (Rd.load1 kr_ rfl mem_ (by rfl)))) (all_c (QF.mk [] [] rfl rfl kr_ rfl (QAt.y Wt.none (Yd.fieldAddr (k := 3) kr_ rfl))) (all_c (QF.mk [11] [(43, _)] rfl rfl kr_ rfl (QAt.y Wt.none (Yd.to8 _ kr_ kr_ rfl rfl))) (all_c (QF.mk [10] [(42, _)] rfl rfl kr_ rfl (QAt.rd Wt.none (Rd.load1 kr_ rfl mem_ (by rfl)))) (all_c (QF.mk [] [] rfl rfl kr_ rfl (QAt.y Wt.none (Yd.fieldAddr (k := 4) kr_ rfl))) (all_c (QF.ren (congrArg (fun q : BitVec 8 => Value.int .u8 q.toNat) (by rw [h31]; rfl)) (QF.mk [] [] rfl rfl kr_ rfl (QAt.y Wt.none (Yd.move rfl)))) (all_c (QF.mk [5] [(37, _)] rfl rfl kr_ rfl (QAt.y Wt.none (Yd.to8 _ kr_ kr_ rfl rfl))) (all_c (QF.mk [4] [(36, _)] rfl rfl kr_ rfl (QAt.rd Wt.none (Rd.load1 kr_ rfl mem_ (by rfl)))) (all_c (QF.mk [] [] rfl rfl kr_ rfl (QAt.y Wt.none (Yd.fieldAddr (k := 1) kr_ rfl))) (all_c (QF.mk [] [] rfl rfl kr_ rfl (QAt.y Wt.none (Yd.fieldAddr (k := 0) kr_ rfl))) (all_n))))))))))))) (all_c ?_ (all_n))
                · change SO _ _ _ _ _ _ 7 ([(38, _)] ++ _) _ _
                  refine SO.c rfl Wt.none rfl (Ent.func Try.call51 rfl) (wU8_tells bw v3 (putTo e ks i ++ beW (ks[i].order.setWidth 64) 4) C3 (BitVec.ofInt 8 ks[i].step) ho3 (by have := putTo_len (e := e) hck i; (try simp only [List.length_append, List.length_cons, List.length_nil, beW_length]); omega)) (Sp.p sp_) ?_
                  rintro x4 H4 ⟨rfl, v4, C4, ho4, rfl⟩
                  change WAF _ _ _ _ _ _ [(18, 50, _), (17, 49, _), (15, 47, _), (14, 46, _), (12, 44, _), (11, 43, _), (10, 42, _), (8, 40, _), (5, 37, _), (4, 36, _), (1, 33, _)] _ [7, 6, 3, 2, 0] ((39, _) :: ([(38, _)] ++ _)) _
                  refine WAF.step (pd := [(18, 50), (17, 49), (15, 47), (14, 46), (12, 44), (11, 43), (10, 42), (8, 40), (5, 37), (4, 36), (1, 33)]) [(9, [8])] rfl kr_ kr_ (all_c rfl (all_c rfl (all_c rfl (all_c rfl (all_c rfl (all_c rfl (all_c rfl (all_c rfl (all_c rfl (all_c rfl (all_c rfl (all_n)))))))))))) (all_c (QF.mk [17] [(49, _)] rfl rfl kr_ rfl (QAt.rd Wt.none (Rd.load1 kr_ rfl mem_ (by rfl)))) (all_c (QF.mk [] [] rfl rfl kr_ rfl (QAt.y Wt.none (Yd.fieldAddr (k := 5) kr_ rfl))) (all_c (QF.mk [14] [(46, _)] rfl rfl kr_ rfl (QAt.rd Wt.none (Rd.load1 kr_ rfl mem_ (by rfl)))) (all_c (QF.mk [] [] rfl rfl kr_ rfl (QAt.y Wt.none (Yd.fieldAddr (k := 3) kr_ rfl))) (all_c (QF.mk [11] [(43, _)] rfl rfl kr_ rfl (QAt.y Wt.none (Yd.to8 _ kr_ kr_ rfl rfl))) (all_c (QF.mk [10] [(42, _)] rfl rfl kr_ rfl (QAt.rd Wt.none (Rd.load1 kr_ rfl mem_ (by rfl)))) (all_c (QF.mk [] [] rfl rfl kr_ rfl (QAt.y Wt.none (Yd.fieldAddr (k := 4) kr_ rfl))) (all_c (QF.ren (congrArg (fun q : BitVec 8 => Value.int .u8 q.toNat) (by rw [h31]; rfl)) (QF.mk [] [] rfl rfl kr_ rfl (QAt.y Wt.none (Yd.move rfl)))) (all_c (QF.mk [4] [(36, _)] rfl rfl kr_ rfl (QAt.rd Wt.none (Rd.load1 kr_ rfl mem_ (by rfl)))) (all_c (QF.mk [] [] rfl rfl kr_ rfl (QAt.y Wt.none (Yd.fieldAddr (k := 1) kr_ rfl))) (all_c (QF.mk [] [] rfl rfl kr_ rfl (QAt.y Wt.none (Yd.fieldAddr (k := 0) kr_ rfl))) (all_n)))))))))))) (all_c ?_ (all_n))
                  · change SO _ _ _ _ _ _ 9 ([(40, _)] ++ _) _ _
                    refine SO.c rfl Wt.none rfl (Ent.func Try.call51 rfl) (wU8_tells bw v4 ((putTo e ks i ++ beW (ks[i].order.setWidth 64) 4) ++ [BitVec.ofInt 8 ks[i].step]) C4 (ub ks[i].undo) ho4 (by have := putTo_len (e := e) hck i; (try simp only [List.length_append, List.length_cons, List.length_nil, beW_length]); omega)) (Sp.p sp_) ?_
                    rintro x5 H5 ⟨rfl, v5, C5, ho5, rfl⟩
                    change WAF _ _ _ _ _ _ [(18, 50, _), (17, 49, _), (15, 47, _), (14, 46, _), (12, 44, _), (11, 43, _), (10, 42, _), (5, 37, _), (4, 36, _), (1, 33, _)] _ [9, 8, 7, 6, 3, 2, 0] ((41, _) :: ([(40, _)] ++ _)) _
                    refine WAF.step (pd := [(18, 50), (17, 49), (15, 47), (14, 46), (12, 44), (11, 43), (10, 42), (5, 37), (4, 36), (1, 33)]) [(13, [12])] rfl kr_ kr_ (all_c rfl (all_c rfl (all_c rfl (all_c rfl (all_c rfl (all_c rfl (all_c rfl (all_c rfl (all_c rfl (all_c rfl (all_n))))))))))) (all_c (QF.mk [17] [(49, _)] rfl rfl kr_ rfl (QAt.rd Wt.none (Rd.load1 kr_ rfl mem_ (by rfl)))) (all_c (QF.mk [] [] rfl rfl kr_ rfl (QAt.y Wt.none (Yd.fieldAddr (k := 5) kr_ rfl))) (all_c (QF.mk [14] [(46, _)] rfl rfl kr_ rfl (QAt.rd Wt.none (Rd.load1 kr_ rfl mem_ (by rfl)))) (all_c (QF.mk [] [] rfl rfl kr_ rfl (QAt.y Wt.none (Yd.fieldAddr (k := 3) kr_ rfl))) (all_c (QF.mk [11] [(43, _)] rfl rfl kr_ rfl (QAt.y Wt.none (Yd.to8 _ kr_ kr_ rfl rfl))) (all_c (QF.mk [10] [(42, _)] rfl rfl kr_ rfl (QAt.rd Wt.none (Rd.load1 kr_ rfl mem_ (by rfl)))) (all_c (QF.mk [] [] rfl rfl kr_ rfl (QAt.y Wt.none (Yd.fieldAddr (k := 4) kr_ rfl))) (all_c (QF.mk [4] [(36, _)] rfl rfl kr_ rfl (QAt.rd Wt.none (Rd.load1 kr_ rfl mem_ (by rfl)))) (all_c (QF.mk [] [] rfl rfl kr_ rfl (QAt.y Wt.none (Yd.fieldAddr (k := 1) kr_ rfl))) (all_c (QF.mk [] [] rfl rfl kr_ rfl (QAt.y Wt.none (Yd.fieldAddr (k := 0) kr_ rfl))) (all_n))))))))))) (all_c ?_ (all_n))
                    · change SO _ _ _ _ _ _ 13 ([(44, _)] ++ _) _ _
                      refine SO.c rfl Wt.none rfl (Ent.func Try.call51 rfl) (wU8_tells bw v5 (((putTo e ks i ++ beW (ks[i].order.setWidth 64) 4) ++ [BitVec.ofInt 8 ks[i].step]) ++ [ub ks[i].undo]) C5 (BitVec.ofInt 8 ks[i].code) ho5 (by have := putTo_len (e := e) hck i; (try simp only [List.length_append, List.length_cons, List.length_nil, beW_length]); omega)) (Sp.p sp_) ?_
                      rintro x6 H6 ⟨rfl, v6, C6, ho6, rfl⟩
                      change WAF _ _ _ _ _ _ [(18, 50, _), (17, 49, _), (15, 47, _), (14, 46, _), (11, 43, _), (10, 42, _), (5, 37, _), (4, 36, _), (1, 33, _)] _ [13, 12, 9, 8, 7, 6, 3, 2, 0] ((45, _) :: ([(44, _)] ++ _)) _
                      refine WAF.step (pd := [(18, 50), (17, 49), (15, 47), (14, 46), (11, 43), (10, 42), (5, 37), (4, 36), (1, 33)]) [(16, [15])] rfl kr_ kr_ (all_c rfl (all_c rfl (all_c rfl (all_c rfl (all_c rfl (all_c rfl (all_c rfl (all_c rfl (all_c rfl (all_n)))))))))) (all_c (QF.mk [17] [(49, _)] rfl rfl kr_ rfl (QAt.rd Wt.none (Rd.load1 kr_ rfl mem_ (by rfl)))) (all_c (QF.mk [] [] rfl rfl kr_ rfl (QAt.y Wt.none (Yd.fieldAddr (k := 5) kr_ rfl))) (all_c (QF.mk [14] [(46, _)] rfl rfl kr_ rfl (QAt.rd Wt.none (Rd.load1 kr_ rfl mem_ (by rfl)))) (all_c (QF.mk [] [] rfl rfl kr_ rfl (QAt.y Wt.none (Yd.fieldAddr (k := 3) kr_ rfl))) (all_c (QF.mk [10] [(42, _)] rfl rfl kr_ rfl (QAt.rd Wt.none (Rd.load1 kr_ rfl mem_ (by rfl)))) (all_c (QF.mk [] [] rfl rfl kr_ rfl (QAt.y Wt.none (Yd.fieldAddr (k := 4) kr_ rfl))) (all_c (QF.mk [4] [(36, _)] rfl rfl kr_ rfl (QAt.rd Wt.none (Rd.load1 kr_ rfl mem_ (by rfl)))) (all_c (QF.mk [] [] rfl rfl kr_ rfl (QAt.y Wt.none (Yd.fieldAddr (k := 1) kr_ rfl))) (all_c (QF.mk [] [] rfl rfl kr_ rfl (QAt.y Wt.none (Yd.fieldAddr (k := 0) kr_ rfl))) (all_n)))))))))) (all_c ?_ (all_n))
                      · change SO _ _ _ _ _ _ 16 ([(47, _)] ++ _) _ _
                        refine SO.c rfl Wt.none rfl (Ent.func Try.call52 rfl) (wText_tells bw v6 ((((putTo e ks i ++ beW (ks[i].order.setWidth 64) 4) ++ [BitVec.ofInt 8 ks[i].step]) ++ [ub ks[i].undo]) ++ [BitVec.ofInt 8 ks[i].code]) C6 H _ ks[i].asked hva hra ho6 (by have := putTo_len (e := e) hck i; (try simp only [List.length_append, List.length_cons, List.length_nil, beW_length]); omega)) (Sp.p sp_) ?_
                        rintro x7 H7 ⟨rfl, v7, C7, ho7, rfl⟩
                        change WAF _ _ _ _ _ _ [(18, 50, _), (17, 49, _), (14, 46, _), (11, 43, _), (10, 42, _), (5, 37, _), (4, 36, _), (1, 33, _)] _ [16, 15, 13, 12, 9, 8, 7, 6, 3, 2, 0] ((48, _) :: ([(47, _)] ++ _)) _
                        refine WAF.step (pd := [(18, 50), (17, 49), (14, 46), (11, 43), (10, 42), (5, 37), (4, 36), (1, 33)]) [(19, [18])] rfl kr_ kr_ (all_c rfl (all_c rfl (all_c rfl (all_c rfl (all_c rfl (all_c rfl (all_c rfl (all_c rfl (all_n))))))))) (all_c (QF.mk [17] [(49, _)] rfl rfl kr_ rfl (QAt.rd Wt.none (Rd.load1 kr_ rfl mem_ (by rfl)))) (all_c (QF.mk [] [] rfl rfl kr_ rfl (QAt.y Wt.none (Yd.fieldAddr (k := 5) kr_ rfl))) (all_c (QF.mk [] [] rfl rfl kr_ rfl (QAt.y Wt.none (Yd.fieldAddr (k := 3) kr_ rfl))) (all_c (QF.mk [10] [(42, _)] rfl rfl kr_ rfl (QAt.rd Wt.none (Rd.load1 kr_ rfl mem_ (by rfl)))) (all_c (QF.mk [] [] rfl rfl kr_ rfl (QAt.y Wt.none (Yd.fieldAddr (k := 4) kr_ rfl))) (all_c (QF.mk [4] [(36, _)] rfl rfl kr_ rfl (QAt.rd Wt.none (Rd.load1 kr_ rfl mem_ (by rfl)))) (all_c (QF.mk [] [] rfl rfl kr_ rfl (QAt.y Wt.none (Yd.fieldAddr (k := 1) kr_ rfl))) (all_c (QF.mk [] [] rfl rfl kr_ rfl (QAt.y Wt.none (Yd.fieldAddr (k := 0) kr_ rfl))) (all_n))))))))) (all_c ?_ (all_n))
                        · change SO _ _ _ _ _ _ 19 ([(50, _)] ++ _) _ _
                          refine SO.c rfl Wt.none rfl (Ent.func Try.call52 rfl) (wText_tells bw v7 (((((putTo e ks i ++ beW (ks[i].order.setWidth 64) 4) ++ [BitVec.ofInt 8 ks[i].step]) ++ [ub ks[i].undo]) ++ [BitVec.ofInt 8 ks[i].code]) ++ tb ks[i].asked) C7 H _ ks[i].reply hvr hrr ho7 (by have := putTo_len (e := e) hck i; simp only [List.length_append, List.length_cons, List.length_nil, beW_length, tb]; omega)) (Sp.p sp_) ?_
                          rintro x8 H8 ⟨rfl, v8, C8, ho8, rfl⟩
                          change WAF _ _ _ _ _ _ [(17, 49, _), (14, 46, _), (11, 43, _), (10, 42, _), (5, 37, _), (4, 36, _), (1, 33, _)] _ [19, 18, 16, 15, 13, 12, 9, 8, 7, 6, 3, 2, 0] ((51, _) :: ([(50, _)] ++ _)) _
                          refine WAF.done (pd := [(17, 49), (14, 46), (11, 43), (10, 42), (5, 37), (4, 36), (1, 33)]) rfl kr_ kr_ (all_c rfl (all_c rfl (all_c rfl (all_c rfl (all_c rfl (all_c rfl (all_c rfl (all_n)))))))) (all_c (QF.mk [] [] rfl rfl kr_ rfl (QAt.y Wt.none (Yd.fieldAddr (k := 5) kr_ rfl))) (all_c (QF.mk [] [] rfl rfl kr_ rfl (QAt.y Wt.none (Yd.fieldAddr (k := 3) kr_ rfl))) (all_c (QF.mk [10] [(42, _)] rfl rfl kr_ rfl (QAt.rd Wt.none (Rd.load1 kr_ rfl mem_ (by rfl)))) (all_c (QF.mk [] [] rfl rfl kr_ rfl (QAt.y Wt.none (Yd.fieldAddr (k := 4) kr_ rfl))) (all_c (QF.mk [4] [(36, _)] rfl rfl kr_ rfl (QAt.rd Wt.none (Rd.load1 kr_ rfl mem_ (by rfl)))) (all_c (QF.mk [] [] rfl rfl kr_ rfl (QAt.y Wt.none (Yd.fieldAddr (k := 1) kr_ rfl))) (all_c (QF.mk [] [] rfl rfl kr_ rfl (QAt.y Wt.none (Yd.fieldAddr (k := 0) kr_ rfl))) (all_n)))))))) ?_
                          change DN _ _ _ _ _ _ ([(49, _), (46, _), (43, _), (42, _), (37, _), (36, _), (33, _)] ++ _) _
                          refine DN.block_normal ?_
                          refine DN.then_normal ?_
                          refine WC.region ?_
                          refine WL.y rfl (Yd.add rfl rfl (by omega) (by omega)) ?_
                          refine WL.y rfl (Yd.move rfl) ?_
                          refine WL.nil ?_
                          exact DN.againS (⟨i + 1, v8, C8⟩) (show (i + 1) ≤ ks.length ∧ Ob 5 v8 (putTo e ks (i + 1)) C8 from ⟨by omega, by rw [putTo_next hlt, kb_app]; exact ho8⟩) (show ks.length - (i + 1) < ks.length - i by omega) (Sx.put rfl (sx_)) sp_
          · obtain rfl : i = ks.length := by omega
            rw [putTo_all] at ho
            have hpl : (putB e ks).length ≤ 1000000 := by rw [← putTo_all]; have := putTo_len (e := e) hck ks.length; omega
            refine WC.exit ?_
            refine DN.then_exit ?_
            refine DN.then_exit ?_
            refine DN.block_exit ?_
            refine DN.then_normal ?_
            refine WC.seq ?_
            refine WC.region ?_
            refine WL.y rfl (Yd.move rfl) ?_
            refine WL.c rfl (Ent.func Try.call53 rfl) (wDone_tells bw v (putB e ks) C ho hpl) (Sp.p sp_) ?_
            rintro x9 H9 ⟨v9, C9, rfl, ho9, rfl⟩
            refine WL.y rfl (Yd.extract rfl rfl) ?_
            refine WL.y rfl (Yd.extract rfl rfl) ?_
            refine WL.y rfl (Yd.assign rfl) ?_
            refine WL.y rfl (Yd.assign rfl) ?_
            refine WL.nil ?_
            refine DN.then_normal ?_
            refine WC.ret ?_
            refine DN.fit (C := H9 ++ H) sp_ ?_
            refine DN.ret2 Try.results32 rfl rfl ?_
            exact ⟨v9, H9, by rw [if_pos hck]; rfl, by rw [if_pos hck]; exact ho9, rfl⟩

/-- drayage/fence.Get -/
theorem fget_tells (v : Value) (b : List (BitVec 8)) (H : List Ck) (hv : Bs v b H) (hl : b.length ≤ 900000) : Tells Try.prog 34 [v] H fun r H' => ∃ w D, r = .tuple #[.agg #[.int .u32 (getF b).1.toNat, w], .int .i64 (getF b).2.2] ∧ FAt 5 43 w (getF b).2.1 D ∧ H' = D ++ H := by
  refine Tells.enter Try.func34 rfl Try.ntmps34 rfl ?_
  intro w0 R
  have hcnt := cntB_le b
  have hql1 : (Rst.mk b false).bs.length ≤ 1000000 := by show b.length ≤ _; omega
  have hql2 := (Rst.mk b false).on_len 4
  have hql3 : ((Rst.mk b false).on 4).bs.length ≤ 1000000 := by omega
  refine WC.seq ?_
  refine WC.region ?_
  refine WL.h rfl (Hd.alloc (zs := [.int .u32 0, .slice none 0 0]) kr_ fun b2 => ⟨_, rfl, ?_⟩)
  refine WL.y rfl (Yd.assign rfl) ?_
  refine WL.nil ?_
  refine DN.then_normal ?_
  refine WC.seq ?_
  refine WC.region ?_
  refine WL.y rfl (Yd.move rfl) ?_
  refine WL.c rfl (Ent.func Try.call55 rfl) (newReader_tells _ b H hv (by omega)) (Sp.p sp_) ?_
  rintro x0 H0 ⟨br, u0, CR, rfl, hu0, rfl⟩
  refine WL.y rfl (Yd.assign rfl) ?_
  refine WL.nil ?_
  refine DN.then_normal ?_
  refine WC.seq ?_
  refine WC.region ?_
  refine WL.y rfl (Yd.move rfl) ?_
  refine WL.c rfl (Ent.func Try.call56 rfl) (rU32_tells br u0 (Rst.mk b false).bs (Rst.mk b false).sh CR hu0 hql1) (Sp.p sp_) ?_
  rintro x1 H1 ⟨u1, rfl, hu1, rfl⟩
  refine WL.y rfl (Yd.buildL (pl := [(0, 1), (1, 1)]) (zs := [.int .u32 0, .slice none 0 0]) (parts := [(0, .tmp 12)]) (vs := [(0, _)]) (cells := [_, .slice none 0 0]) kr_ kr_ rfl rfl) ?_
  refine WL.h rfl (Hd.alloc (zs := [.int .u32 0, .slice none 0 0]) kr_ fun b5 => ⟨_, rfl, ?_⟩)
  refine WL.s (Hd.storeAll (n := 2) kr_ rfl rfl (by rfl) one_ fr_ (by rfl) ⟨rfl, ?_⟩)
  refine WL.nil ?_
  refine DN.then_normal ?_
  refine WC.seq ?_
  refine WC.region ?_
  refine WL.y rfl (Yd.assign rfl) ?_
  refine WL.nil ?_
  refine DN.then_normal ?_
  refine WC.seq ?_
  refine WC.seq ?_
  refine WC.region ?_
  refine WL.y rfl (Yd.move rfl) ?_
  refine WL.c rfl (Ent.func Try.call57 rfl) (rU8_tells br u1 ((Rst.mk b false).on 4).bs ((Rst.mk b false).on 4).sh CR hu1 hql3) (Sp.p sp_) ?_
  rintro x2 H2 ⟨u2, rfl, hu2, rfl⟩
  refine WL.y rfl (Yd.move (v := .int .u8 ((0#8).toNat : Int)) rfl) ?_
  refine WL.nil ?_
  refine DN.then_normal ?_
  refine WC.block ?_
  refine WC.loopS (fun z : Nat × Value × Bool × Value × List Value × List Ck × List Ck => z.1 ≤ cntB b ∧ Bs z.2.1 (rIt z.1 (rB b)).bs CR ∧ z.2.2.1 = oddTo (rB b) z.1 ∧ Own z.2.2.2.1 z.1 z.2.2.2.2.1 43 6 z.2.2.2.2.2.1 ∧ Kts 5 z.2.2.2.2.1 (ksTo uOne (rB b) z.1) z.2.2.2.2.2.2) (fun z : Nat × Value × Bool × Value × List Value × List Ck × List Ck => [(16, .int .u8 (BitVec.ofNat 8 z.1).toNat), (6, .bool z.2.2.1)]) (fun z : Nat × Value × Bool × Value × List Value × List Ck × List Ck => row b5 [.int .u32 (epB b).toNat, z.2.2.2.1] 25 :: (z.2.2.2.2.2.1 ++ (z.2.2.2.2.2.2 ++ (row br [z.2.1, .bool (rIt z.1 (rB b)).sh] 125 :: (CR ++ (row b2 [.int .u32 0, .slice none 0 0] 25 :: H)))))) (fun z : Nat × Value × Bool × Value × List Value × List Ck × List Ck => cntB b - z.1) (⟨0, u2, false, .slice none 0 0, [], [], []⟩) (show 0 ≤ cntB b ∧ Bs u2 (rIt 0 (rB b)).bs CR ∧ false = oddTo (rB b) 0 ∧ Own (.slice none 0 0) 0 [] 43 6 [] ∧ Kts 5 [] (ksTo uOne (rB b) 0) [] from ⟨Nat.zero_le _, hu2, rfl, Own.nil _ _, .nil⟩) (Sx.put rfl (Sx.put rfl (sx_))) sp_ ?_
  rintro ⟨i, u, odd, vl, cl, Cl, Dl⟩ hI
  replace hI : i ≤ cntB b ∧ Bs u (rIt i (rB b)).bs CR ∧ odd = oddTo (rB b) i ∧ Own vl i cl 43 6 Cl ∧ Kts 5 cl (ksTo uOne (rB b) i) Dl := hI
  obtain ⟨hi, hu, hodd, hOl, hKt⟩ := hI
  change WC _ _ _ _ _ _ ([(16, .int .u8 (BitVec.ofNat 8 i).toNat), (6, .bool odd)] ++ _) (row b5 [.int .u32 (epB b).toNat, vl] 25 :: (Cl ++ (Dl ++ (row br [u, .bool (rIt i (rB b)).sh] 125 :: (CR ++ (row b2 [.int .u32 0, .slice none 0 0] 25 :: H))))))
  obtain ⟨lo, lc, rfl, hlc⟩ := hOl.form
  have hi8 : (BitVec.ofNat 8 i).toNat = i := by rw [BitVec.toNat_ofNat]; omega
  refine WC.seq ?_
  refine WC.region ?_
  refine WL.y rfl (Yd.lss rfl rfl) ?_
  refine WL.nil ?_
  refine DN.then_normal ?_
  refine WC.seq ?_
  refine WC.ite rfl (fun h17 => ?_) (fun h17 => ?_)
  · have hlt : i < cntB b := by
      have h9 : ((BitVec.ofNat 8 i).toNat : Int) < (cntB b : Nat) := h17
      omega
    have hz0 : (rIt i (rB b)).bs.length ≤ 1000000 := by have := rIt_len (rB b) i; have := rB_len b; omega
    have hz1 := Nat.le_trans ((rIt i (rB b)).on_len 4) hz0
    have hz2 := Nat.le_trans (((rIt i (rB b)).on 4).on_len 1) hz1
    have hz3 := Nat.le_trans ((((rIt i (rB b)).on 4).on 1).on_len 1) hz2
    have hz4 := Nat.le_trans (((((rIt i (rB b)).on 4).on 1).on 1).on_len 1) hz3
    have hz5 : ((((((rIt i (rB b)).on 4).on 1).on 1).on 1).onT).bs.length ≤ 1000000 := Nat.le_trans ((((((rIt i (rB b)).on 4).on 1).on 1).on 1).on_len _) hz4
    refine WC.skip ?_
    refine DN.then_normal ?_
    refine WC.seq ?_
    refine WC.block ?_
    refine WC.seq ?_
    refine WC.region ?_
    refine WL.y rfl (Yd.move rfl) ?_
    refine WL.c rfl (Ent.func Try.call56 rfl) (rU32_tells br u (rIt i (rB b)).bs (rIt i (rB b)).sh CR hu hz0) (Sp.p sp_) ?_
    rintro x3 H3 ⟨u3, rfl, hu3, rfl⟩
    refine WL.y rfl (Yd.move rfl) ?_
    refine WL.c rfl (Ent.func Try.call57 rfl) (rU8_tells br u3 ((rIt i (rB b)).on 4).bs ((rIt i (rB b)).on 4).sh CR hu3 hz1) (Sp.p sp_) ?_
    rintro x4 H4 ⟨u4, rfl, hu4, rfl⟩
    refine WL.y rfl (Yd.int8 _ kr_ kr_ rfl rfl) ?_
    refine WL.y rfl (Yd.buildL (pl := [(0, 1), (1, 1), (2, 1), (3, 1), (4, 1), (5, 1)]) (zs := [.int .u32 0, .int .i64 0, .bool false, .slice none 0 0, .int .i64 0, .slice none 0 0]) (parts := [(0, .tmp 19), (1, .tmp 22)]) (vs := [(0, _), (1, _)]) (cells := [_, _, .bool false, .slice none 0 0, .int .i64 0, .slice none 0 0]) kr_ kr_ rfl rfl) ?_
    refine WL.h rfl (Hd.alloc (zs := [.int .u32 0, .int .i64 0, .bool false, .slice none 0 0, .int .i64 0, .slice none 0 0]) kr_ fun b7 => ⟨_, rfl, ?_⟩)
    refine WL.s (Hd.storeAll (n := 6) kr_ rfl rfl (by rfl) one_ fr_ (by rfl) ⟨rfl, ?_⟩)
    refine WL.nil ?_
    refine DN.then_normal ?_
    refine WC.seq ?_
    refine WC.region ?_
    refine WL.y rfl (Yd.move rfl) ?_
    refine WL.c rfl (Ent.func Try.call57 rfl) (rU8_tells br u4 (((rIt i (rB b)).on 4).on 1).bs (((rIt i (rB b)).on 4).on 1).sh CR hu4 hz2) (Sp.p sp_) ?_
    rintro x5 H5 ⟨u5, rfl, hu5, rfl⟩
    refine WL.y rfl (Yd.assign rfl) ?_
    refine WL.nil ?_
    refine DN.then_normal ?_
    refine WC.cutK (fun z : Bool => z = (odd || decide ((unb (rIt i (rB b))).toNat > 1))) (fun z : Bool => [(6, .bool z)]) (fun z : Bool => row b7 [.int .u32 (kpOf uOne (rIt i (rB b))).order.toNat, .int .i64 (kpOf uOne (rIt i (rB b))).step, .bool (kpOf uOne (rIt i (rB b))).undo, .slice none 0 0, .int .i64 0, .slice none 0 0] 43 :: (row b5 [.int .u32 (epB b).toNat, .slice lo i lc] 25 :: (Cl ++ (Dl ++ (row br [u5, .bool ((((rIt i (rB b)).on 4).on 1).on 1).sh] 125 :: (CR ++ (row b2 [.int .u32 0, .slice none 0 0] 25 :: H))))))) ?_ ?_
    · refine WC.region ?_
      refine WL.y rfl (Yd.move rfl) ?_
      refine WL.y rfl (Yd.eql8 _ (1#8) rfl rfl rfl rfl) ?_
      refine WL.y rfl (Yd.move rfl) ?_
      refine WL.y rfl (Yd.move rfl) ?_
      refine WL.part (t := 29) rfl (fun hg29 => ?_) (fun hg29 => ?_)
      · refine WL.gn (dj := 29) rfl rfl rfl rfl ?_
        refine WL.gn (dj := 29) rfl rfl rfl rfl ?_
        refine WL.y rfl (Yd.pickT rfl rfl) ?_
        refine WL.y rfl (Yd.fieldAddr (k := 2) kr_ rfl) ?_
        refine WL.s (Hd.store1s kr_ rfl rfl (by rfl) fr_ (by rfl) (by first | (simp only [List.set_cons_zero, List.set_cons_succ, Nat.zero_add, Nat.add_zero, Nat.reduceAdd]; rfl) | rfl) ⟨rfl, ?_⟩)
        refine WL.y rfl (Yd.assign rfl) ?_
        refine WL.nil ?_
        exact DN.reachK (_) (by rw [hg29]; rfl) (Sx.put rfl (sx_)) (Sp.all sp_)
      · refine WL.gy (dj := 29) rfl rfl rfl (Yd.move rfl) ?_
        refine WL.gy (dj := 29) rfl rfl rfl (Yd.gtr rfl rfl) ?_
        refine WL.y rfl (Yd.pickF rfl rfl) ?_
        refine WL.y rfl (Yd.fieldAddr (k := 2) kr_ rfl) ?_
        refine WL.s (Hd.store1s kr_ rfl rfl (by rfl) fr_ (by rfl) (by first | (simp only [List.set_cons_zero, List.set_cons_succ, Nat.zero_add, Nat.add_zero, Nat.reduceAdd]; rfl) | rfl) ⟨rfl, ?_⟩)
        refine WL.y rfl (Yd.assign rfl) ?_
        refine WL.nil ?_
        exact DN.reachK (_) (by rw [hg29]; exact (decide_int _)) (Sx.put rfl (sx_)) (Sp.all sp_)
    · intro z6 hz6
      refine WC.seq ?_
      refine WC.region ?_
      refine WL.y rfl (Yd.move rfl) ?_
      refine WL.c rfl (Ent.func Try.call57 rfl) (rU8_tells br u5 ((((rIt i (rB b)).on 4).on 1).on 1).bs ((((rIt i (rB b)).on 4).on 1).on 1).sh CR hu5 hz3) (Sp.p sp_) ?_
      rintro x6 H6 ⟨u6, rfl, hu6, rfl⟩
      refine WL.y rfl (Yd.int8 _ kr_ kr_ rfl rfl) ?_
      refine WL.y rfl (Yd.fieldAddr (k := 4) kr_ rfl) ?_
      refine WL.s (Hd.store1s kr_ rfl rfl (by rfl) fr_ (by rfl) (by first | (simp only [List.set_cons_zero, List.set_cons_succ, Nat.zero_add, Nat.add_zero, Nat.reduceAdd]; rfl) | rfl) ⟨rfl, ?_⟩)
      refine WL.nil ?_
      refine DN.then_normal ?_
      refine WC.seq ?_
      refine WC.region ?_
      refine WL.y rfl (Yd.move rfl) ?_
      refine WL.c rfl (Ent.func Try.call58 rfl) (rText_tells br u6 (((((rIt i (rB b)).on 4).on 1).on 1).on 1).bs (((((rIt i (rB b)).on 4).on 1).on 1).on 1).sh CR hu6 hz4) (Sp.p sp_) ?_
      rintro x7 H7 ⟨u7, A7, hA7, hu7, rfl⟩
      obtain ⟨ao7, ac7, rfl, _⟩ := hA7.form
      refine WL.y rfl (Yd.fieldAddr (k := 3) kr_ rfl) ?_
      refine WL.s (Hd.store1s kr_ rfl rfl (by rfl) fr_ (by rfl) (by first | (simp only [List.set_cons_zero, List.set_cons_succ, Nat.zero_add, Nat.add_zero, Nat.reduceAdd]; rfl) | rfl) ⟨rfl, ?_⟩)
      refine WL.nil ?_
      refine DN.then_normal ?_
      refine WC.seq ?_
      refine WC.region ?_
      refine WL.y rfl (Yd.move rfl) ?_
      refine WL.c rfl (Ent.func Try.call58 rfl) (rText_tells br u7 ((((((rIt i (rB b)).on 4).on 1).on 1).on 1).onT).bs ((((((rIt i (rB b)).on 4).on 1).on 1).on 1).onT).sh CR hu7 hz5) (Sp.p sp_) ?_
      rintro x8 H8 ⟨u8, A8, hA8, hu8, rfl⟩
      obtain ⟨ao8, ac8, rfl, _⟩ := hA8.form
      refine WL.y rfl (Yd.fieldAddr (k := 5) kr_ rfl) ?_
      refine WL.s (Hd.store1s kr_ rfl rfl (by rfl) fr_ (by rfl) (by first | (simp only [List.set_cons_zero, List.set_cons_succ, Nat.zero_add, Nat.add_zero, Nat.reduceAdd]; rfl) | rfl) ⟨rfl, ?_⟩)
      refine WL.nil ?_
      refine DN.then_normal ?_
      refine WC.region ?_
      refine WL.y rfl (Yd.fieldAddr (k := 1) kr_ rfl) ?_
      refine WL.h rfl (Hd.load1 kr_ rfl mem_ (by rfl) ⟨_, rfl, ?_⟩)
      refine WL.h rfl (Hd.loadAll (n := 6) kr_ rfl mem_ (by rfl) ⟨_, rfl, ?_⟩)
      refine WL.h rfl (Hd.buildA (e := 43) (sz := 6) (zs := [.int .u32 0, .int .i64 0, .bool false, .slice none 0 0, .int .i64 0, .slice none 0 0]) kr_ kr_ kr_ rfl rfl (by rfl) kr_ fun b47 => ⟨_, rfl, ?_⟩)
      refine WL.h rfl (Hd.appendRow (e := 43) (sz := 6) (bytes := 80) (zs := [.int .u32 0, .int .i64 0, .bool false, .slice none 0 0, .int .i64 0, .slice none 0 0]) kr_ kr_ rfl (by omega) rfl rfl (hOl) sp_ mem_ (by rfl) (kc_one (k := kpOf uOne (rIt i (rB b))) (va := .slice ao7 ((((((rIt i (rB b)).on 4).on 1).on 1).on 1).text).length ac7) (vr := .slice ao8 (((((((rIt i (rB b)).on 4).on 1).on 1).on 1).onT).text).length ac8) (by rfl) (by rfl)) (by simp only [maxLen]; omega) (by omega) fun v2 C2 h2 => ⟨_, rfl, ?_⟩)
      obtain ⟨lo2, lc2, rfl, hlc2⟩ := h2.form
      refine WL.y rfl (Yd.fieldAddr (k := 1) kr_ rfl) ?_
      refine WL.s (Hd.store1s kr_ rfl rfl (by rfl) fr_ (by rfl) (by first | (simp only [List.set_cons_zero, List.set_cons_succ, Nat.zero_add, Nat.add_zero, Nat.reduceAdd]; rfl) | rfl) ⟨rfl, ?_⟩)
      refine WL.nil ?_
      refine DN.block_normal ?_
      refine DN.then_normal ?_
      refine WC.region ?_
      refine WL.y rfl (Yd.add8 _ (1#8) rfl rfl rfl rfl) ?_
      refine WL.renamed (t := 50) (v := .int .u8 (BitVec.ofNat 8 (i + 1)).toNat) rfl (congrArg (fun q : BitVec 8 => Value.int .u8 q.toNat) (by apply BitVec.eq_of_toNat_eq; simp)) ?_
      refine WL.y rfl (Yd.move rfl) ?_
      refine WL.nil ?_
      exact DN.againS (⟨i + 1, u8, z6, .slice lo2 (i + 1) lc2, cl ++ kc (kpOf uOne (rIt i (rB b))) (.slice ao7 ((((((rIt i (rB b)).on 4).on 1).on 1).on 1).text).length ac7) (.slice ao8 (((((((rIt i (rB b)).on 4).on 1).on 1).on 1).onT).text).length ac8), C2, Dl ++ (A7 ++ A8)⟩) (show (i + 1) ≤ cntB b ∧ Bs u8 (rIt (i + 1) (rB b)).bs CR ∧ z6 = oddTo (rB b) (i + 1) ∧ Own (.slice lo2 (i + 1) lc2) (i + 1) (cl ++ kc (kpOf uOne (rIt i (rB b))) (.slice ao7 ((((((rIt i (rB b)).on 4).on 1).on 1).on 1).text).length ac7) (.slice ao8 (((((((rIt i (rB b)).on 4).on 1).on 1).on 1).onT).text).length ac8)) 43 6 C2 ∧ Kts 5 (cl ++ kc (kpOf uOne (rIt i (rB b))) (.slice ao7 ((((((rIt i (rB b)).on 4).on 1).on 1).on 1).text).length ac7) (.slice ao8 (((((((rIt i (rB b)).on 4).on 1).on 1).on 1).onT).text).length ac8)) (ksTo uOne (rB b) (i + 1)) (Dl ++ (A7 ++ A8)) from ⟨by omega, hu8, by rw [oddTo_next, ← hodd]; exact hz6, h2, by rw [ksTo_next]; exact hKt.append (Kts.one' hA7 hA8)⟩) (show cntB b - (i + 1) < cntB b - i by omega) (Sx.put rfl (Sx.put rfl (sx_))) sp_
  · obtain rfl : i = cntB b := by
      have h9 : ¬ ((BitVec.ofNat 8 i).toNat : Int) < (cntB b : Nat) := h17
      omega
    refine WC.exit ?_
    refine DN.then_exit ?_
    refine DN.then_exit ?_
    refine DN.block_exit ?_
    refine DN.then_normal ?_
    refine WC.seq ?_
    refine WC.cutK (fun z : Bool => z = decide (getBad b)) (fun z : Bool => [(61, .bool z)]) (fun z : Bool => row b5 [.int .u32 (epB b).toNat, .slice lo (cntB b) lc] 25 :: (Cl ++ (Dl ++ (row br [u, .bool (endB b).sh] 125 :: (CR ++ (row b2 [.int .u32 0, .slice none 0 0] 25 :: H)))))) ?_ ?_
    · refine WC.region ?_
      refine WL.y rfl (Yd.move rfl) ?_
      refine WL.y rfl (Yd.move rfl) ?_
      refine WL.part (t := 52) rfl (fun hg52 => ?_) (fun hg52 => ?_)
      · refine WL.gn (dj := 52) rfl rfl rfl rfl ?_
        refine WL.gn (dj := 52) rfl rfl rfl rfl ?_
        refine WL.gn (dj := 52) rfl rfl rfl rfl ?_
        refine WL.y rfl (Yd.pickT rfl rfl) ?_
        refine WL.y rfl (Yd.move rfl) ?_
        refine WL.gn (dj := 57) rfl rfl rfl rfl ?_
        refine WL.gn (dj := 57) rfl rfl rfl rfl ?_
        refine WL.gn (dj := 57) rfl rfl rfl rfl ?_
        refine WL.y rfl (Yd.pickT rfl rfl) ?_
        refine WL.nil ?_
        exact DN.reachK (_) (by first | exact bad_a (hodd.symm.trans hg52) | exact bad_b hg57 | exact bad_c (hodd.symm.trans hg52) hg57) (Sx.put rfl (sx_)) (Sp.all sp_)
      · refine WL.gy (dj := 52) rfl rfl rfl (Yd.move rfl) ?_
        refine WL.grf (dj := 52) rfl rfl rfl (Ent.func Try.call59 rfl) (rDone_tells br u (endB b).bs (endB b).sh CR hu) sp_ ?_
        refine WL.gy (dj := 52) rfl rfl rfl (Yd.neq rfl rfl) ?_
        refine WL.y rfl (Yd.pickF rfl rfl) ?_
        refine WL.y rfl (Yd.move rfl) ?_
        refine WL.partP (t := 57) rfl (fun hg57 => ?_) (fun hg57 => ?_)
        · refine WL.gn (dj := 57) rfl rfl rfl rfl ?_
          refine WL.gn (dj := 57) rfl rfl rfl rfl ?_
          refine WL.gn (dj := 57) rfl rfl rfl rfl ?_
          refine WL.y rfl (Yd.pickT rfl rfl) ?_
          refine WL.nil ?_
          exact DN.reachK (_) (by first | exact bad_a (hodd.symm.trans hg52) | exact bad_b hg57 | exact bad_c (hodd.symm.trans hg52) hg57) (Sx.put rfl (sx_)) (Sp.all sp_)
        · refine WL.gh (dj := 57) rfl rfl rfl (Hd.loadAll (n := 2) kr_ rfl mem_ (by rfl) ⟨_, rfl, ?_⟩)
          refine WL.gr (dj := 57) rfl rfl rfl (Ent.func Try.call30 rfl) (check2_reads (epB b) _ (ksTo uOne (rB b) (cntB b)) _ ((show FAt 5 43 (.slice lo (cntB b) lc) (ksTo uOne (rB b) (cntB b)) (Cl ++ Dl) from ⟨cl, Cl, Dl, by rw [ksTo_len]; exact hOl, hKt, rfl⟩).kv.mono (Gr.both gr_ gr_)) (by rw [ksTo_len]; omega)) ?_
          refine WL.gy (dj := 57) rfl rfl rfl (Yd.neq rfl rfl) ?_
          refine WL.y rfl (Yd.pickF rfl rfl) ?_
          refine WL.nil ?_
          exact DN.reachK (_) (by first | exact bad_a (hodd.symm.trans hg52) | exact bad_b hg57 | exact bad_c (hodd.symm.trans hg52) hg57) (Sx.put rfl (sx_)) (Sp.all sp_)
    · intro z9 hz9
      refine WC.cond rfl (fun h61 => ?_) (fun h61 => ?_)
      · refine WC.seq ?_
        refine WC.region ?_
        refine WL.y rfl (Yd.buildL (pl := [(0, 1), (1, 1)]) (zs := [.int .u32 0, .slice none 0 0]) (parts := []) (vs := []) (cells := [.int .u32 0, .slice none 0 0]) kr_ kr_ rfl rfl) ?_
        refine WL.s (Hd.storeAll (n := 2) kr_ rfl rfl (by rfl) one_ fr_ (by rfl) ⟨rfl, ?_⟩)
        refine WL.y rfl (Yd.assign rfl) ?_
        refine WL.nil ?_
        refine DN.then_normal ?_
        refine WC.ret ?_
        refine DN.then_ret ?_
        refine DN.retCT (s := 2) H Try.results34 kr_ rfl rfl mem_ (by rfl) sp_ ?_
        rw [show getF b = (0#32, [], 82) from if_pos (of_decide_eq_true (hz9.symm.trans h61))]
        exact ⟨_, [], rfl, FAt.nil _ _, rfl⟩
      · refine WC.skip ?_
        refine DN.then_normal ?_
        refine WC.seq ?_
        refine WC.region ?_
        refine WL.h rfl (Hd.loadAll (n := 2) kr_ rfl mem_ (by rfl) ⟨_, rfl, ?_⟩)
        refine WL.s (Hd.storeAll (n := 2) kr_ rfl rfl (by rfl) one_ fr_ (by rfl) ⟨rfl, ?_⟩)
        refine WL.y rfl (Yd.assign rfl) ?_
        refine WL.nil ?_
        refine DN.then_normal ?_
        refine WC.ret ?_
        refine DN.retCT (s := 2) (Cl ++ (Dl ++ H)) Try.results34 kr_ rfl rfl mem_ (by rfl) sp_ ?_
        rw [show getF b = (epB b, ksTo uOne (rB b) (cntB b), 0) from if_neg (of_decide_eq_false (hz9.symm.trans h61))]
        exact ⟨_, Cl ++ Dl, rfl, ⟨cl, Cl, Dl, by rw [ksTo_len]; exact hOl, hKt, rfl⟩, by rw [List.append_assoc]⟩

end Go.Proofs.Ytonnkgblligdkaa
