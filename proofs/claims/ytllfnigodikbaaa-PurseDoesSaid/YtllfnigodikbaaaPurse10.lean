/-
  The walks of the chapter's own purse: Pays, New.
-/
import Derived.Test.YtllfnigodikbaaaPurse9
import Derived.Test.YtllfnigodikbaaaSLQuiet2
set_option linter.unusedVariables false
set_option linter.unusedSimpArgs false
set_option maxHeartbeats 4000000
namespace Go.Proofs.Ytllfnigodikbaaa
open Go.SL


/-- (*drayage/drayageref10.Purse).Pays -/
theorem rpays_tells (p : Nat) (gs K F : List Au) (L : List Py) (C : List Ck) (h : RpAt 60 46 48 p F L C) (inv : PInv gs K L) (hl : L.length ≤ 100000000) (T : List Py) (hT : ToldK Py.o uLt L T) : Tells Try.prog 21 [.pointer (some ⟨p, 0, none⟩)] C fun r H' => ∃ Cs, Own r T.length (T.flatMap cellsP) 48 4 Cs ∧ H' = Cs ++ C := by
  refine Tells.enter Try.func21 rfl Try.ntmps21 rfl ?_
  intro w0 R
  obtain ⟨vf, vl, Cf, Cl, rfl, hF, hL⟩ := h
  obtain ⟨fo, fc, rfl, _⟩ := hF.form
  obtain ⟨lo, lc, rfl, _⟩ := hL.form
  have hTl := hT.perm.length_eq
  refine WC.seq ?_
  refine WC.region ?_
  refine WL.y rfl (Yd.assign rfl) ?_
  refine WL.nil ?_
  refine DN.then_normal ?_
  refine WC.seq ?_
  refine WC.region ?_
  refine WL.y rfl (Yd.assign rfl) ?_
  refine WL.nil ?_
  refine DN.then_normal ?_
  refine WC.seq ?_
  refine WC.region ?_
  refine WL.y rfl (Yd.assign (v := .int .u32 ((0#32).toNat : Int)) rfl) ?_
  refine WL.nil ?_
  refine DN.then_normal ?_
  refine WC.seq ?_
  refine WC.block ?_
  refine WC.loopS (fun z : Nat × Value × List Ck => z.1 ≤ T.length ∧ Own z.2.1 z.1 ((T.take z.1).flatMap cellsP) 48 4 z.2.2) (fun z : Nat × Value × List Ck => [(3, z.2.1), (4, .int .u32 ((lastP T z.1 : Nat) : Int))]) (fun z : Nat × Value × List Ck => z.2.2 ++ (row p [.slice fo F.length fc, .slice lo L.length lc] 60 :: (Cf ++ Cl))) (fun z : Nat × Value × List Ck => T.length - z.1) (⟨0, .slice none 0 0, []⟩) (show 0 ≤ T.length ∧ Own (.slice none 0 0) 0 ((T.take 0).flatMap cellsP) 48 4 [] from ⟨Nat.zero_le _, by simpa using Own.nil 48 4⟩) (Sx.put rfl (Sx.put rfl ((by repeat (first | exact Sx.refl | refine Sx.skip rfl ?_))))) (by repeat (first | exact Sp.here | exact Sp.sn | exact Sp.s0 | exact Fr.here | apply Sp.s2 | apply Sp.sx | apply Fr.fc | apply Fr.al | apply Fr.fa | apply Sp.sc | apply Sp.al | apply Sp.sa)) ?_
  rintro ⟨k, v, Co⟩ hI
  replace hI : k ≤ T.length ∧ Own v k ((T.take k).flatMap cellsP) 48 4 Co := hI
  obtain ⟨hk, ho⟩ := hI
  change WC _ _ _ _ _ _ ([(3, v), (4, .int .u32 ((lastP T k : Nat) : Int))] ++ _) (Co ++ (row p [.slice fo F.length fc, .slice lo L.length lc] 60 :: (Cf ++ Cl)))
  obtain ⟨oo, oc, rfl, _⟩ := ho.form
  refine WC.seq ?_
  refine WC.seq ?_
  refine WC.region ?_
  refine WL.y rfl (Yd.move rfl) ?_
  refine WL.y rfl (Yd.len (e := 48) (by kernel_rfl) rfl) ?_
  refine WL.y rfl (Yd.move rfl) ?_
  refine WL.y rfl (Yd.notNil rfl) ?_
  refine WL.y rfl (Yd.fieldAddr (k := 1) (by kernel_rfl) rfl) ?_
  refine WL.h rfl (Hd.load1 (by kernel_rfl) rfl (by repeat (first | exact List.mem_cons_self | apply List.mem_cons_of_mem | apply List.mem_append_right)) (by rfl) ⟨_, rfl, ?_⟩)
  refine WL.y rfl (Yd.len (e := 48) (by kernel_rfl) rfl) ?_
  refine WL.y rfl (Yd.lss rfl rfl) ?_
  refine WL.nil ?_
  refine DN.then_normal ?_
  refine WC.ite rfl (fun h14 => ?_) (fun h14 => ?_)
  · have hklt : k < T.length := by omega
    refine WC.skip ?_
    refine DN.then_normal ?_
    refine WC.block ?_
    refine WC.seq ?_
    refine WC.region ?_
    refine WL.y rfl (Yd.assign rfl) ?_
    refine WL.nil ?_
    refine DN.then_normal ?_
    refine WC.seq ?_
    refine WC.seq ?_
    refine WC.region ?_
    refine WL.y rfl (Yd.assign rfl) ?_
    refine WL.nil ?_
    refine DN.then_normal ?_
    refine WC.block ?_
    refine WC.loopS (fun z : Nat × Int => z.1 ≤ L.length ∧ bestP L (lastP T k) z.1 z.2) (fun z : Nat × Int => [(6, .int .i64 (z.1 : Int)), (5, .int .i64 z.2)]) (fun z : Nat × Int => Co ++ (row p [.slice fo F.length fc, .slice lo L.length lc] 60 :: (Cf ++ Cl))) (fun z : Nat × Int => L.length - z.1) (⟨0, (-1)⟩) (show 0 ≤ L.length ∧ bestP L (lastP T k) 0 (-1) from ⟨Nat.zero_le _, bestP_start L _⟩) (Sx.put rfl (Sx.put rfl ((by repeat (first | exact Sx.refl | refine Sx.skip rfl ?_))))) (by repeat (first | exact Sp.here | exact Sp.sn | exact Sp.s0 | exact Fr.here | apply Sp.s2 | apply Sp.sx | apply Fr.fc | apply Fr.al | apply Fr.fa | apply Sp.sc | apply Sp.al | apply Sp.sa)) ?_
    rintro ⟨i, b⟩ hI
    replace hI : i ≤ L.length ∧ bestP L (lastP T k) i b := hI
    obtain ⟨hi, hbest⟩ := hI
    change WC _ _ _ _ _ _ ([(6, .int .i64 (i : Int)), (5, .int .i64 b)] ++ _) (Co ++ (row p [.slice fo F.length fc, .slice lo L.length lc] 60 :: (Cf ++ Cl)))
    refine WC.seq ?_
    refine WC.seq ?_
    refine WC.region ?_
    refine WL.y rfl (Yd.move rfl) ?_
    refine WL.y rfl (Yd.move rfl) ?_
    refine WL.y rfl (Yd.notNil rfl) ?_
    refine WL.y rfl (Yd.fieldAddr (k := 1) (by kernel_rfl) rfl) ?_
    refine WL.h rfl (Hd.load1 (by kernel_rfl) rfl (by repeat (first | exact List.mem_cons_self | apply List.mem_cons_of_mem | apply List.mem_append_right)) (by rfl) ⟨_, rfl, ?_⟩)
    refine WL.y rfl (Yd.len (e := 48) (by kernel_rfl) rfl) ?_
    refine WL.y rfl (Yd.lss rfl rfl) ?_
    refine WL.nil ?_
    refine DN.then_normal ?_
    refine WC.ite rfl (fun h21 => ?_) (fun h21 => ?_)
    · have hlt2 : i < L.length := by omega
      obtain ⟨ub, uf, us, uT, ufr, uex, rfl, _, hum, hus⟩ := hL.rs.lies (by omega)
      refine WC.skip ?_
      refine DN.then_normal ?_
      refine WC.seq ?_
      refine WC.block ?_
      refine WC.seq ?_
      refine WC.draw 33 (by kernel_rfl) rfl ?_
      refine WA.quiet 33 0 rfl rfl (by kernel_rfl) (by kernel_rfl) (by kernel_rfl) rfl ?_
      refine WQ.y rfl (Yd.move rfl) ?_
      refine WQ.y rfl (Yd.notNil rfl) ?_
      refine WQ.y rfl (Yd.fieldAddr (k := 1) (by kernel_rfl) rfl) ?_
      refine WQ.rd rfl Wt.none (Rd.load1 (by kernel_rfl) rfl (by repeat (first | exact List.mem_cons_self | apply List.mem_cons_of_mem | apply List.mem_append_right)) (by rfl)) ?_
      refine WQ.y rfl (Yd.move rfl) ?_
      refine WQ.y rfl (Yd.indexAddr (e := 48) (s := 4) (by kernel_rfl) (by kernel_rfl) rfl rfl (by omega) (by omega)) ?_
      refine WQ.y rfl (Yd.fieldAddr (k := 0) (by kernel_rfl) rfl) ?_
      refine WQ.rd rfl Wt.none (Rd.load1 (v := .int .u32 L[i].o.toNat) (b := ub) (o := uf + (i : Int).toNat * 4 + 0) (cs := us) (by kernel_rfl) rfl (Gr.get (by repeat (first | exact Gr.refl | exact Gr.left Gr.refl | exact Gr.left (Gr.left Gr.refl) | exact Gr.left (Gr.app Gr.refl) | exact Gr.left (Gr.left (Gr.left Gr.refl)) | exact Gr.nil | exact Gr.app (Gr.left Gr.refl) | refine Gr.cons ?_ | refine Gr.app ?_ | refine Gr.both ?_ ?_ | refine Gr.put (by repeat (first | exact List.mem_cons_self | apply List.mem_cons_of_mem | apply List.mem_append_right)) ?_)) hum) (cell_atP (L := L) cellsP_len hus (by omega) (by omega))) ?_
      refine WQ.y rfl (Yd.move rfl) ?_
      refine WQ.y rfl (Yd.gtr rfl rfl) ?_
      refine WQ.y rfl (Yd.move rfl) ?_
      refine WQ.partP (t := 34) rfl (fun hg34 => ?_) (fun hg34 => ?_)
      · refine WQ.gy (dj := 34) rfl rfl rfl (Yd.move rfl) ?_
        refine WQ.gy (dj := 34) rfl rfl rfl (Yd.lss rfl rfl) ?_
        refine WQ.gy (dj := 34) rfl rfl rfl (Yd.move rfl) ?_
        refine WQ.partP (t := 37) rfl (fun hg37 => ?_) (fun hg37 => ?_)
        · refine WQ.gn (dj := 37) rfl rfl rfl rfl ?_
          refine WQ.gn (dj := 37) rfl rfl rfl rfl ?_
          refine WQ.gn (dj := 37) rfl rfl rfl rfl ?_
          refine WQ.gn (dj := 37) rfl rfl rfl rfl ?_
          refine WQ.gn (dj := 37) rfl rfl rfl rfl ?_
          refine WQ.gn (dj := 37) rfl rfl rfl rfl ?_
          refine WQ.gn (dj := 37) rfl rfl rfl rfl ?_
          refine WQ.gn (dj := 37) rfl rfl rfl rfl ?_
          refine WQ.gn (dj := 37) rfl rfl rfl rfl ?_
          refine WQ.gn (dj := 37) rfl rfl rfl rfl ?_
          refine WQ.gn (dj := 37) rfl rfl rfl rfl ?_
          refine WQ.gn (dj := 37) rfl rfl rfl rfl ?_
          refine WQ.gn (dj := 37) rfl rfl rfl rfl ?_
          refine WQ.gn (dj := 37) rfl rfl rfl rfl ?_
          refine WQ.gn (dj := 37) rfl rfl rfl rfl ?_
          refine WQ.gn (dj := 37) rfl rfl rfl rfl ?_
          refine WQ.gn (dj := 37) rfl rfl rfl rfl ?_
          refine WQ.gy (dj := 34) rfl rfl rfl (Yd.pickT rfl rfl) ?_
          refine WQ.y rfl (Yd.pickT rfl rfl) ?_
          refine WQ.nil ?_
          refine WA.done (by kernel_rfl) ?_
          refine DN.then_normal ?_
          refine WC.yes rfl ?_
          refine WC.region ?_
          refine WL.y rfl (Yd.move rfl) ?_
          refine WL.y rfl (Yd.assign rfl) ?_
          refine WL.nil ?_
          refine DN.block_normal ?_
          refine DN.then_normal ?_
          refine WC.region ?_
          refine WL.y rfl (Yd.move rfl) ?_
          refine WL.y rfl (Yd.add rfl rfl (by omega) (by omega)) ?_
          refine WL.y rfl (Yd.assign rfl) ?_
          refine WL.nil ?_
          exact DN.againS (⟨i + 1, (i : Int)⟩) (show (i + 1) ≤ L.length ∧ bestP L (lastP T k) (i + 1) ((i : Int)) from ⟨by omega, bestP_new hbest hlt2 (by omega) (.inl hg37)⟩) (show L.length - (i + 1) < L.length - i by omega) (Sx.put rfl (Sx.put rfl ((by repeat (first | exact Sx.refl | refine Sx.skip rfl ?_))))) (by repeat (first | exact Sp.here | exact Sp.sn | exact Sp.s0 | exact Fr.here | apply Sp.s2 | apply Sp.sx | apply Fr.fc | apply Fr.al | apply Fr.fa | apply Sp.sc | apply Sp.al | apply Sp.sa))
        · obtain ⟨q, hq, rfl⟩ := bestP_case hbest hg37
          refine WQ.gy (dj := 37) rfl rfl rfl (Yd.move rfl) ?_
          refine WQ.gy (dj := 37) rfl rfl rfl (Yd.notNil rfl) ?_
          refine WQ.gy (dj := 37) rfl rfl rfl (Yd.fieldAddr (k := 1) (by kernel_rfl) rfl) ?_
          refine WQ.rd rfl (Wt.yes (dj := 37) rfl rfl) (Rd.load1 (by kernel_rfl) rfl (by repeat (first | exact List.mem_cons_self | apply List.mem_cons_of_mem | apply List.mem_append_right)) (by rfl)) ?_
          refine WQ.gy (dj := 37) rfl rfl rfl (Yd.move rfl) ?_
          refine WQ.gy (dj := 37) rfl rfl rfl (Yd.indexAddr (e := 48) (s := 4) (by kernel_rfl) (by kernel_rfl) rfl rfl (by omega) (by omega)) ?_
          refine WQ.gy (dj := 37) rfl rfl rfl (Yd.fieldAddr (k := 0) (by kernel_rfl) rfl) ?_
          refine WQ.rd rfl (Wt.yes (dj := 37) rfl rfl) (Rd.load1 (v := .int .u32 L[i].o.toNat) (b := ub) (o := uf + (i : Int).toNat * 4 + 0) (cs := us) (by kernel_rfl) rfl (Gr.get (by repeat (first | exact Gr.refl | exact Gr.left Gr.refl | exact Gr.left (Gr.left Gr.refl) | exact Gr.left (Gr.app Gr.refl) | exact Gr.left (Gr.left (Gr.left Gr.refl)) | exact Gr.nil | exact Gr.app (Gr.left Gr.refl) | refine Gr.cons ?_ | refine Gr.app ?_ | refine Gr.both ?_ ?_ | refine Gr.put (by repeat (first | exact List.mem_cons_self | apply List.mem_cons_of_mem | apply List.mem_append_right)) ?_)) hum) (cell_atP (L := L) cellsP_len hus (by omega) (by omega))) ?_
          refine WQ.gy (dj := 37) rfl rfl rfl (Yd.move rfl) ?_
          refine WQ.gy (dj := 37) rfl rfl rfl (Yd.notNil rfl) ?_
          refine WQ.gy (dj := 37) rfl rfl rfl (Yd.fieldAddr (k := 1) (by kernel_rfl) rfl) ?_
          refine WQ.rd rfl (Wt.yes (dj := 37) rfl rfl) (Rd.load1 (by kernel_rfl) rfl (by repeat (first | exact List.mem_cons_self | apply List.mem_cons_of_mem | apply List.mem_append_right)) (by rfl)) ?_
          refine WQ.gy (dj := 37) rfl rfl rfl (Yd.move rfl) ?_
          refine WQ.gy (dj := 37) rfl rfl rfl (Yd.indexAddr (e := 48) (s := 4) (by kernel_rfl) (by kernel_rfl) rfl rfl (by omega) (by omega)) ?_
          refine WQ.gy (dj := 37) rfl rfl rfl (Yd.fieldAddr (k := 0) (by kernel_rfl) rfl) ?_
          refine WQ.rd rfl (Wt.yes (dj := 37) rfl rfl) (Rd.load1 (v := .int .u32 L[q].o.toNat) (b := ub) (o := uf + (q : Int).toNat * 4 + 0) (cs := us) (by kernel_rfl) rfl (Gr.get (by repeat (first | exact Gr.refl | exact Gr.left Gr.refl | exact Gr.left (Gr.left Gr.refl) | exact Gr.left (Gr.app Gr.refl) | exact Gr.left (Gr.left (Gr.left Gr.refl)) | exact Gr.nil | exact Gr.app (Gr.left Gr.refl) | refine Gr.cons ?_ | refine Gr.app ?_ | refine Gr.both ?_ ?_ | refine Gr.put (by repeat (first | exact List.mem_cons_self | apply List.mem_cons_of_mem | apply List.mem_append_right)) ?_)) hum) (cell_atP (L := L) cellsP_len hus (by omega) (by omega))) ?_
          refine WQ.gy (dj := 37) rfl rfl rfl (Yd.lss rfl rfl) ?_
          refine WQ.gy (dj := 34) rfl rfl rfl (Yd.pickF rfl rfl) ?_
          refine WQ.y rfl (Yd.pickT rfl rfl) ?_
          refine WQ.nil ?_
          refine WA.done (by kernel_rfl) ?_
          refine DN.then_normal ?_
          refine WC.ite rfl (fun h56 => ?_) (fun h56 => ?_)
          · refine WC.region ?_
            refine WL.y rfl (Yd.move rfl) ?_
            refine WL.y rfl (Yd.assign rfl) ?_
            refine WL.nil ?_
            refine DN.block_normal ?_
            refine DN.then_normal ?_
            refine WC.region ?_
            refine WL.y rfl (Yd.move rfl) ?_
            refine WL.y rfl (Yd.add rfl rfl (by omega) (by omega)) ?_
            refine WL.y rfl (Yd.assign rfl) ?_
            refine WL.nil ?_
            exact DN.againS (⟨i + 1, (i : Int)⟩) (show (i + 1) ≤ L.length ∧ bestP L (lastP T k) (i + 1) ((i : Int)) from ⟨by omega, bestP_new hbest hlt2 (by omega) (.inr ⟨q, hq, rfl, by omega⟩)⟩) (show L.length - (i + 1) < L.length - i by omega) (Sx.put rfl (Sx.put rfl ((by repeat (first | exact Sx.refl | refine Sx.skip rfl ?_))))) (by repeat (first | exact Sp.here | exact Sp.sn | exact Sp.s0 | exact Fr.here | apply Sp.s2 | apply Sp.sx | apply Fr.fc | apply Fr.al | apply Fr.fa | apply Sp.sc | apply Sp.al | apply Sp.sa))
          · refine WC.skip ?_
            refine DN.block_normal ?_
            refine DN.then_normal ?_
            refine WC.region ?_
            refine WL.y rfl (Yd.move rfl) ?_
            refine WL.y rfl (Yd.add rfl rfl (by omega) (by omega)) ?_
            refine WL.y rfl (Yd.assign rfl) ?_
            refine WL.nil ?_
            exact DN.againS (⟨i + 1, (q : Int)⟩) (show (i + 1) ≤ L.length ∧ bestP L (lastP T k) (i + 1) ((q : Int)) from ⟨by omega, bestP_keep hbest hlt2 (.inr ⟨q, hq, rfl, by omega⟩)⟩) (show L.length - (i + 1) < L.length - i by omega) (Sx.put rfl (Sx.put rfl ((by repeat (first | exact Sx.refl | refine Sx.skip rfl ?_))))) (by repeat (first | exact Sp.here | exact Sp.sn | exact Sp.s0 | exact Fr.here | apply Sp.s2 | apply Sp.sx | apply Fr.fc | apply Fr.al | apply Fr.fa | apply Sp.sc | apply Sp.al | apply Sp.sa))
      · refine WQ.gn (dj := 34) rfl rfl rfl rfl ?_
        refine WQ.gn (dj := 34) rfl rfl rfl rfl ?_
        refine WQ.gn (dj := 34) rfl rfl rfl rfl ?_
        refine WQ.gu (dj := 37) rfl rfl rfl ?_
        refine WQ.gu (dj := 37) rfl rfl rfl ?_
        refine WQ.gu (dj := 37) rfl rfl rfl ?_
        refine WQ.gu (dj := 37) rfl rfl rfl ?_
        refine WQ.gu (dj := 37) rfl rfl rfl ?_
        refine WQ.gu (dj := 37) rfl rfl rfl ?_
        refine WQ.gu (dj := 37) rfl rfl rfl ?_
        refine WQ.gu (dj := 37) rfl rfl rfl ?_
        refine WQ.gu (dj := 37) rfl rfl rfl ?_
        refine WQ.gu (dj := 37) rfl rfl rfl ?_
        refine WQ.gu (dj := 37) rfl rfl rfl ?_
        refine WQ.gu (dj := 37) rfl rfl rfl ?_
        refine WQ.gu (dj := 37) rfl rfl rfl ?_
        refine WQ.gu (dj := 37) rfl rfl rfl ?_
        refine WQ.gu (dj := 37) rfl rfl rfl ?_
        refine WQ.gu (dj := 37) rfl rfl rfl ?_
        refine WQ.gu (dj := 37) rfl rfl rfl ?_
        refine WQ.gn (dj := 34) rfl rfl rfl rfl ?_
        refine WQ.y rfl (Yd.pickF rfl rfl) ?_
        refine WQ.nil ?_
        refine WA.done (by kernel_rfl) ?_
        refine DN.then_normal ?_
        refine WC.no rfl ?_
        refine WC.skip ?_
        refine DN.block_normal ?_
        refine DN.then_normal ?_
        refine WC.region ?_
        refine WL.y rfl (Yd.move rfl) ?_
        refine WL.y rfl (Yd.add rfl rfl (by omega) (by omega)) ?_
        refine WL.y rfl (Yd.assign rfl) ?_
        refine WL.nil ?_
        exact DN.againS (⟨i + 1, b⟩) (show (i + 1) ≤ L.length ∧ bestP L (lastP T k) (i + 1) b from ⟨by omega, bestP_keep hbest hlt2 (.inl (by omega))⟩) (show L.length - (i + 1) < L.length - i by omega) (Sx.put rfl (Sx.put rfl ((by repeat (first | exact Sx.refl | refine Sx.skip rfl ?_))))) (by repeat (first | exact Sp.here | exact Sp.sn | exact Sp.s0 | exact Fr.here | apply Sp.s2 | apply Sp.sx | apply Fr.fc | apply Fr.al | apply Fr.fa | apply Sp.sc | apply Sp.al | apply Sp.sa))
    · obtain rfl : i = L.length := by omega
      obtain ⟨q, hq, rfl, heq⟩ := bestP_end inv hT hklt hbest
      obtain ⟨ub, uf, us, uT, ufr, uex, rfl, _, hum, hus⟩ := hL.rs.lies (by omega)
      refine WC.exit ?_
      refine DN.then_exit ?_
      refine DN.then_exit ?_
      refine DN.block_exit ?_
      refine DN.then_normal ?_
      refine WC.seq ?_
      refine WC.region ?_
      refine WL.y rfl (Yd.move rfl) ?_
      refine WL.y rfl (Yd.move rfl) ?_
      refine WL.y rfl (Yd.notNil rfl) ?_
      refine WL.y rfl (Yd.fieldAddr (k := 1) (by kernel_rfl) rfl) ?_
      refine WL.h rfl (Hd.load1 (by kernel_rfl) rfl (by repeat (first | exact List.mem_cons_self | apply List.mem_cons_of_mem | apply List.mem_append_right)) (by rfl) ⟨_, rfl, ?_⟩)
      refine WL.y rfl (Yd.move rfl) ?_
      refine WL.y rfl (Yd.indexAddr (e := 48) (s := 4) (by kernel_rfl) (by kernel_rfl) rfl rfl (by omega) (by omega)) ?_
      refine WL.h rfl (Hd.loadA (n := 4) (b := ub) (o := uf + (q : Int).toNat * 4) (cs := us) (vs := cellsP T[k]) (by kernel_rfl) rfl (Gr.get (by repeat (first | exact Gr.refl | exact Gr.left Gr.refl | exact Gr.left (Gr.left Gr.refl) | exact Gr.left (Gr.app Gr.refl) | exact Gr.left (Gr.left (Gr.left Gr.refl)) | exact Gr.nil | exact Gr.app (Gr.left Gr.refl) | refine Gr.cons ?_ | refine Gr.app ?_ | refine Gr.both ?_ ?_ | refine Gr.put (by repeat (first | exact List.mem_cons_self | apply List.mem_cons_of_mem | apply List.mem_append_right)) ?_)) hum) (cellsP_len _) (rs_cell hus (by rw [flat_len cellsP 4 cellsP_len]; omega) (by rw [← heq]; exact flat_row cellsP 4 cellsP_len L q hq)) ⟨_, rfl, ?_⟩)
      refine WL.h rfl (Hd.buildA (e := 48) (sz := 4) (zs := [.int .u32 0, .string ⟨#[]⟩, .int .i64 0, .int .i64 0]) (by kernel_rfl) (by kernel_rfl) (by kernel_rfl) rfl rfl (by rfl) (by kernel_rfl) fun b66 => ⟨_, rfl, ?_⟩)
      refine WL.h rfl (Hd.appendRow (e := 48) (sz := 4) (bytes := 40) (zs := [.int .u32 0, .string ⟨#[]⟩, .int .i64 0, .int .i64 0]) (by kernel_rfl) (by kernel_rfl) rfl (by omega) rfl rfl (ho) (by repeat (first | exact Sp.here | exact Sp.sn | exact Sp.s0 | exact Fr.here | apply Sp.s2 | apply Sp.sx | apply Fr.fc | apply Fr.al | apply Fr.fa | apply Sp.sc | apply Sp.al | apply Sp.sa)) (by repeat (first | exact List.mem_cons_self | apply List.mem_cons_of_mem | apply List.mem_append_right)) (by rfl) (by repeat (first | exact fun _ h => absurd h List.not_mem_nil | refine List.forall_mem_cons.2 ⟨by first | rfl | assumption, ?_⟩)) (by simp only [maxLen]; omega) (by omega) fun v2 C2 h2 => ⟨_, rfl, ?_⟩)
      refine WL.y rfl (Yd.assign rfl) ?_
      refine WL.nil ?_
      refine DN.then_normal ?_
      refine WC.region ?_
      refine WL.y rfl (Yd.move rfl) ?_
      refine WL.y rfl (Yd.notNil rfl) ?_
      refine WL.y rfl (Yd.fieldAddr (k := 1) (by kernel_rfl) rfl) ?_
      refine WL.h rfl (Hd.load1 (by kernel_rfl) rfl (by repeat (first | exact List.mem_cons_self | apply List.mem_cons_of_mem | apply List.mem_append_right)) (by rfl) ⟨_, rfl, ?_⟩)
      refine WL.y rfl (Yd.move rfl) ?_
      refine WL.y rfl (Yd.indexAddr (e := 48) (s := 4) (by kernel_rfl) (by kernel_rfl) rfl rfl (by omega) (by omega)) ?_
      refine WL.y rfl (Yd.fieldAddr (k := 0) (by kernel_rfl) rfl) ?_
      refine WL.h rfl (Hd.load1 (v := .int .u32 L[q].o.toNat) (b := ub) (o := uf + (q : Int).toNat * 4 + 0) (cs := us) (by kernel_rfl) rfl (Gr.get (by repeat (first | exact Gr.refl | exact Gr.left Gr.refl | exact Gr.left (Gr.left Gr.refl) | exact Gr.left (Gr.app Gr.refl) | exact Gr.left (Gr.left (Gr.left Gr.refl)) | exact Gr.nil | exact Gr.app (Gr.left Gr.refl) | refine Gr.cons ?_ | refine Gr.app ?_ | refine Gr.both ?_ ?_ | refine Gr.put (by repeat (first | exact List.mem_cons_self | apply List.mem_cons_of_mem | apply List.mem_append_right)) ?_)) hum) (cell_atP (L := L) cellsP_len hus (by omega) (by omega)) ⟨_, rfl, ?_⟩)
      refine WL.renamed (t := 75) (v := .int .u32 ((lastP T (k + 1) : Nat) : Int)) rfl (congrArg (Value.int .u32) (by rw [lastP_next T hklt, heq])) ?_
      refine WL.y rfl (Yd.assign rfl) ?_
      refine WL.nil ?_
      refine DN.block_normal ?_
      exact DN.againS (⟨k + 1, v2, C2⟩) (show (k + 1) ≤ T.length ∧ Own v2 (k + 1) ((T.take (k + 1)).flatMap cellsP) 48 4 C2 from ⟨by omega, by rw [List.take_succ_eq_append_getElem hklt, List.flatMap_append]; simpa using h2⟩) (show T.length - (k + 1) < T.length - k by omega) (Sx.put rfl (Sx.put rfl ((by repeat (first | exact Sx.refl | refine Sx.skip rfl ?_))))) (by repeat (first | exact Sp.here | exact Sp.sn | exact Sp.s0 | exact Fr.here | apply Sp.s2 | apply Sp.sx | apply Fr.fc | apply Fr.al | apply Fr.fa | apply Sp.sc | apply Sp.al | apply Sp.sa))
  · obtain rfl : k = T.length := by omega
    rw [List.take_length] at ho
    refine WC.exit ?_
    refine DN.then_exit ?_
    refine DN.then_exit ?_
    refine DN.block_exit ?_
    refine DN.then_normal ?_
    refine WC.seq ?_
    refine WC.region ?_
    refine WL.y rfl (Yd.move rfl) ?_
    refine WL.y rfl (Yd.assign rfl) ?_
    refine WL.nil ?_
    refine DN.then_normal ?_
    refine WC.ret ?_
    refine DN.fit (C := Co ++ (row p [.slice fo F.length fc, .slice lo L.length lc] 60 :: (Cf ++ Cl))) (by repeat (first | exact Sp.here | exact Sp.sn | exact Sp.s0 | exact Fr.here | apply Sp.s2 | apply Sp.sx | apply Fr.fc | apply Fr.al | apply Fr.fa | apply Sp.sc | apply Sp.al | apply Sp.sa)) ?_
    refine DN.ret1 Try.results21 rfl ?_
    exact ⟨Co, ho, rfl⟩

/-- drayage/drayageref10.New -/
theorem rnew_tells (v : Value) (gs : List Au) (H : List Ck) (hv : Rs v gs.length (gs.flatMap cellsU) H) (hl : gs.length ≤ 9223372036854775807) : Tells Try.prog 12 [v] H fun r H' => (AccL gs ∧ ∃ p C F, r = .tuple #[.pointer (some ⟨p, 0, none⟩), .int .i64 0] ∧ RpAt 60 46 48 p F [] C ∧ ToldK Au.name sLt gs F ∧ H' = C ++ H) ∨ (¬ AccL gs ∧ r = .tuple #[.pointer none, .int .i64 2] ∧ H' = H) := by
  refine Tells.enter Try.func12 rfl Try.ntmps12 rfl ?_
  intro w0 R
  obtain ⟨vo, vc, rfl, hvc⟩ := hv.form
  refine WC.seq ?_
  refine WC.region ?_
  refine WL.y rfl (Yd.assign rfl) ?_
  refine WL.y rfl (Yd.assign rfl) ?_
  refine WL.nil ?_
  refine DN.then_normal ?_
  refine WC.seq ?_
  refine WC.seq ?_
  refine WC.region ?_
  refine WL.y rfl (Yd.move rfl) ?_
  refine WL.y rfl (Yd.len (e := 46) (by kernel_rfl) rfl) ?_
  refine WL.y rfl (Yd.gtr rfl rfl) ?_
  refine WL.nil ?_
  refine DN.then_normal ?_
  refine WC.ite rfl (fun h11 => ?_) (fun h11 => ?_)
  · refine WC.seq ?_
    refine WC.region ?_
    refine WL.y rfl (Yd.assign rfl) ?_
    refine WL.y rfl (Yd.assign rfl) ?_
    refine WL.nil ?_
    refine DN.then_normal ?_
    refine WC.ret ?_
    refine DN.then_ret ?_
    first | (have hlt2 : i < gs.length := hlt; refine DN.fit (C := H) (by repeat (first | exact Sp.here | exact Sp.sn | exact Sp.s0 | exact Fr.here | apply Sp.s2 | apply Sp.sx | apply Fr.fc | apply Fr.al | apply Fr.fa | apply Sp.sc | apply Sp.al | apply Sp.sa)) ?_) | refine DN.fit (C := row b13 [.slice fo F.length fc, .slice none 0 0] 60 :: (Cf ++ H)) (by repeat (first | exact Sp.here | exact Sp.sn | exact Sp.s0 | exact Fr.here | apply Sp.s2 | apply Sp.sx | apply Fr.fc | apply Fr.al | apply Fr.fa | apply Sp.sc | apply Sp.al | apply Sp.sa)) ?_ | skip
    refine DN.ret2 Try.results12 rfl rfl ?_
    first
      | exact .inr ⟨fun hG => by have := hG.1; omega, rfl, rfl⟩
      | exact .inr ⟨fun hG => (twice_noU hlt htw) hG.2.1, rfl, rfl⟩
      | exact .inr ⟨fun hG => (hG.2.2 gs[i] (List.getElem_mem hlt)).1 (ByteArray.ext (Array.eq_empty_of_size_eq_zero (by have : gs[i].name.size = 0 := (by omega); exact this))), rfl, rfl⟩
      | exact .inr ⟨fun hG => by have := (hG.2.2 gs[i] (List.getElem_mem hlt)).2; omega, rfl, rfl⟩
      | exact .inl ⟨⟨by omega, hnd, fun g hm => by obtain ⟨j, hj, rfl⟩ := List.getElem_of_mem hm; exact hgood j hj hj⟩, b13, row b13 [.slice fo F.length fc, .slice none 0 0] 60 :: (Cf ++ []), F, rfl, ⟨_, _, Cf, [], rfl, hF, Own.nil _ _⟩, hT, by simp⟩
  · refine WC.skip ?_
    refine DN.then_normal ?_
    refine WC.seq ?_
    refine WC.region ?_
    refine WL.y rfl (Yd.buildL (pl := [(0, 1), (1, 1)]) (zs := [.slice none 0 0, .slice none 0 0]) (parts := []) (vs := []) (cells := [.slice none 0 0, .slice none 0 0]) (by kernel_rfl) (by kernel_rfl) rfl rfl) ?_
    refine WL.h rfl (Hd.boxA rfl fun b13 => ⟨_, rfl, ?_⟩)
    refine WL.y rfl (Yd.assign rfl) ?_
    refine WL.nil ?_
    refine DN.then_normal ?_
    refine WC.seq ?_
    refine WC.seq ?_
    refine WC.region ?_
    refine WL.y rfl (Yd.assign rfl) ?_
    refine WL.nil ?_
    refine DN.then_normal ?_
    refine WC.block ?_
    refine WC.loopS (fun z : Nat × List Au × Value × List Ck => z.1 ≤ gs.length ∧ (∀ (j : Nat) (h : j < gs.length), j < z.1 → accB gs[j]) ∧ ((gs.take z.1).map Au.name).Nodup ∧ ToldK Au.name sLt (gs.take z.1) z.2.1 ∧ Own z.2.2.1 z.2.1.length (z.2.1.flatMap cellsU) 46 3 z.2.2.2) (fun z : Nat × List Au × Value × List Ck => [(5, .int .i64 (z.1 : Int))]) (fun z : Nat × List Au × Value × List Ck => row b13 [z.2.2.1, .slice none 0 0] 60 :: (z.2.2.2 ++ H)) (fun z : Nat × List Au × Value × List Ck => gs.length - z.1) (⟨0, [], .slice none 0 0, []⟩) (show 0 ≤ gs.length ∧ (∀ (j : Nat) (h : j < gs.length), j < 0 → accB gs[j]) ∧ ((gs.take 0).map Au.name).Nodup ∧ ToldK Au.name sLt (gs.take 0) [] ∧ Own (.slice none 0 0) [].length ([].flatMap cellsU) 46 3 [] from ⟨Nat.zero_le _, fun j h hj => by omega, by simp, ⟨by simp, List.Pairwise.nil⟩, Own.nil _ _⟩) (Sx.put rfl ((by repeat (first | exact Sx.refl | refine Sx.skip rfl ?_)))) (by repeat (first | exact Sp.here | exact Sp.sn | exact Sp.s0 | exact Fr.here | apply Sp.s2 | apply Sp.sx | apply Fr.fc | apply Fr.al | apply Fr.fa | apply Sp.sc | apply Sp.al | apply Sp.sa)) ?_
    rintro ⟨i, F, w, Cf⟩ hI
    replace hI : i ≤ gs.length ∧ (∀ (j : Nat) (h : j < gs.length), j < i → accB gs[j]) ∧ ((gs.take i).map Au.name).Nodup ∧ ToldK Au.name sLt (gs.take i) F ∧ Own w F.length (F.flatMap cellsU) 46 3 Cf := hI
    obtain ⟨hi, hgood, hnd, hT, hF⟩ := hI
    change WC _ _ _ _ _ _ ([(5, .int .i64 (i : Int))] ++ _) (row b13 [w, .slice none 0 0] 60 :: (Cf ++ H))
    obtain ⟨fo, fc, rfl, hfc⟩ := hF.form
    have hFl := hT.perm.length_eq
    rw [List.length_take] at hFl
    refine WC.seq ?_
    refine WC.seq ?_
    refine WC.region ?_
    refine WL.y rfl (Yd.move rfl) ?_
    refine WL.y rfl (Yd.move rfl) ?_
    refine WL.y rfl (Yd.len (e := 46) (by kernel_rfl) rfl) ?_
    refine WL.y rfl (Yd.lss rfl rfl) ?_
    refine WL.nil ?_
    refine DN.then_normal ?_
    refine WC.ite rfl (fun h17 => ?_) (fun h17 => ?_)
    · have hlt : i < gs.length := by omega
      refine WC.skip ?_
      refine DN.then_normal ?_
      refine WC.seq ?_
      refine WC.block ?_
      refine WC.seq ?_
      refine WC.region ?_
      refine WL.y rfl (Yd.move rfl) ?_
      refine WL.y rfl (Yd.move rfl) ?_
      refine WL.elemA (e := 46) (s := 3) (by kernel_rfl) (by kernel_rfl) (by kernel_rfl) rfl rfl (rfl) (hv.mono (by repeat (first | exact Gr.refl | exact Gr.left Gr.refl | exact Gr.left (Gr.left Gr.refl) | exact Gr.left (Gr.app Gr.refl) | exact Gr.left (Gr.left (Gr.left Gr.refl)) | exact Gr.nil | exact Gr.app (Gr.left Gr.refl) | refine Gr.cons ?_ | refine Gr.app ?_ | refine Gr.both ?_ ?_ | refine Gr.put (by repeat (first | exact List.mem_cons_self | apply List.mem_cons_of_mem | apply List.mem_append_right)) ?_))) (flat_row cellsU 3 cellsU_len gs i hlt) (by rfl) (by omega) (hlt) rfl rfl ?_
      intro p22
      refine WL.h rfl (Hd.alloc (zs := [.string ⟨#[]⟩, .int .i64 0, .int .i64 0]) (by kernel_rfl) fun b6 => ⟨_, rfl, ?_⟩)
      refine WL.s (Hd.storeAll (n := 3) (by kernel_rfl) rfl rfl (by rfl) (by repeat (first | exact fun _ h => absurd h List.not_mem_nil | refine List.forall_mem_cons.2 ⟨by first | rfl | assumption, ?_⟩)) (by repeat (first | exact Fr.here | apply Fr.fc | apply Fr.al | apply Fr.fa)) (by rfl) ⟨rfl, ?_⟩)
      refine WL.nil ?_
      refine DN.then_normal ?_
      refine WC.seq ?_
      refine WC.seq ?_
      refine WC.region ?_
      refine WL.y rfl (Yd.fieldAddr (k := 0) (by kernel_rfl) rfl) ?_
      refine WL.h rfl (Hd.load1 (by kernel_rfl) rfl (by repeat (first | exact List.mem_cons_self | apply List.mem_cons_of_mem | apply List.mem_append_right)) (by rfl) ⟨_, rfl, ?_⟩)
      refine WL.y rfl (Yd.lenS Try.underlying9 rfl) ?_
      refine WL.y rfl (Yd.lss rfl rfl) ?_
      refine WL.y rfl (Yd.move rfl) ?_
      refine WL.partP (t := 28) rfl (fun hg28 => ?_) (fun hg28 => ?_)
      · refine WL.gn (dj := 28) rfl rfl rfl rfl ?_
        refine WL.gn (dj := 28) rfl rfl rfl rfl ?_
        refine WL.gn (dj := 28) rfl rfl rfl rfl ?_
        refine WL.gn (dj := 28) rfl rfl rfl rfl ?_
        refine WL.y rfl (Yd.pickT rfl rfl) ?_
        refine WL.y rfl (Yd.move rfl) ?_
        refine WL.gn (dj := 34) rfl rfl rfl rfl ?_
        refine WL.gn (dj := 34) rfl rfl rfl rfl ?_
        refine WL.gn (dj := 34) rfl rfl rfl rfl ?_
        refine WL.y rfl (Yd.pickT rfl rfl) ?_
        refine WL.y rfl (Yd.move rfl) ?_
        refine WL.gn (dj := 39) rfl rfl rfl rfl ?_
        refine WL.gn (dj := 39) rfl rfl rfl rfl ?_
        refine WL.gn (dj := 39) rfl rfl rfl rfl ?_
        refine WL.y rfl (Yd.pickT rfl rfl) ?_
        refine WL.y rfl (Yd.move rfl) ?_
        refine WL.gn (dj := 44) rfl rfl rfl rfl ?_
        refine WL.gn (dj := 44) rfl rfl rfl rfl ?_
        refine WL.gn (dj := 44) rfl rfl rfl rfl ?_
        refine WL.y rfl (Yd.pickT rfl rfl) ?_
        refine WL.nil ?_
        refine DN.then_normal ?_
        refine WC.yes rfl ?_
        refine WC.seq ?_
        refine WC.region ?_
        refine WL.y rfl (Yd.assign rfl) ?_
        refine WL.y rfl (Yd.assign rfl) ?_
        refine WL.nil ?_
        refine DN.then_normal ?_
        refine WC.ret ?_
        refine DN.then_ret ?_
        refine DN.block_ret ?_
        refine DN.then_ret ?_
        refine DN.then_ret ?_
        refine DN.block_ret ?_
        refine DN.then_ret ?_
        first | (have hlt2 : i < gs.length := hlt; refine DN.fit (C := H) (by repeat (first | exact Sp.here | exact Sp.sn | exact Sp.s0 | exact Fr.here | apply Sp.s2 | apply Sp.sx | apply Fr.fc | apply Fr.al | apply Fr.fa | apply Sp.sc | apply Sp.al | apply Sp.sa)) ?_) | refine DN.fit (C := row b13 [.slice fo F.length fc, .slice none 0 0] 60 :: (Cf ++ H)) (by repeat (first | exact Sp.here | exact Sp.sn | exact Sp.s0 | exact Fr.here | apply Sp.s2 | apply Sp.sx | apply Fr.fc | apply Fr.al | apply Fr.fa | apply Sp.sc | apply Sp.al | apply Sp.sa)) ?_ | skip
        refine DN.ret2 Try.results12 rfl rfl ?_
        first
          | exact .inr ⟨fun hG => by have := hG.1; omega, rfl, rfl⟩
          | exact .inr ⟨fun hG => (twice_noU hlt htw) hG.2.1, rfl, rfl⟩
          | exact .inr ⟨fun hG => (hG.2.2 gs[i] (List.getElem_mem hlt)).1 (ByteArray.ext (Array.eq_empty_of_size_eq_zero (by have : gs[i].name.size = 0 := (by omega); exact this))), rfl, rfl⟩
          | exact .inr ⟨fun hG => by have := (hG.2.2 gs[i] (List.getElem_mem hlt)).2; omega, rfl, rfl⟩
          | exact .inl ⟨⟨by omega, hnd, fun g hm => by obtain ⟨j, hj, rfl⟩ := List.getElem_of_mem hm; exact hgood j hj hj⟩, b13, row b13 [.slice fo F.length fc, .slice none 0 0] 60 :: (Cf ++ []), F, rfl, ⟨_, _, Cf, [], rfl, hF, Own.nil _ _⟩, hT, by simp⟩
      · refine WL.gy (dj := 28) rfl rfl rfl (Yd.fieldAddr (k := 0) (by kernel_rfl) rfl) ?_
        refine WL.gh (dj := 28) rfl rfl rfl (Hd.load1 (by kernel_rfl) rfl (by repeat (first | exact List.mem_cons_self | apply List.mem_cons_of_mem | apply List.mem_append_right)) (by rfl) ⟨_, rfl, ?_⟩)
        refine WL.gy (dj := 28) rfl rfl rfl (Yd.lenS Try.underlying9 rfl) ?_
        refine WL.gy (dj := 28) rfl rfl rfl (Yd.gtr rfl rfl) ?_
        refine WL.y rfl (Yd.pickF rfl rfl) ?_
        refine WL.y rfl (Yd.move rfl) ?_
        refine WL.partP (t := 34) rfl (fun hg34 => ?_) (fun hg34 => ?_)
        · refine WL.gn (dj := 34) rfl rfl rfl rfl ?_
          refine WL.gn (dj := 34) rfl rfl rfl rfl ?_
          refine WL.gn (dj := 34) rfl rfl rfl rfl ?_
          refine WL.y rfl (Yd.pickT rfl rfl) ?_
          refine WL.y rfl (Yd.move rfl) ?_
          refine WL.gn (dj := 39) rfl rfl rfl rfl ?_
          refine WL.gn (dj := 39) rfl rfl rfl rfl ?_
          refine WL.gn (dj := 39) rfl rfl rfl rfl ?_
          refine WL.y rfl (Yd.pickT rfl rfl) ?_
          refine WL.y rfl (Yd.move rfl) ?_
          refine WL.gn (dj := 44) rfl rfl rfl rfl ?_
          refine WL.gn (dj := 44) rfl rfl rfl rfl ?_
          refine WL.gn (dj := 44) rfl rfl rfl rfl ?_
          refine WL.y rfl (Yd.pickT rfl rfl) ?_
          refine WL.nil ?_
          refine DN.then_normal ?_
          refine WC.yes rfl ?_
          refine WC.seq ?_
          refine WC.region ?_
          refine WL.y rfl (Yd.assign rfl) ?_
          refine WL.y rfl (Yd.assign rfl) ?_
          refine WL.nil ?_
          refine DN.then_normal ?_
          refine WC.ret ?_
          refine DN.then_ret ?_
          refine DN.block_ret ?_
          refine DN.then_ret ?_
          refine DN.then_ret ?_
          refine DN.block_ret ?_
          refine DN.then_ret ?_
          first | (have hlt2 : i < gs.length := hlt; refine DN.fit (C := H) (by repeat (first | exact Sp.here | exact Sp.sn | exact Sp.s0 | exact Fr.here | apply Sp.s2 | apply Sp.sx | apply Fr.fc | apply Fr.al | apply Fr.fa | apply Sp.sc | apply Sp.al | apply Sp.sa)) ?_) | refine DN.fit (C := row b13 [.slice fo F.length fc, .slice none 0 0] 60 :: (Cf ++ H)) (by repeat (first | exact Sp.here | exact Sp.sn | exact Sp.s0 | exact Fr.here | apply Sp.s2 | apply Sp.sx | apply Fr.fc | apply Fr.al | apply Fr.fa | apply Sp.sc | apply Sp.al | apply Sp.sa)) ?_ | skip
          refine DN.ret2 Try.results12 rfl rfl ?_
          first
            | exact .inr ⟨fun hG => by have := hG.1; omega, rfl, rfl⟩
            | exact .inr ⟨fun hG => (twice_noU hlt htw) hG.2.1, rfl, rfl⟩
            | exact .inr ⟨fun hG => (hG.2.2 gs[i] (List.getElem_mem hlt)).1 (ByteArray.ext (Array.eq_empty_of_size_eq_zero (by have : gs[i].name.size = 0 := (by omega); exact this))), rfl, rfl⟩
            | exact .inr ⟨fun hG => by have := (hG.2.2 gs[i] (List.getElem_mem hlt)).2; omega, rfl, rfl⟩
            | exact .inl ⟨⟨by omega, hnd, fun g hm => by obtain ⟨j, hj, rfl⟩ := List.getElem_of_mem hm; exact hgood j hj hj⟩, b13, row b13 [.slice fo F.length fc, .slice none 0 0] 60 :: (Cf ++ []), F, rfl, ⟨_, _, Cf, [], rfl, hF, Own.nil _ _⟩, hT, by simp⟩
        · refine WL.gy (dj := 34) rfl rfl rfl (Yd.fieldAddr (k := 1) (by kernel_rfl) rfl) ?_
          refine WL.gh (dj := 34) rfl rfl rfl (Hd.load1 (by kernel_rfl) rfl (by repeat (first | exact List.mem_cons_self | apply List.mem_cons_of_mem | apply List.mem_append_right)) (by rfl) ⟨_, rfl, ?_⟩)
          refine WL.gy (dj := 34) rfl rfl rfl (Yd.lss rfl rfl) ?_
          refine WL.y rfl (Yd.pickF rfl rfl) ?_
          refine WL.y rfl (Yd.move rfl) ?_
          refine WL.partP (t := 39) rfl (fun hg39 => ?_) (fun hg39 => ?_)
          · refine WL.gn (dj := 39) rfl rfl rfl rfl ?_
            refine WL.gn (dj := 39) rfl rfl rfl rfl ?_
            refine WL.gn (dj := 39) rfl rfl rfl rfl ?_
            refine WL.y rfl (Yd.pickT rfl rfl) ?_
            refine WL.y rfl (Yd.move rfl) ?_
            refine WL.gn (dj := 44) rfl rfl rfl rfl ?_
            refine WL.gn (dj := 44) rfl rfl rfl rfl ?_
            refine WL.gn (dj := 44) rfl rfl rfl rfl ?_
            refine WL.y rfl (Yd.pickT rfl rfl) ?_
            refine WL.nil ?_
            refine DN.then_normal ?_
            refine WC.yes rfl ?_
            refine WC.seq ?_
            refine WC.region ?_
            refine WL.y rfl (Yd.assign rfl) ?_
            refine WL.y rfl (Yd.assign rfl) ?_
            refine WL.nil ?_
            refine DN.then_normal ?_
            refine WC.ret ?_
            refine DN.then_ret ?_
            refine DN.block_ret ?_
            refine DN.then_ret ?_
            refine DN.then_ret ?_
            refine DN.block_ret ?_
            refine DN.then_ret ?_
            first | (have hlt2 : i < gs.length := hlt; refine DN.fit (C := H) (by repeat (first | exact Sp.here | exact Sp.sn | exact Sp.s0 | exact Fr.here | apply Sp.s2 | apply Sp.sx | apply Fr.fc | apply Fr.al | apply Fr.fa | apply Sp.sc | apply Sp.al | apply Sp.sa)) ?_) | refine DN.fit (C := row b13 [.slice fo F.length fc, .slice none 0 0] 60 :: (Cf ++ H)) (by repeat (first | exact Sp.here | exact Sp.sn | exact Sp.s0 | exact Fr.here | apply Sp.s2 | apply Sp.sx | apply Fr.fc | apply Fr.al | apply Fr.fa | apply Sp.sc | apply Sp.al | apply Sp.sa)) ?_ | skip
            refine DN.ret2 Try.results12 rfl rfl ?_
            first
              | exact .inr ⟨fun hG => by have := hG.1; omega, rfl, rfl⟩
              | exact .inr ⟨fun hG => (twice_noU hlt htw) hG.2.1, rfl, rfl⟩
              | exact .inr ⟨fun hG => (hG.2.2 gs[i] (List.getElem_mem hlt)).1 (ByteArray.ext (Array.eq_empty_of_size_eq_zero (by have : gs[i].name.size = 0 := (by omega); exact this))), rfl, rfl⟩
              | exact .inr ⟨fun hG => by have := (hG.2.2 gs[i] (List.getElem_mem hlt)).2; omega, rfl, rfl⟩
              | exact .inl ⟨⟨by omega, hnd, fun g hm => by obtain ⟨j, hj, rfl⟩ := List.getElem_of_mem hm; exact hgood j hj hj⟩, b13, row b13 [.slice fo F.length fc, .slice none 0 0] 60 :: (Cf ++ []), F, rfl, ⟨_, _, Cf, [], rfl, hF, Own.nil _ _⟩, hT, by simp⟩
          · refine WL.gy (dj := 39) rfl rfl rfl (Yd.fieldAddr (k := 1) (by kernel_rfl) rfl) ?_
            refine WL.gh (dj := 39) rfl rfl rfl (Hd.load1 (by kernel_rfl) rfl (by repeat (first | exact List.mem_cons_self | apply List.mem_cons_of_mem | apply List.mem_append_right)) (by rfl) ⟨_, rfl, ?_⟩)
            refine WL.gy (dj := 39) rfl rfl rfl (Yd.gtr rfl rfl) ?_
            refine WL.y rfl (Yd.pickF rfl rfl) ?_
            refine WL.y rfl (Yd.move rfl) ?_
            refine WL.partP (t := 44) rfl (fun hg44 => ?_) (fun hg44 => ?_)
            · refine WL.gn (dj := 44) rfl rfl rfl rfl ?_
              refine WL.gn (dj := 44) rfl rfl rfl rfl ?_
              refine WL.gn (dj := 44) rfl rfl rfl rfl ?_
              refine WL.y rfl (Yd.pickT rfl rfl) ?_
              refine WL.nil ?_
              refine DN.then_normal ?_
              refine WC.yes rfl ?_
              refine WC.seq ?_
              refine WC.region ?_
              refine WL.y rfl (Yd.assign rfl) ?_
              refine WL.y rfl (Yd.assign rfl) ?_
              refine WL.nil ?_
              refine DN.then_normal ?_
              refine WC.ret ?_
              refine DN.then_ret ?_
              refine DN.block_ret ?_
              refine DN.then_ret ?_
              refine DN.then_ret ?_
              refine DN.block_ret ?_
              refine DN.then_ret ?_
              first | (have hlt2 : i < gs.length := hlt; refine DN.fit (C := H) (by repeat (first | exact Sp.here | exact Sp.sn | exact Sp.s0 | exact Fr.here | apply Sp.s2 | apply Sp.sx | apply Fr.fc | apply Fr.al | apply Fr.fa | apply Sp.sc | apply Sp.al | apply Sp.sa)) ?_) | refine DN.fit (C := row b13 [.slice fo F.length fc, .slice none 0 0] 60 :: (Cf ++ H)) (by repeat (first | exact Sp.here | exact Sp.sn | exact Sp.s0 | exact Fr.here | apply Sp.s2 | apply Sp.sx | apply Fr.fc | apply Fr.al | apply Fr.fa | apply Sp.sc | apply Sp.al | apply Sp.sa)) ?_ | skip
              refine DN.ret2 Try.results12 rfl rfl ?_
              first
                | exact .inr ⟨fun hG => by have := hG.1; omega, rfl, rfl⟩
                | exact .inr ⟨fun hG => (twice_noU hlt htw) hG.2.1, rfl, rfl⟩
                | exact .inr ⟨fun hG => (hG.2.2 gs[i] (List.getElem_mem hlt)).1 (ByteArray.ext (Array.eq_empty_of_size_eq_zero (by have : gs[i].name.size = 0 := (by omega); exact this))), rfl, rfl⟩
                | exact .inr ⟨fun hG => by have := (hG.2.2 gs[i] (List.getElem_mem hlt)).2; omega, rfl, rfl⟩
                | exact .inl ⟨⟨by omega, hnd, fun g hm => by obtain ⟨j, hj, rfl⟩ := List.getElem_of_mem hm; exact hgood j hj hj⟩, b13, row b13 [.slice fo F.length fc, .slice none 0 0] 60 :: (Cf ++ []), F, rfl, ⟨_, _, Cf, [], rfl, hF, Own.nil _ _⟩, hT, by simp⟩
            · refine WL.gy (dj := 44) rfl rfl rfl (Yd.fieldAddr (k := 2) (by kernel_rfl) rfl) ?_
              refine WL.gh (dj := 44) rfl rfl rfl (Hd.load1 (by kernel_rfl) rfl (by repeat (first | exact List.mem_cons_self | apply List.mem_cons_of_mem | apply List.mem_append_right)) (by rfl) ⟨_, rfl, ?_⟩)
              refine WL.gy (dj := 44) rfl rfl rfl (Yd.neq rfl rfl) ?_
              refine WL.y rfl (Yd.pickF rfl rfl) ?_
              refine WL.nil ?_
              refine DN.then_normal ?_
              refine WC.ite rfl (fun h48 => ?_) (fun h48 => ?_)
              · refine WC.seq ?_
                refine WC.region ?_
                refine WL.y rfl (Yd.assign rfl) ?_
                refine WL.y rfl (Yd.assign rfl) ?_
                refine WL.nil ?_
                refine DN.then_normal ?_
                refine WC.ret ?_
                refine DN.then_ret ?_
                refine DN.block_ret ?_
                refine DN.then_ret ?_
                refine DN.then_ret ?_
                refine DN.block_ret ?_
                refine DN.then_ret ?_
                first | (have hlt2 : i < gs.length := hlt; refine DN.fit (C := H) (by repeat (first | exact Sp.here | exact Sp.sn | exact Sp.s0 | exact Fr.here | apply Sp.s2 | apply Sp.sx | apply Fr.fc | apply Fr.al | apply Fr.fa | apply Sp.sc | apply Sp.al | apply Sp.sa)) ?_) | refine DN.fit (C := row b13 [.slice fo F.length fc, .slice none 0 0] 60 :: (Cf ++ H)) (by repeat (first | exact Sp.here | exact Sp.sn | exact Sp.s0 | exact Fr.here | apply Sp.s2 | apply Sp.sx | apply Fr.fc | apply Fr.al | apply Fr.fa | apply Sp.sc | apply Sp.al | apply Sp.sa)) ?_ | skip
                refine DN.ret2 Try.results12 rfl rfl ?_
                first
                  | exact .inr ⟨fun hG => by have := hG.1; omega, rfl, rfl⟩
                  | exact .inr ⟨fun hG => (twice_noU hlt htw) hG.2.1, rfl, rfl⟩
                  | exact .inr ⟨fun hG => (hG.2.2 gs[i] (List.getElem_mem hlt)).1 (ByteArray.ext (Array.eq_empty_of_size_eq_zero (by have : gs[i].name.size = 0 := (by omega); exact this))), rfl, rfl⟩
                  | exact .inr ⟨fun hG => by have := (hG.2.2 gs[i] (List.getElem_mem hlt)).2; omega, rfl, rfl⟩
                  | exact .inl ⟨⟨by omega, hnd, fun g hm => by obtain ⟨j, hj, rfl⟩ := List.getElem_of_mem hm; exact hgood j hj hj⟩, b13, row b13 [.slice fo F.length fc, .slice none 0 0] 60 :: (Cf ++ []), F, rfl, ⟨_, _, Cf, [], rfl, hF, Own.nil _ _⟩, hT, by simp⟩
              · have hgi : accB gs[i] := ⟨fun e => hg28 (by rw [e]; decide), by omega, by omega, by omega, by omega⟩
                refine WC.skip ?_
                refine DN.then_normal ?_
                refine WC.seq ?_
                refine WC.region ?_
                refine WL.y rfl (Yd.assign rfl) ?_
                refine WL.nil ?_
                refine DN.then_normal ?_
                refine WC.seq ?_
                refine WC.region ?_
                refine WL.y rfl (Yd.assign rfl) ?_
                refine WL.nil ?_
                refine DN.then_normal ?_
                refine WC.seq ?_
                refine WC.block ?_
                refine WC.loopS (fun z : Nat × Value × List Ck => z.1 ≤ F.length ∧ (∀ (j : Nat) (hj : j < F.length), j < z.1 → sLt F[j].name gs[i].name = true) ∧ Own z.2.1 z.1 ((F.take z.1).flatMap cellsU) 46 3 z.2.2) (fun z : Nat × Value × List Ck => [(8, .int .i64 (z.1 : Int)), (7, z.2.1)]) (fun z : Nat × Value × List Ck => z.2.2 ++ (row b6 (cellsU gs[i]) 46 :: (row b13 [.slice fo F.length fc, .slice none 0 0] 60 :: (Cf ++ H)))) (fun z : Nat × Value × List Ck => F.length - z.1) (⟨0, .slice none 0 0, []⟩) (show 0 ≤ F.length ∧ (∀ (j : Nat) (hj : j < F.length), j < 0 → sLt F[j].name gs[i].name = true) ∧ Own (.slice none 0 0) 0 ((F.take 0).flatMap cellsU) 46 3 [] from ⟨Nat.zero_le _, fun j hj h => by omega, by simpa using Own.nil 46 3⟩) (Sx.put rfl (Sx.put rfl ((by repeat (first | exact Sx.refl | refine Sx.skip rfl ?_))))) (by repeat (first | exact Sp.here | exact Sp.sn | exact Sp.s0 | exact Fr.here | apply Sp.s2 | apply Sp.sx | apply Fr.fc | apply Fr.al | apply Fr.fa | apply Sp.sc | apply Sp.al | apply Sp.sa)) ?_
                rintro ⟨k, vm, Cm⟩ hI
                replace hI : k ≤ F.length ∧ (∀ (j : Nat) (hj : j < F.length), j < k → sLt F[j].name gs[i].name = true) ∧ Own vm k ((F.take k).flatMap cellsU) 46 3 Cm := hI
                obtain ⟨hk, hbelow, hm⟩ := hI
                change WC _ _ _ _ _ _ ([(8, .int .i64 (k : Int)), (7, vm)] ++ _) (Cm ++ (row b6 (cellsU gs[i]) 46 :: (row b13 [.slice fo F.length fc, .slice none 0 0] 60 :: (Cf ++ H))))
                obtain ⟨mo, mc, rfl, hmc⟩ := hm.form
                refine WC.seq ?_
                refine WC.cutK (fun z : Bool => z = true ↔ ∃ h : k < F.length, sLt F[k].name gs[i].name = true) (fun z : Bool => [(68, .bool z)]) (fun z : Bool => Cm ++ (row b6 (cellsU gs[i]) 46 :: (row b13 [.slice fo F.length fc, .slice none 0 0] 60 :: (Cf ++ H)))) ?_ ?_
                · refine WC.draw 20 (by kernel_rfl) rfl ?_
                  refine WA.quiet 20 0 rfl rfl (by kernel_rfl) (by kernel_rfl) (by kernel_rfl) rfl ?_
                  refine WQ.y rfl (Yd.move rfl) ?_
                  refine WQ.y rfl (Yd.move rfl) ?_
                  refine WQ.y rfl (Yd.notNil rfl) ?_
                  refine WQ.y rfl (Yd.fieldAddr (k := 0) (by kernel_rfl) rfl) ?_
                  refine WQ.rd rfl Wt.none (Rd.load1 (by kernel_rfl) rfl (by repeat (first | exact List.mem_cons_self | apply List.mem_cons_of_mem | apply List.mem_append_right)) (by rfl)) ?_
                  refine WQ.y rfl (Yd.len (e := 46) (by kernel_rfl) rfl) ?_
                  refine WQ.y rfl (Yd.lss rfl rfl) ?_
                  refine WQ.y rfl (Yd.move rfl) ?_
                  refine WQ.partP (t := 56) rfl (fun hg56 => ?_) (fun hg56 => ?_)
                  · refine WQ.gy (dj := 56) rfl rfl rfl (Yd.move rfl) ?_
                    refine WQ.gy (dj := 56) rfl rfl rfl (Yd.notNil rfl) ?_
                    refine WQ.gy (dj := 56) rfl rfl rfl (Yd.fieldAddr (k := 0) (by kernel_rfl) rfl) ?_
                    obtain ⟨tb, tf, ts, tT, tfr, tex, efo, _, htm, hts⟩ := hF.rs.lies (by omega)
                    refine WQ.rd rfl (Wt.yes (dj := 56) rfl rfl) (Rd.load1 (by kernel_rfl) rfl (by repeat (first | exact List.mem_cons_self | apply List.mem_cons_of_mem | apply List.mem_append_right)) (by rfl)) ?_
                    refine WQ.gy (dj := 56) rfl rfl rfl (Yd.move rfl) ?_
                    refine WQ.gy (dj := 56) rfl rfl rfl (Yd.indexAddr (e := 46) (s := 3) (b := tb) (o := tf) (n := F.length) (c := fc) (by kernel_rfl) (by kernel_rfl) (congrArg (fun q => some (Value.slice q F.length fc)) efo) rfl (by omega) (by omega)) ?_
                    refine WQ.gy (dj := 56) rfl rfl rfl (Yd.fieldAddr (k := 0) (by kernel_rfl) rfl) ?_
                    refine WQ.rd rfl (Wt.yes (dj := 56) rfl rfl) (Rd.load1 (v := .string F[k].name) (b := tb) (o := tf + (k : Int).toNat * 3 + 0) (cs := ts) (by kernel_rfl) rfl (Gr.get (by repeat (first | exact Gr.refl | exact Gr.left Gr.refl | exact Gr.left (Gr.left Gr.refl) | exact Gr.left (Gr.app Gr.refl) | exact Gr.left (Gr.left (Gr.left Gr.refl)) | exact Gr.nil | exact Gr.app (Gr.left Gr.refl) | refine Gr.cons ?_ | refine Gr.app ?_ | refine Gr.both ?_ ?_ | refine Gr.put (by repeat (first | exact List.mem_cons_self | apply List.mem_cons_of_mem | apply List.mem_append_right)) ?_)) htm) (cell_atP (L := F) cellsU_len hts (by omega) (by omega))) ?_
                    refine WQ.gy (dj := 56) rfl rfl rfl (Yd.fieldAddr (k := 0) (by kernel_rfl) rfl) ?_
                    refine WQ.rd rfl (Wt.yes (dj := 56) rfl rfl) (Rd.load1 (by kernel_rfl) rfl (by repeat (first | exact List.mem_cons_self | apply List.mem_cons_of_mem | apply List.mem_append_right)) (by rfl)) ?_
                    refine WQ.gy (dj := 56) rfl rfl rfl (Yd.lssS rfl rfl) ?_
                    refine WQ.y rfl (Yd.pickT rfl rfl) ?_
                    refine WQ.nil ?_
                    refine WA.done (by kernel_rfl) ?_
                    exact DN.reachK (_) (by
                      first
                      | exact ⟨fun h => ⟨by omega, h⟩, fun ⟨_, h⟩ => h⟩
                      | exact ⟨fun h => (by cases h), fun ⟨h, _⟩ => (by omega)⟩) (Sx.put rfl ((by repeat (first | exact Sx.refl | refine Sx.skip rfl ?_)))) (Sp.all (by repeat (first | exact Sp.here | exact Sp.sn | exact Sp.s0 | exact Fr.here | apply Sp.s2 | apply Sp.sx | apply Fr.fc | apply Fr.al | apply Fr.fa | apply Sp.sc | apply Sp.al | apply Sp.sa)))
                  · refine WQ.gn (dj := 56) rfl rfl rfl rfl ?_
                    refine WQ.gn (dj := 56) rfl rfl rfl rfl ?_
                    refine WQ.gn (dj := 56) rfl rfl rfl rfl ?_
                    refine WQ.gn (dj := 56) rfl rfl rfl rfl ?_
                    refine WQ.gn (dj := 56) rfl rfl rfl rfl ?_
                    refine WQ.gn (dj := 56) rfl rfl rfl rfl ?_
                    refine WQ.gn (dj := 56) rfl rfl rfl rfl ?_
                    refine WQ.gn (dj := 56) rfl rfl rfl rfl ?_
                    refine WQ.gn (dj := 56) rfl rfl rfl rfl ?_
                    refine WQ.gn (dj := 56) rfl rfl rfl rfl ?_
                    refine WQ.gn (dj := 56) rfl rfl rfl rfl ?_
                    refine WQ.y rfl (Yd.pickF rfl rfl) ?_
                    refine WQ.nil ?_
                    refine WA.done (by kernel_rfl) ?_
                    exact DN.reachK (_) (by
                      first
                      | exact ⟨fun h => ⟨by omega, h⟩, fun ⟨_, h⟩ => h⟩
                      | exact ⟨fun h => (by cases h), fun ⟨h, _⟩ => (by omega)⟩) (Sx.put rfl ((by repeat (first | exact Sx.refl | refine Sx.skip rfl ?_)))) (Sp.all (by repeat (first | exact Sp.here | exact Sp.sn | exact Sp.s0 | exact Fr.here | apply Sp.s2 | apply Sp.sx | apply Fr.fc | apply Fr.al | apply Fr.fa | apply Sp.sc | apply Sp.al | apply Sp.sa)))
                · intro z68 hz68
                  refine WC.cond rfl (fun h68 => ?_) (fun h68 => ?_)
                  · obtain ⟨hkl, hlow⟩ := hz68.1 h68
                    obtain ⟨tb, tf, ts, tT, tfr, tex, efo, _, htm, hts⟩ := hF.rs.lies (by omega)
                    refine WC.skip ?_
                    refine DN.then_normal ?_
                    refine WC.block ?_
                    refine WC.seq ?_
                    refine WC.region ?_
                    refine WL.y rfl (Yd.move rfl) ?_
                    refine WL.y rfl (Yd.move rfl) ?_
                    refine WL.y rfl (Yd.notNil rfl) ?_
                    refine WL.y rfl (Yd.fieldAddr (k := 0) (by kernel_rfl) rfl) ?_
                    refine WL.h rfl (Hd.load1 (by kernel_rfl) rfl (by repeat (first | exact List.mem_cons_self | apply List.mem_cons_of_mem | apply List.mem_append_right)) (by rfl) ⟨_, rfl, ?_⟩)
                    refine WL.y rfl (Yd.move rfl) ?_
                    refine WL.y rfl (Yd.indexAddr (e := 46) (s := 3) (b := tb) (o := tf) (n := F.length) (c := fc) (by kernel_rfl) (by kernel_rfl) (congrArg (fun q => some (Value.slice q F.length fc)) efo) rfl (by omega) (by omega)) ?_
                    refine WL.h rfl (Hd.loadA (n := 3) (b := tb) (o := tf + (k : Int).toNat * 3) (cs := ts) (vs := cellsU F[k]) (by kernel_rfl) rfl (Gr.get (by repeat (first | exact Gr.refl | exact Gr.left Gr.refl | exact Gr.left (Gr.left Gr.refl) | exact Gr.left (Gr.app Gr.refl) | exact Gr.left (Gr.left (Gr.left Gr.refl)) | exact Gr.nil | exact Gr.app (Gr.left Gr.refl) | refine Gr.cons ?_ | refine Gr.app ?_ | refine Gr.both ?_ ?_ | refine Gr.put (by repeat (first | exact List.mem_cons_self | apply List.mem_cons_of_mem | apply List.mem_append_right)) ?_)) htm) (cellsU_len _) (rs_cell hts (by rw [flat_len cellsU 3 cellsU_len]; omega) (flat_row cellsU 3 cellsU_len F k (by omega))) ⟨_, rfl, ?_⟩)
                    refine WL.h rfl (Hd.buildA (e := 46) (sz := 3) (zs := [.string ⟨#[]⟩, .int .i64 0, .int .i64 0]) (by kernel_rfl) (by kernel_rfl) (by kernel_rfl) rfl rfl (by rfl) (by kernel_rfl) fun b77 => ⟨_, rfl, ?_⟩)
                    refine WL.h rfl (Hd.appendRow (e := 46) (sz := 3) (bytes := 32) (zs := [.string ⟨#[]⟩, .int .i64 0, .int .i64 0]) (by kernel_rfl) (by kernel_rfl) rfl (by omega) rfl rfl (hm) (by repeat (first | exact Sp.here | exact Sp.sn | exact Sp.s0 | exact Fr.here | apply Sp.s2 | apply Sp.sx | apply Fr.fc | apply Fr.al | apply Fr.fa | apply Sp.sc | apply Sp.al | apply Sp.sa)) (by repeat (first | exact List.mem_cons_self | apply List.mem_cons_of_mem | apply List.mem_append_right)) (by rfl) (by repeat (first | exact fun _ h => absurd h List.not_mem_nil | refine List.forall_mem_cons.2 ⟨by first | rfl | assumption, ?_⟩)) (by simp only [maxLen]; omega) (by omega) fun v2 C2 h2 => ⟨_, rfl, ?_⟩)
                    refine WL.y rfl (Yd.assign rfl) ?_
                    refine WL.nil ?_
                    refine DN.then_normal ?_
                    refine WC.region ?_
                    refine WL.y rfl (Yd.move rfl) ?_
                    refine WL.y rfl (Yd.add rfl rfl (by omega) (by omega)) ?_
                    refine WL.y rfl (Yd.assign rfl) ?_
                    refine WL.nil ?_
                    refine DN.block_normal ?_
                    exact DN.againS (⟨k + 1, v2, C2⟩) (show (k + 1) ≤ F.length ∧ (∀ (j : Nat) (hj : j < F.length), j < (k + 1) → sLt F[j].name gs[i].name = true) ∧ Own v2 (k + 1) ((F.take (k + 1)).flatMap cellsU) 46 3 C2 from ⟨by omega, fun j hj h => by
                      rcases Nat.lt_or_ge j k with h5 | h5
                      · exact hbelow j hj h5
                      · obtain rfl : j = k := by omega
                        exact hlow, by rw [List.take_succ_eq_append_getElem hkl, List.flatMap_append]; simpa using h2⟩) (show F.length - (k + 1) < F.length - k by omega) (Sx.put rfl (Sx.put rfl ((by repeat (first | exact Sx.refl | refine Sx.skip rfl ?_))))) (by repeat (first | exact Sp.here | exact Sp.sn | exact Sp.s0 | exact Fr.here | apply Sp.s2 | apply Sp.sx | apply Fr.fc | apply Fr.al | apply Fr.fa | apply Sp.sc | apply Sp.al | apply Sp.sa))
                  · have hge : ∀ h : k < F.length, sLt F[k].name gs[i].name = false := fun h => by
                      cases h2 : sLt F[k].name gs[i].name with
                      | false => rfl
                      | true => rw [hz68.2 ⟨h, h2⟩] at h68; cases h68
                    refine WC.exit ?_
                    refine DN.then_exit ?_
                    refine DN.then_exit ?_
                    refine DN.block_exit ?_
                    refine DN.then_normal ?_
                    refine WC.seq ?_
                    refine WC.cutK (fun z : Bool => z = true ↔ ∃ h : k < F.length, F[k].name = gs[i].name) (fun z : Bool => [(100, .bool z)]) (fun z : Bool => Cm ++ (row b6 (cellsU gs[i]) 46 :: (row b13 [.slice fo F.length fc, .slice none 0 0] 60 :: (Cf ++ H)))) ?_ ?_
                    · refine WC.draw 20 (by kernel_rfl) rfl ?_
                      refine WA.quiet 20 0 rfl rfl (by kernel_rfl) (by kernel_rfl) (by kernel_rfl) rfl ?_
                      refine WQ.y rfl (Yd.move rfl) ?_
                      refine WQ.y rfl (Yd.move rfl) ?_
                      refine WQ.y rfl (Yd.notNil rfl) ?_
                      refine WQ.y rfl (Yd.fieldAddr (k := 0) (by kernel_rfl) rfl) ?_
                      refine WQ.rd rfl Wt.none (Rd.load1 (by kernel_rfl) rfl (by repeat (first | exact List.mem_cons_self | apply List.mem_cons_of_mem | apply List.mem_append_right)) (by rfl)) ?_
                      refine WQ.y rfl (Yd.len (e := 46) (by kernel_rfl) rfl) ?_
                      refine WQ.y rfl (Yd.lss rfl rfl) ?_
                      refine WQ.y rfl (Yd.move rfl) ?_
                      refine WQ.partP (t := 88) rfl (fun hg88 => ?_) (fun hg88 => ?_)
                      · refine WQ.gy (dj := 88) rfl rfl rfl (Yd.move rfl) ?_
                        refine WQ.gy (dj := 88) rfl rfl rfl (Yd.notNil rfl) ?_
                        refine WQ.gy (dj := 88) rfl rfl rfl (Yd.fieldAddr (k := 0) (by kernel_rfl) rfl) ?_
                        obtain ⟨tb, tf, ts, tT, tfr, tex, efo, _, htm, hts⟩ := hF.rs.lies (by omega)
                        refine WQ.rd rfl (Wt.yes (dj := 88) rfl rfl) (Rd.load1 (by kernel_rfl) rfl (by repeat (first | exact List.mem_cons_self | apply List.mem_cons_of_mem | apply List.mem_append_right)) (by rfl)) ?_
                        refine WQ.gy (dj := 88) rfl rfl rfl (Yd.move rfl) ?_
                        refine WQ.gy (dj := 88) rfl rfl rfl (Yd.indexAddr (e := 46) (s := 3) (b := tb) (o := tf) (n := F.length) (c := fc) (by kernel_rfl) (by kernel_rfl) (congrArg (fun q => some (Value.slice q F.length fc)) efo) rfl (by omega) (by omega)) ?_
                        refine WQ.gy (dj := 88) rfl rfl rfl (Yd.fieldAddr (k := 0) (by kernel_rfl) rfl) ?_
                        refine WQ.rd rfl (Wt.yes (dj := 88) rfl rfl) (Rd.load1 (v := .string F[k].name) (b := tb) (o := tf + (k : Int).toNat * 3 + 0) (cs := ts) (by kernel_rfl) rfl (Gr.get (by repeat (first | exact Gr.refl | exact Gr.left Gr.refl | exact Gr.left (Gr.left Gr.refl) | exact Gr.left (Gr.app Gr.refl) | exact Gr.left (Gr.left (Gr.left Gr.refl)) | exact Gr.nil | exact Gr.app (Gr.left Gr.refl) | refine Gr.cons ?_ | refine Gr.app ?_ | refine Gr.both ?_ ?_ | refine Gr.put (by repeat (first | exact List.mem_cons_self | apply List.mem_cons_of_mem | apply List.mem_append_right)) ?_)) htm) (cell_atP (L := F) cellsU_len hts (by omega) (by omega))) ?_
                        refine WQ.gy (dj := 88) rfl rfl rfl (Yd.fieldAddr (k := 0) (by kernel_rfl) rfl) ?_
                        refine WQ.rd rfl (Wt.yes (dj := 88) rfl rfl) (Rd.load1 (by kernel_rfl) rfl (by repeat (first | exact List.mem_cons_self | apply List.mem_cons_of_mem | apply List.mem_append_right)) (by rfl)) ?_
                        refine WQ.gy (dj := 88) rfl rfl rfl (Yd.eqlS rfl rfl) ?_
                        refine WQ.y rfl (Yd.pickT rfl rfl) ?_
                        refine WQ.nil ?_
                        refine WA.done (by kernel_rfl) ?_
                        exact DN.reachK (_) (by
                          first
                          | (rw [decide_eq_true_eq]; exact ⟨fun h => ⟨by omega, h⟩, fun ⟨_, h⟩ => h⟩)
                          | exact ⟨fun h => (by cases h), fun ⟨h, _⟩ => (by omega)⟩) (Sx.put rfl ((by repeat (first | exact Sx.refl | refine Sx.skip rfl ?_)))) (Sp.all (by repeat (first | exact Sp.here | exact Sp.sn | exact Sp.s0 | exact Fr.here | apply Sp.s2 | apply Sp.sx | apply Fr.fc | apply Fr.al | apply Fr.fa | apply Sp.sc | apply Sp.al | apply Sp.sa)))
                      · refine WQ.gn (dj := 88) rfl rfl rfl rfl ?_
                        refine WQ.gn (dj := 88) rfl rfl rfl rfl ?_
                        refine WQ.gn (dj := 88) rfl rfl rfl rfl ?_
                        refine WQ.gn (dj := 88) rfl rfl rfl rfl ?_
                        refine WQ.gn (dj := 88) rfl rfl rfl rfl ?_
                        refine WQ.gn (dj := 88) rfl rfl rfl rfl ?_
                        refine WQ.gn (dj := 88) rfl rfl rfl rfl ?_
                        refine WQ.gn (dj := 88) rfl rfl rfl rfl ?_
                        refine WQ.gn (dj := 88) rfl rfl rfl rfl ?_
                        refine WQ.gn (dj := 88) rfl rfl rfl rfl ?_
                        refine WQ.gn (dj := 88) rfl rfl rfl rfl ?_
                        refine WQ.y rfl (Yd.pickF rfl rfl) ?_
                        refine WQ.nil ?_
                        refine WA.done (by kernel_rfl) ?_
                        exact DN.reachK (_) (by
                          first
                          | (rw [decide_eq_true_eq]; exact ⟨fun h => ⟨by omega, h⟩, fun ⟨_, h⟩ => h⟩)
                          | exact ⟨fun h => (by cases h), fun ⟨h, _⟩ => (by omega)⟩) (Sx.put rfl ((by repeat (first | exact Sx.refl | refine Sx.skip rfl ?_)))) (Sp.all (by repeat (first | exact Sp.here | exact Sp.sn | exact Sp.s0 | exact Fr.here | apply Sp.s2 | apply Sp.sx | apply Fr.fc | apply Fr.al | apply Fr.fa | apply Sp.sc | apply Sp.al | apply Sp.sa)))
                    · intro z100 hz100
                      refine WC.cond rfl (fun h100 => ?_) (fun h100 => ?_)
                      · obtain ⟨hkl, hsame⟩ := hz100.1 h100
                        have htw : (findK Au.name (gs.take i) gs[i].name).isSome = true := by
                          rw [← hsame, findK_of hnd (hT.perm.mem_iff.1 (List.getElem_mem hkl))]; rfl
                        refine WC.seq ?_
                        refine WC.region ?_
                        refine WL.y rfl (Yd.assign rfl) ?_
                        refine WL.y rfl (Yd.assign rfl) ?_
                        refine WL.nil ?_
                        refine DN.then_normal ?_
                        refine WC.ret ?_
                        refine DN.then_ret ?_
                        refine DN.block_ret ?_
                        refine DN.then_ret ?_
                        refine DN.then_ret ?_
                        refine DN.block_ret ?_
                        refine DN.then_ret ?_
                        first | (have hlt2 : i < gs.length := hlt; refine DN.fit (C := H) (by repeat (first | exact Sp.here | exact Sp.sn | exact Sp.s0 | exact Fr.here | apply Sp.s2 | apply Sp.sx | apply Fr.fc | apply Fr.al | apply Fr.fa | apply Sp.sc | apply Sp.al | apply Sp.sa)) ?_) | refine DN.fit (C := row b13 [.slice fo F.length fc, .slice none 0 0] 60 :: (Cf ++ H)) (by repeat (first | exact Sp.here | exact Sp.sn | exact Sp.s0 | exact Fr.here | apply Sp.s2 | apply Sp.sx | apply Fr.fc | apply Fr.al | apply Fr.fa | apply Sp.sc | apply Sp.al | apply Sp.sa)) ?_ | skip
                        refine DN.ret2 Try.results12 rfl rfl ?_
                        first
                          | exact .inr ⟨fun hG => by have := hG.1; omega, rfl, rfl⟩
                          | exact .inr ⟨fun hG => (twice_noU hlt htw) hG.2.1, rfl, rfl⟩
                          | exact .inr ⟨fun hG => (hG.2.2 gs[i] (List.getElem_mem hlt)).1 (ByteArray.ext (Array.eq_empty_of_size_eq_zero (by have : gs[i].name.size = 0 := (by omega); exact this))), rfl, rfl⟩
                          | exact .inr ⟨fun hG => by have := (hG.2.2 gs[i] (List.getElem_mem hlt)).2; omega, rfl, rfl⟩
                          | exact .inl ⟨⟨by omega, hnd, fun g hm => by obtain ⟨j, hj, rfl⟩ := List.getElem_of_mem hm; exact hgood j hj hj⟩, b13, row b13 [.slice fo F.length fc, .slice none 0 0] 60 :: (Cf ++ []), F, rfl, ⟨_, _, Cf, [], rfl, hF, Own.nil _ _⟩, hT, by simp⟩
                      · have hne : ∀ h : k < F.length, F[k].name ≠ gs[i].name := fun h h2 => by rw [hz100.2 ⟨h, h2⟩] at h100; cases h100
                        refine WC.skip ?_
                        refine DN.then_normal ?_
                        refine WC.seq ?_
                        refine WC.region ?_
                        refine WL.y rfl (Yd.move rfl) ?_
                        refine WL.h rfl (Hd.loadAll (n := 3) (by kernel_rfl) rfl (by repeat (first | exact List.mem_cons_self | apply List.mem_cons_of_mem | apply List.mem_append_right)) (by rfl) ⟨_, rfl, ?_⟩)
                        refine WL.h rfl (Hd.buildA (e := 46) (sz := 3) (zs := [.string ⟨#[]⟩, .int .i64 0, .int .i64 0]) (by kernel_rfl) (by kernel_rfl) (by kernel_rfl) rfl rfl (by rfl) (by kernel_rfl) fun b103 => ⟨_, rfl, ?_⟩)
                        refine WL.h rfl (Hd.appendRow (e := 46) (sz := 3) (bytes := 32) (zs := [.string ⟨#[]⟩, .int .i64 0, .int .i64 0]) (by kernel_rfl) (by kernel_rfl) rfl (by omega) rfl rfl (hm) (by repeat (first | exact Sp.here | exact Sp.sn | exact Sp.s0 | exact Fr.here | apply Sp.s2 | apply Sp.sx | apply Fr.fc | apply Fr.al | apply Fr.fa | apply Sp.sc | apply Sp.al | apply Sp.sa)) (by repeat (first | exact List.mem_cons_self | apply List.mem_cons_of_mem | apply List.mem_append_right)) (by rfl) (by repeat (first | exact fun _ h => absurd h List.not_mem_nil | refine List.forall_mem_cons.2 ⟨by first | rfl | assumption, ?_⟩)) (by simp only [maxLen]; omega) (by omega) fun v3 C3 h3 => ⟨_, rfl, ?_⟩)
                        refine WL.y rfl (Yd.assign rfl) ?_
                        refine WL.nil ?_
                        refine DN.then_normal ?_
                        refine WC.seq ?_
                        refine WC.region ?_
                        refine WL.y rfl (Yd.move rfl) ?_
                        refine WL.y rfl (Yd.move rfl) ?_
                        refine WL.y rfl (Yd.notNil rfl) ?_
                        refine WL.y rfl (Yd.fieldAddr (k := 0) (by kernel_rfl) rfl) ?_
                        refine WL.h rfl (Hd.load1 (by kernel_rfl) rfl (by repeat (first | exact List.mem_cons_self | apply List.mem_cons_of_mem | apply List.mem_append_right)) (by rfl) ⟨_, rfl, ?_⟩)
                        refine WL.y rfl (Yd.move rfl) ?_
                        refine WL.y rfl (Yd.slice (e := 46) (s := 3) (i := k) (j := F.length) (by kernel_rfl) (by kernel_rfl) rfl ⟨_, _, rfl, rfl⟩ rfl hk hfc) ?_
                        refine WL.h rfl (Hd.appendF (e := 46) (sz := 3) (bytes := 32) (zs := [.string ⟨#[]⟩, .int .i64 0, .int .i64 0]) (by kernel_rfl) (by kernel_rfl) rfl (by omega) rfl rfl h3 (by repeat (first | exact Sp.here | exact Sp.sn | exact Sp.s0 | exact Fr.here | apply Sp.s2 | apply Sp.sx | apply Fr.fc | apply Fr.al | apply Fr.fa | apply Sp.sc | apply Sp.al | apply Sp.sa)) ((hF.rs.sub (by rw [flat_len cellsU 3 cellsU_len]) hk (Nat.le_refl _)).mono (by repeat (first | exact Gr.refl | exact Gr.left Gr.refl | exact Gr.left (Gr.left Gr.refl) | exact Gr.left (Gr.app Gr.refl) | exact Gr.left (Gr.left (Gr.left Gr.refl)) | exact Gr.nil | exact Gr.app (Gr.left Gr.refl) | refine Gr.cons ?_ | refine Gr.app ?_ | refine Gr.both ?_ ?_ | refine Gr.put (by repeat (first | exact List.mem_cons_self | apply List.mem_cons_of_mem | apply List.mem_append_right)) ?_))) (by rw [List.length_take, List.length_drop, flat_len cellsU 3 cellsU_len]; omega) (one_partE cellsU cellsU_one F _ _) (by simp only [maxLen]; omega) (by omega) fun v4 C4 h4 => ⟨_, rfl, ?_⟩)
                        refine WL.y rfl (Yd.assign rfl) ?_
                        refine WL.nil ?_
                        refine DN.then_normal ?_
                        refine WC.region ?_
                        obtain ⟨zo, zc, rfl, _⟩ := h4.form
                        refine WL.y rfl (Yd.move rfl) ?_
                        refine WL.y rfl (Yd.move rfl) ?_
                        refine WL.y rfl (Yd.notNil rfl) ?_
                        refine WL.y rfl (Yd.fieldAddr (k := 0) (by kernel_rfl) rfl) ?_
                        refine WL.s (Hd.store1s (by kernel_rfl) rfl rfl (by rfl) (by repeat (first | exact Fr.here | apply Fr.fc | apply Fr.al | apply Fr.fa)) (by rfl) (by first | (simp only [List.set_cons_zero, List.set_cons_succ, Nat.zero_add, Nat.add_zero, Nat.reduceAdd]; rfl) | rfl) ⟨rfl, ?_⟩)
                        refine WL.nil ?_
                        refine DN.block_normal ?_
                        refine DN.then_normal ?_
                        refine WC.region ?_
                        refine WL.y rfl (Yd.move rfl) ?_
                        refine WL.y rfl (Yd.add rfl rfl (by omega) (by omega)) ?_
                        refine WL.y rfl (Yd.assign rfl) ?_
                        refine WL.nil ?_
                        exact DN.againS (⟨i + 1, F.take k ++ gs[i] :: F.drop k, .slice zo (k + 1 + (F.length - k)) zc, C4⟩) (show (i + 1) ≤ gs.length ∧ (∀ (j : Nat) (h : j < gs.length), j < (i + 1) → accB gs[j]) ∧ ((gs.take (i + 1)).map Au.name).Nodup ∧ ToldK Au.name sLt (gs.take (i + 1)) (F.take k ++ gs[i] :: F.drop k) ∧ Own (.slice zo (k + 1 + (F.length - k)) zc) (F.take k ++ gs[i] :: F.drop k).length ((F.take k ++ gs[i] :: F.drop k).flatMap cellsU) 46 3 C4 from ⟨by omega, fun j h hj => by
                          rcases Nat.lt_or_ge j i with h5 | h5
                          · exact hgood j h h5
                          · obtain rfl : j = i := by omega
                            exact hgi, by rw [List.take_succ_eq_append_getElem hlt]; exact once_moreU hnd (hT.free (lt := sLt) (fun _ _ _ => sLt_trans) sLt_irrefl sLt_tri hnd gs[i].name hk hbelow hge hne), hT.put (lt := sLt) (fun _ _ _ => sLt_trans) sLt_irrefl sLt_tri hlt hk hbelow hge, by rw [← put_flatE cellsU 3 cellsU_len]; have e : (F.take k ++ gs[i] :: F.drop k).length = k + 1 + (F.length - k) := (by rw [List.length_append, List.length_cons, List.length_take, List.length_drop]; omega); rw [e]; exact h4⟩) (show gs.length - (i + 1) < gs.length - i by omega) (Sx.put rfl ((by repeat (first | exact Sx.refl | refine Sx.skip rfl ?_)))) (by repeat (first | exact Sp.here | exact Sp.sn | exact Sp.s0 | exact Fr.here | apply Sp.s2 | apply Sp.sx | apply Fr.fc | apply Fr.al | apply Fr.fa | apply Sp.sc | apply Sp.al | apply Sp.sa))
    · obtain rfl : i = gs.length := by omega
      rw [List.take_length] at hnd hT
      refine WC.exit ?_
      refine DN.then_exit ?_
      refine DN.then_exit ?_
      refine DN.block_exit ?_
      refine DN.then_normal ?_
      refine WC.seq ?_
      refine WC.region ?_
      refine WL.y rfl (Yd.move rfl) ?_
      refine WL.y rfl (Yd.assign rfl) ?_
      refine WL.y rfl (Yd.assign rfl) ?_
      refine WL.nil ?_
      refine DN.then_normal ?_
      refine WC.ret ?_
      first | (have hlt2 : i < gs.length := hlt; refine DN.fit (C := H) (by repeat (first | exact Sp.here | exact Sp.sn | exact Sp.s0 | exact Fr.here | apply Sp.s2 | apply Sp.sx | apply Fr.fc | apply Fr.al | apply Fr.fa | apply Sp.sc | apply Sp.al | apply Sp.sa)) ?_) | refine DN.fit (C := row b13 [.slice fo F.length fc, .slice none 0 0] 60 :: (Cf ++ H)) (by repeat (first | exact Sp.here | exact Sp.sn | exact Sp.s0 | exact Fr.here | apply Sp.s2 | apply Sp.sx | apply Fr.fc | apply Fr.al | apply Fr.fa | apply Sp.sc | apply Sp.al | apply Sp.sa)) ?_ | skip
      refine DN.ret2 Try.results12 rfl rfl ?_
      first
        | exact .inr ⟨fun hG => by have := hG.1; omega, rfl, rfl⟩
        | exact .inr ⟨fun hG => (twice_noU hlt htw) hG.2.1, rfl, rfl⟩
        | exact .inr ⟨fun hG => (hG.2.2 gs[i] (List.getElem_mem hlt)).1 (ByteArray.ext (Array.eq_empty_of_size_eq_zero (by have : gs[i].name.size = 0 := (by omega); exact this))), rfl, rfl⟩
        | exact .inr ⟨fun hG => by have := (hG.2.2 gs[i] (List.getElem_mem hlt)).2; omega, rfl, rfl⟩
        | exact .inl ⟨⟨by omega, hnd, fun g hm => by obtain ⟨j, hj, rfl⟩ := List.getElem_of_mem hm; exact hgood j hj hj⟩, b13, row b13 [.slice fo F.length fc, .slice none 0 0] 60 :: (Cf ++ []), F, rfl, ⟨_, _, Cf, [], rfl, hF, Own.nil _ _⟩, hT, by simp⟩

end Go.Proofs.Ytllfnigodikbaaa
