/-
  The walks of the chapter's own dock: New, Bookings.
-/
import Derived.Test.YtmdbmcicbambjaaDock11
set_option linter.unusedVariables false
set_option linter.unusedSimpArgs false
set_option maxHeartbeats 4000000
namespace Go.Proofs.Ytmdbmcicbambjaa
open Go.SL


/-- (*drayage/drayageref11.Dock).Bookings -/
theorem rbookings_tells (p : Nat) (fs rs : List Int) (L : List Bk) (C : List Ck) (h : RfAt 58 3 47 p fs L C) (inv : DInv fs rs L) : Tells Try.prog 21 [.pointer (some ⟨p, 0, none⟩)] C fun r H' => ∃ S Cs, ToldB L S ∧ Own r S.length (S.flatMap encB) 47 3 Cs ∧ H' = Cs ++ C := by
  refine Tells.enter Try.func21 rfl Try.ntmps21 rfl ?_
  intro w0 R
  obtain ⟨vf, vl, Cf, Cl, rfl, hf, hL⟩ := h
  obtain ⟨fo, fc, rfl, hfc⟩ := hf.form
  obtain ⟨lo, lc, rfl, hlc⟩ := hL.form
  have hmany := inv.many
  have hlen := inv.len
  have hfew := inv.few
  refine WC.seq ?_
  refine WC.region ?_
  refine WL.y rfl (Yd.assign rfl) ?_
  refine WL.nil ?_
  refine DN.then_normal ?_
  refine WC.seq ?_
  refine WC.region ?_
  refine WL.y rfl (Yd.assign rfl) ?_
  refine WL.nil ?_
  refine DN.then_normal ?_
  refine WC.seq ?_
  refine WC.seq ?_
  refine WC.region ?_
  refine WL.y rfl (Yd.assign rfl) ?_
  refine WL.nil ?_
  refine DN.then_normal ?_
  refine WC.block ?_
  refine WC.loopS (fun z : Nat × Value × List Bk × List Ck => z.1 ≤ fs.length ∧ OutL z.1 L z.2.2.1 ∧ Own z.2.1 z.2.2.1.length (z.2.2.1.flatMap encB) 47 3 z.2.2.2) (fun z : Nat × Value × List Bk × List Ck => [(4, .int .i64 (z.1 : Int)), (3, z.2.1)]) (fun z : Nat × Value × List Bk × List Ck => z.2.2.2 ++ (row p [.slice fo fs.length fc, .slice lo L.length lc] 58 :: (Cf ++ Cl))) (fun z : Nat × Value × List Bk × List Ck => fs.length - z.1) (⟨0, .slice none 0 0, [], []⟩) (show 0 ≤ fs.length ∧ OutL 0 L [] ∧ Own (.slice none 0 0) [].length ([].flatMap encB) 47 3 [] from ⟨Nat.zero_le _, OutL.start L, Own.nil _ _⟩) (Sx.put rfl (Sx.put rfl ((by repeat (first | exact Sx.refl | refine Sx.skip rfl ?_))))) (by repeat (first | exact Sp.here | exact Sp.sn | exact Sp.s0 | exact Fr.here | apply Sp.s2 | apply Sp.sx | apply Fr.fc | apply Fr.al | apply Fr.fa | apply Sp.sc | apply Sp.al | apply Sp.sa)) ?_
  rintro ⟨d, vo, So, Co⟩ hI
  replace hI : d ≤ fs.length ∧ OutL d L So ∧ Own vo So.length (So.flatMap encB) 47 3 Co := hI
  obtain ⟨hd, hout, hSo⟩ := hI
  change WC _ _ _ _ _ _ ([(4, .int .i64 (d : Int)), (3, vo)] ++ _) (Co ++ (row p [.slice fo fs.length fc, .slice lo L.length lc] 58 :: (Cf ++ Cl)))
  have hSl := hout.len
  obtain ⟨oo, oc, rfl, hoc⟩ := hSo.form
  refine WC.seq ?_
  refine WC.seq ?_
  refine WC.region ?_
  refine WL.y rfl (Yd.move rfl) ?_
  refine WL.y rfl (Yd.move rfl) ?_
  refine WL.y rfl (Yd.notNil rfl) ?_
  refine WL.y rfl (Yd.fieldAddr (k := 0) (by kernel_rfl) rfl) ?_
  refine WL.h rfl (Hd.load1 (by kernel_rfl) rfl (by repeat (first | exact List.mem_cons_self | apply List.mem_cons_of_mem | apply List.mem_append_right)) (by rfl) ⟨_, rfl, ?_⟩)
  refine WL.y rfl (Yd.len (e := 3) (by kernel_rfl) rfl) ?_
  refine WL.y rfl (Yd.lss rfl rfl) ?_
  refine WL.nil ?_
  refine DN.then_normal ?_
  refine WC.ite rfl (fun h15 => ?_) (fun h15 => ?_)
  · have hdl : d < fs.length := by omega
    refine WC.skip ?_
    refine DN.then_normal ?_
    refine WC.seq ?_
    refine WC.block ?_
    refine WC.seq ?_
    refine WC.region ?_
    refine WL.y rfl (Yd.assign rfl) ?_
    refine WL.nil ?_
    refine DN.then_normal ?_
    refine WC.seq ?_
    refine WC.seq ?_
    refine WC.region ?_
    refine WL.y rfl (Yd.assign rfl) ?_
    refine WL.nil ?_
    refine DN.then_normal ?_
    refine WC.block ?_
    refine WC.loopS (fun z : Nat × Value × List Bk × List Ck => z.1 ≤ L.length ∧ DayL d (L.take z.1) z.2.2.1 ∧ Own z.2.1 z.2.2.1.length (z.2.2.1.flatMap encB) 47 3 z.2.2.2) (fun z : Nat × Value × List Bk × List Ck => [(6, .int .i64 (z.1 : Int)), (5, z.2.1)]) (fun z : Nat × Value × List Bk × List Ck => z.2.2.2 ++ (Co ++ (row p [.slice fo fs.length fc, .slice lo L.length lc] 58 :: (Cf ++ Cl)))) (fun z : Nat × Value × List Bk × List Ck => L.length - z.1) (⟨0, .slice none 0 0, [], []⟩) (show 0 ≤ L.length ∧ DayL d (L.take 0) [] ∧ Own (.slice none 0 0) [].length ([].flatMap encB) 47 3 [] from ⟨Nat.zero_le _, DayL.start d L, Own.nil _ _⟩) (Sx.put rfl (Sx.put rfl ((by repeat (first | exact Sx.refl | refine Sx.skip rfl ?_))))) (by repeat (first | exact Sp.here | exact Sp.sn | exact Sp.s0 | exact Fr.here | apply Sp.s2 | apply Sp.sx | apply Fr.fc | apply Fr.al | apply Fr.fa | apply Sp.sc | apply Sp.al | apply Sp.sa)) ?_
    rintro ⟨i, vt, T, Ct⟩ hI
    replace hI : i ≤ L.length ∧ DayL d (L.take i) T ∧ Own vt T.length (T.flatMap encB) 47 3 Ct := hI
    obtain ⟨hi, hday, hTo⟩ := hI
    change WC _ _ _ _ _ _ ([(6, .int .i64 (i : Int)), (5, vt)] ++ _) (Ct ++ (Co ++ (row p [.slice fo fs.length fc, .slice lo L.length lc] 58 :: (Cf ++ Cl))))
    have hTl := hday.len
    have hTl2 : (L.take i).length ≤ L.length := by rw [List.length_take]; omega
    obtain ⟨to, tc, rfl, htc⟩ := hTo.form
    refine WC.seq ?_
    refine WC.seq ?_
    refine WC.region ?_
    refine WL.y rfl (Yd.move rfl) ?_
    refine WL.y rfl (Yd.move rfl) ?_
    refine WL.y rfl (Yd.notNil rfl) ?_
    refine WL.y rfl (Yd.fieldAddr (k := 1) (by kernel_rfl) rfl) ?_
    refine WL.h rfl (Hd.load1 (by kernel_rfl) rfl (by repeat (first | exact List.mem_cons_self | apply List.mem_cons_of_mem | apply List.mem_append_right)) (by rfl) ⟨_, rfl, ?_⟩)
    refine WL.y rfl (Yd.len (e := 47) (by kernel_rfl) rfl) ?_
    refine WL.y rfl (Yd.lss rfl rfl) ?_
    refine WL.nil ?_
    refine DN.then_normal ?_
    refine WC.ite rfl (fun h24 => ?_) (fun h24 => ?_)
    · have hlt : i < L.length := by omega
      obtain ⟨lb, lf, lcs, lT, lfr, lex, elo, _, hlm, hlcs⟩ := hL.rs.lies (by omega)
      refine WC.skip ?_
      refine DN.then_normal ?_
      refine WC.seq ?_
      refine WC.block ?_
      refine WC.seq ?_
      refine WC.seq ?_
      refine WC.region ?_
      refine WL.y rfl (Yd.move rfl) ?_
      refine WL.y rfl (Yd.notNil rfl) ?_
      refine WL.y rfl (Yd.fieldAddr (k := 1) (by kernel_rfl) rfl) ?_
      refine WL.h rfl (Hd.load1 (by kernel_rfl) rfl (by repeat (first | exact List.mem_cons_self | apply List.mem_cons_of_mem | apply List.mem_append_right)) (by rfl) ⟨_, rfl, ?_⟩)
      refine WL.y rfl (Yd.move rfl) ?_
      refine WL.y rfl (Yd.indexAddr (e := 47) (s := 3) (b := lb) (o := lf) (n := L.length) (c := lc) (by kernel_rfl) (by kernel_rfl) (congrArg (fun q => some (Value.slice q L.length lc)) elo) rfl (by omega) (by omega)) ?_
      refine WL.y rfl (Yd.fieldAddr (k := 1) (by kernel_rfl) rfl) ?_
      refine WL.h rfl (Hd.load1 (v := .int .i64 L[i].day) (b := lb) (o := lf + (i : Int).toNat * 3 + 1) (cs := lcs) (by kernel_rfl) rfl (Gr.get (by repeat (first | exact Gr.refl | exact Gr.left Gr.refl | exact Gr.nil | exact Gr.app (Gr.left Gr.refl) | refine Gr.cons ?_ | refine Gr.app ?_ | refine Gr.both ?_ ?_ | refine Gr.put (by repeat (first | exact List.mem_cons_self | apply List.mem_cons_of_mem | apply List.mem_append_right)) ?_)) hlm) (bk_rs hlcs (by omega) (by omega)) ⟨_, rfl, ?_⟩)
      refine WL.y rfl (Yd.move rfl) ?_
      refine WL.y rfl (Yd.neq rfl rfl) ?_
      refine WL.nil ?_
      refine DN.then_normal ?_
      refine WC.ite rfl (fun h36 => ?_) (fun h36 => ?_)
      · refine WC.exit ?_
        refine DN.then_exit ?_
        refine DN.block_exit ?_
        refine DN.then_normal ?_
        refine WC.region ?_
        refine WL.y rfl (Yd.move rfl) ?_
        refine WL.y rfl (Yd.add rfl rfl (by omega) (by omega)) ?_
        refine WL.y rfl (Yd.assign rfl) ?_
        refine WL.nil ?_
        exact DN.againS (⟨i + 1, .slice to T.length tc, T, Ct⟩) (show (i + 1) ≤ L.length ∧ DayL d (L.take (i + 1)) T ∧ Own (.slice to T.length tc) T.length (T.flatMap encB) 47 3 Ct from ⟨by omega, hday.skip hlt (by omega), hTo⟩) (show L.length - (i + 1) < L.length - i by omega) (Sx.put rfl (Sx.put rfl ((by repeat (first | exact Sx.refl | refine Sx.skip rfl ?_))))) (by repeat (first | exact Sp.here | exact Sp.sn | exact Sp.s0 | exact Fr.here | apply Sp.s2 | apply Sp.sx | apply Fr.fc | apply Fr.al | apply Fr.fa | apply Sp.sc | apply Sp.al | apply Sp.sa))
      · refine WC.skip ?_
        refine DN.then_normal ?_
        refine WC.seq ?_
        refine WC.region ?_
        refine WL.y rfl (Yd.assign rfl) ?_
        refine WL.nil ?_
        refine DN.then_normal ?_
        refine WC.seq ?_
        refine WC.region ?_
        refine WL.y rfl (Yd.assign rfl) ?_
        refine WL.nil ?_
        refine DN.then_normal ?_
        refine WC.seq ?_
        refine WC.block ?_
        refine WC.loopS (fun z : Nat × Value × List Ck => z.1 ≤ T.length ∧ (∀ (j : Nat) (hj : j < T.length), j < z.1 → T[j].o.toNat < L[i].o.toNat) ∧ Own z.2.1 z.1 ((T.take z.1).flatMap encB) 47 3 z.2.2) (fun z : Nat × Value × List Ck => [(8, .int .i64 (z.1 : Int)), (7, z.2.1)]) (fun z : Nat × Value × List Ck => z.2.2 ++ (Ct ++ (Co ++ (row p [.slice fo fs.length fc, .slice lo L.length lc] 58 :: (Cf ++ Cl))))) (fun z : Nat × Value × List Ck => T.length - z.1) (⟨0, .slice none 0 0, []⟩) (show 0 ≤ T.length ∧ (∀ (j : Nat) (hj : j < T.length), j < 0 → T[j].o.toNat < L[i].o.toNat) ∧ Own (.slice none 0 0) 0 ((T.take 0).flatMap encB) 47 3 [] from ⟨Nat.zero_le _, fun j hj h => by omega, by simpa using Own.nil 47 3⟩) (Sx.put rfl (Sx.put rfl ((by repeat (first | exact Sx.refl | refine Sx.skip rfl ?_))))) (by repeat (first | exact Sp.here | exact Sp.sn | exact Sp.s0 | exact Fr.here | apply Sp.s2 | apply Sp.sx | apply Fr.fc | apply Fr.al | apply Fr.fa | apply Sp.sc | apply Sp.al | apply Sp.sa)) ?_
        rintro ⟨k, vm, Cm⟩ hI
        replace hI : k ≤ T.length ∧ (∀ (j : Nat) (hj : j < T.length), j < k → T[j].o.toNat < L[i].o.toNat) ∧ Own vm k ((T.take k).flatMap encB) 47 3 Cm := hI
        obtain ⟨hk, hbelow, hm⟩ := hI
        change WC _ _ _ _ _ _ ([(8, .int .i64 (k : Int)), (7, vm)] ++ _) (Cm ++ (Ct ++ (Co ++ (row p [.slice fo fs.length fc, .slice lo L.length lc] 58 :: (Cf ++ Cl)))))
        obtain ⟨mo, mc, rfl, hmc⟩ := hm.form
        refine WC.seq ?_
        refine WC.cutK (fun z : Bool => z = true ↔ ∃ h : k < T.length, T[k].o.toNat < L[i].o.toNat) (fun z : Bool => [(56, .bool z)]) (fun z : Bool => Cm ++ (Ct ++ (Co ++ (row p [.slice fo fs.length fc, .slice lo L.length lc] 58 :: (Cf ++ Cl))))) ?_ ?_
        · refine WC.draw 20 (by kernel_rfl) rfl ?_
          refine WA.y (i := 0) (NoPanic.then (NoPanic.then (NoPanic.then (NoPanic.block (NoPanic.then (NoPanic.block (NoPanic.then (NoPanic.then (NoPanic.block (NoPanic.then (NoPanic.block (NoPanic.then (NoPanic.then (NoPanic.block (NoPanic.then (NoPanic.body)))))))))))))))) rfl (by kernel_rfl) (by kernel_rfl) (by kernel_rfl) rfl (Yd.move rfl) ?_
          refine WA.y (i := 1) (NoPanic.then (NoPanic.then (NoPanic.then (NoPanic.block (NoPanic.then (NoPanic.block (NoPanic.then (NoPanic.then (NoPanic.block (NoPanic.then (NoPanic.block (NoPanic.then (NoPanic.then (NoPanic.block (NoPanic.then (NoPanic.body)))))))))))))))) rfl (by kernel_rfl) (by kernel_rfl) (by kernel_rfl) rfl (Yd.move rfl) ?_
          refine WA.y (i := 2) (NoPanic.then (NoPanic.then (NoPanic.then (NoPanic.block (NoPanic.then (NoPanic.block (NoPanic.then (NoPanic.then (NoPanic.block (NoPanic.then (NoPanic.block (NoPanic.then (NoPanic.then (NoPanic.block (NoPanic.then (NoPanic.body)))))))))))))))) rfl (by kernel_rfl) (by kernel_rfl) (by kernel_rfl) rfl (Yd.len (e := 47) (by kernel_rfl) rfl) ?_
          refine WA.y (i := 3) (NoPanic.then (NoPanic.then (NoPanic.then (NoPanic.block (NoPanic.then (NoPanic.block (NoPanic.then (NoPanic.then (NoPanic.block (NoPanic.then (NoPanic.block (NoPanic.then (NoPanic.then (NoPanic.block (NoPanic.then (NoPanic.body)))))))))))))))) rfl (by kernel_rfl) (by kernel_rfl) (by kernel_rfl) rfl (Yd.lss rfl rfl) ?_
          refine WA.y (i := 4) (NoPanic.then (NoPanic.then (NoPanic.then (NoPanic.block (NoPanic.then (NoPanic.block (NoPanic.then (NoPanic.then (NoPanic.block (NoPanic.then (NoPanic.block (NoPanic.then (NoPanic.then (NoPanic.block (NoPanic.then (NoPanic.body)))))))))))))))) rfl (by kernel_rfl) (by kernel_rfl) (by kernel_rfl) rfl (Yd.move rfl) ?_
          refine WA.partP (t := 41) rfl (fun hg41 => ?_) (fun hg41 => ?_)
          · obtain ⟨tb, tf, tcs, tT, tfr, tex, rfl, _, htm, htcs⟩ := hTo.rs.lies (by omega)
            refine WA.gy (i := 5) (dj := 41) (NoPanic.then (NoPanic.then (NoPanic.then (NoPanic.block (NoPanic.then (NoPanic.block (NoPanic.then (NoPanic.then (NoPanic.block (NoPanic.then (NoPanic.block (NoPanic.then (NoPanic.then (NoPanic.block (NoPanic.then (NoPanic.body)))))))))))))))) rfl (by kernel_rfl) (by kernel_rfl) (by kernel_rfl) rfl rfl rfl (Yd.move rfl) ?_
            refine WA.gy (i := 6) (dj := 41) (NoPanic.then (NoPanic.then (NoPanic.then (NoPanic.block (NoPanic.then (NoPanic.block (NoPanic.then (NoPanic.then (NoPanic.block (NoPanic.then (NoPanic.block (NoPanic.then (NoPanic.then (NoPanic.block (NoPanic.then (NoPanic.body)))))))))))))))) rfl (by kernel_rfl) (by kernel_rfl) (by kernel_rfl) rfl rfl rfl (Yd.move rfl) ?_
            refine WA.gy (i := 7) (dj := 41) (NoPanic.then (NoPanic.then (NoPanic.then (NoPanic.block (NoPanic.then (NoPanic.block (NoPanic.then (NoPanic.then (NoPanic.block (NoPanic.then (NoPanic.block (NoPanic.then (NoPanic.then (NoPanic.block (NoPanic.then (NoPanic.body)))))))))))))))) rfl (by kernel_rfl) (by kernel_rfl) (by kernel_rfl) rfl rfl rfl (Yd.indexAddr (e := 47) (s := 3) (by kernel_rfl) (by kernel_rfl) rfl rfl (by omega) (by omega)) ?_
            refine WA.gy (i := 8) (dj := 41) (NoPanic.then (NoPanic.then (NoPanic.then (NoPanic.block (NoPanic.then (NoPanic.block (NoPanic.then (NoPanic.then (NoPanic.block (NoPanic.then (NoPanic.block (NoPanic.then (NoPanic.then (NoPanic.block (NoPanic.then (NoPanic.body)))))))))))))))) rfl (by kernel_rfl) (by kernel_rfl) (by kernel_rfl) rfl rfl rfl (Yd.fieldAddr (k := 0) (by kernel_rfl) rfl) ?_
            refine WA.gy (i := 10) (dj := 41) (NoPanic.then (NoPanic.then (NoPanic.then (NoPanic.block (NoPanic.then (NoPanic.block (NoPanic.then (NoPanic.then (NoPanic.block (NoPanic.then (NoPanic.block (NoPanic.then (NoPanic.then (NoPanic.block (NoPanic.then (NoPanic.body)))))))))))))))) rfl (by kernel_rfl) (by kernel_rfl) (by kernel_rfl) rfl rfl rfl (Yd.move rfl) ?_
            refine WA.gy (i := 11) (dj := 41) (NoPanic.then (NoPanic.then (NoPanic.then (NoPanic.block (NoPanic.then (NoPanic.block (NoPanic.then (NoPanic.then (NoPanic.block (NoPanic.then (NoPanic.block (NoPanic.then (NoPanic.then (NoPanic.block (NoPanic.then (NoPanic.body)))))))))))))))) rfl (by kernel_rfl) (by kernel_rfl) (by kernel_rfl) rfl rfl rfl (Yd.notNil rfl) ?_
            refine WA.gy (i := 12) (dj := 41) (NoPanic.then (NoPanic.then (NoPanic.then (NoPanic.block (NoPanic.then (NoPanic.block (NoPanic.then (NoPanic.then (NoPanic.block (NoPanic.then (NoPanic.block (NoPanic.then (NoPanic.then (NoPanic.block (NoPanic.then (NoPanic.body)))))))))))))))) rfl (by kernel_rfl) (by kernel_rfl) (by kernel_rfl) rfl rfl rfl (Yd.fieldAddr (k := 1) (by kernel_rfl) rfl) ?_
            refine WA.gy (i := 14) (dj := 41) (NoPanic.then (NoPanic.then (NoPanic.then (NoPanic.block (NoPanic.then (NoPanic.block (NoPanic.then (NoPanic.then (NoPanic.block (NoPanic.then (NoPanic.block (NoPanic.then (NoPanic.then (NoPanic.block (NoPanic.then (NoPanic.body)))))))))))))))) rfl (by kernel_rfl) (by kernel_rfl) (by kernel_rfl) rfl rfl rfl (Yd.move rfl) ?_
            refine WA.two (i := 9) (j := 13) (by kernel_rfl) ?_ ?_
            · refine WO.h rfl (Wt.yes (dj := 41) rfl rfl) rfl (Hd.load1 (v := .int .u32 T[k].o.toNat) (b := tb) (o := tf + (k : Int).toNat * 3 + 0) (cs := tcs) (by kernel_rfl) rfl (Gr.get (by repeat (first | exact Gr.refl | exact Gr.left Gr.refl | exact Gr.nil | exact Gr.app (Gr.left Gr.refl) | refine Gr.cons ?_ | refine Gr.app ?_ | refine Gr.both ?_ ?_ | refine Gr.put (by repeat (first | exact List.mem_cons_self | apply List.mem_cons_of_mem | apply List.mem_append_right)) ?_)) htm) (bk_rs htcs (by omega) (by omega)) ⟨_, rfl, ?_⟩)
              refine WA.one (i := 13) (by kernel_rfl) ?_
              refine WO.h rfl (Wt.yes (dj := 41) rfl rfl) rfl (Hd.load1 (by kernel_rfl) rfl (by repeat (first | exact List.mem_cons_self | apply List.mem_cons_of_mem | apply List.mem_append_right)) (by rfl) ⟨_, rfl, ?_⟩)
              refine WA.gy (i := 15) (dj := 41) (NoPanic.then (NoPanic.then (NoPanic.then (NoPanic.block (NoPanic.then (NoPanic.block (NoPanic.then (NoPanic.then (NoPanic.block (NoPanic.then (NoPanic.block (NoPanic.then (NoPanic.then (NoPanic.block (NoPanic.then (NoPanic.body)))))))))))))))) rfl (by kernel_rfl) (by kernel_rfl) (by kernel_rfl) rfl rfl rfl (Yd.indexAddr (e := 47) (s := 3) (b := lb) (o := lf) (n := L.length) (c := lc) (by kernel_rfl) (by kernel_rfl) (congrArg (fun q => some (Value.slice q L.length lc)) elo) rfl (by omega) (by omega)) ?_
              refine WA.gy (i := 16) (dj := 41) (NoPanic.then (NoPanic.then (NoPanic.then (NoPanic.block (NoPanic.then (NoPanic.block (NoPanic.then (NoPanic.then (NoPanic.block (NoPanic.then (NoPanic.block (NoPanic.then (NoPanic.then (NoPanic.block (NoPanic.then (NoPanic.body)))))))))))))))) rfl (by kernel_rfl) (by kernel_rfl) (by kernel_rfl) rfl rfl rfl (Yd.fieldAddr (k := 0) (by kernel_rfl) rfl) ?_
              refine WA.one (i := 17) (by kernel_rfl) ?_
              refine WO.h rfl (Wt.yes (dj := 41) rfl rfl) rfl (Hd.load1 (v := .int .u32 L[i].o.toNat) (b := lb) (o := lf + (i : Int).toNat * 3 + 0) (cs := lcs) (by kernel_rfl) rfl (Gr.get (by repeat (first | exact Gr.refl | exact Gr.left Gr.refl | exact Gr.nil | exact Gr.app (Gr.left Gr.refl) | refine Gr.cons ?_ | refine Gr.app ?_ | refine Gr.both ?_ ?_ | refine Gr.put (by repeat (first | exact List.mem_cons_self | apply List.mem_cons_of_mem | apply List.mem_append_right)) ?_)) hlm) (bk_rs hlcs (by omega) (by omega)) ⟨_, rfl, ?_⟩)
              refine WA.gy (i := 18) (dj := 41) (NoPanic.then (NoPanic.then (NoPanic.then (NoPanic.block (NoPanic.then (NoPanic.block (NoPanic.then (NoPanic.then (NoPanic.block (NoPanic.then (NoPanic.block (NoPanic.then (NoPanic.then (NoPanic.block (NoPanic.then (NoPanic.body)))))))))))))))) rfl (by kernel_rfl) (by kernel_rfl) (by kernel_rfl) rfl rfl rfl (Yd.lss rfl rfl) ?_
              refine WA.y (i := 19) (NoPanic.then (NoPanic.then (NoPanic.then (NoPanic.block (NoPanic.then (NoPanic.block (NoPanic.then (NoPanic.then (NoPanic.block (NoPanic.then (NoPanic.block (NoPanic.then (NoPanic.then (NoPanic.block (NoPanic.then (NoPanic.body)))))))))))))))) rfl (by kernel_rfl) (by kernel_rfl) (by kernel_rfl) rfl (Yd.pickT rfl rfl) ?_
              refine WA.done (by kernel_rfl) ?_
              exact DN.reachK (_) (by
                first
                | (rw [decide_eq_true_eq]; exact ⟨fun h => ⟨by omega, by omega⟩, fun ⟨_, h⟩ => by omega⟩)
                | exact ⟨fun h => (by cases h), fun ⟨h, _⟩ => (by omega)⟩) (Sx.put rfl ((by repeat (first | exact Sx.refl | refine Sx.skip rfl ?_)))) (Sp.all (by repeat (first | exact Sp.here | exact Sp.sn | exact Sp.s0 | exact Fr.here | apply Sp.s2 | apply Sp.sx | apply Fr.fc | apply Fr.al | apply Fr.fa | apply Sp.sc | apply Sp.al | apply Sp.sa)))
            · refine WO.h rfl (Wt.yes (dj := 41) rfl rfl) rfl (Hd.load1 (by kernel_rfl) rfl (by repeat (first | exact List.mem_cons_self | apply List.mem_cons_of_mem | apply List.mem_append_right)) (by rfl) ⟨_, rfl, ?_⟩)
              refine WA.gy (i := 15) (dj := 41) (NoPanic.then (NoPanic.then (NoPanic.then (NoPanic.block (NoPanic.then (NoPanic.block (NoPanic.then (NoPanic.then (NoPanic.block (NoPanic.then (NoPanic.block (NoPanic.then (NoPanic.then (NoPanic.block (NoPanic.then (NoPanic.body)))))))))))))))) rfl (by kernel_rfl) (by kernel_rfl) (by kernel_rfl) rfl rfl rfl (Yd.indexAddr (e := 47) (s := 3) (b := lb) (o := lf) (n := L.length) (c := lc) (by kernel_rfl) (by kernel_rfl) (congrArg (fun q => some (Value.slice q L.length lc)) elo) rfl (by omega) (by omega)) ?_
              refine WA.gy (i := 16) (dj := 41) (NoPanic.then (NoPanic.then (NoPanic.then (NoPanic.block (NoPanic.then (NoPanic.block (NoPanic.then (NoPanic.then (NoPanic.block (NoPanic.then (NoPanic.block (NoPanic.then (NoPanic.then (NoPanic.block (NoPanic.then (NoPanic.body)))))))))))))))) rfl (by kernel_rfl) (by kernel_rfl) (by kernel_rfl) rfl rfl rfl (Yd.fieldAddr (k := 0) (by kernel_rfl) rfl) ?_
              refine WA.two (i := 9) (j := 17) (by kernel_rfl) ?_ ?_
              · refine WO.h rfl (Wt.yes (dj := 41) rfl rfl) rfl (Hd.load1 (v := .int .u32 T[k].o.toNat) (b := tb) (o := tf + (k : Int).toNat * 3 + 0) (cs := tcs) (by kernel_rfl) rfl (Gr.get (by repeat (first | exact Gr.refl | exact Gr.left Gr.refl | exact Gr.nil | exact Gr.app (Gr.left Gr.refl) | refine Gr.cons ?_ | refine Gr.app ?_ | refine Gr.both ?_ ?_ | refine Gr.put (by repeat (first | exact List.mem_cons_self | apply List.mem_cons_of_mem | apply List.mem_append_right)) ?_)) htm) (bk_rs htcs (by omega) (by omega)) ⟨_, rfl, ?_⟩)
                refine WA.one (i := 17) (by kernel_rfl) ?_
                refine WO.h rfl (Wt.yes (dj := 41) rfl rfl) rfl (Hd.load1 (v := .int .u32 L[i].o.toNat) (b := lb) (o := lf + (i : Int).toNat * 3 + 0) (cs := lcs) (by kernel_rfl) rfl (Gr.get (by repeat (first | exact Gr.refl | exact Gr.left Gr.refl | exact Gr.nil | exact Gr.app (Gr.left Gr.refl) | refine Gr.cons ?_ | refine Gr.app ?_ | refine Gr.both ?_ ?_ | refine Gr.put (by repeat (first | exact List.mem_cons_self | apply List.mem_cons_of_mem | apply List.mem_append_right)) ?_)) hlm) (bk_rs hlcs (by omega) (by omega)) ⟨_, rfl, ?_⟩)
                refine WA.gy (i := 18) (dj := 41) (NoPanic.then (NoPanic.then (NoPanic.then (NoPanic.block (NoPanic.then (NoPanic.block (NoPanic.then (NoPanic.then (NoPanic.block (NoPanic.then (NoPanic.block (NoPanic.then (NoPanic.then (NoPanic.block (NoPanic.then (NoPanic.body)))))))))))))))) rfl (by kernel_rfl) (by kernel_rfl) (by kernel_rfl) rfl rfl rfl (Yd.lss rfl rfl) ?_
                refine WA.y (i := 19) (NoPanic.then (NoPanic.then (NoPanic.then (NoPanic.block (NoPanic.then (NoPanic.block (NoPanic.then (NoPanic.then (NoPanic.block (NoPanic.then (NoPanic.block (NoPanic.then (NoPanic.then (NoPanic.block (NoPanic.then (NoPanic.body)))))))))))))))) rfl (by kernel_rfl) (by kernel_rfl) (by kernel_rfl) rfl (Yd.pickT rfl rfl) ?_
                refine WA.done (by kernel_rfl) ?_
                exact DN.reachK (_) (by
                  first
                  | (rw [decide_eq_true_eq]; exact ⟨fun h => ⟨by omega, by omega⟩, fun ⟨_, h⟩ => by omega⟩)
                  | exact ⟨fun h => (by cases h), fun ⟨h, _⟩ => (by omega)⟩) (Sx.put rfl ((by repeat (first | exact Sx.refl | refine Sx.skip rfl ?_)))) (Sp.all (by repeat (first | exact Sp.here | exact Sp.sn | exact Sp.s0 | exact Fr.here | apply Sp.s2 | apply Sp.sx | apply Fr.fc | apply Fr.al | apply Fr.fa | apply Sp.sc | apply Sp.al | apply Sp.sa)))
              · refine WO.h rfl (Wt.yes (dj := 41) rfl rfl) rfl (Hd.load1 (v := .int .u32 L[i].o.toNat) (b := lb) (o := lf + (i : Int).toNat * 3 + 0) (cs := lcs) (by kernel_rfl) rfl (Gr.get (by repeat (first | exact Gr.refl | exact Gr.left Gr.refl | exact Gr.nil | exact Gr.app (Gr.left Gr.refl) | refine Gr.cons ?_ | refine Gr.app ?_ | refine Gr.both ?_ ?_ | refine Gr.put (by repeat (first | exact List.mem_cons_self | apply List.mem_cons_of_mem | apply List.mem_append_right)) ?_)) hlm) (bk_rs hlcs (by omega) (by omega)) ⟨_, rfl, ?_⟩)
                refine WA.one (i := 9) (by kernel_rfl) ?_
                refine WO.h rfl (Wt.yes (dj := 41) rfl rfl) rfl (Hd.load1 (v := .int .u32 T[k].o.toNat) (b := tb) (o := tf + (k : Int).toNat * 3 + 0) (cs := tcs) (by kernel_rfl) rfl (Gr.get (by repeat (first | exact Gr.refl | exact Gr.left Gr.refl | exact Gr.nil | exact Gr.app (Gr.left Gr.refl) | refine Gr.cons ?_ | refine Gr.app ?_ | refine Gr.both ?_ ?_ | refine Gr.put (by repeat (first | exact List.mem_cons_self | apply List.mem_cons_of_mem | apply List.mem_append_right)) ?_)) htm) (bk_rs htcs (by omega) (by omega)) ⟨_, rfl, ?_⟩)
                refine WA.gy (i := 18) (dj := 41) (NoPanic.then (NoPanic.then (NoPanic.then (NoPanic.block (NoPanic.then (NoPanic.block (NoPanic.then (NoPanic.then (NoPanic.block (NoPanic.then (NoPanic.block (NoPanic.then (NoPanic.then (NoPanic.block (NoPanic.then (NoPanic.body)))))))))))))))) rfl (by kernel_rfl) (by kernel_rfl) (by kernel_rfl) rfl rfl rfl (Yd.lss rfl rfl) ?_
                refine WA.y (i := 19) (NoPanic.then (NoPanic.then (NoPanic.then (NoPanic.block (NoPanic.then (NoPanic.block (NoPanic.then (NoPanic.then (NoPanic.block (NoPanic.then (NoPanic.block (NoPanic.then (NoPanic.then (NoPanic.block (NoPanic.then (NoPanic.body)))))))))))))))) rfl (by kernel_rfl) (by kernel_rfl) (by kernel_rfl) rfl (Yd.pickT rfl rfl) ?_
                refine WA.done (by kernel_rfl) ?_
                exact DN.reachK (_) (by
                  first
                  | (rw [decide_eq_true_eq]; exact ⟨fun h => ⟨by omega, by omega⟩, fun ⟨_, h⟩ => by omega⟩)
                  | exact ⟨fun h => (by cases h), fun ⟨h, _⟩ => (by omega)⟩) (Sx.put rfl ((by repeat (first | exact Sx.refl | refine Sx.skip rfl ?_)))) (Sp.all (by repeat (first | exact Sp.here | exact Sp.sn | exact Sp.s0 | exact Fr.here | apply Sp.s2 | apply Sp.sx | apply Fr.fc | apply Fr.al | apply Fr.fa | apply Sp.sc | apply Sp.al | apply Sp.sa)))
          · refine WA.gn (i := 5) (dj := 41) (NoPanic.then (NoPanic.then (NoPanic.then (NoPanic.block (NoPanic.then (NoPanic.block (NoPanic.then (NoPanic.then (NoPanic.block (NoPanic.then (NoPanic.block (NoPanic.then (NoPanic.then (NoPanic.block (NoPanic.then (NoPanic.body)))))))))))))))) rfl (by kernel_rfl) (by kernel_rfl) (by kernel_rfl) rfl rfl rfl rfl ?_
            refine WA.gn (i := 6) (dj := 41) (NoPanic.then (NoPanic.then (NoPanic.then (NoPanic.block (NoPanic.then (NoPanic.block (NoPanic.then (NoPanic.then (NoPanic.block (NoPanic.then (NoPanic.block (NoPanic.then (NoPanic.then (NoPanic.block (NoPanic.then (NoPanic.body)))))))))))))))) rfl (by kernel_rfl) (by kernel_rfl) (by kernel_rfl) rfl rfl rfl rfl ?_
            refine WA.gn (i := 7) (dj := 41) (NoPanic.then (NoPanic.then (NoPanic.then (NoPanic.block (NoPanic.then (NoPanic.block (NoPanic.then (NoPanic.then (NoPanic.block (NoPanic.then (NoPanic.block (NoPanic.then (NoPanic.then (NoPanic.block (NoPanic.then (NoPanic.body)))))))))))))))) rfl (by kernel_rfl) (by kernel_rfl) (by kernel_rfl) rfl rfl rfl rfl ?_
            refine WA.gn (i := 8) (dj := 41) (NoPanic.then (NoPanic.then (NoPanic.then (NoPanic.block (NoPanic.then (NoPanic.block (NoPanic.then (NoPanic.then (NoPanic.block (NoPanic.then (NoPanic.block (NoPanic.then (NoPanic.then (NoPanic.block (NoPanic.then (NoPanic.body)))))))))))))))) rfl (by kernel_rfl) (by kernel_rfl) (by kernel_rfl) rfl rfl rfl rfl ?_
            refine WA.gn (i := 9) (dj := 41) (NoPanic.then (NoPanic.then (NoPanic.then (NoPanic.block (NoPanic.then (NoPanic.block (NoPanic.then (NoPanic.then (NoPanic.block (NoPanic.then (NoPanic.block (NoPanic.then (NoPanic.then (NoPanic.block (NoPanic.then (NoPanic.body)))))))))))))))) rfl (by kernel_rfl) (by kernel_rfl) (by kernel_rfl) rfl rfl rfl rfl ?_
            refine WA.gn (i := 10) (dj := 41) (NoPanic.then (NoPanic.then (NoPanic.then (NoPanic.block (NoPanic.then (NoPanic.block (NoPanic.then (NoPanic.then (NoPanic.block (NoPanic.then (NoPanic.block (NoPanic.then (NoPanic.then (NoPanic.block (NoPanic.then (NoPanic.body)))))))))))))))) rfl (by kernel_rfl) (by kernel_rfl) (by kernel_rfl) rfl rfl rfl rfl ?_
            refine WA.gn (i := 11) (dj := 41) (NoPanic.then (NoPanic.then (NoPanic.then (NoPanic.block (NoPanic.then (NoPanic.block (NoPanic.then (NoPanic.then (NoPanic.block (NoPanic.then (NoPanic.block (NoPanic.then (NoPanic.then (NoPanic.block (NoPanic.then (NoPanic.body)))))))))))))))) rfl (by kernel_rfl) (by kernel_rfl) (by kernel_rfl) rfl rfl rfl rfl ?_
            refine WA.gn (i := 12) (dj := 41) (NoPanic.then (NoPanic.then (NoPanic.then (NoPanic.block (NoPanic.then (NoPanic.block (NoPanic.then (NoPanic.then (NoPanic.block (NoPanic.then (NoPanic.block (NoPanic.then (NoPanic.then (NoPanic.block (NoPanic.then (NoPanic.body)))))))))))))))) rfl (by kernel_rfl) (by kernel_rfl) (by kernel_rfl) rfl rfl rfl rfl ?_
            refine WA.gn (i := 13) (dj := 41) (NoPanic.then (NoPanic.then (NoPanic.then (NoPanic.block (NoPanic.then (NoPanic.block (NoPanic.then (NoPanic.then (NoPanic.block (NoPanic.then (NoPanic.block (NoPanic.then (NoPanic.then (NoPanic.block (NoPanic.then (NoPanic.body)))))))))))))))) rfl (by kernel_rfl) (by kernel_rfl) (by kernel_rfl) rfl rfl rfl rfl ?_
            refine WA.gn (i := 14) (dj := 41) (NoPanic.then (NoPanic.then (NoPanic.then (NoPanic.block (NoPanic.then (NoPanic.block (NoPanic.then (NoPanic.then (NoPanic.block (NoPanic.then (NoPanic.block (NoPanic.then (NoPanic.then (NoPanic.block (NoPanic.then (NoPanic.body)))))))))))))))) rfl (by kernel_rfl) (by kernel_rfl) (by kernel_rfl) rfl rfl rfl rfl ?_
            refine WA.gn (i := 15) (dj := 41) (NoPanic.then (NoPanic.then (NoPanic.then (NoPanic.block (NoPanic.then (NoPanic.block (NoPanic.then (NoPanic.then (NoPanic.block (NoPanic.then (NoPanic.block (NoPanic.then (NoPanic.then (NoPanic.block (NoPanic.then (NoPanic.body)))))))))))))))) rfl (by kernel_rfl) (by kernel_rfl) (by kernel_rfl) rfl rfl rfl rfl ?_
            refine WA.gn (i := 16) (dj := 41) (NoPanic.then (NoPanic.then (NoPanic.then (NoPanic.block (NoPanic.then (NoPanic.block (NoPanic.then (NoPanic.then (NoPanic.block (NoPanic.then (NoPanic.block (NoPanic.then (NoPanic.then (NoPanic.block (NoPanic.then (NoPanic.body)))))))))))))))) rfl (by kernel_rfl) (by kernel_rfl) (by kernel_rfl) rfl rfl rfl rfl ?_
            refine WA.gn (i := 17) (dj := 41) (NoPanic.then (NoPanic.then (NoPanic.then (NoPanic.block (NoPanic.then (NoPanic.block (NoPanic.then (NoPanic.then (NoPanic.block (NoPanic.then (NoPanic.block (NoPanic.then (NoPanic.then (NoPanic.block (NoPanic.then (NoPanic.body)))))))))))))))) rfl (by kernel_rfl) (by kernel_rfl) (by kernel_rfl) rfl rfl rfl rfl ?_
            refine WA.gn (i := 18) (dj := 41) (NoPanic.then (NoPanic.then (NoPanic.then (NoPanic.block (NoPanic.then (NoPanic.block (NoPanic.then (NoPanic.then (NoPanic.block (NoPanic.then (NoPanic.block (NoPanic.then (NoPanic.then (NoPanic.block (NoPanic.then (NoPanic.body)))))))))))))))) rfl (by kernel_rfl) (by kernel_rfl) (by kernel_rfl) rfl rfl rfl rfl ?_
            refine WA.y (i := 19) (NoPanic.then (NoPanic.then (NoPanic.then (NoPanic.block (NoPanic.then (NoPanic.block (NoPanic.then (NoPanic.then (NoPanic.block (NoPanic.then (NoPanic.block (NoPanic.then (NoPanic.then (NoPanic.block (NoPanic.then (NoPanic.body)))))))))))))))) rfl (by kernel_rfl) (by kernel_rfl) (by kernel_rfl) rfl (Yd.pickF rfl rfl) ?_
            refine WA.done (by kernel_rfl) ?_
            exact DN.reachK (_) (by
              first
              | (rw [decide_eq_true_eq]; exact ⟨fun h => ⟨by omega, by omega⟩, fun ⟨_, h⟩ => by omega⟩)
              | exact ⟨fun h => (by cases h), fun ⟨h, _⟩ => (by omega)⟩) (Sx.put rfl ((by repeat (first | exact Sx.refl | refine Sx.skip rfl ?_)))) (Sp.all (by repeat (first | exact Sp.here | exact Sp.sn | exact Sp.s0 | exact Fr.here | apply Sp.s2 | apply Sp.sx | apply Fr.fc | apply Fr.al | apply Fr.fa | apply Sp.sc | apply Sp.al | apply Sp.sa)))
        · intro z56 hz56
          refine WC.cond rfl (fun h56 => ?_) (fun h56 => ?_)
          · obtain ⟨hkl, hlow⟩ := hz56.1 h56
            obtain ⟨tb, tf, tcs, tT, tfr, tex, rfl, _, htm, htcs⟩ := hTo.rs.lies (by omega)
            refine WC.skip ?_
            refine DN.then_normal ?_
            refine WC.block ?_
            refine WC.seq ?_
            refine WC.region ?_
            refine WL.y rfl (Yd.move rfl) ?_
            refine WL.y rfl (Yd.move rfl) ?_
            refine WL.y rfl (Yd.move rfl) ?_
            refine WL.y rfl (Yd.indexAddr (e := 47) (s := 3) (by kernel_rfl) (by kernel_rfl) rfl rfl (by omega) (by omega)) ?_
            refine WL.h rfl (Hd.loadA (n := 3) (b := tb) (o := tf + (k : Int).toNat * 3) (cs := tcs) (vs := encB T[k]) (by kernel_rfl) rfl (Gr.get (by repeat (first | exact Gr.refl | exact Gr.left Gr.refl | exact Gr.nil | exact Gr.app (Gr.left Gr.refl) | refine Gr.cons ?_ | refine Gr.app ?_ | refine Gr.both ?_ ?_ | refine Gr.put (by repeat (first | exact List.mem_cons_self | apply List.mem_cons_of_mem | apply List.mem_append_right)) ?_)) htm) (encB_len _) (rs_cell htcs (by rw [flat_len encB 3 encB_len]; omega) (flat_row encB 3 encB_len T k (by omega))) ⟨_, rfl, ?_⟩)
            refine WL.h rfl (Hd.buildA (e := 47) (sz := 3) (zs := [.int .u32 0, .int .i64 0, .int .i64 0]) (by kernel_rfl) (by kernel_rfl) (by kernel_rfl) rfl rfl (by rfl) (by kernel_rfl) fun b62 => ⟨_, rfl, ?_⟩)
            refine WL.h rfl (Hd.appendRow (e := 47) (sz := 3) (bytes := 24) (zs := [.int .u32 0, .int .i64 0, .int .i64 0]) (by kernel_rfl) (by kernel_rfl) rfl (by omega) rfl rfl (hm) (by repeat (first | exact Sp.here | exact Sp.sn | exact Sp.s0 | exact Fr.here | apply Sp.s2 | apply Sp.sx | apply Fr.fc | apply Fr.al | apply Fr.fa | apply Sp.sc | apply Sp.al | apply Sp.sa)) (by repeat (first | exact List.mem_cons_self | apply List.mem_cons_of_mem | apply List.mem_append_right)) (by rfl) (by repeat (first | exact fun _ h => absurd h List.not_mem_nil | refine List.forall_mem_cons.2 ⟨by first | rfl | assumption, ?_⟩)) (by simp only [maxLen]; omega) (by omega) fun v2 C2 h2 => ⟨_, rfl, ?_⟩)
            refine WL.y rfl (Yd.assign rfl) ?_
            refine WL.nil ?_
            refine DN.then_normal ?_
            refine WC.region ?_
            refine WL.y rfl (Yd.move rfl) ?_
            refine WL.y rfl (Yd.add rfl rfl (by omega) (by omega)) ?_
            refine WL.y rfl (Yd.assign rfl) ?_
            refine WL.nil ?_
            refine DN.block_normal ?_
            exact DN.againS (⟨k + 1, v2, C2⟩) (show (k + 1) ≤ T.length ∧ (∀ (j : Nat) (hj : j < T.length), j < (k + 1) → T[j].o.toNat < L[i].o.toNat) ∧ Own v2 (k + 1) ((T.take (k + 1)).flatMap encB) 47 3 C2 from ⟨by omega, fun j hj h => by
              rcases Nat.lt_or_ge j k with h5 | h5
              · exact hbelow j hj h5
              · obtain rfl : j = k := by omega
                exact hlow, by rw [List.take_succ_eq_append_getElem hkl, List.flatMap_append]; simpa using h2⟩) (show T.length - (k + 1) < T.length - k by omega) (Sx.put rfl (Sx.put rfl ((by repeat (first | exact Sx.refl | refine Sx.skip rfl ?_))))) (by repeat (first | exact Sp.here | exact Sp.sn | exact Sp.s0 | exact Fr.here | apply Sp.s2 | apply Sp.sx | apply Fr.fc | apply Fr.al | apply Fr.fa | apply Sp.sc | apply Sp.al | apply Sp.sa))
          · have hge : ∀ h : k < T.length, ¬ T[k].o.toNat < L[i].o.toNat := fun h h2 => by rw [hz56.2 ⟨h, h2⟩] at h56; cases h56
            refine WC.exit ?_
            refine DN.then_exit ?_
            refine DN.then_exit ?_
            refine DN.block_exit ?_
            refine DN.then_normal ?_
            refine WC.seq ?_
            refine WC.region ?_
            refine WL.y rfl (Yd.move rfl) ?_
            refine WL.y rfl (Yd.move rfl) ?_
            refine WL.y rfl (Yd.notNil rfl) ?_
            refine WL.y rfl (Yd.fieldAddr (k := 1) (by kernel_rfl) rfl) ?_
            refine WL.h rfl (Hd.load1 (by kernel_rfl) rfl (by repeat (first | exact List.mem_cons_self | apply List.mem_cons_of_mem | apply List.mem_append_right)) (by rfl) ⟨_, rfl, ?_⟩)
            refine WL.y rfl (Yd.move rfl) ?_
            refine WL.y rfl (Yd.indexAddr (e := 47) (s := 3) (b := lb) (o := lf) (n := L.length) (c := lc) (by kernel_rfl) (by kernel_rfl) (congrArg (fun q => some (Value.slice q L.length lc)) elo) rfl (by omega) (by omega)) ?_
            refine WL.h rfl (Hd.loadA (n := 3) (b := lb) (o := lf + (i : Int).toNat * 3) (cs := lcs) (vs := encB L[i]) (by kernel_rfl) rfl (Gr.get (by repeat (first | exact Gr.refl | exact Gr.left Gr.refl | exact Gr.nil | exact Gr.app (Gr.left Gr.refl) | refine Gr.cons ?_ | refine Gr.app ?_ | refine Gr.both ?_ ?_ | refine Gr.put (by repeat (first | exact List.mem_cons_self | apply List.mem_cons_of_mem | apply List.mem_append_right)) ?_)) hlm) (encB_len _) (rs_cell hlcs (by rw [flat_len encB 3 encB_len]; omega) (flat_row encB 3 encB_len L i (by omega))) ⟨_, rfl, ?_⟩)
            refine WL.h rfl (Hd.buildA (e := 47) (sz := 3) (zs := [.int .u32 0, .int .i64 0, .int .i64 0]) (by kernel_rfl) (by kernel_rfl) (by kernel_rfl) rfl rfl (by rfl) (by kernel_rfl) fun b74 => ⟨_, rfl, ?_⟩)
            refine WL.h rfl (Hd.appendRow (e := 47) (sz := 3) (bytes := 24) (zs := [.int .u32 0, .int .i64 0, .int .i64 0]) (by kernel_rfl) (by kernel_rfl) rfl (by omega) rfl rfl (hm) (by repeat (first | exact Sp.here | exact Sp.sn | exact Sp.s0 | exact Fr.here | apply Sp.s2 | apply Sp.sx | apply Fr.fc | apply Fr.al | apply Fr.fa | apply Sp.sc | apply Sp.al | apply Sp.sa)) (by repeat (first | exact List.mem_cons_self | apply List.mem_cons_of_mem | apply List.mem_append_right)) (by rfl) (by repeat (first | exact fun _ h => absurd h List.not_mem_nil | refine List.forall_mem_cons.2 ⟨by first | rfl | assumption, ?_⟩)) (by simp only [maxLen]; omega) (by omega) fun v3 C3 h3 => ⟨_, rfl, ?_⟩)
            refine WL.y rfl (Yd.assign rfl) ?_
            refine WL.nil ?_
            refine DN.then_normal ?_
            refine WC.seq ?_
            refine WC.region ?_
            refine WL.y rfl (Yd.move rfl) ?_
            refine WL.y rfl (Yd.move rfl) ?_
            refine WL.y rfl (Yd.move rfl) ?_
            refine WL.y rfl (Yd.slice (e := 47) (s := 3) (i := k) (j := T.length) (by kernel_rfl) (by kernel_rfl) rfl ⟨_, _, rfl, rfl⟩ rfl hk htc) ?_
            refine WL.h rfl (Hd.appendF (e := 47) (sz := 3) (bytes := 24) (zs := [.int .u32 0, .int .i64 0, .int .i64 0]) (by kernel_rfl) (by kernel_rfl) rfl (by omega) rfl rfl h3 (by repeat (first | exact Sp.here | exact Sp.sn | exact Sp.s0 | exact Fr.here | apply Sp.s2 | apply Sp.sx | apply Fr.fc | apply Fr.al | apply Fr.fa | apply Sp.sc | apply Sp.al | apply Sp.sa)) ((hTo.rs.sub (by rw [flat_len encB 3 encB_len]) hk (Nat.le_refl _)).mono (by repeat (first | exact Gr.refl | exact Gr.left Gr.refl | exact Gr.nil | exact Gr.app (Gr.left Gr.refl) | refine Gr.cons ?_ | refine Gr.app ?_ | refine Gr.both ?_ ?_ | refine Gr.put (by repeat (first | exact List.mem_cons_self | apply List.mem_cons_of_mem | apply List.mem_append_right)) ?_))) (by rw [List.length_take, List.length_drop, flat_len encB 3 encB_len]; omega) (one_part T _ _) (by simp only [maxLen]; omega) (by omega) fun v4 C4 h4 => ⟨_, rfl, ?_⟩)
            refine WL.y rfl (Yd.assign rfl) ?_
            refine WL.nil ?_
            refine DN.then_normal ?_
            refine WC.region ?_
            refine WL.y rfl (Yd.move rfl) ?_
            refine WL.y rfl (Yd.assign rfl) ?_
            refine WL.nil ?_
            refine DN.block_normal ?_
            refine DN.then_normal ?_
            refine WC.region ?_
            refine WL.y rfl (Yd.move rfl) ?_
            refine WL.y rfl (Yd.add rfl rfl (by omega) (by omega)) ?_
            refine WL.y rfl (Yd.assign rfl) ?_
            refine WL.nil ?_
            exact DN.againS (⟨i + 1, v4, T.take k ++ L[i] :: T.drop k, C4⟩) (show (i + 1) ≤ L.length ∧ DayL d (L.take (i + 1)) (T.take k ++ L[i] :: T.drop k) ∧ Own v4 (T.take k ++ L[i] :: T.drop k).length ((T.take k ++ L[i] :: T.drop k).flatMap encB) 47 3 C4 from ⟨by omega, hday.put hlt (by omega) hk hbelow hge, by rw [← put_flat]; have e : (T.take k ++ L[i] :: T.drop k).length = k + 1 + (T.length - k) := (by rw [List.length_append, List.length_cons, List.length_take, List.length_drop]; omega); rw [e]; exact h4⟩) (show L.length - (i + 1) < L.length - i by omega) (Sx.put rfl (Sx.put rfl ((by repeat (first | exact Sx.refl | refine Sx.skip rfl ?_))))) (by repeat (first | exact Sp.here | exact Sp.sn | exact Sp.s0 | exact Fr.here | apply Sp.s2 | apply Sp.sx | apply Fr.fc | apply Fr.al | apply Fr.fa | apply Sp.sc | apply Sp.al | apply Sp.sa))
    · obtain rfl : i = L.length := by omega
      refine WC.exit ?_
      refine DN.then_exit ?_
      refine DN.then_exit ?_
      refine DN.block_exit ?_
      refine DN.then_normal ?_
      refine WC.region ?_
      refine WL.y rfl (Yd.move rfl) ?_
      refine WL.y rfl (Yd.move rfl) ?_
      refine WL.h rfl (Hd.appendF (e := 47) (sz := 3) (bytes := 24) (zs := [.int .u32 0, .int .i64 0, .int .i64 0]) (by kernel_rfl) (by kernel_rfl) rfl (by omega) rfl rfl hSo (by repeat (first | exact Sp.here | exact Sp.sn | exact Sp.s0 | exact Fr.here | apply Sp.s2 | apply Sp.sx | apply Fr.fc | apply Fr.al | apply Fr.fa | apply Sp.sc | apply Sp.al | apply Sp.sa)) (hTo.rs.mono (by repeat (first | exact Gr.refl | exact Gr.left Gr.refl | exact Gr.nil | exact Gr.app (Gr.left Gr.refl) | refine Gr.cons ?_ | refine Gr.app ?_ | refine Gr.both ?_ ?_ | refine Gr.put (by repeat (first | exact List.mem_cons_self | apply List.mem_cons_of_mem | apply List.mem_append_right)) ?_))) (flat_len encB 3 encB_len T) (flat_one encB_one T) (by simp only [maxLen]; omega) (by omega) fun v5 C5 h5 => ⟨_, rfl, ?_⟩)
      refine WL.y rfl (Yd.assign rfl) ?_
      refine WL.nil ?_
      refine DN.block_normal ?_
      refine DN.then_normal ?_
      refine WC.region ?_
      refine WL.y rfl (Yd.move rfl) ?_
      refine WL.y rfl (Yd.add rfl rfl (by omega) (by omega)) ?_
      refine WL.y rfl (Yd.assign rfl) ?_
      refine WL.nil ?_
      exact DN.againS (⟨d + 1, v5, So ++ T, C5⟩) (show (d + 1) ≤ fs.length ∧ OutL (d + 1) L (So ++ T) ∧ Own v5 (So ++ T).length ((So ++ T).flatMap encB) 47 3 C5 from ⟨by omega, hout.next (by have := hday; rwa [List.take_length] at this), by rw [List.flatMap_append, List.length_append]; exact h5⟩) (show fs.length - (d + 1) < fs.length - d by omega) (Sx.put rfl (Sx.put rfl ((by repeat (first | exact Sx.refl | refine Sx.skip rfl ?_))))) (by repeat (first | exact Sp.here | exact Sp.sn | exact Sp.s0 | exact Fr.here | apply Sp.s2 | apply Sp.sx | apply Fr.fc | apply Fr.al | apply Fr.fa | apply Sp.sc | apply Sp.al | apply Sp.sa))
  · obtain rfl : d = fs.length := by omega
    refine WC.exit ?_
    refine DN.then_exit ?_
    refine DN.then_exit ?_
    refine DN.block_exit ?_
    refine DN.then_normal ?_
    refine WC.seq ?_
    refine WC.region ?_
    refine WL.y rfl (Yd.move rfl) ?_
    refine WL.y rfl (Yd.assign rfl) ?_
    refine WL.nil ?_
    refine DN.then_normal ?_
    refine WC.ret ?_
    refine DN.fit (C := Co ++ (row p [.slice fo fs.length fc, .slice lo L.length lc] 58 :: (Cf ++ Cl))) (by repeat (first | exact Sp.here | exact Sp.sn | exact Sp.s0 | exact Fr.here | apply Sp.s2 | apply Sp.sx | apply Fr.fc | apply Fr.al | apply Fr.fa | apply Sp.sc | apply Sp.al | apply Sp.sa)) ?_
    refine DN.ret1 Try.results21 rfl ?_
    exact ⟨So, Co, hout.told fun b hb => by have := (inv.bks b hb).1; omega, hSo, rfl⟩

end Go.Proofs.Ytmdbmcicbambjaa
