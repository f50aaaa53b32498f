/-
  The walks of the chapter's own stock: sum, Gone, at, Goods.
-/
import Derived.Test.YtdbbkodjhmfjfaaStock6
import Derived.Test.YtdbbkodjhmfjfaaStockRef
import Derived.Test.YtdbbkodjhmfjfaaSLQuiet
set_option linter.unusedVariables false
set_option linter.unusedSimpArgs false
set_option maxHeartbeats 4000000
namespace Go.Proofs.Ytdbbkodjhmfjfaa
open Go.SL


/-- drayage/drayageref09.sum -/
theorem rsum_reads (v : Value) (T : List Ho) (nm : ByteArray) (H : List Ck) (hv : Rs v T.length (T.flatMap cellsH) H) (hl : T.length ≤ 100000000) (hp : ∀ x ∈ T, 1 ≤ x.n) (hb : sumN T nm ≤ 1000000) : Reads Try.prog 33 [v, .string nm] H (.int .i64 (sumN T nm)) := by
  refine Tells.enter Try.func33 rfl Try.ntmps33 rfl ?_
  intro w0 R
  obtain ⟨vo, vc, rfl, hvc⟩ := hv.form
  refine WC.seq ?_
  refine WC.region ?_
  refine WL.y rfl (Yd.assign rfl) ?_
  refine WL.nil ?_
  refine DN.then_normal ?_
  refine WC.seq ?_
  refine WC.region ?_
  refine WL.y rfl (Yd.assign rfl) ?_
  refine WL.nil ?_
  refine DN.then_normal ?_
  refine WC.seq ?_
  refine WC.seq ?_
  refine WC.region ?_
  refine WL.y rfl (Yd.assign rfl) ?_
  refine WL.nil ?_
  refine DN.then_normal ?_
  refine WC.block ?_
  refine WC.loopS (fun z : Nat × Int => z.1 ≤ T.length ∧ z.2 = sumN (T.take z.1) nm) (fun z : Nat × Int => [(6, .int .i64 (z.1 : Int)), (5, .int .i64 z.2)]) (fun z : Nat × Int => H) (fun z : Nat × Int => T.length - z.1) (⟨0, 0⟩) (show 0 ≤ T.length ∧ 0 = sumN (T.take 0) nm from ⟨Nat.zero_le _, by simp [sumN]⟩) (Sx.put rfl (Sx.put rfl ((by repeat (first | exact Sx.refl | refine Sx.skip rfl ?_))))) (by repeat (first | exact Sp.here | exact Sp.sn | exact Sp.s0 | exact Fr.here | apply Sp.s2 | apply Sp.sx | apply Fr.fc | apply Fr.al | apply Fr.fa | apply Sp.sc | apply Sp.al | apply Sp.sa)) ?_
  rintro ⟨j, z⟩ hI
  replace hI : j ≤ T.length ∧ z = sumN (T.take j) nm := hI
  obtain ⟨hj, hz⟩ := hI
  change WC _ _ _ _ _ _ ([(6, .int .i64 (j : Int)), (5, .int .i64 z)] ++ _) (H)
  refine WC.seq ?_
  refine WC.seq ?_
  refine WC.region ?_
  refine WL.y rfl (Yd.move rfl) ?_
  refine WL.y rfl (Yd.move rfl) ?_
  refine WL.y rfl (Yd.len (e := 50) (by kernel_rfl) rfl) ?_
  refine WL.y rfl (Yd.lss rfl rfl) ?_
  refine WL.nil ?_
  refine DN.then_normal ?_
  refine WC.ite rfl (fun h10 => ?_) (fun h10 => ?_)
  · have hjlt : j < T.length := by omega
    obtain ⟨wb, wf, ws, wT, wfr, wex, rfl, _, hwm, hws⟩ := hv.lies (by omega)
    have hst := sumN_take hjlt nm
    have hp1 := sumN_part hp (j + 1) nm
    have hp0 := sumN_part hp j nm
    have hpn := hp T[j] (List.getElem_mem hjlt)
    refine WC.skip ?_
    refine DN.then_normal ?_
    refine WC.seq ?_
    refine WC.block ?_
    refine WC.seq ?_
    refine WC.region ?_
    refine WL.y rfl (Yd.move rfl) ?_
    refine WL.y rfl (Yd.move rfl) ?_
    refine WL.y rfl (Yd.indexAddr (e := 50) (s := 3) (by kernel_rfl) (by kernel_rfl) rfl rfl (by omega) (by omega)) ?_
    refine WL.y rfl (Yd.fieldAddr (k := 1) (by kernel_rfl) rfl) ?_
    refine WL.h rfl (Hd.load1 (v := .string T[j].name) (b := wb) (o := wf + (j : Int).toNat * 3 + 1) (cs := ws) (by kernel_rfl) rfl (Gr.get (by repeat (first | exact Gr.refl | exact Gr.left Gr.refl | exact Gr.left (Gr.left Gr.refl) | exact Gr.left (Gr.app Gr.refl) | exact Gr.left (Gr.left (Gr.left Gr.refl)) | exact Gr.nil | exact Gr.app (Gr.left Gr.refl) | refine Gr.cons ?_ | refine Gr.app ?_ | refine Gr.both ?_ ?_ | refine Gr.put (by repeat (first | exact List.mem_cons_self | apply List.mem_cons_of_mem | apply List.mem_append_right)) ?_)) hwm) (cell_at2 (L := T) cellsH_len hws (by omega) (by omega)) ⟨_, rfl, ?_⟩)
    refine WL.y rfl (Yd.move rfl) ?_
    refine WL.y rfl (Yd.eqlS rfl rfl) ?_
    refine WL.nil ?_
    refine DN.then_normal ?_
    refine WC.ite rfl (fun h19 => ?_) (fun h19 => ?_)
    · rw [if_pos h19] at hst
      refine WC.region ?_
      refine WL.y rfl (Yd.move rfl) ?_
      refine WL.y rfl (Yd.move rfl) ?_
      refine WL.y rfl (Yd.move rfl) ?_
      refine WL.y rfl (Yd.indexAddr (e := 50) (s := 3) (by kernel_rfl) (by kernel_rfl) rfl rfl (by omega) (by omega)) ?_
      refine WL.y rfl (Yd.fieldAddr (k := 2) (by kernel_rfl) rfl) ?_
      refine WL.h rfl (Hd.load1 (v := .int .i64 T[j].n) (b := wb) (o := wf + (j : Int).toNat * 3 + 2) (cs := ws) (by kernel_rfl) rfl (Gr.get (by repeat (first | exact Gr.refl | exact Gr.left Gr.refl | exact Gr.left (Gr.left Gr.refl) | exact Gr.left (Gr.app Gr.refl) | exact Gr.left (Gr.left (Gr.left Gr.refl)) | exact Gr.nil | exact Gr.app (Gr.left Gr.refl) | refine Gr.cons ?_ | refine Gr.app ?_ | refine Gr.both ?_ ?_ | refine Gr.put (by repeat (first | exact List.mem_cons_self | apply List.mem_cons_of_mem | apply List.mem_append_right)) ?_)) hwm) (cell_at2 (L := T) cellsH_len hws (by omega) (by omega)) ⟨_, rfl, ?_⟩)
      refine WL.y rfl (Yd.add rfl rfl (by omega) (by omega)) ?_
      refine WL.y rfl (Yd.assign rfl) ?_
      refine WL.nil ?_
      refine DN.block_normal ?_
      refine DN.then_normal ?_
      refine WC.region ?_
      refine WL.y rfl (Yd.move rfl) ?_
      refine WL.y rfl (Yd.add rfl rfl (by omega) (by omega)) ?_
      refine WL.y rfl (Yd.assign rfl) ?_
      refine WL.nil ?_
      exact DN.againS (⟨j + 1, z + T[j].n⟩) (show (j + 1) ≤ T.length ∧ (z + T[j].n) = sumN (T.take (j + 1)) nm from ⟨by omega, by omega⟩) (show T.length - (j + 1) < T.length - j by omega) (Sx.put rfl (Sx.put rfl ((by repeat (first | exact Sx.refl | refine Sx.skip rfl ?_))))) (by repeat (first | exact Sp.here | exact Sp.sn | exact Sp.s0 | exact Fr.here | apply Sp.s2 | apply Sp.sx | apply Fr.fc | apply Fr.al | apply Fr.fa | apply Sp.sc | apply Sp.al | apply Sp.sa))
    · rw [if_neg h19] at hst
      refine WC.skip ?_
      refine DN.block_normal ?_
      refine DN.then_normal ?_
      refine WC.region ?_
      refine WL.y rfl (Yd.move rfl) ?_
      refine WL.y rfl (Yd.add rfl rfl (by omega) (by omega)) ?_
      refine WL.y rfl (Yd.assign rfl) ?_
      refine WL.nil ?_
      exact DN.againS (⟨j + 1, z⟩) (show (j + 1) ≤ T.length ∧ z = sumN (T.take (j + 1)) nm from ⟨by omega, by omega⟩) (show T.length - (j + 1) < T.length - j by omega) (Sx.put rfl (Sx.put rfl ((by repeat (first | exact Sx.refl | refine Sx.skip rfl ?_))))) (by repeat (first | exact Sp.here | exact Sp.sn | exact Sp.s0 | exact Fr.here | apply Sp.s2 | apply Sp.sx | apply Fr.fc | apply Fr.al | apply Fr.fa | apply Sp.sc | apply Sp.al | apply Sp.sa))
  · obtain rfl : j = T.length := by omega
    rw [List.take_length] at hz
    refine WC.exit ?_
    refine DN.then_exit ?_
    refine DN.then_exit ?_
    refine DN.block_exit ?_
    refine DN.then_normal ?_
    refine WC.seq ?_
    refine WC.region ?_
    refine WL.y rfl (Yd.move rfl) ?_
    refine WL.y rfl (Yd.assign rfl) ?_
    refine WL.nil ?_
    refine DN.then_normal ?_
    refine WC.ret ?_
    refine DN.ret1 Try.results33 rfl ?_
    exact ⟨by rw [hz], rfl⟩

/-- (*drayage/drayageref09.Stock).Gone -/
theorem rgone_reads (p : Nat) (gs K F : List Gd) (L A : List Ho) (C : List Ck) (h : RsAt 66 32 50 p F L A C) (inv : SInv gs K L) (hR : RInv gs K L F A) (nm : ByteArray) : Reads Try.prog 24 [.pointer (some ⟨p, 0, none⟩), .string nm] C (.int .i64 (goneOf K nm)) := by
  refine Tells.enter Try.func24 rfl Try.ntmps24 rfl ?_
  intro w0 R
  obtain ⟨vf, vl, va, Cf, Cl, Ca, rfl, hF, hL, hA⟩ := h
  obtain ⟨fo, fc, rfl, _⟩ := hF.form
  obtain ⟨lo, lc, rfl, _⟩ := hL.form
  obtain ⟨wo, wc, rfl, _⟩ := hA.form
  have hlens := hR.lens inv
  have hmid := inv.mid nm
  have haw := hR.away nm
  refine WC.seq ?_
  refine WC.region ?_
  refine WL.y rfl (Yd.assign rfl) ?_
  refine WL.nil ?_
  refine DN.then_normal ?_
  refine WC.seq ?_
  refine WC.region ?_
  refine WL.y rfl (Yd.move rfl) ?_
  refine WL.y rfl (Yd.notNil rfl) ?_
  refine WL.y rfl (Yd.fieldAddr (k := 2) (by kernel_rfl) rfl) ?_
  refine WL.h rfl (Hd.load1 (by kernel_rfl) rfl (by repeat (first | exact List.mem_cons_self | apply List.mem_cons_of_mem | apply List.mem_append_right)) (by rfl) ⟨_, rfl, ?_⟩)
  refine WL.y rfl (Yd.move rfl) ?_
  refine WL.rf rfl (Ent.func Try.call33 rfl) (rsum_reads _ A nm Ca hA.rs (by omega) (fun x hx => (hR.ok x hx).1) (by omega)) (by repeat (first | exact Sp.here | exact Sp.sn | exact Sp.s0 | exact Fr.here | apply Sp.s2 | apply Sp.sx | apply Fr.fc | apply Fr.al | apply Fr.fa | apply Sp.sc | apply Sp.al | apply Sp.sa)) ?_
  refine WL.y rfl (Yd.assign rfl) ?_
  refine WL.nil ?_
  refine DN.then_normal ?_
  refine WC.ret ?_
  refine DN.ret1 Try.results24 rfl ?_
  exact ⟨by rw [haw], rfl⟩

/-- (*drayage/drayageref09.Stock).at -/
theorem rat_reads (p : Nat) (F : List Gd) (L A : List Ho) (C : List Ck) (h : RsAt 66 32 50 p F L A C) (hl : L.length ≤ 100000000) (o : BitVec 32) : Reads Try.prog 30 [.pointer (some ⟨p, 0, none⟩), .int .u32 o.toNat] C (.int .i64 (atK Ho.o L o)) := by
  refine Tells.enter Try.func30 rfl Try.ntmps30 rfl ?_
  intro w0 R
  obtain ⟨vf, vl, va, Cf, Cl, Ca, rfl, hF, hL, hA⟩ := h
  obtain ⟨fo, fc, rfl, _⟩ := hF.form
  obtain ⟨lo, lc, rfl, _⟩ := hL.form
  obtain ⟨wo, wc, rfl, _⟩ := hA.form
  refine WC.seq ?_
  refine WC.region ?_
  refine WL.y rfl (Yd.assign rfl) ?_
  refine WL.nil ?_
  refine DN.then_normal ?_
  refine WC.seq ?_
  refine WC.seq ?_
  refine WC.region ?_
  refine WL.y rfl (Yd.assign rfl) ?_
  refine WL.nil ?_
  refine DN.then_normal ?_
  refine WC.block ?_
  refine WC.loopS (fun z : Nat => z ≤ L.length ∧ ∀ (j : Nat) (hj : j < L.length), j < z → ¬ o = L[j].o) (fun z : Nat => [(5, .int .i64 (z : Int))]) (fun z : Nat => row p [.slice fo F.length fc, .slice lo L.length lc, .slice wo A.length wc] 66 :: (Cf ++ (Cl ++ Ca))) (fun z : Nat => L.length - z) (0) (show 0 ≤ L.length ∧ ∀ (j : Nat) (hj : j < L.length), j < 0 → ¬ o = L[j].o from ⟨Nat.zero_le _, fun j hj h => by omega⟩) (Sx.put rfl ((by repeat (first | exact Sx.refl | refine Sx.skip rfl ?_)))) (by repeat (first | exact Sp.here | exact Sp.sn | exact Sp.s0 | exact Fr.here | apply Sp.s2 | apply Sp.sx | apply Fr.fc | apply Fr.al | apply Fr.fa | apply Sp.sc | apply Sp.al | apply Sp.sa)) ?_
  rintro i hI
  replace hI : i ≤ L.length ∧ ∀ (j : Nat) (hj : j < L.length), j < i → ¬ o = L[j].o := hI
  obtain ⟨hi, hno⟩ := hI
  change WC _ _ _ _ _ _ ([(5, .int .i64 (i : Int))] ++ _) (row p [.slice fo F.length fc, .slice lo L.length lc, .slice wo A.length wc] 66 :: (Cf ++ (Cl ++ Ca)))
  refine WC.seq ?_
  refine WC.seq ?_
  refine WC.region ?_
  refine WL.y rfl (Yd.move rfl) ?_
  refine WL.y rfl (Yd.move rfl) ?_
  refine WL.y rfl (Yd.notNil rfl) ?_
  refine WL.y rfl (Yd.fieldAddr (k := 1) (by kernel_rfl) rfl) ?_
  refine WL.h rfl (Hd.load1 (by kernel_rfl) rfl (by repeat (first | exact List.mem_cons_self | apply List.mem_cons_of_mem | apply List.mem_append_right)) (by rfl) ⟨_, rfl, ?_⟩)
  refine WL.y rfl (Yd.len (e := 50) (by kernel_rfl) rfl) ?_
  refine WL.y rfl (Yd.lss rfl rfl) ?_
  refine WL.nil ?_
  refine DN.then_normal ?_
  refine WC.ite rfl (fun h12 => ?_) (fun h12 => ?_)
  · have hlt : i < L.length := by omega
    obtain ⟨ub, uf, us, uT, ufr, uex, rfl, _, hum, hus⟩ := hL.rs.lies (by omega)
    refine WC.skip ?_
    refine DN.then_normal ?_
    refine WC.seq ?_
    refine WC.block ?_
    refine WC.seq ?_
    refine WC.region ?_
    refine WL.y rfl (Yd.move rfl) ?_
    refine WL.y rfl (Yd.notNil rfl) ?_
    refine WL.y rfl (Yd.fieldAddr (k := 1) (by kernel_rfl) rfl) ?_
    refine WL.h rfl (Hd.load1 (by kernel_rfl) rfl (by repeat (first | exact List.mem_cons_self | apply List.mem_cons_of_mem | apply List.mem_append_right)) (by rfl) ⟨_, rfl, ?_⟩)
    refine WL.y rfl (Yd.move rfl) ?_
    refine WL.y rfl (Yd.indexAddr (e := 50) (s := 3) (by kernel_rfl) (by kernel_rfl) rfl rfl (by omega) (by omega)) ?_
    refine WL.y rfl (Yd.fieldAddr (k := 0) (by kernel_rfl) rfl) ?_
    refine WL.h rfl (Hd.load1 (v := .int .u32 L[i].o.toNat) (b := ub) (o := uf + (i : Int).toNat * 3 + 0) (cs := us) (by kernel_rfl) rfl (Gr.get (by repeat (first | exact Gr.refl | exact Gr.left Gr.refl | exact Gr.left (Gr.left Gr.refl) | exact Gr.left (Gr.app Gr.refl) | exact Gr.left (Gr.left (Gr.left Gr.refl)) | exact Gr.nil | exact Gr.app (Gr.left Gr.refl) | refine Gr.cons ?_ | refine Gr.app ?_ | refine Gr.both ?_ ?_ | refine Gr.put (by repeat (first | exact List.mem_cons_self | apply List.mem_cons_of_mem | apply List.mem_append_right)) ?_)) hum) (cell_at2 (L := L) cellsH_len hus (by omega) (by omega)) ⟨_, rfl, ?_⟩)
    refine WL.y rfl (Yd.move rfl) ?_
    refine WL.y rfl (Yd.eql32 _ _ rfl rfl rfl rfl) ?_
    refine WL.nil ?_
    refine DN.then_normal ?_
    refine WC.ite rfl (fun h24 => ?_) (fun h24 => ?_)
    · refine WC.seq ?_
      refine WC.region ?_
      refine WL.y rfl (Yd.move rfl) ?_
      refine WL.y rfl (Yd.assign rfl) ?_
      refine WL.nil ?_
      refine DN.then_normal ?_
      refine WC.ret ?_
      refine DN.block_ret ?_
      refine DN.then_ret ?_
      refine DN.then_ret ?_
      refine DN.block_ret ?_
      refine DN.then_ret ?_
      refine DN.ret1 Try.results30 rfl ?_
      exact ⟨by rw [atK_yes L o i hlt h24.symm hno], rfl⟩
    · refine WC.skip ?_
      refine DN.block_normal ?_
      refine DN.then_normal ?_
      refine WC.region ?_
      refine WL.y rfl (Yd.move rfl) ?_
      refine WL.y rfl (Yd.add rfl rfl (by omega) (by omega)) ?_
      refine WL.y rfl (Yd.assign rfl) ?_
      refine WL.nil ?_
      exact DN.againS (i + 1) (show (i + 1) ≤ L.length ∧ ∀ (j : Nat) (hj : j < L.length), j < (i + 1) → ¬ o = L[j].o from ⟨by omega, fun j hj h => by
        rcases Nat.lt_or_ge j i with h5 | h5
        · exact hno j hj h5
        · obtain rfl : j = i := by omega
          exact fun e => h24 e.symm⟩) (show L.length - (i + 1) < L.length - i by omega) (Sx.put rfl ((by repeat (first | exact Sx.refl | refine Sx.skip rfl ?_)))) (by repeat (first | exact Sp.here | exact Sp.sn | exact Sp.s0 | exact Fr.here | apply Sp.s2 | apply Sp.sx | apply Fr.fc | apply Fr.al | apply Fr.fa | apply Sp.sc | apply Sp.al | apply Sp.sa))
  · refine WC.exit ?_
    refine DN.then_exit ?_
    refine DN.then_exit ?_
    refine DN.block_exit ?_
    refine DN.then_normal ?_
    refine WC.seq ?_
    refine WC.region ?_
    refine WL.y rfl (Yd.assign rfl) ?_
    refine WL.nil ?_
    refine DN.then_normal ?_
    refine WC.ret ?_
    refine DN.ret1 Try.results30 rfl ?_
    exact ⟨by rw [atK_no L o fun j hj => hno j hj (by omega)], rfl⟩

/-- (*drayage/drayageref09.Stock).Goods -/
theorem rgoods_tells (p : Nat) (gs K F : List Gd) (L A : List Ho) (C : List Ck) (h : RsAt 66 32 50 p F L A C) (inv : SInv gs K L) (hR : RInv gs K L F A) : Tells Try.prog 20 [.pointer (some ⟨p, 0, none⟩)] C fun r H' => ∃ Cs, Own r (vw K F).length ((vw K F).flatMap cellsG) 32 2 Cs ∧ H' = Cs ++ C := by
  refine Tells.enter Try.func20 rfl Try.ntmps20 rfl ?_
  intro w0 R
  obtain ⟨vf, vl, va, Cf, Cl, Ca, rfl, hF, hL, hA⟩ := h
  obtain ⟨fo, fc, rfl, _⟩ := hF.form
  obtain ⟨lo, lc, rfl, _⟩ := hL.form
  obtain ⟨wo, wc, rfl, _⟩ := hA.form
  have hlens := hR.lens inv
  have hmany := inv.many
  have hvl := vw_len K F
  refine WC.seq ?_
  refine WC.region ?_
  refine WL.y rfl (Yd.assign rfl) ?_
  refine WL.nil ?_
  refine DN.then_normal ?_
  refine WC.seq ?_
  refine WC.region ?_
  refine WL.y rfl (Yd.assign rfl) ?_
  refine WL.nil ?_
  refine DN.then_normal ?_
  refine WC.seq ?_
  refine WC.seq ?_
  refine WC.region ?_
  refine WL.y rfl (Yd.assign rfl) ?_
  refine WL.nil ?_
  refine DN.then_normal ?_
  refine WC.block ?_
  refine WC.loopS (fun z : Nat × Value × List Ck => z.1 ≤ F.length ∧ Own z.2.1 z.1 (((vw K F).take z.1).flatMap cellsG) 32 2 z.2.2) (fun z : Nat × Value × List Ck => [(4, .int .i64 (z.1 : Int)), (3, z.2.1)]) (fun z : Nat × Value × List Ck => z.2.2 ++ (row p [.slice fo F.length fc, .slice lo L.length lc, .slice wo A.length wc] 66 :: (Cf ++ (Cl ++ Ca)))) (fun z : Nat × Value × List Ck => F.length - z.1) (⟨0, .slice none 0 0, []⟩) (show 0 ≤ F.length ∧ Own (.slice none 0 0) 0 (((vw K F).take 0).flatMap cellsG) 32 2 [] from ⟨Nat.zero_le _, by simpa using Own.nil 32 2⟩) (Sx.put rfl (Sx.put rfl ((by repeat (first | exact Sx.refl | refine Sx.skip rfl ?_))))) (by repeat (first | exact Sp.here | exact Sp.sn | exact Sp.s0 | exact Fr.here | apply Sp.s2 | apply Sp.sx | apply Fr.fc | apply Fr.al | apply Fr.fa | apply Sp.sc | apply Sp.al | apply Sp.sa)) ?_
  rintro ⟨i, w, Co⟩ hI
  replace hI : i ≤ F.length ∧ Own w i (((vw K F).take i).flatMap cellsG) 32 2 Co := hI
  obtain ⟨hi, ho⟩ := hI
  change WC _ _ _ _ _ _ ([(4, .int .i64 (i : Int)), (3, w)] ++ _) (Co ++ (row p [.slice fo F.length fc, .slice lo L.length lc, .slice wo A.length wc] 66 :: (Cf ++ (Cl ++ Ca))))
  obtain ⟨oo, oc, rfl, _⟩ := ho.form
  refine WC.seq ?_
  refine WC.seq ?_
  refine WC.region ?_
  refine WL.y rfl (Yd.move rfl) ?_
  refine WL.y rfl (Yd.move rfl) ?_
  refine WL.y rfl (Yd.notNil rfl) ?_
  refine WL.y rfl (Yd.fieldAddr (k := 0) (by kernel_rfl) rfl) ?_
  refine WL.h rfl (Hd.load1 (by kernel_rfl) rfl (by repeat (first | exact List.mem_cons_self | apply List.mem_cons_of_mem | apply List.mem_append_right)) (by rfl) ⟨_, rfl, ?_⟩)
  refine WL.y rfl (Yd.len (e := 32) (by kernel_rfl) rfl) ?_
  refine WL.y rfl (Yd.lss rfl rfl) ?_
  refine WL.nil ?_
  refine DN.then_normal ?_
  refine WC.ite rfl (fun h12 => ?_) (fun h12 => ?_)
  · have hlt : i < F.length := by omega
    have hs := hR.step inv hlt
    have hmid := inv.mid F[i].name
    have haw := hR.away F[i].name
    refine WC.skip ?_
    refine DN.then_normal ?_
    refine WC.seq ?_
    refine WC.block ?_
    refine WC.seq ?_
    refine WC.region ?_
    refine WL.y rfl (Yd.move rfl) ?_
    refine WL.y rfl (Yd.notNil rfl) ?_
    refine WL.y rfl (Yd.fieldAddr (k := 0) (by kernel_rfl) rfl) ?_
    refine WL.h rfl (Hd.load1 (by kernel_rfl) rfl (by repeat (first | exact List.mem_cons_self | apply List.mem_cons_of_mem | apply List.mem_append_right)) (by rfl) ⟨_, rfl, ?_⟩)
    refine WL.y rfl (Yd.move rfl) ?_
    refine WL.elemA (e := 32) (s := 2) (by kernel_rfl) (by kernel_rfl) (by kernel_rfl) rfl rfl (rfl) (hF.rs.mono (by repeat (first | exact Gr.refl | exact Gr.left Gr.refl | exact Gr.left (Gr.left Gr.refl) | exact Gr.left (Gr.app Gr.refl) | exact Gr.left (Gr.left (Gr.left Gr.refl)) | exact Gr.nil | exact Gr.app (Gr.left Gr.refl) | refine Gr.cons ?_ | refine Gr.app ?_ | refine Gr.both ?_ ?_ | refine Gr.put (by repeat (first | exact List.mem_cons_self | apply List.mem_cons_of_mem | apply List.mem_append_right)) ?_))) (flat_row cellsG 2 cellsG_len F i hlt) (by rfl) (by omega) (hlt) rfl rfl ?_
    intro p20
    refine WL.h rfl (Hd.alloc (zs := [.string ⟨#[]⟩, .int .i64 0]) (by kernel_rfl) fun b5 => ⟨_, rfl, ?_⟩)
    refine WL.s (Hd.storeAll (n := 2) (by kernel_rfl) rfl rfl (by rfl) (by repeat (first | exact fun _ h => absurd h List.not_mem_nil | refine List.forall_mem_cons.2 ⟨by first | rfl | assumption, ?_⟩)) (by repeat (first | exact Fr.here | apply Fr.fc | apply Fr.al | apply Fr.fa)) (by rfl) ⟨rfl, ?_⟩)
    refine WL.nil ?_
    refine DN.then_normal ?_
    refine WC.seq ?_
    refine WC.draw 20 (by kernel_rfl) rfl ?_
    refine WA.quiet 19 1 rfl rfl (by kernel_rfl) (by kernel_rfl) (by kernel_rfl) rfl ?_
    refine WQ.y rfl (Yd.fieldAddr (k := 1) (by kernel_rfl) rfl) ?_
    refine WQ.rd rfl Wt.none (Rd.load1 (by kernel_rfl) rfl (by repeat (first | exact List.mem_cons_self | apply List.mem_cons_of_mem | apply List.mem_append_right)) (by rfl)) ?_
    refine WQ.y rfl (Yd.move rfl) ?_
    refine WQ.y rfl (Yd.notNil rfl) ?_
    refine WQ.y rfl (Yd.fieldAddr (k := 1) (by kernel_rfl) rfl) ?_
    refine WQ.rd rfl Wt.none (Rd.load1 (by kernel_rfl) rfl (by repeat (first | exact List.mem_cons_self | apply List.mem_cons_of_mem | apply List.mem_append_right)) (by rfl)) ?_
    refine WQ.y rfl (Yd.fieldAddr (k := 0) (by kernel_rfl) rfl) ?_
    refine WQ.rd rfl Wt.none (Rd.load1 (by kernel_rfl) rfl (by repeat (first | exact List.mem_cons_self | apply List.mem_cons_of_mem | apply List.mem_append_right)) (by rfl)) ?_
    refine WQ.rf rfl Wt.none (Ent.func Try.call33 rfl) (rsum_reads _ L F[i].name Cl hL.rs (by omega) (fun x hx => (inv.holds x hx).1) (by omega)) (by repeat (first | exact Sp.here | exact Sp.sn | exact Sp.s0 | exact Fr.here | apply Sp.s2 | apply Sp.sx | apply Fr.fc | apply Fr.al | apply Fr.fa | apply Sp.sc | apply Sp.al | apply Sp.sa)) ?_
    refine WQ.y rfl (Yd.sub rfl rfl (by omega) (by omega)) ?_
    refine WQ.y rfl (Yd.move rfl) ?_
    refine WQ.y rfl (Yd.notNil rfl) ?_
    refine WQ.y rfl (Yd.fieldAddr (k := 2) (by kernel_rfl) rfl) ?_
    refine WQ.rd rfl Wt.none (Rd.load1 (by kernel_rfl) rfl (by repeat (first | exact List.mem_cons_self | apply List.mem_cons_of_mem | apply List.mem_append_right)) (by rfl)) ?_
    refine WQ.y rfl (Yd.fieldAddr (k := 0) (by kernel_rfl) rfl) ?_
    refine WQ.rd rfl Wt.none (Rd.load1 (by kernel_rfl) rfl (by repeat (first | exact List.mem_cons_self | apply List.mem_cons_of_mem | apply List.mem_append_right)) (by rfl)) ?_
    refine WQ.rf rfl Wt.none (Ent.func Try.call33 rfl) (rsum_reads _ A F[i].name Ca hA.rs (by omega) (fun x hx => (hR.ok x hx).1) (by omega)) (by repeat (first | exact Sp.here | exact Sp.sn | exact Sp.s0 | exact Fr.here | apply Sp.s2 | apply Sp.sx | apply Fr.fc | apply Fr.al | apply Fr.fa | apply Sp.sc | apply Sp.al | apply Sp.sa)) ?_
    refine WQ.y rfl (Yd.sub rfl rfl (by omega) (by omega)) ?_
    refine WQ.y rfl (Yd.fieldAddr (k := 1) (by kernel_rfl) rfl) ?_
    refine WQ.nil ?_
    refine WA.one (i := 19) (by kernel_rfl) ?_
    refine WO.s rfl Wt.none (Hd.store1s (by kernel_rfl) rfl rfl (by rfl) (by repeat (first | exact Fr.here | apply Fr.fc | apply Fr.al | apply Fr.fa)) (by rfl) (by first | (simp only [List.set_cons_zero, List.set_cons_succ, Nat.zero_add, Nat.add_zero, Nat.reduceAdd]; rfl) | rfl) ⟨rfl, ?_⟩)
    refine WA.done (by kernel_rfl) ?_
    refine DN.then_normal ?_
    refine WC.region ?_
    refine WL.y rfl (Yd.move rfl) ?_
    refine WL.h rfl (Hd.loadAll (n := 2) (by kernel_rfl) rfl (by repeat (first | exact List.mem_cons_self | apply List.mem_cons_of_mem | apply List.mem_append_right)) (by rfl) ⟨_, rfl, ?_⟩)
    refine WL.h rfl (Hd.buildA (e := 32) (sz := 2) (zs := [.string ⟨#[]⟩, .int .i64 0]) (by kernel_rfl) (by kernel_rfl) (by kernel_rfl) rfl rfl (by rfl) (by kernel_rfl) fun b43 => ⟨_, rfl, ?_⟩)
    refine WL.h rfl (Hd.appendRow (e := 32) (sz := 2) (bytes := 24) (zs := [.string ⟨#[]⟩, .int .i64 0]) (by kernel_rfl) (by kernel_rfl) rfl (by omega) rfl rfl (ho) (by repeat (first | exact Sp.here | exact Sp.sn | exact Sp.s0 | exact Fr.here | apply Sp.s2 | apply Sp.sx | apply Fr.fc | apply Fr.al | apply Fr.fa | apply Sp.sc | apply Sp.al | apply Sp.sa)) (by repeat (first | exact List.mem_cons_self | apply List.mem_cons_of_mem | apply List.mem_append_right)) (by rfl) (by repeat (first | exact fun _ h => absurd h List.not_mem_nil | refine List.forall_mem_cons.2 ⟨by first | rfl | assumption, ?_⟩)) (by simp only [maxLen]; omega) (by omega) fun v2 C2 h2 => ⟨_, rfl, ?_⟩)
    refine WL.y rfl (Yd.assign rfl) ?_
    refine WL.nil ?_
    refine DN.block_normal ?_
    refine DN.then_normal ?_
    refine WC.region ?_
    refine WL.y rfl (Yd.move rfl) ?_
    refine WL.y rfl (Yd.add rfl rfl (by omega) (by omega)) ?_
    refine WL.y rfl (Yd.assign rfl) ?_
    refine WL.nil ?_
    exact DN.againS (⟨i + 1, v2, C2⟩) (show (i + 1) ≤ F.length ∧ Own v2 (i + 1) (((vw K F).take (i + 1)).flatMap cellsG) 32 2 C2 from ⟨by omega, by rw [List.take_succ_eq_append_getElem (by omega), List.flatMap_append, vw_at K F i hlt]; simpa [cellsG, ← hs.1] using h2⟩) (show F.length - (i + 1) < F.length - i by omega) (Sx.put rfl (Sx.put rfl ((by repeat (first | exact Sx.refl | refine Sx.skip rfl ?_))))) (by repeat (first | exact Sp.here | exact Sp.sn | exact Sp.s0 | exact Fr.here | apply Sp.s2 | apply Sp.sx | apply Fr.fc | apply Fr.al | apply Fr.fa | apply Sp.sc | apply Sp.al | apply Sp.sa))
  · obtain rfl : i = F.length := by omega
    rw [← hvl, List.take_length] at ho
    refine WC.exit ?_
    refine DN.then_exit ?_
    refine DN.then_exit ?_
    refine DN.block_exit ?_
    refine DN.then_normal ?_
    refine WC.seq ?_
    refine WC.region ?_
    refine WL.y rfl (Yd.move rfl) ?_
    refine WL.y rfl (Yd.assign rfl) ?_
    refine WL.nil ?_
    refine DN.then_normal ?_
    refine WC.ret ?_
    refine DN.fit (C := Co ++ (row p [.slice fo F.length fc, .slice lo L.length lc, .slice wo A.length wc] 66 :: (Cf ++ (Cl ++ Ca)))) (by repeat (first | exact Sp.here | exact Sp.sn | exact Sp.s0 | exact Fr.here | apply Sp.s2 | apply Sp.sx | apply Fr.fc | apply Fr.al | apply Fr.fa | apply Sp.sc | apply Sp.al | apply Sp.sa)) ?_
    refine DN.ret1 Try.results20 rfl ?_
    exact ⟨Co, by rwa [hvl] at ho ⊢, rfl⟩

end Go.Proofs.Ytdbbkodjhmfjfaa
