/-
  The walks of the chapter's own purse: sum, Taken, at, Accounts, Authorise, Turn.
-/
import Derived.Test.YtllfnigodikbaaaPurse4
import Derived.Test.YtllfnigodikbaaaPurseRef
set_option linter.unusedVariables false
set_option linter.unusedSimpArgs false
set_option maxHeartbeats 4000000
namespace Go.Proofs.Ytllfnigodikbaaa
open Go.SL


/-- (*drayage/drayageref10.Purse).sum -/
theorem rsum_reads (p : Nat) (F : List Au) (L : List Py) (C : List Ck) (h : RpAt 60 46 48 p F L C) (hl : L.length ≤ 100000000) (hp : ∀ x ∈ L, 1 ≤ x.n) (nm : ByteArray) (s : Int) (hb : sumP L nm s ≤ 1000000000) : Reads Try.prog 35 [.pointer (some ⟨p, 0, none⟩), .string nm, .int .i64 s] C (.int .i64 (sumP L nm s)) := by
  refine Tells.enter Try.func35 rfl Try.ntmps35 rfl ?_
  intro w0 R
  obtain ⟨vf, vl, Cf, Cl, rfl, hF, hL⟩ := h
  obtain ⟨fo, fc, rfl, _⟩ := hF.form
  obtain ⟨lo, lc, rfl, _⟩ := hL.form
  refine WC.seq ?_
  refine WC.region ?_
  refine WL.y rfl (Yd.assign rfl) ?_
  refine WL.nil ?_
  refine DN.then_normal ?_
  refine WC.seq ?_
  refine WC.region ?_
  refine WL.y rfl (Yd.assign rfl) ?_
  refine WL.nil ?_
  refine DN.then_normal ?_
  refine WC.seq ?_
  refine WC.seq ?_
  refine WC.region ?_
  refine WL.y rfl (Yd.assign rfl) ?_
  refine WL.nil ?_
  refine DN.then_normal ?_
  refine WC.block ?_
  refine WC.loopS (fun z : Nat × Int => z.1 ≤ L.length ∧ z.2 = sumP (L.take z.1) nm s) (fun z : Nat × Int => [(8, .int .i64 (z.1 : Int)), (7, .int .i64 z.2)]) (fun z : Nat × Int => row p [.slice fo F.length fc, .slice lo L.length lc] 60 :: (Cf ++ Cl)) (fun z : Nat × Int => L.length - z.1) (⟨0, 0⟩) (show 0 ≤ L.length ∧ 0 = sumP (L.take 0) nm s from ⟨Nat.zero_le _, by simp [sumP]⟩) (Sx.put rfl (Sx.put rfl ((by repeat (first | exact Sx.refl | refine Sx.skip rfl ?_))))) (by repeat (first | exact Sp.here | exact Sp.sn | exact Sp.s0 | exact Fr.here | apply Sp.s2 | apply Sp.sx | apply Fr.fc | apply Fr.al | apply Fr.fa | apply Sp.sc | apply Sp.al | apply Sp.sa)) ?_
  rintro ⟨j, z⟩ hI
  replace hI : j ≤ L.length ∧ z = sumP (L.take j) nm s := hI
  obtain ⟨hj, hz⟩ := hI
  change WC _ _ _ _ _ _ ([(8, .int .i64 (j : Int)), (7, .int .i64 z)] ++ _) (row p [.slice fo F.length fc, .slice lo L.length lc] 60 :: (Cf ++ Cl))
  refine WC.seq ?_
  refine WC.seq ?_
  refine WC.region ?_
  refine WL.y rfl (Yd.move rfl) ?_
  refine WL.y rfl (Yd.move rfl) ?_
  refine WL.y rfl (Yd.notNil rfl) ?_
  refine WL.y rfl (Yd.fieldAddr (k := 1) (by kernel_rfl) rfl) ?_
  refine WL.h rfl (Hd.load1 (by kernel_rfl) rfl (by repeat (first | exact List.mem_cons_self | apply List.mem_cons_of_mem | apply List.mem_append_right)) (by rfl) ⟨_, rfl, ?_⟩)
  refine WL.y rfl (Yd.len (e := 48) (by kernel_rfl) rfl) ?_
  refine WL.y rfl (Yd.lss rfl rfl) ?_
  refine WL.nil ?_
  refine DN.then_normal ?_
  refine WC.ite rfl (fun h15 => ?_) (fun h15 => ?_)
  · have hjl : j < L.length := by omega
    obtain ⟨wb, wf, ws, wT, wfr, wex, rfl, _, hwm, hws⟩ := hL.rs.lies (by omega)
    have hst := sumP_take hjl nm s
    have hp1 := sumP_part hp (j + 1) nm s
    have hp0 := sumP_part hp j nm s
    have hpn := hp L[j] (List.getElem_mem hjl)
    refine WC.skip ?_
    refine DN.then_normal ?_
    refine WC.seq ?_
    refine WC.block ?_
    refine WC.seq ?_
    refine WC.region ?_
    refine WL.y rfl (Yd.move rfl) ?_
    refine WL.y rfl (Yd.notNil rfl) ?_
    refine WL.y rfl (Yd.fieldAddr (k := 1) (by kernel_rfl) rfl) ?_
    refine WL.h rfl (Hd.load1 (by kernel_rfl) rfl (by repeat (first | exact List.mem_cons_self | apply List.mem_cons_of_mem | apply List.mem_append_right)) (by rfl) ⟨_, rfl, ?_⟩)
    refine WL.y rfl (Yd.move rfl) ?_
    refine WL.y rfl (Yd.indexAddr (e := 48) (s := 4) (by kernel_rfl) (by kernel_rfl) rfl rfl (by omega) (by omega)) ?_
    refine WL.y rfl (Yd.fieldAddr (k := 1) (by kernel_rfl) rfl) ?_
    refine WL.h rfl (Hd.load1 (v := .string L[j].name) (b := wb) (o := wf + (j : Int).toNat * 4 + 1) (cs := ws) (by kernel_rfl) rfl (Gr.get (by repeat (first | exact Gr.refl | exact Gr.left Gr.refl | exact Gr.left (Gr.left Gr.refl) | exact Gr.left (Gr.app Gr.refl) | exact Gr.left (Gr.left (Gr.left Gr.refl)) | exact Gr.nil | exact Gr.app (Gr.left Gr.refl) | refine Gr.cons ?_ | refine Gr.app ?_ | refine Gr.both ?_ ?_ | refine Gr.put (by repeat (first | exact List.mem_cons_self | apply List.mem_cons_of_mem | apply List.mem_append_right)) ?_)) hwm) (cell_atP (L := L) cellsP_len hws (by omega) (by omega)) ⟨_, rfl, ?_⟩)
    refine WL.y rfl (Yd.move rfl) ?_
    refine WL.y rfl (Yd.eqlS rfl rfl) ?_
    refine WL.y rfl (Yd.move rfl) ?_
    refine WL.partP (t := 28) rfl (fun hg28 => ?_) (fun hg28 => ?_)
    · refine WL.gy (dj := 28) rfl rfl rfl (Yd.move rfl) ?_
      refine WL.gy (dj := 28) rfl rfl rfl (Yd.notNil rfl) ?_
      refine WL.gy (dj := 28) rfl rfl rfl (Yd.fieldAddr (k := 1) (by kernel_rfl) rfl) ?_
      refine WL.gh (dj := 28) rfl rfl rfl (Hd.load1 (by kernel_rfl) rfl (by repeat (first | exact List.mem_cons_self | apply List.mem_cons_of_mem | apply List.mem_append_right)) (by rfl) ⟨_, rfl, ?_⟩)
      refine WL.gy (dj := 28) rfl rfl rfl (Yd.move rfl) ?_
      refine WL.gy (dj := 28) rfl rfl rfl (Yd.indexAddr (e := 48) (s := 4) (by kernel_rfl) (by kernel_rfl) rfl rfl (by omega) (by omega)) ?_
      refine WL.gy (dj := 28) rfl rfl rfl (Yd.fieldAddr (k := 3) (by kernel_rfl) rfl) ?_
      refine WL.gh (dj := 28) rfl rfl rfl (Hd.load1 (v := .int .i64 L[j].st) (b := wb) (o := wf + (j : Int).toNat * 4 + 3) (cs := ws) (by kernel_rfl) rfl (Gr.get (by repeat (first | exact Gr.refl | exact Gr.left Gr.refl | exact Gr.left (Gr.left Gr.refl) | exact Gr.left (Gr.app Gr.refl) | exact Gr.left (Gr.left (Gr.left Gr.refl)) | exact Gr.nil | exact Gr.app (Gr.left Gr.refl) | refine Gr.cons ?_ | refine Gr.app ?_ | refine Gr.both ?_ ?_ | refine Gr.put (by repeat (first | exact List.mem_cons_self | apply List.mem_cons_of_mem | apply List.mem_append_right)) ?_)) hwm) (cell_atP (L := L) cellsP_len hws (by omega) (by omega)) ⟨_, rfl, ?_⟩)
      refine WL.gy (dj := 28) rfl rfl rfl (Yd.move rfl) ?_
      refine WL.gy (dj := 28) rfl rfl rfl (Yd.eql rfl rfl) ?_
      refine WL.y rfl (Yd.pickT rfl rfl) ?_
      refine WL.nil ?_
      refine DN.then_normal ?_
      refine WC.ite rfl (fun h39 => ?_) (fun h39 => ?_)
      · rw [if_pos ⟨hg28, h39⟩] at hst
        refine WC.region ?_
        refine WL.y rfl (Yd.move rfl) ?_
        refine WL.y rfl (Yd.move rfl) ?_
        refine WL.y rfl (Yd.notNil rfl) ?_
        refine WL.y rfl (Yd.fieldAddr (k := 1) (by kernel_rfl) rfl) ?_
        refine WL.h rfl (Hd.load1 (by kernel_rfl) rfl (by repeat (first | exact List.mem_cons_self | apply List.mem_cons_of_mem | apply List.mem_append_right)) (by rfl) ⟨_, rfl, ?_⟩)
        refine WL.y rfl (Yd.move rfl) ?_
        refine WL.y rfl (Yd.indexAddr (e := 48) (s := 4) (by kernel_rfl) (by kernel_rfl) rfl rfl (by omega) (by omega)) ?_
        refine WL.y rfl (Yd.fieldAddr (k := 2) (by kernel_rfl) rfl) ?_
        refine WL.h rfl (Hd.load1 (v := .int .i64 L[j].n) (b := wb) (o := wf + (j : Int).toNat * 4 + 2) (cs := ws) (by kernel_rfl) rfl (Gr.get (by repeat (first | exact Gr.refl | exact Gr.left Gr.refl | exact Gr.left (Gr.left Gr.refl) | exact Gr.left (Gr.app Gr.refl) | exact Gr.left (Gr.left (Gr.left Gr.refl)) | exact Gr.nil | exact Gr.app (Gr.left Gr.refl) | refine Gr.cons ?_ | refine Gr.app ?_ | refine Gr.both ?_ ?_ | refine Gr.put (by repeat (first | exact List.mem_cons_self | apply List.mem_cons_of_mem | apply List.mem_append_right)) ?_)) hwm) (cell_atP (L := L) cellsP_len hws (by omega) (by omega)) ⟨_, rfl, ?_⟩)
        refine WL.y rfl (Yd.add rfl rfl (by omega) (by omega)) ?_
        refine WL.y rfl (Yd.assign rfl) ?_
        refine WL.nil ?_
        refine DN.block_normal ?_
        refine DN.then_normal ?_
        refine WC.region ?_
        refine WL.y rfl (Yd.move rfl) ?_
        refine WL.y rfl (Yd.add rfl rfl (by omega) (by omega)) ?_
        refine WL.y rfl (Yd.assign rfl) ?_
        refine WL.nil ?_
        exact DN.againS (⟨j + 1, z + L[j].n⟩) (show (j + 1) ≤ L.length ∧ (z + L[j].n) = sumP (L.take (j + 1)) nm s from ⟨by omega, by omega⟩) (show L.length - (j + 1) < L.length - j by omega) (Sx.put rfl (Sx.put rfl ((by repeat (first | exact Sx.refl | refine Sx.skip rfl ?_))))) (by repeat (first | exact Sp.here | exact Sp.sn | exact Sp.s0 | exact Fr.here | apply Sp.s2 | apply Sp.sx | apply Fr.fc | apply Fr.al | apply Fr.fa | apply Sp.sc | apply Sp.al | apply Sp.sa))
      · rw [if_neg (fun e => h39 e.2)] at hst
        refine WC.skip ?_
        refine DN.block_normal ?_
        refine DN.then_normal ?_
        refine WC.region ?_
        refine WL.y rfl (Yd.move rfl) ?_
        refine WL.y rfl (Yd.add rfl rfl (by omega) (by omega)) ?_
        refine WL.y rfl (Yd.assign rfl) ?_
        refine WL.nil ?_
        exact DN.againS (⟨j + 1, z⟩) (show (j + 1) ≤ L.length ∧ z = sumP (L.take (j + 1)) nm s from ⟨by omega, by omega⟩) (show L.length - (j + 1) < L.length - j by omega) (Sx.put rfl (Sx.put rfl ((by repeat (first | exact Sx.refl | refine Sx.skip rfl ?_))))) (by repeat (first | exact Sp.here | exact Sp.sn | exact Sp.s0 | exact Fr.here | apply Sp.s2 | apply Sp.sx | apply Fr.fc | apply Fr.al | apply Fr.fa | apply Sp.sc | apply Sp.al | apply Sp.sa))
    · refine WL.gn (dj := 28) rfl rfl rfl rfl ?_
      refine WL.gn (dj := 28) rfl rfl rfl rfl ?_
      refine WL.gn (dj := 28) rfl rfl rfl rfl ?_
      refine WL.gn (dj := 28) rfl rfl rfl rfl ?_
      refine WL.gn (dj := 28) rfl rfl rfl rfl ?_
      refine WL.gn (dj := 28) rfl rfl rfl rfl ?_
      refine WL.gn (dj := 28) rfl rfl rfl rfl ?_
      refine WL.gn (dj := 28) rfl rfl rfl rfl ?_
      refine WL.gn (dj := 28) rfl rfl rfl rfl ?_
      refine WL.gn (dj := 28) rfl rfl rfl rfl ?_
      refine WL.y rfl (Yd.pickF rfl rfl) ?_
      refine WL.nil ?_
      refine DN.then_normal ?_
      refine WC.no rfl ?_
      refine WC.skip ?_
      refine DN.block_normal ?_
      refine DN.then_normal ?_
      refine WC.region ?_
      refine WL.y rfl (Yd.move rfl) ?_
      refine WL.y rfl (Yd.add rfl rfl (by omega) (by omega)) ?_
      refine WL.y rfl (Yd.assign rfl) ?_
      refine WL.nil ?_
      exact DN.againS (⟨j + 1, z⟩) (show (j + 1) ≤ L.length ∧ z = sumP (L.take (j + 1)) nm s from ⟨by omega, by rw [hst, if_neg (fun e => hg28 e.1)]; omega⟩) (show L.length - (j + 1) < L.length - j by omega) (Sx.put rfl (Sx.put rfl ((by repeat (first | exact Sx.refl | refine Sx.skip rfl ?_))))) (by repeat (first | exact Sp.here | exact Sp.sn | exact Sp.s0 | exact Fr.here | apply Sp.s2 | apply Sp.sx | apply Fr.fc | apply Fr.al | apply Fr.fa | apply Sp.sc | apply Sp.al | apply Sp.sa))
  · obtain rfl : j = L.length := by omega
    rw [List.take_length] at hz
    refine WC.exit ?_
    refine DN.then_exit ?_
    refine DN.then_exit ?_
    refine DN.block_exit ?_
    refine DN.then_normal ?_
    refine WC.seq ?_
    refine WC.region ?_
    refine WL.y rfl (Yd.move rfl) ?_
    refine WL.y rfl (Yd.assign rfl) ?_
    refine WL.nil ?_
    refine DN.then_normal ?_
    refine WC.ret ?_
    refine DN.ret1 Try.results35 rfl ?_
    exact ⟨by rw [hz], rfl⟩

/-- (*drayage/drayageref10.Purse).Taken -/
theorem rtaken_reads (p : Nat) (gs K F : List Au) (L : List Py) (C : List Ck) (h : RpAt 60 46 48 p F L C) (inv : PInv gs K L) (hl : L.length ≤ 100000000) : Reads Try.prog 23 [.pointer (some ⟨p, 0, none⟩)] C (.int .i64 (takenL L)) := by
  refine Tells.enter Try.func23 rfl Try.ntmps23 rfl ?_
  intro w0 R
  obtain ⟨vf, vl, Cf, Cl, rfl, hF, hL⟩ := h
  obtain ⟨fo, fc, rfl, _⟩ := hF.form
  obtain ⟨lo, lc, rfl, _⟩ := hL.form
  have htk := inv.taken
  have hp : ∀ x ∈ L, 1 ≤ x.n := fun x hx => (inv.pays x hx).1
  refine WC.seq ?_
  refine WC.region ?_
  refine WL.y rfl (Yd.assign rfl) ?_
  refine WL.nil ?_
  refine DN.then_normal ?_
  refine WC.seq ?_
  refine WC.region ?_
  refine WL.y rfl (Yd.assign rfl) ?_
  refine WL.nil ?_
  refine DN.then_normal ?_
  refine WC.seq ?_
  refine WC.seq ?_
  refine WC.region ?_
  refine WL.y rfl (Yd.assign rfl) ?_
  refine WL.nil ?_
  refine DN.then_normal ?_
  refine WC.block ?_
  refine WC.loopS (fun z : Nat × Int => z.1 ≤ L.length ∧ z.2 = takenL (L.take z.1)) (fun z : Nat × Int => [(4, .int .i64 (z.1 : Int)), (3, .int .i64 z.2)]) (fun z : Nat × Int => row p [.slice fo F.length fc, .slice lo L.length lc] 60 :: (Cf ++ Cl)) (fun z : Nat × Int => L.length - z.1) (⟨0, 0⟩) (show 0 ≤ L.length ∧ 0 = takenL (L.take 0) from ⟨Nat.zero_le _, by simp [takenL]⟩) (Sx.put rfl (Sx.put rfl ((by repeat (first | exact Sx.refl | refine Sx.skip rfl ?_))))) (by repeat (first | exact Sp.here | exact Sp.sn | exact Sp.s0 | exact Fr.here | apply Sp.s2 | apply Sp.sx | apply Fr.fc | apply Fr.al | apply Fr.fa | apply Sp.sc | apply Sp.al | apply Sp.sa)) ?_
  rintro ⟨j, z⟩ hI
  replace hI : j ≤ L.length ∧ z = takenL (L.take j) := hI
  obtain ⟨hj, hz⟩ := hI
  change WC _ _ _ _ _ _ ([(4, .int .i64 (j : Int)), (3, .int .i64 z)] ++ _) (row p [.slice fo F.length fc, .slice lo L.length lc] 60 :: (Cf ++ Cl))
  refine WC.seq ?_
  refine WC.seq ?_
  refine WC.region ?_
  refine WL.y rfl (Yd.move rfl) ?_
  refine WL.y rfl (Yd.move rfl) ?_
  refine WL.y rfl (Yd.notNil rfl) ?_
  refine WL.y rfl (Yd.fieldAddr (k := 1) (by kernel_rfl) rfl) ?_
  refine WL.h rfl (Hd.load1 (by kernel_rfl) rfl (by repeat (first | exact List.mem_cons_self | apply List.mem_cons_of_mem | apply List.mem_append_right)) (by rfl) ⟨_, rfl, ?_⟩)
  refine WL.y rfl (Yd.len (e := 48) (by kernel_rfl) rfl) ?_
  refine WL.y rfl (Yd.lss rfl rfl) ?_
  refine WL.nil ?_
  refine DN.then_normal ?_
  refine WC.ite rfl (fun h11 => ?_) (fun h11 => ?_)
  · have hjl : j < L.length := by omega
    obtain ⟨wb, wf, ws, wT, wfr, wex, rfl, _, hwm, hws⟩ := hL.rs.lies (by omega)
    have hst := taken_take hjl
    have hp1 := taken_part hp (j + 1)
    have hp0 := taken_part hp j
    have hpn := hp L[j] (List.getElem_mem hjl)
    refine WC.skip ?_
    refine DN.then_normal ?_
    refine WC.seq ?_
    refine WC.block ?_
    refine WC.seq ?_
    refine WC.region ?_
    refine WL.y rfl (Yd.move rfl) ?_
    refine WL.y rfl (Yd.notNil rfl) ?_
    refine WL.y rfl (Yd.fieldAddr (k := 1) (by kernel_rfl) rfl) ?_
    refine WL.h rfl (Hd.load1 (by kernel_rfl) rfl (by repeat (first | exact List.mem_cons_self | apply List.mem_cons_of_mem | apply List.mem_append_right)) (by rfl) ⟨_, rfl, ?_⟩)
    refine WL.y rfl (Yd.move rfl) ?_
    refine WL.y rfl (Yd.indexAddr (e := 48) (s := 4) (by kernel_rfl) (by kernel_rfl) rfl rfl (by omega) (by omega)) ?_
    refine WL.y rfl (Yd.fieldAddr (k := 3) (by kernel_rfl) rfl) ?_
    refine WL.h rfl (Hd.load1 (v := .int .i64 L[j].st) (b := wb) (o := wf + (j : Int).toNat * 4 + 3) (cs := ws) (by kernel_rfl) rfl (Gr.get (by repeat (first | exact Gr.refl | exact Gr.left Gr.refl | exact Gr.left (Gr.left Gr.refl) | exact Gr.left (Gr.app Gr.refl) | exact Gr.left (Gr.left (Gr.left Gr.refl)) | exact Gr.nil | exact Gr.app (Gr.left Gr.refl) | refine Gr.cons ?_ | refine Gr.app ?_ | refine Gr.both ?_ ?_ | refine Gr.put (by repeat (first | exact List.mem_cons_self | apply List.mem_cons_of_mem | apply List.mem_append_right)) ?_)) hwm) (cell_atP (L := L) cellsP_len hws (by omega) (by omega)) ⟨_, rfl, ?_⟩)
    refine WL.y rfl (Yd.eql rfl rfl) ?_
    refine WL.nil ?_
    refine DN.then_normal ?_
    refine WC.ite rfl (fun h22 => ?_) (fun h22 => ?_)
    · rw [if_pos h22] at hst
      refine WC.region ?_
      refine WL.y rfl (Yd.move rfl) ?_
      refine WL.y rfl (Yd.move rfl) ?_
      refine WL.y rfl (Yd.notNil rfl) ?_
      refine WL.y rfl (Yd.fieldAddr (k := 1) (by kernel_rfl) rfl) ?_
      refine WL.h rfl (Hd.load1 (by kernel_rfl) rfl (by repeat (first | exact List.mem_cons_self | apply List.mem_cons_of_mem | apply List.mem_append_right)) (by rfl) ⟨_, rfl, ?_⟩)
      refine WL.y rfl (Yd.move rfl) ?_
      refine WL.y rfl (Yd.indexAddr (e := 48) (s := 4) (by kernel_rfl) (by kernel_rfl) rfl rfl (by omega) (by omega)) ?_
      refine WL.y rfl (Yd.fieldAddr (k := 2) (by kernel_rfl) rfl) ?_
      refine WL.h rfl (Hd.load1 (v := .int .i64 L[j].n) (b := wb) (o := wf + (j : Int).toNat * 4 + 2) (cs := ws) (by kernel_rfl) rfl (Gr.get (by repeat (first | exact Gr.refl | exact Gr.left Gr.refl | exact Gr.left (Gr.left Gr.refl) | exact Gr.left (Gr.app Gr.refl) | exact Gr.left (Gr.left (Gr.left Gr.refl)) | exact Gr.nil | exact Gr.app (Gr.left Gr.refl) | refine Gr.cons ?_ | refine Gr.app ?_ | refine Gr.both ?_ ?_ | refine Gr.put (by repeat (first | exact List.mem_cons_self | apply List.mem_cons_of_mem | apply List.mem_append_right)) ?_)) hwm) (cell_atP (L := L) cellsP_len hws (by omega) (by omega)) ⟨_, rfl, ?_⟩)
      refine WL.y rfl (Yd.add rfl rfl (by omega) (by omega)) ?_
      refine WL.y rfl (Yd.assign rfl) ?_
      refine WL.nil ?_
      refine DN.block_normal ?_
      refine DN.then_normal ?_
      refine WC.region ?_
      refine WL.y rfl (Yd.move rfl) ?_
      refine WL.y rfl (Yd.add rfl rfl (by omega) (by omega)) ?_
      refine WL.y rfl (Yd.assign rfl) ?_
      refine WL.nil ?_
      exact DN.againS (⟨j + 1, z + L[j].n⟩) (show (j + 1) ≤ L.length ∧ (z + L[j].n) = takenL (L.take (j + 1)) from ⟨by omega, by omega⟩) (show L.length - (j + 1) < L.length - j by omega) (Sx.put rfl (Sx.put rfl ((by repeat (first | exact Sx.refl | refine Sx.skip rfl ?_))))) (by repeat (first | exact Sp.here | exact Sp.sn | exact Sp.s0 | exact Fr.here | apply Sp.s2 | apply Sp.sx | apply Fr.fc | apply Fr.al | apply Fr.fa | apply Sp.sc | apply Sp.al | apply Sp.sa))
    · rw [if_neg h22] at hst
      refine WC.skip ?_
      refine DN.block_normal ?_
      refine DN.then_normal ?_
      refine WC.region ?_
      refine WL.y rfl (Yd.move rfl) ?_
      refine WL.y rfl (Yd.add rfl rfl (by omega) (by omega)) ?_
      refine WL.y rfl (Yd.assign rfl) ?_
      refine WL.nil ?_
      exact DN.againS (⟨j + 1, z⟩) (show (j + 1) ≤ L.length ∧ z = takenL (L.take (j + 1)) from ⟨by omega, by omega⟩) (show L.length - (j + 1) < L.length - j by omega) (Sx.put rfl (Sx.put rfl ((by repeat (first | exact Sx.refl | refine Sx.skip rfl ?_))))) (by repeat (first | exact Sp.here | exact Sp.sn | exact Sp.s0 | exact Fr.here | apply Sp.s2 | apply Sp.sx | apply Fr.fc | apply Fr.al | apply Fr.fa | apply Sp.sc | apply Sp.al | apply Sp.sa))
  · obtain rfl : j = L.length := by omega
    rw [List.take_length] at hz
    refine WC.exit ?_
    refine DN.then_exit ?_
    refine DN.then_exit ?_
    refine DN.block_exit ?_
    refine DN.then_normal ?_
    refine WC.seq ?_
    refine WC.region ?_
    refine WL.y rfl (Yd.move rfl) ?_
    refine WL.y rfl (Yd.assign rfl) ?_
    refine WL.nil ?_
    refine DN.then_normal ?_
    refine WC.ret ?_
    refine DN.ret1 Try.results23 rfl ?_
    exact ⟨by rw [hz], rfl⟩

/-- (*drayage/drayageref10.Purse).at -/
theorem rat_reads (p : Nat) (F : List Au) (L : List Py) (C : List Ck) (h : RpAt 60 46 48 p F L C) (hl : L.length ≤ 100000000) (o : BitVec 32) : Reads Try.prog 29 [.pointer (some ⟨p, 0, none⟩), .int .u32 o.toNat] C (.int .i64 (atK Py.o L o)) := by
  refine Tells.enter Try.func29 rfl Try.ntmps29 rfl ?_
  intro w0 R
  obtain ⟨vf, vl, Cf, Cl, rfl, hF, hL⟩ := h
  obtain ⟨fo, fc, rfl, _⟩ := hF.form
  obtain ⟨lo, lc, rfl, _⟩ := hL.form
  refine WC.seq ?_
  refine WC.region ?_
  refine WL.y rfl (Yd.assign rfl) ?_
  refine WL.nil ?_
  refine DN.then_normal ?_
  refine WC.seq ?_
  refine WC.seq ?_
  refine WC.region ?_
  refine WL.y rfl (Yd.assign rfl) ?_
  refine WL.nil ?_
  refine DN.then_normal ?_
  refine WC.block ?_
  refine WC.loopS (fun z : Nat => z ≤ L.length ∧ ∀ (j : Nat) (hj : j < L.length), j < z → ¬ o = L[j].o) (fun z : Nat => [(5, .int .i64 (z : Int))]) (fun z : Nat => row p [.slice fo F.length fc, .slice lo L.length lc] 60 :: (Cf ++ Cl)) (fun z : Nat => L.length - z) (0) (show 0 ≤ L.length ∧ ∀ (j : Nat) (hj : j < L.length), j < 0 → ¬ o = L[j].o from ⟨Nat.zero_le _, fun j hj h => by omega⟩) (Sx.put rfl ((by repeat (first | exact Sx.refl | refine Sx.skip rfl ?_)))) (by repeat (first | exact Sp.here | exact Sp.sn | exact Sp.s0 | exact Fr.here | apply Sp.s2 | apply Sp.sx | apply Fr.fc | apply Fr.al | apply Fr.fa | apply Sp.sc | apply Sp.al | apply Sp.sa)) ?_
  rintro i hI
  replace hI : i ≤ L.length ∧ ∀ (j : Nat) (hj : j < L.length), j < i → ¬ o = L[j].o := hI
  obtain ⟨hi, hno⟩ := hI
  change WC _ _ _ _ _ _ ([(5, .int .i64 (i : Int))] ++ _) (row p [.slice fo F.length fc, .slice lo L.length lc] 60 :: (Cf ++ Cl))
  refine WC.seq ?_
  refine WC.seq ?_
  refine WC.region ?_
  refine WL.y rfl (Yd.move rfl) ?_
  refine WL.y rfl (Yd.move rfl) ?_
  refine WL.y rfl (Yd.notNil rfl) ?_
  refine WL.y rfl (Yd.fieldAddr (k := 1) (by kernel_rfl) rfl) ?_
  refine WL.h rfl (Hd.load1 (by kernel_rfl) rfl (by repeat (first | exact List.mem_cons_self | apply List.mem_cons_of_mem | apply List.mem_append_right)) (by rfl) ⟨_, rfl, ?_⟩)
  refine WL.y rfl (Yd.len (e := 48) (by kernel_rfl) rfl) ?_
  refine WL.y rfl (Yd.lss rfl rfl) ?_
  refine WL.nil ?_
  refine DN.then_normal ?_
  refine WC.ite rfl (fun h12 => ?_) (fun h12 => ?_)
  · have hlt : i < L.length := by omega
    obtain ⟨ub, uf, us, uT, ufr, uex, rfl, _, hum, hus⟩ := hL.rs.lies (by omega)
    refine WC.skip ?_
    refine DN.then_normal ?_
    refine WC.seq ?_
    refine WC.block ?_
    refine WC.seq ?_
    refine WC.region ?_
    refine WL.y rfl (Yd.move rfl) ?_
    refine WL.y rfl (Yd.notNil rfl) ?_
    refine WL.y rfl (Yd.fieldAddr (k := 1) (by kernel_rfl) rfl) ?_
    refine WL.h rfl (Hd.load1 (by kernel_rfl) rfl (by repeat (first | exact List.mem_cons_self | apply List.mem_cons_of_mem | apply List.mem_append_right)) (by rfl) ⟨_, rfl, ?_⟩)
    refine WL.y rfl (Yd.move rfl) ?_
    refine WL.y rfl (Yd.indexAddr (e := 48) (s := 4) (by kernel_rfl) (by kernel_rfl) rfl rfl (by omega) (by omega)) ?_
    refine WL.y rfl (Yd.fieldAddr (k := 0) (by kernel_rfl) rfl) ?_
    refine WL.h rfl (Hd.load1 (v := .int .u32 L[i].o.toNat) (b := ub) (o := uf + (i : Int).toNat * 4 + 0) (cs := us) (by kernel_rfl) rfl (Gr.get (by repeat (first | exact Gr.refl | exact Gr.left Gr.refl | exact Gr.left (Gr.left Gr.refl) | exact Gr.left (Gr.app Gr.refl) | exact Gr.left (Gr.left (Gr.left Gr.refl)) | exact Gr.nil | exact Gr.app (Gr.left Gr.refl) | refine Gr.cons ?_ | refine Gr.app ?_ | refine Gr.both ?_ ?_ | refine Gr.put (by repeat (first | exact List.mem_cons_self | apply List.mem_cons_of_mem | apply List.mem_append_right)) ?_)) hum) (cell_atP (L := L) cellsP_len hus (by omega) (by omega)) ⟨_, rfl, ?_⟩)
    refine WL.y rfl (Yd.move rfl) ?_
    refine WL.y rfl (Yd.eql32 _ _ rfl rfl rfl rfl) ?_
    refine WL.nil ?_
    refine DN.then_normal ?_
    refine WC.ite rfl (fun h24 => ?_) (fun h24 => ?_)
    · refine WC.seq ?_
      refine WC.region ?_
      refine WL.y rfl (Yd.move rfl) ?_
      refine WL.y rfl (Yd.assign rfl) ?_
      refine WL.nil ?_
      refine DN.then_normal ?_
      refine WC.ret ?_
      refine DN.block_ret ?_
      refine DN.then_ret ?_
      refine DN.then_ret ?_
      refine DN.block_ret ?_
      refine DN.then_ret ?_
      refine DN.ret1 Try.results29 rfl ?_
      exact ⟨by rw [atK_yes L o i hlt h24.symm hno], rfl⟩
    · refine WC.skip ?_
      refine DN.block_normal ?_
      refine DN.then_normal ?_
      refine WC.region ?_
      refine WL.y rfl (Yd.move rfl) ?_
      refine WL.y rfl (Yd.add rfl rfl (by omega) (by omega)) ?_
      refine WL.y rfl (Yd.assign rfl) ?_
      refine WL.nil ?_
      exact DN.againS (i + 1) (show (i + 1) ≤ L.length ∧ ∀ (j : Nat) (hj : j < L.length), j < (i + 1) → ¬ o = L[j].o from ⟨by omega, fun j hj h => by
        rcases Nat.lt_or_ge j i with h5 | h5
        · exact hno j hj h5
        · obtain rfl : j = i := by omega
          exact fun e => h24 e.symm⟩) (show L.length - (i + 1) < L.length - i by omega) (Sx.put rfl ((by repeat (first | exact Sx.refl | refine Sx.skip rfl ?_)))) (by repeat (first | exact Sp.here | exact Sp.sn | exact Sp.s0 | exact Fr.here | apply Sp.s2 | apply Sp.sx | apply Fr.fc | apply Fr.al | apply Fr.fa | apply Sp.sc | apply Sp.al | apply Sp.sa))
  · refine WC.exit ?_
    refine DN.then_exit ?_
    refine DN.then_exit ?_
    refine DN.block_exit ?_
    refine DN.then_normal ?_
    refine WC.seq ?_
    refine WC.region ?_
    refine WL.y rfl (Yd.assign rfl) ?_
    refine WL.nil ?_
    refine DN.then_normal ?_
    refine WC.ret ?_
    refine DN.ret1 Try.results29 rfl ?_
    exact ⟨by rw [atK_no L o fun j hj => hno j hj (by omega)], rfl⟩

/-- (*drayage/drayageref10.Purse).Accounts -/
theorem raccs_tells (p : Nat) (gs K F : List Au) (L : List Py) (C : List Ck) (h : RpAt 60 46 48 p F L C) (inv : PInv gs K L) (hF0 : ToldK Au.name sLt gs F) (hl : L.length ≤ 100000000) : Tells Try.prog 19 [.pointer (some ⟨p, 0, none⟩)] C fun r H' => ∃ Cs, Own r (vwU K F).length ((vwU K F).flatMap cellsU) 46 3 Cs ∧ H' = Cs ++ C := by
  refine Tells.enter Try.func19 rfl Try.ntmps19 rfl ?_
  intro w0 R
  have h0 := h
  obtain ⟨vf, vl, Cf, Cl, rfl, hF, hL⟩ := h
  obtain ⟨fo, fc, rfl, _⟩ := hF.form
  obtain ⟨lo, lc, rfl, _⟩ := hL.form
  have hFl := hF0.perm.length_eq
  have hfew := inv.few
  have hvl := vwU_len K F
  have hp : ∀ x ∈ L, 1 ≤ x.n := fun x hx => (inv.pays x hx).1
  refine WC.seq ?_
  refine WC.region ?_
  refine WL.y rfl (Yd.assign rfl) ?_
  refine WL.nil ?_
  refine DN.then_normal ?_
  refine WC.seq ?_
  refine WC.region ?_
  refine WL.y rfl (Yd.assign rfl) ?_
  refine WL.nil ?_
  refine DN.then_normal ?_
  refine WC.seq ?_
  refine WC.seq ?_
  refine WC.region ?_
  refine WL.y rfl (Yd.assign rfl) ?_
  refine WL.nil ?_
  refine DN.then_normal ?_
  refine WC.block ?_
  refine WC.loopS (fun z : Nat × Value × List Ck => z.1 ≤ F.length ∧ Own z.2.1 z.1 (((vwU K F).take z.1).flatMap cellsU) 46 3 z.2.2) (fun z : Nat × Value × List Ck => [(4, .int .i64 (z.1 : Int)), (3, z.2.1)]) (fun z : Nat × Value × List Ck => z.2.2 ++ (row p [.slice fo F.length fc, .slice lo L.length lc] 60 :: (Cf ++ Cl))) (fun z : Nat × Value × List Ck => F.length - z.1) (⟨0, .slice none 0 0, []⟩) (show 0 ≤ F.length ∧ Own (.slice none 0 0) 0 (((vwU K F).take 0).flatMap cellsU) 46 3 [] from ⟨Nat.zero_le _, by simpa using Own.nil 46 3⟩) (Sx.put rfl (Sx.put rfl ((by repeat (first | exact Sx.refl | refine Sx.skip rfl ?_))))) (by repeat (first | exact Sp.here | exact Sp.sn | exact Sp.s0 | exact Fr.here | apply Sp.s2 | apply Sp.sx | apply Fr.fc | apply Fr.al | apply Fr.fa | apply Sp.sc | apply Sp.al | apply Sp.sa)) ?_
  rintro ⟨i, w, Co⟩ hI
  replace hI : i ≤ F.length ∧ Own w i (((vwU K F).take i).flatMap cellsU) 46 3 Co := hI
  obtain ⟨hi, ho⟩ := hI
  change WC _ _ _ _ _ _ ([(4, .int .i64 (i : Int)), (3, w)] ++ _) (Co ++ (row p [.slice fo F.length fc, .slice lo L.length lc] 60 :: (Cf ++ Cl)))
  obtain ⟨oo, oc, rfl, _⟩ := ho.form
  refine WC.seq ?_
  refine WC.seq ?_
  refine WC.region ?_
  refine WL.y rfl (Yd.move rfl) ?_
  refine WL.y rfl (Yd.move rfl) ?_
  refine WL.y rfl (Yd.notNil rfl) ?_
  refine WL.y rfl (Yd.fieldAddr (k := 0) (by kernel_rfl) rfl) ?_
  refine WL.h rfl (Hd.load1 (by kernel_rfl) rfl (by repeat (first | exact List.mem_cons_self | apply List.mem_cons_of_mem | apply List.mem_append_right)) (by rfl) ⟨_, rfl, ?_⟩)
  refine WL.y rfl (Yd.len (e := 46) (by kernel_rfl) rfl) ?_
  refine WL.y rfl (Yd.lss rfl rfl) ?_
  refine WL.nil ?_
  refine DN.then_normal ?_
  refine WC.ite rfl (fun h13 => ?_) (fun h13 => ?_)
  · have hlt : i < F.length := by omega
    obtain ⟨ub, uf, us, uT, ufr, uex, rfl, _, hum, hus⟩ := hF.rs.lies (by omega)
    have hs := vwU_step inv hF0 hlt
    have hmid := inv.mid F[i].name
    refine WC.skip ?_
    refine DN.then_normal ?_
    refine WC.seq ?_
    refine WC.block ?_
    refine WC.seq ?_
    refine WC.region ?_
    refine WL.y rfl (Yd.move rfl) ?_
    refine WL.y rfl (Yd.notNil rfl) ?_
    refine WL.y rfl (Yd.fieldAddr (k := 0) (by kernel_rfl) rfl) ?_
    refine WL.h rfl (Hd.load1 (by kernel_rfl) rfl (by repeat (first | exact List.mem_cons_self | apply List.mem_cons_of_mem | apply List.mem_append_right)) (by rfl) ⟨_, rfl, ?_⟩)
    refine WL.y rfl (Yd.move rfl) ?_
    refine WL.y rfl (Yd.indexAddr (e := 46) (s := 3) (by kernel_rfl) (by kernel_rfl) rfl rfl (by omega) (by omega)) ?_
    refine WL.y rfl (Yd.fieldAddr (k := 0) (by kernel_rfl) rfl) ?_
    refine WL.h rfl (Hd.load1 (v := .string F[i].name) (b := ub) (o := uf + (i : Int).toNat * 3 + 0) (cs := us) (by kernel_rfl) rfl (Gr.get (by repeat (first | exact Gr.refl | exact Gr.left Gr.refl | exact Gr.left (Gr.left Gr.refl) | exact Gr.left (Gr.app Gr.refl) | exact Gr.left (Gr.left (Gr.left Gr.refl)) | exact Gr.nil | exact Gr.app (Gr.left Gr.refl) | refine Gr.cons ?_ | refine Gr.app ?_ | refine Gr.both ?_ ?_ | refine Gr.put (by repeat (first | exact List.mem_cons_self | apply List.mem_cons_of_mem | apply List.mem_append_right)) ?_)) hum) (cell_atP (L := F) cellsU_len hus (by omega) (by omega)) ⟨_, rfl, ?_⟩)
    refine WL.y rfl (Yd.assign rfl) ?_
    refine WL.nil ?_
    refine DN.then_normal ?_
    refine WC.seq ?_
    refine WC.draw 13 (by kernel_rfl) rfl ?_
    refine WA.quiet 13 0 rfl rfl (by kernel_rfl) (by kernel_rfl) (by kernel_rfl) rfl ?_
    refine WQ.y rfl (Yd.move rfl) ?_
    refine WQ.y rfl (Yd.notNil rfl) ?_
    refine WQ.y rfl (Yd.fieldAddr (k := 0) (by kernel_rfl) rfl) ?_
    refine WQ.rd rfl Wt.none (Rd.load1 (by kernel_rfl) rfl (by repeat (first | exact List.mem_cons_self | apply List.mem_cons_of_mem | apply List.mem_append_right)) (by rfl)) ?_
    refine WQ.y rfl (Yd.move rfl) ?_
    refine WQ.y rfl (Yd.indexAddr (e := 46) (s := 3) (by kernel_rfl) (by kernel_rfl) rfl rfl (by omega) (by omega)) ?_
    refine WQ.y rfl (Yd.fieldAddr (k := 1) (by kernel_rfl) rfl) ?_
    refine WQ.rd rfl Wt.none (Rd.load1 (v := .int .i64 F[i].money) (b := ub) (o := uf + (i : Int).toNat * 3 + 1) (cs := us) (by kernel_rfl) rfl (Gr.get (by repeat (first | exact Gr.refl | exact Gr.left Gr.refl | exact Gr.left (Gr.left Gr.refl) | exact Gr.left (Gr.app Gr.refl) | exact Gr.left (Gr.left (Gr.left Gr.refl)) | exact Gr.nil | exact Gr.app (Gr.left Gr.refl) | refine Gr.cons ?_ | refine Gr.app ?_ | refine Gr.both ?_ ?_ | refine Gr.put (by repeat (first | exact List.mem_cons_self | apply List.mem_cons_of_mem | apply List.mem_append_right)) ?_)) hum) (cell_atP (L := F) cellsU_len hus (by omega) (by omega))) ?_
    refine WQ.y rfl (Yd.move rfl) ?_
    refine WQ.y rfl (Yd.move rfl) ?_
    refine WQ.rf rfl Wt.none (Ent.func Try.call35 rfl) (rsum_reads p F L _ h0 hl hp F[i].name 2 (by omega)) (by repeat (first | exact Sp.here | exact Sp.sn | exact Sp.s0 | exact Fr.here | apply Sp.s2 | apply Sp.sx | apply Fr.fc | apply Fr.al | apply Fr.fa | apply Sp.sc | apply Sp.al | apply Sp.sa)) ?_
    refine WQ.y rfl (Yd.sub rfl rfl (by omega) (by omega)) ?_
    refine WQ.y rfl (Yd.assign rfl) ?_
    refine WQ.nil ?_
    refine WA.done (by kernel_rfl) ?_
    refine DN.then_normal ?_
    refine WC.region ?_
    refine WL.y rfl (Yd.move rfl) ?_
    refine WL.y rfl (Yd.move rfl) ?_
    refine WL.y rfl (Yd.move rfl) ?_
    refine WL.y rfl (Yd.move rfl) ?_
    refine WL.y rfl (Yd.move rfl) ?_
    refine WL.rf rfl (Ent.func Try.call35 rfl) (rsum_reads p F L _ h0 hl hp F[i].name 1 (by omega)) (by repeat (first | exact Sp.here | exact Sp.sn | exact Sp.s0 | exact Fr.here | apply Sp.s2 | apply Sp.sx | apply Fr.fc | apply Fr.al | apply Fr.fa | apply Sp.sc | apply Sp.al | apply Sp.sa)) ?_
    refine WL.y rfl (Yd.buildL (pl := [(0, 1), (1, 1), (2, 1)]) (zs := [.string ⟨#[]⟩, .int .i64 0, .int .i64 0]) (parts := [(0, .tmp 37), (1, .tmp 38), (2, .tmp 41)]) (vs := [(0, _), (1, _), (2, _)]) (cells := [_, _, _]) (by kernel_rfl) (by kernel_rfl) rfl rfl) ?_
    refine WL.h rfl (Hd.buildA (e := 46) (sz := 3) (zs := [.string ⟨#[]⟩, .int .i64 0, .int .i64 0]) (by kernel_rfl) (by kernel_rfl) (by kernel_rfl) rfl rfl (by rfl) (by kernel_rfl) fun b43 => ⟨_, rfl, ?_⟩)
    refine WL.h rfl (Hd.appendRow (e := 46) (sz := 3) (bytes := 32) (zs := [.string ⟨#[]⟩, .int .i64 0, .int .i64 0]) (by kernel_rfl) (by kernel_rfl) rfl (by omega) rfl rfl (ho) (by repeat (first | exact Sp.here | exact Sp.sn | exact Sp.s0 | exact Fr.here | apply Sp.s2 | apply Sp.sx | apply Fr.fc | apply Fr.al | apply Fr.fa | apply Sp.sc | apply Sp.al | apply Sp.sa)) (by repeat (first | exact List.mem_cons_self | apply List.mem_cons_of_mem | apply List.mem_append_right)) (by rfl) (by repeat (first | exact fun _ h => absurd h List.not_mem_nil | refine List.forall_mem_cons.2 ⟨by first | rfl | assumption, ?_⟩)) (by simp only [maxLen]; omega) (by omega) fun v2 C2 h2 => ⟨_, rfl, ?_⟩)
    refine WL.y rfl (Yd.assign rfl) ?_
    refine WL.nil ?_
    refine DN.block_normal ?_
    refine DN.then_normal ?_
    refine WC.region ?_
    refine WL.y rfl (Yd.move rfl) ?_
    refine WL.y rfl (Yd.add rfl rfl (by omega) (by omega)) ?_
    refine WL.y rfl (Yd.assign rfl) ?_
    refine WL.nil ?_
    exact DN.againS (⟨i + 1, v2, C2⟩) (show (i + 1) ≤ F.length ∧ Own v2 (i + 1) (((vwU K F).take (i + 1)).flatMap cellsU) 46 3 C2 from ⟨by omega, by rw [List.take_succ_eq_append_getElem (by omega), List.flatMap_append, vwU_at K F i hlt]; simpa [cellsU, ← hs.1, ← hs.2.1, hs.2.2.1] using h2⟩) (show F.length - (i + 1) < F.length - i by omega) (Sx.put rfl (Sx.put rfl ((by repeat (first | exact Sx.refl | refine Sx.skip rfl ?_))))) (by repeat (first | exact Sp.here | exact Sp.sn | exact Sp.s0 | exact Fr.here | apply Sp.s2 | apply Sp.sx | apply Fr.fc | apply Fr.al | apply Fr.fa | apply Sp.sc | apply Sp.al | apply Sp.sa))
  · obtain rfl : i = F.length := by omega
    rw [← hvl, List.take_length] at ho
    refine WC.exit ?_
    refine DN.then_exit ?_
    refine DN.then_exit ?_
    refine DN.block_exit ?_
    refine DN.then_normal ?_
    refine WC.seq ?_
    refine WC.region ?_
    refine WL.y rfl (Yd.move rfl) ?_
    refine WL.y rfl (Yd.assign rfl) ?_
    refine WL.nil ?_
    refine DN.then_normal ?_
    refine WC.ret ?_
    refine DN.fit (C := Co ++ (row p [.slice fo F.length fc, .slice lo L.length lc] 60 :: (Cf ++ Cl))) (by repeat (first | exact Sp.here | exact Sp.sn | exact Sp.s0 | exact Fr.here | apply Sp.s2 | apply Sp.sx | apply Fr.fc | apply Fr.al | apply Fr.fa | apply Sp.sc | apply Sp.al | apply Sp.sa)) ?_
    refine DN.ret1 Try.results19 rfl ?_
    exact ⟨Co, by rwa [hvl] at ho ⊢, rfl⟩

/-- (*drayage/drayageref10.Purse).Authorise -/
theorem rauth_tells (p : Nat) (gs K F : List Au) (L : List Py) (C : List Ck) (h : RpAt 60 46 48 p F L C) (inv : PInv gs K L) (hF0 : ToldK Au.name sLt gs F) (hl : L.length ≤ 100000000) (o : BitVec 32) (nm : ByteArray) (n : Int) : Tells Try.prog 14 [.pointer (some ⟨p, 0, none⟩), .int .u32 o.toNat, .string nm, .int .i64 n] C fun r H' => r = .int .i64 (vdP (authB K L o nm n)) ∧ RpAt 60 46 48 p F (authLs K L o nm n) H' := by
  refine Tells.enter Try.func14 rfl Try.ntmps14 rfl ?_
  intro w0 R
  have hat := atK_spec (key := Py.o) L o
  have h0 := h
  obtain ⟨vf, vl, Cf, Cl, rfl, hF, hL⟩ := h
  obtain ⟨fo, fc, rfl, _⟩ := hF.form
  obtain ⟨lo, lc, rfl, _⟩ := hL.form
  have hFl := hF0.perm.length_eq
  have hfew := inv.few
  have hvl := vwU_len K F
  obtain ⟨G, hG⟩ : ∃ G, G = vwU K F := ⟨_, rfl⟩
  rw [← hG] at hvl
  refine WC.seq ?_
  refine WC.region ?_
  refine WL.y rfl (Yd.assign rfl) ?_
  refine WL.nil ?_
  refine DN.then_normal ?_
  refine WC.seq ?_
  refine WC.region ?_
  refine WL.y rfl (Yd.move rfl) ?_
  refine WL.y rfl (Yd.move rfl) ?_
  refine WL.rf rfl (Ent.func Try.call29 rfl) (rat_reads p F L _ h0 hl o) (by repeat (first | exact Sp.here | exact Sp.sn | exact Sp.s0 | exact Fr.here | apply Sp.s2 | apply Sp.sx | apply Fr.fc | apply Fr.al | apply Fr.fa | apply Sp.sc | apply Sp.al | apply Sp.sa)) ?_
  refine WL.y rfl (Yd.assign rfl) ?_
  refine WL.nil ?_
  refine DN.then_normal ?_
  refine WC.seq ?_
  refine WC.seq ?_
  refine WC.region ?_
  refine WL.y rfl (Yd.move rfl) ?_
  refine WL.y rfl (Yd.eql32 _ (0#32) rfl rfl rfl rfl) ?_
  refine WL.y rfl (Yd.move rfl) ?_
  refine WL.partP (t := 17) rfl (fun hg17 => ?_) (fun hg17 => ?_)
  · refine WL.gn (dj := 17) rfl rfl rfl rfl ?_
    refine WL.gn (dj := 17) rfl rfl rfl rfl ?_
    refine WL.y rfl (Yd.pickT rfl rfl) ?_
    refine WL.y rfl (Yd.move rfl) ?_
    refine WL.gn (dj := 21) rfl rfl rfl rfl ?_
    refine WL.gn (dj := 21) rfl rfl rfl rfl ?_
    refine WL.y rfl (Yd.pickT rfl rfl) ?_
    refine WL.nil ?_
    refine DN.then_normal ?_
    refine WC.yes rfl ?_
    refine WC.seq ?_
    refine WC.region ?_
    refine WL.y rfl (Yd.assign rfl) ?_
    refine WL.nil ?_
    refine DN.then_normal ?_
    refine WC.ret ?_
    refine DN.then_ret ?_
    first | refine DN.fit (C := row p [.slice fo F.length fc, .slice zo (L.length + 1) zc] 60 :: (Cf ++ C2)) (by repeat (first | exact Sp.here | exact Sp.sn | exact Sp.s0 | exact Fr.here | apply Sp.s2 | apply Sp.sx | apply Fr.fc | apply Fr.al | apply Fr.fa | apply Sp.sc | apply Sp.al | apply Sp.sa)) ?_ | refine DN.fit (C := row p [.slice fo F.length fc, .slice lo L.length lc] 60 :: (Cf ++ Cl)) (by repeat (first | exact Sp.here | exact Sp.sn | exact Sp.s0 | exact Fr.here | apply Sp.s2 | apply Sp.sx | apply Fr.fc | apply Fr.al | apply Fr.fa | apply Sp.sc | apply Sp.al | apply Sp.sa)) ?_
    refine DN.ret1 Try.results14 rfl ?_
    first
      | (rw [hb, hK]
         exact ⟨rfl, _, _, Cf, C2, rfl, hF, by rw [List.flatMap_append, List.length_append]; exact h2⟩)
      | (have hb : authB K L o nm n = false := by
           first
           | (subst hG; exact auth_lost inv hF0 fun j hj => hno j hj (by omega))
           | (rw [Bool.eq_false_iff]
              intro e
              have hp := authB_parts e
              first
              | exact hp.1 hg17
              | exact absurd hp.2.1 (by omega)
              | (rcases hat with h | ⟨i, hi, h1, _, h2⟩
                 · exact absurd h.1 (by omega)
                 · rw [hp.2.2.1] at h2; cases h2))
         rw [hb, (auth_no hb).2]
         exact ⟨rfl, h0⟩)
  · refine WL.gy (dj := 17) rfl rfl rfl (Yd.move rfl) ?_
    refine WL.gy (dj := 17) rfl rfl rfl (Yd.lss rfl rfl) ?_
    refine WL.y rfl (Yd.pickF rfl rfl) ?_
    refine WL.y rfl (Yd.move rfl) ?_
    refine WL.partP (t := 21) rfl (fun hg21 => ?_) (fun hg21 => ?_)
    · refine WL.gn (dj := 21) rfl rfl rfl rfl ?_
      refine WL.gn (dj := 21) rfl rfl rfl rfl ?_
      refine WL.y rfl (Yd.pickT rfl rfl) ?_
      refine WL.nil ?_
      refine DN.then_normal ?_
      refine WC.yes rfl ?_
      refine WC.seq ?_
      refine WC.region ?_
      refine WL.y rfl (Yd.assign rfl) ?_
      refine WL.nil ?_
      refine DN.then_normal ?_
      refine WC.ret ?_
      refine DN.then_ret ?_
      first | refine DN.fit (C := row p [.slice fo F.length fc, .slice zo (L.length + 1) zc] 60 :: (Cf ++ C2)) (by repeat (first | exact Sp.here | exact Sp.sn | exact Sp.s0 | exact Fr.here | apply Sp.s2 | apply Sp.sx | apply Fr.fc | apply Fr.al | apply Fr.fa | apply Sp.sc | apply Sp.al | apply Sp.sa)) ?_ | refine DN.fit (C := row p [.slice fo F.length fc, .slice lo L.length lc] 60 :: (Cf ++ Cl)) (by repeat (first | exact Sp.here | exact Sp.sn | exact Sp.s0 | exact Fr.here | apply Sp.s2 | apply Sp.sx | apply Fr.fc | apply Fr.al | apply Fr.fa | apply Sp.sc | apply Sp.al | apply Sp.sa)) ?_
      refine DN.ret1 Try.results14 rfl ?_
      first
        | (rw [hb, hK]
           exact ⟨rfl, _, _, Cf, C2, rfl, hF, by rw [List.flatMap_append, List.length_append]; exact h2⟩)
        | (have hb : authB K L o nm n = false := by
             first
             | (subst hG; exact auth_lost inv hF0 fun j hj => hno j hj (by omega))
             | (rw [Bool.eq_false_iff]
                intro e
                have hp := authB_parts e
                first
                | exact hp.1 hg17
                | exact absurd hp.2.1 (by omega)
                | (rcases hat with h | ⟨i, hi, h1, _, h2⟩
                   · exact absurd h.1 (by omega)
                   · rw [hp.2.2.1] at h2; cases h2))
           rw [hb, (auth_no hb).2]
           exact ⟨rfl, h0⟩)
    · refine WL.gy (dj := 21) rfl rfl rfl (Yd.move rfl) ?_
      refine WL.gy (dj := 21) rfl rfl rfl (Yd.geq rfl rfl) ?_
      refine WL.y rfl (Yd.pickF rfl rfl) ?_
      refine WL.nil ?_
      refine DN.then_normal ?_
      refine WC.ite rfl (fun h24 => ?_) (fun h24 => ?_)
      · refine WC.seq ?_
        refine WC.region ?_
        refine WL.y rfl (Yd.assign rfl) ?_
        refine WL.nil ?_
        refine DN.then_normal ?_
        refine WC.ret ?_
        refine DN.then_ret ?_
        first | refine DN.fit (C := row p [.slice fo F.length fc, .slice zo (L.length + 1) zc] 60 :: (Cf ++ C2)) (by repeat (first | exact Sp.here | exact Sp.sn | exact Sp.s0 | exact Fr.here | apply Sp.s2 | apply Sp.sx | apply Fr.fc | apply Fr.al | apply Fr.fa | apply Sp.sc | apply Sp.al | apply Sp.sa)) ?_ | refine DN.fit (C := row p [.slice fo F.length fc, .slice lo L.length lc] 60 :: (Cf ++ Cl)) (by repeat (first | exact Sp.here | exact Sp.sn | exact Sp.s0 | exact Fr.here | apply Sp.s2 | apply Sp.sx | apply Fr.fc | apply Fr.al | apply Fr.fa | apply Sp.sc | apply Sp.al | apply Sp.sa)) ?_
        refine DN.ret1 Try.results14 rfl ?_
        first
          | (rw [hb, hK]
             exact ⟨rfl, _, _, Cf, C2, rfl, hF, by rw [List.flatMap_append, List.length_append]; exact h2⟩)
          | (have hb : authB K L o nm n = false := by
               first
               | (subst hG; exact auth_lost inv hF0 fun j hj => hno j hj (by omega))
               | (rw [Bool.eq_false_iff]
                  intro e
                  have hp := authB_parts e
                  first
                  | exact hp.1 hg17
                  | exact absurd hp.2.1 (by omega)
                  | (rcases hat with h | ⟨i, hi, h1, _, h2⟩
                     · exact absurd h.1 (by omega)
                     · rw [hp.2.2.1] at h2; cases h2))
             rw [hb, (auth_no hb).2]
             exact ⟨rfl, h0⟩)
      · have hnone : findK Py.o L o = none := by
          rcases hat with h | ⟨i, hi, h, _⟩
          · exact h.2
          · omega
        refine WC.skip ?_
        refine DN.then_normal ?_
        refine WC.seq ?_
        refine WC.region ?_
        refine WL.y rfl (Yd.move rfl) ?_
        refine WL.c rfl (Ent.func Try.call19 rfl) (raccs_tells p gs K F L _ h0 inv hF0 hl) (Sp.p (by repeat (first | exact Sp.here | exact Sp.sn | exact Sp.s0 | exact Fr.here | apply Sp.s2 | apply Sp.sx | apply Fr.fc | apply Fr.al | apply Fr.fa | apply Sp.sc | apply Sp.al | apply Sp.sa))) ?_
        rintro qq C9 ⟨Cs, ho, rfl⟩
        rw [← hG] at ho
        obtain ⟨go, gc, rfl, _⟩ := ho.form
        refine WL.y rfl (Yd.assign rfl) ?_
        refine WL.nil ?_
        refine DN.then_normal ?_
        refine WC.seq ?_
        refine WC.seq ?_
        refine WC.region ?_
        refine WL.y rfl (Yd.assign rfl) ?_
        refine WL.nil ?_
        refine DN.then_normal ?_
        refine WC.block ?_
        refine WC.loopS (fun z : Nat => z ≤ G.length ∧ ∀ (j : Nat) (hj : j < G.length), j < z → ¬ (G[j].name = nm ∧ n ≤ G[j].money - G[j].held)) (fun z : Nat => [(11, .int .i64 (z : Int))]) (fun z : Nat => Cs ++ (row p [.slice fo F.length fc, .slice lo L.length lc] 60 :: (Cf ++ Cl))) (fun z : Nat => G.length - z) (0) (show 0 ≤ G.length ∧ ∀ (j : Nat) (hj : j < G.length), j < 0 → ¬ (G[j].name = nm ∧ n ≤ G[j].money - G[j].held) from ⟨Nat.zero_le _, fun j hj h => by omega⟩) (Sx.put rfl ((by repeat (first | exact Sx.refl | refine Sx.skip rfl ?_)))) (by repeat (first | exact Sp.here | exact Sp.sn | exact Sp.s0 | exact Fr.here | apply Sp.s2 | apply Sp.sx | apply Fr.fc | apply Fr.al | apply Fr.fa | apply Sp.sc | apply Sp.al | apply Sp.sa)) ?_
        rintro i hI
        replace hI : i ≤ G.length ∧ ∀ (j : Nat) (hj : j < G.length), j < i → ¬ (G[j].name = nm ∧ n ≤ G[j].money - G[j].held) := hI
        obtain ⟨hi, hno⟩ := hI
        change WC _ _ _ _ _ _ ([(11, .int .i64 (i : Int))] ++ _) (Cs ++ (row p [.slice fo F.length fc, .slice lo L.length lc] 60 :: (Cf ++ Cl)))
        refine WC.seq ?_
        refine WC.seq ?_
        refine WC.region ?_
        refine WL.y rfl (Yd.move rfl) ?_
        refine WL.y rfl (Yd.move rfl) ?_
        refine WL.y rfl (Yd.len (e := 46) (by kernel_rfl) rfl) ?_
        refine WL.y rfl (Yd.lss rfl rfl) ?_
        refine WL.nil ?_
        refine DN.then_normal ?_
        refine WC.ite rfl (fun h30 => ?_) (fun h30 => ?_)
        · have hlt : i < G.length := by omega
          have hgm : 0 ≤ G[i].held ∧ G[i].held ≤ G[i].money ∧ G[i].money ≤ 1000000000 := by subst hG; exact vwU_mid inv hF0 hlt
          obtain ⟨ub, uf, us, uT, ufr, uex, rfl, _, hum, hus⟩ := ho.rs.lies (by omega)
          refine WC.skip ?_
          refine DN.then_normal ?_
          refine WC.seq ?_
          refine WC.block ?_
          refine WC.seq ?_
          refine WC.draw 22 (by kernel_rfl) rfl ?_
          refine WA.quiet 22 0 rfl rfl (by kernel_rfl) (by kernel_rfl) (by kernel_rfl) rfl ?_
          refine WQ.y rfl (Yd.move rfl) ?_
          refine WQ.y rfl (Yd.move rfl) ?_
          refine WQ.y rfl (Yd.indexAddr (e := 46) (s := 3) (by kernel_rfl) (by kernel_rfl) rfl rfl (by omega) (by omega)) ?_
          refine WQ.y rfl (Yd.fieldAddr (k := 0) (by kernel_rfl) rfl) ?_
          refine WQ.rd rfl Wt.none (Rd.load1 (v := .string G[i].name) (b := ub) (o := uf + (i : Int).toNat * 3 + 0) (cs := us) (by kernel_rfl) rfl (Gr.get (by repeat (first | exact Gr.refl | exact Gr.left Gr.refl | exact Gr.left (Gr.left Gr.refl) | exact Gr.left (Gr.app Gr.refl) | exact Gr.left (Gr.left (Gr.left Gr.refl)) | exact Gr.nil | exact Gr.app (Gr.left Gr.refl) | refine Gr.cons ?_ | refine Gr.app ?_ | refine Gr.both ?_ ?_ | refine Gr.put (by repeat (first | exact List.mem_cons_self | apply List.mem_cons_of_mem | apply List.mem_append_right)) ?_)) hum) (cell_atP (L := G) cellsU_len hus (by omega) (by omega))) ?_
          refine WQ.y rfl (Yd.move rfl) ?_
          refine WQ.y rfl (Yd.eqlS rfl rfl) ?_
          refine WQ.y rfl (Yd.move rfl) ?_
          refine WQ.partP (t := 40) rfl (fun hg40 => ?_) (fun hg40 => ?_)
          · refine WQ.gy (dj := 40) rfl rfl rfl (Yd.move rfl) ?_
            refine WQ.gy (dj := 40) rfl rfl rfl (Yd.move rfl) ?_
            refine WQ.gy (dj := 40) rfl rfl rfl (Yd.indexAddr (e := 46) (s := 3) (by kernel_rfl) (by kernel_rfl) rfl rfl (by omega) (by omega)) ?_
            refine WQ.gy (dj := 40) rfl rfl rfl (Yd.fieldAddr (k := 1) (by kernel_rfl) rfl) ?_
            refine WQ.rd rfl (Wt.yes (dj := 40) rfl rfl) (Rd.load1 (v := .int .i64 G[i].money) (b := ub) (o := uf + (i : Int).toNat * 3 + 1) (cs := us) (by kernel_rfl) rfl (Gr.get (by repeat (first | exact Gr.refl | exact Gr.left Gr.refl | exact Gr.left (Gr.left Gr.refl) | exact Gr.left (Gr.app Gr.refl) | exact Gr.left (Gr.left (Gr.left Gr.refl)) | exact Gr.nil | exact Gr.app (Gr.left Gr.refl) | refine Gr.cons ?_ | refine Gr.app ?_ | refine Gr.both ?_ ?_ | refine Gr.put (by repeat (first | exact List.mem_cons_self | apply List.mem_cons_of_mem | apply List.mem_append_right)) ?_)) hum) (cell_atP (L := G) cellsU_len hus (by omega) (by omega))) ?_
            refine WQ.gy (dj := 40) rfl rfl rfl (Yd.move rfl) ?_
            refine WQ.gy (dj := 40) rfl rfl rfl (Yd.move rfl) ?_
            refine WQ.gy (dj := 40) rfl rfl rfl (Yd.indexAddr (e := 46) (s := 3) (by kernel_rfl) (by kernel_rfl) rfl rfl (by omega) (by omega)) ?_
            refine WQ.gy (dj := 40) rfl rfl rfl (Yd.fieldAddr (k := 2) (by kernel_rfl) rfl) ?_
            refine WQ.rd rfl (Wt.yes (dj := 40) rfl rfl) (Rd.load1 (v := .int .i64 G[i].held) (b := ub) (o := uf + (i : Int).toNat * 3 + 2) (cs := us) (by kernel_rfl) rfl (Gr.get (by repeat (first | exact Gr.refl | exact Gr.left Gr.refl | exact Gr.left (Gr.left Gr.refl) | exact Gr.left (Gr.app Gr.refl) | exact Gr.left (Gr.left (Gr.left Gr.refl)) | exact Gr.nil | exact Gr.app (Gr.left Gr.refl) | refine Gr.cons ?_ | refine Gr.app ?_ | refine Gr.both ?_ ?_ | refine Gr.put (by repeat (first | exact List.mem_cons_self | apply List.mem_cons_of_mem | apply List.mem_append_right)) ?_)) hum) (cell_atP (L := G) cellsU_len hus (by omega) (by omega))) ?_
            refine WQ.gy (dj := 40) rfl rfl rfl (Yd.sub rfl rfl (by omega) (by omega)) ?_
            refine WQ.gy (dj := 40) rfl rfl rfl (Yd.move rfl) ?_
            refine WQ.gy (dj := 40) rfl rfl rfl (Yd.geq rfl rfl) ?_
            refine WQ.y rfl (Yd.pickT rfl rfl) ?_
            refine WQ.nil ?_
            refine WA.done (by kernel_rfl) ?_
            refine DN.then_normal ?_
            refine WC.ite rfl (fun h54 => ?_) (fun h54 => ?_)
            · have hb : authB K L o nm n = true := by subst hG; exact auth_found inv hF0 hg17 hg21 hnone hlt hg40 (by omega)
              have hK : authLs K L o nm n = L ++ [⟨o, nm, n, 1⟩] := (auth_yes hb).2
              refine WC.seq ?_
              refine WC.region ?_
              refine WL.y rfl (Yd.move rfl) ?_
              refine WL.y rfl (Yd.move rfl) ?_
              refine WL.y rfl (Yd.notNil rfl) ?_
              refine WL.y rfl (Yd.fieldAddr (k := 1) (by kernel_rfl) rfl) ?_
              refine WL.h rfl (Hd.load1 (by kernel_rfl) rfl (by repeat (first | exact List.mem_cons_self | apply List.mem_cons_of_mem | apply List.mem_append_right)) (by rfl) ⟨_, rfl, ?_⟩)
              refine WL.y rfl (Yd.move rfl) ?_
              refine WL.y rfl (Yd.move rfl) ?_
              refine WL.y rfl (Yd.move rfl) ?_
              refine WL.y rfl (Yd.buildL (pl := [(0, 1), (1, 1), (2, 1), (3, 1)]) (zs := [.int .u32 0, .string ⟨#[]⟩, .int .i64 0, .int .i64 0]) (parts := [(0, .tmp 60), (1, .tmp 61), (2, .tmp 62), (3, .const (.int .i64 1))]) (vs := [(0, _), (1, _), (2, _), (3, _)]) (cells := [_, _, _, _]) (by kernel_rfl) (by kernel_rfl) rfl rfl) ?_
              refine WL.h rfl (Hd.buildA (e := 48) (sz := 4) (zs := [.int .u32 0, .string ⟨#[]⟩, .int .i64 0, .int .i64 0]) (by kernel_rfl) (by kernel_rfl) (by kernel_rfl) rfl rfl (by rfl) (by kernel_rfl) fun b64 => ⟨_, rfl, ?_⟩)
              refine WL.h rfl (Hd.appendRow (e := 48) (sz := 4) (bytes := 40) (zs := [.int .u32 0, .string ⟨#[]⟩, .int .i64 0, .int .i64 0]) (by kernel_rfl) (by kernel_rfl) rfl (by omega) rfl rfl (hL) (by repeat (first | exact Sp.here | exact Sp.sn | exact Sp.s0 | exact Fr.here | apply Sp.s2 | apply Sp.sx | apply Fr.fc | apply Fr.al | apply Fr.fa | apply Sp.sc | apply Sp.al | apply Sp.sa)) (by repeat (first | exact List.mem_cons_self | apply List.mem_cons_of_mem | apply List.mem_append_right)) (by rfl) (by repeat (first | exact fun _ h => absurd h List.not_mem_nil | refine List.forall_mem_cons.2 ⟨by first | rfl | assumption, ?_⟩)) (by simp only [maxLen]; omega) (by omega) fun v2 C2 h2 => ⟨_, rfl, ?_⟩)
              obtain ⟨zo, zc, rfl, _⟩ := h2.form
              refine WL.y rfl (Yd.notNil rfl) ?_
              refine WL.y rfl (Yd.fieldAddr (k := 1) (by kernel_rfl) rfl) ?_
              refine WL.s (Hd.store1s (by kernel_rfl) rfl rfl (by rfl) (by repeat (first | exact Fr.here | apply Fr.fc | apply Fr.al | apply Fr.fa)) (by rfl) (by first | (simp only [List.set_cons_zero, List.set_cons_succ, Nat.zero_add, Nat.add_zero, Nat.reduceAdd]; rfl) | rfl) ⟨rfl, ?_⟩)
              refine WL.nil ?_
              refine DN.then_normal ?_
              refine WC.seq ?_
              refine WC.region ?_
              refine WL.y rfl (Yd.assign rfl) ?_
              refine WL.nil ?_
              refine DN.then_normal ?_
              refine WC.ret ?_
              refine DN.block_ret ?_
              refine DN.then_ret ?_
              refine DN.then_ret ?_
              refine DN.block_ret ?_
              refine DN.then_ret ?_
              first | refine DN.fit (C := row p [.slice fo F.length fc, .slice zo (L.length + 1) zc] 60 :: (Cf ++ C2)) (by repeat (first | exact Sp.here | exact Sp.sn | exact Sp.s0 | exact Fr.here | apply Sp.s2 | apply Sp.sx | apply Fr.fc | apply Fr.al | apply Fr.fa | apply Sp.sc | apply Sp.al | apply Sp.sa)) ?_ | refine DN.fit (C := row p [.slice fo F.length fc, .slice lo L.length lc] 60 :: (Cf ++ Cl)) (by repeat (first | exact Sp.here | exact Sp.sn | exact Sp.s0 | exact Fr.here | apply Sp.s2 | apply Sp.sx | apply Fr.fc | apply Fr.al | apply Fr.fa | apply Sp.sc | apply Sp.al | apply Sp.sa)) ?_
              refine DN.ret1 Try.results14 rfl ?_
              first
                | (rw [hb, hK]
                   exact ⟨rfl, _, _, Cf, C2, rfl, hF, by rw [List.flatMap_append, List.length_append]; exact h2⟩)
                | (have hb : authB K L o nm n = false := by
                     first
                     | (subst hG; exact auth_lost inv hF0 fun j hj => hno j hj (by omega))
                     | (rw [Bool.eq_false_iff]
                        intro e
                        have hp := authB_parts e
                        first
                        | exact hp.1 hg17
                        | exact absurd hp.2.1 (by omega)
                        | (rcases hat with h | ⟨i, hi, h1, _, h2⟩
                           · exact absurd h.1 (by omega)
                           · rw [hp.2.2.1] at h2; cases h2))
                   rw [hb, (auth_no hb).2]
                   exact ⟨rfl, h0⟩)
            · refine WC.skip ?_
              refine DN.block_normal ?_
              refine DN.then_normal ?_
              refine WC.region ?_
              refine WL.y rfl (Yd.move rfl) ?_
              refine WL.y rfl (Yd.add rfl rfl (by omega) (by omega)) ?_
              refine WL.y rfl (Yd.assign rfl) ?_
              refine WL.nil ?_
              exact DN.againS (i + 1) (show (i + 1) ≤ G.length ∧ ∀ (j : Nat) (hj : j < G.length), j < (i + 1) → ¬ (G[j].name = nm ∧ n ≤ G[j].money - G[j].held) from ⟨by omega, fun j hj h => by
                rcases Nat.lt_or_ge j i with h5 | h5
                · exact hno j hj h5
                · obtain rfl : j = i := by omega
                  first | exact fun e => hg40 e.1 | exact fun e => h54 (by have := e.2; omega)⟩) (show G.length - (i + 1) < G.length - i by omega) (Sx.put rfl ((by repeat (first | exact Sx.refl | refine Sx.skip rfl ?_)))) (by repeat (first | exact Sp.here | exact Sp.sn | exact Sp.s0 | exact Fr.here | apply Sp.s2 | apply Sp.sx | apply Fr.fc | apply Fr.al | apply Fr.fa | apply Sp.sc | apply Sp.al | apply Sp.sa))
          · refine WQ.gn (dj := 40) rfl rfl rfl rfl ?_
            refine WQ.gn (dj := 40) rfl rfl rfl rfl ?_
            refine WQ.gn (dj := 40) rfl rfl rfl rfl ?_
            refine WQ.gn (dj := 40) rfl rfl rfl rfl ?_
            refine WQ.gn (dj := 40) rfl rfl rfl rfl ?_
            refine WQ.gn (dj := 40) rfl rfl rfl rfl ?_
            refine WQ.gn (dj := 40) rfl rfl rfl rfl ?_
            refine WQ.gn (dj := 40) rfl rfl rfl rfl ?_
            refine WQ.gn (dj := 40) rfl rfl rfl rfl ?_
            refine WQ.gn (dj := 40) rfl rfl rfl rfl ?_
            refine WQ.gn (dj := 40) rfl rfl rfl rfl ?_
            refine WQ.gn (dj := 40) rfl rfl rfl rfl ?_
            refine WQ.gn (dj := 40) rfl rfl rfl rfl ?_
            refine WQ.y rfl (Yd.pickF rfl rfl) ?_
            refine WQ.nil ?_
            refine WA.done (by kernel_rfl) ?_
            refine DN.then_normal ?_
            refine WC.no rfl ?_
            refine WC.skip ?_
            refine DN.block_normal ?_
            refine DN.then_normal ?_
            refine WC.region ?_
            refine WL.y rfl (Yd.move rfl) ?_
            refine WL.y rfl (Yd.add rfl rfl (by omega) (by omega)) ?_
            refine WL.y rfl (Yd.assign rfl) ?_
            refine WL.nil ?_
            exact DN.againS (i + 1) (show (i + 1) ≤ G.length ∧ ∀ (j : Nat) (hj : j < G.length), j < (i + 1) → ¬ (G[j].name = nm ∧ n ≤ G[j].money - G[j].held) from ⟨by omega, fun j hj h => by
              rcases Nat.lt_or_ge j i with h5 | h5
              · exact hno j hj h5
              · obtain rfl : j = i := by omega
                first | exact fun e => hg40 e.1 | exact fun e => h54 (by have := e.2; omega)⟩) (show G.length - (i + 1) < G.length - i by omega) (Sx.put rfl ((by repeat (first | exact Sx.refl | refine Sx.skip rfl ?_)))) (by repeat (first | exact Sp.here | exact Sp.sn | exact Sp.s0 | exact Fr.here | apply Sp.s2 | apply Sp.sx | apply Fr.fc | apply Fr.al | apply Fr.fa | apply Sp.sc | apply Sp.al | apply Sp.sa))
        · refine WC.exit ?_
          refine DN.then_exit ?_
          refine DN.then_exit ?_
          refine DN.block_exit ?_
          refine DN.then_normal ?_
          refine WC.seq ?_
          refine WC.region ?_
          refine WL.y rfl (Yd.assign rfl) ?_
          refine WL.nil ?_
          refine DN.then_normal ?_
          refine WC.ret ?_
          first | refine DN.fit (C := row p [.slice fo F.length fc, .slice zo (L.length + 1) zc] 60 :: (Cf ++ C2)) (by repeat (first | exact Sp.here | exact Sp.sn | exact Sp.s0 | exact Fr.here | apply Sp.s2 | apply Sp.sx | apply Fr.fc | apply Fr.al | apply Fr.fa | apply Sp.sc | apply Sp.al | apply Sp.sa)) ?_ | refine DN.fit (C := row p [.slice fo F.length fc, .slice lo L.length lc] 60 :: (Cf ++ Cl)) (by repeat (first | exact Sp.here | exact Sp.sn | exact Sp.s0 | exact Fr.here | apply Sp.s2 | apply Sp.sx | apply Fr.fc | apply Fr.al | apply Fr.fa | apply Sp.sc | apply Sp.al | apply Sp.sa)) ?_
          refine DN.ret1 Try.results14 rfl ?_
          first
            | (rw [hb, hK]
               exact ⟨rfl, _, _, Cf, C2, rfl, hF, by rw [List.flatMap_append, List.length_append]; exact h2⟩)
            | (have hb : authB K L o nm n = false := by
                 first
                 | (subst hG; exact auth_lost inv hF0 fun j hj => hno j hj (by omega))
                 | (rw [Bool.eq_false_iff]
                    intro e
                    have hp := authB_parts e
                    first
                    | exact hp.1 hg17
                    | exact absurd hp.2.1 (by omega)
                    | (rcases hat with h | ⟨i, hi, h1, _, h2⟩
                       · exact absurd h.1 (by omega)
                       · rw [hp.2.2.1] at h2; cases h2))
               rw [hb, (auth_no hb).2]
               exact ⟨rfl, h0⟩)

/-- (*drayage/drayageref10.Purse).Turn -/
theorem rturn_tells (p : Nat) (gs K F : List Au) (L : List Py) (C : List Ck) (h : RpAt 60 46 48 p F L C) (inv : PInv gs K L) (hl : L.length ≤ 100000000) (o : BitVec 32) (s t : Int) : Tells Try.prog 15 [.pointer (some ⟨p, 0, none⟩), .int .u32 o.toNat, .int .i64 s, .int .i64 t] C fun r H' => r = .int .i64 (vdP (turnB L o s)) ∧ RpAt 60 46 48 p F (turnLs L o s t) H' := by
  refine Tells.enter Try.func15 rfl Try.ntmps15 rfl ?_
  intro w0 R
  have hat := atK_spec (key := Py.o) L o
  have h0 := h
  obtain ⟨vf, vl, Cf, Cl, rfl, hF, hL⟩ := h
  obtain ⟨fo, fc, rfl, _⟩ := hF.form
  obtain ⟨lo, lc, rfl, _⟩ := hL.form
  refine WC.seq ?_
  refine WC.region ?_
  refine WL.y rfl (Yd.assign rfl) ?_
  refine WL.nil ?_
  refine DN.then_normal ?_
  refine WC.seq ?_
  refine WC.region ?_
  refine WL.y rfl (Yd.move rfl) ?_
  refine WL.y rfl (Yd.move rfl) ?_
  refine WL.rf rfl (Ent.func Try.call29 rfl) (rat_reads p F L _ h0 hl o) (by repeat (first | exact Sp.here | exact Sp.sn | exact Sp.s0 | exact Fr.here | apply Sp.s2 | apply Sp.sx | apply Fr.fc | apply Fr.al | apply Fr.fa | apply Sp.sc | apply Sp.al | apply Sp.sa)) ?_
  refine WL.y rfl (Yd.assign rfl) ?_
  refine WL.nil ?_
  refine DN.then_normal ?_
  refine WC.seq ?_
  refine WC.seq ?_
  refine WC.region ?_
  refine WL.y rfl (Yd.move rfl) ?_
  refine WL.y rfl (Yd.lss rfl rfl) ?_
  refine WL.y rfl (Yd.move rfl) ?_
  refine WL.partP (t := 15) rfl (fun hg15 => ?_) (fun hg15 => ?_)
  · refine WL.gn (dj := 15) rfl rfl rfl rfl ?_
    refine WL.gn (dj := 15) rfl rfl rfl rfl ?_
    refine WL.gn (dj := 15) rfl rfl rfl rfl ?_
    refine WL.gn (dj := 15) rfl rfl rfl rfl ?_
    refine WL.gn (dj := 15) rfl rfl rfl rfl ?_
    refine WL.gn (dj := 15) rfl rfl rfl rfl ?_
    refine WL.gn (dj := 15) rfl rfl rfl rfl ?_
    refine WL.gn (dj := 15) rfl rfl rfl rfl ?_
    refine WL.gn (dj := 15) rfl rfl rfl rfl ?_
    refine WL.gn (dj := 15) rfl rfl rfl rfl ?_
    refine WL.y rfl (Yd.pickT rfl rfl) ?_
    refine WL.nil ?_
    refine DN.then_normal ?_
    refine WC.yes rfl ?_
    refine WC.seq ?_
    refine WC.region ?_
    refine WL.y rfl (Yd.assign rfl) ?_
    refine WL.nil ?_
    refine DN.then_normal ?_
    refine WC.ret ?_
    refine DN.then_ret ?_
    first | refine DN.fit (C := row p [.slice fo F.length fc, .slice lo L.length lc] 60 :: (Cf ++ [row bo ((L.flatMap cellsP).set ((q : Int).toNat * 4 + 3) (.int .i64 t) ++ extra) 48])) (by repeat (first | exact Sp.here | exact Sp.sn | exact Sp.s0 | exact Fr.here | apply Sp.s2 | apply Sp.sx | apply Fr.fc | apply Fr.al | apply Fr.fa | apply Sp.sc | apply Sp.al | apply Sp.sa)) ?_ | skip
    refine DN.ret1 Try.results15 rfl ?_
    first
      | (rw [hb, hTL]
         refine ⟨rfl, _, _, Cf, _, rfl, hF, ?_⟩
         rw [← flat_set hq t, List.length_set]
         exact ho2)
      | (have hb : turnB L o s = false := by
           unfold turnB
           first
           | (rcases hat with h | ⟨i, hi, h, _⟩
              · rw [h.2]
              · exfalso; omega)
           | (rw [hfq]; exact decide_eq_false h26)
         rw [hb, (turn_no (K := K) t 0 0 hb).2]
         exact ⟨rfl, h0⟩)
  · obtain ⟨q, hq, haq, hoq, hfq⟩ : ∃ (i : Nat) (hi : i < L.length), atK Py.o L o = i ∧ o = L[i].o ∧ findK Py.o L o = some L[i] := by
      rcases hat with h | h
      · exact absurd h.1 (by omega)
      · exact h
    rw [haq]
    obtain ⟨ub, uf, us, uT, ufr, uex, elo, _, hum, hus⟩ := hL.rs.lies (by omega)
    refine WL.gy (dj := 15) rfl rfl rfl (Yd.move rfl) ?_
    refine WL.gy (dj := 15) rfl rfl rfl (Yd.notNil rfl) ?_
    refine WL.gy (dj := 15) rfl rfl rfl (Yd.fieldAddr (k := 1) (by kernel_rfl) rfl) ?_
    refine WL.gh (dj := 15) rfl rfl rfl (Hd.load1 (by kernel_rfl) rfl (by repeat (first | exact List.mem_cons_self | apply List.mem_cons_of_mem | apply List.mem_append_right)) (by rfl) ⟨_, rfl, ?_⟩)
    refine WL.gy (dj := 15) rfl rfl rfl (Yd.move rfl) ?_
    refine WL.gy (dj := 15) rfl rfl rfl (Yd.indexAddr (e := 48) (s := 4) (b := ub) (o := uf) (n := L.length) (c := lc) (by kernel_rfl) (by kernel_rfl) (congrArg (fun q => some (Value.slice q L.length lc)) elo) rfl (by omega) (by omega)) ?_
    refine WL.gy (dj := 15) rfl rfl rfl (Yd.fieldAddr (k := 3) (by kernel_rfl) rfl) ?_
    refine WL.gh (dj := 15) rfl rfl rfl (Hd.load1 (v := .int .i64 L[q].st) (b := ub) (o := uf + (q : Int).toNat * 4 + 3) (cs := us) (by kernel_rfl) rfl (Gr.get (by repeat (first | exact Gr.refl | exact Gr.left Gr.refl | exact Gr.left (Gr.left Gr.refl) | exact Gr.left (Gr.app Gr.refl) | exact Gr.left (Gr.left (Gr.left Gr.refl)) | exact Gr.nil | exact Gr.app (Gr.left Gr.refl) | refine Gr.cons ?_ | refine Gr.app ?_ | refine Gr.both ?_ ?_ | refine Gr.put (by repeat (first | exact List.mem_cons_self | apply List.mem_cons_of_mem | apply List.mem_append_right)) ?_)) hum) (cell_atP (L := L) cellsP_len hus (by omega) (by omega)) ⟨_, rfl, ?_⟩)
    refine WL.gy (dj := 15) rfl rfl rfl (Yd.move rfl) ?_
    refine WL.gy (dj := 15) rfl rfl rfl (Yd.neq rfl rfl) ?_
    refine WL.y rfl (Yd.pickF rfl rfl) ?_
    refine WL.nil ?_
    refine DN.then_normal ?_
    refine WC.ite rfl (fun h26 => ?_) (fun h26 => ?_)
    · refine WC.seq ?_
      refine WC.region ?_
      refine WL.y rfl (Yd.assign rfl) ?_
      refine WL.nil ?_
      refine DN.then_normal ?_
      refine WC.ret ?_
      refine DN.then_ret ?_
      first | refine DN.fit (C := row p [.slice fo F.length fc, .slice lo L.length lc] 60 :: (Cf ++ [row bo ((L.flatMap cellsP).set ((q : Int).toNat * 4 + 3) (.int .i64 t) ++ extra) 48])) (by repeat (first | exact Sp.here | exact Sp.sn | exact Sp.s0 | exact Fr.here | apply Sp.s2 | apply Sp.sx | apply Fr.fc | apply Fr.al | apply Fr.fa | apply Sp.sc | apply Sp.al | apply Sp.sa)) ?_ | skip
      refine DN.ret1 Try.results15 rfl ?_
      first
        | (rw [hb, hTL]
           refine ⟨rfl, _, _, Cf, _, rfl, hF, ?_⟩
           rw [← flat_set hq t, List.length_set]
           exact ho2)
        | (have hb : turnB L o s = false := by
             unfold turnB
             first
             | (rcases hat with h | ⟨i, hi, h, _⟩
                · rw [h.2]
                · exfalso; omega)
             | (rw [hfq]; exact decide_eq_false h26)
           rw [hb, (turn_no (K := K) t 0 0 hb).2]
           exact ⟨rfl, h0⟩)
    · have hst : L[q].st = s := Classical.byContradiction h26
      have hb : turnB L o s = true := by unfold turnB; rw [hfq]; simpa using hst
      have hTL : turnLs L o s t = L.set q ⟨L[q].o, L[q].name, L[q].n, t⟩ := by
        unfold turnLs
        rw [hfq]
        simp only [if_pos hst]
        exact put_set inv.keys hq t
      have hxl := hL.len
      obtain ⟨bo, extra, eso, hCl, hset, ho2⟩ := hL.set1 (by omega) ((q : Int).toNat * 4 + 3) (by omega) (.int .i64 t)
      subst hCl
      refine WC.skip ?_
      refine DN.then_normal ?_
      refine WC.seq ?_
      refine WC.region ?_
      refine WL.y rfl (Yd.move rfl) ?_
      refine WL.y rfl (Yd.notNil rfl) ?_
      refine WL.y rfl (Yd.fieldAddr (k := 1) (by kernel_rfl) rfl) ?_
      refine WL.h rfl (Hd.load1 (by kernel_rfl) rfl (by repeat (first | exact List.mem_cons_self | apply List.mem_cons_of_mem | apply List.mem_append_right)) (by rfl) ⟨_, rfl, ?_⟩)
      refine WL.y rfl (Yd.move rfl) ?_
      refine WL.y rfl (Yd.move rfl) ?_
      refine WL.y rfl (Yd.indexAddr (e := 48) (s := 4) (b := bo) (o := 0) (n := L.length) (c := lc) (by kernel_rfl) (by kernel_rfl) (congrArg (fun z => some (Value.slice z L.length lc)) eso) rfl (by omega) (by omega)) ?_
      refine WL.y rfl (Yd.fieldAddr (k := 3) (by kernel_rfl) rfl) ?_
      refine WL.s (Hd.store1q (b := bo) (cs := L.flatMap cellsP ++ extra) (T' := 48) (by kernel_rfl) rfl rfl rfl (by repeat (first | exact Fr.here | apply Fr.fc | apply Fr.al | apply Fr.fa)) (by rw [List.length_append]; omega) ((congrArg (fun z => (L.flatMap cellsP ++ extra).set z (Value.int .i64 t)) (Nat.add_assoc 0 _ 3)).trans hset) ⟨rfl, ?_⟩)
      refine WL.nil ?_
      refine DN.then_normal ?_
      refine WC.seq ?_
      refine WC.region ?_
      refine WL.y rfl (Yd.assign rfl) ?_
      refine WL.nil ?_
      refine DN.then_normal ?_
      refine WC.ret ?_
      first | refine DN.fit (C := row p [.slice fo F.length fc, .slice lo L.length lc] 60 :: (Cf ++ [row bo ((L.flatMap cellsP).set ((q : Int).toNat * 4 + 3) (.int .i64 t) ++ extra) 48])) (by repeat (first | exact Sp.here | exact Sp.sn | exact Sp.s0 | exact Fr.here | apply Sp.s2 | apply Sp.sx | apply Fr.fc | apply Fr.al | apply Fr.fa | apply Sp.sc | apply Sp.al | apply Sp.sa)) ?_ | skip
      refine DN.ret1 Try.results15 rfl ?_
      first
        | (rw [hb, hTL]
           refine ⟨rfl, _, _, Cf, _, rfl, hF, ?_⟩
           rw [← flat_set hq t, List.length_set]
           exact ho2)
        | (have hb : turnB L o s = false := by
             unfold turnB
             first
             | (rcases hat with h | ⟨i, hi, h, _⟩
                · rw [h.2]
                · exfalso; omega)
             | (rw [hfq]; exact decide_eq_false h26)
           rw [hb, (turn_no (K := K) t 0 0 hb).2]
           exact ⟨rfl, h0⟩)

end Go.Proofs.Ytllfnigodikbaaa
