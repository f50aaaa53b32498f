/-
  The walks of the chapter's own dock.
-/
import Derived.Test.YtmdbmcicbambjaaDock10
import Derived.Test.YtmdbmcicbambjaaDockRef
set_option linter.unusedVariables false
set_option linter.unusedSimpArgs false
set_option maxHeartbeats 4000000
namespace Go.Proofs.Ytmdbmcicbambjaa
open Go.SL


/-- (*drayage/drayageref11.Dock).at -/
theorem rat_reads (p : Nat) (fs : List Int) (L : List Bk) (C : List Ck) (h : RfAt 58 3 47 p fs L C) (hl : L.length ≤ 100000000) (o : BitVec 32) : Reads Try.prog 27 [.pointer (some ⟨p, 0, none⟩), .int .u32 o.toNat] C (.int .i64 (atOf L o)) := by
  refine Tells.enter Try.func27 rfl Try.ntmps27 rfl ?_
  intro w0 R
  obtain ⟨vf, vl, Cf, Cl, rfl, hf, hL⟩ := h
  obtain ⟨fo, fc, rfl, hfc⟩ := hf.form
  obtain ⟨lo, lc, rfl, hlc⟩ := hL.form
  refine WC.seq ?_
  refine WC.region ?_
  refine WL.y rfl (Yd.assign rfl) ?_
  refine WL.nil ?_
  refine DN.then_normal ?_
  refine WC.seq ?_
  refine WC.seq ?_
  refine WC.region ?_
  refine WL.y rfl (Yd.assign rfl) ?_
  refine WL.nil ?_
  refine DN.then_normal ?_
  refine WC.block ?_
  refine WC.loopS (fun z : Nat => z ≤ L.length ∧ ∀ (j : Nat) (hj : j < L.length), j < z → ¬ o = L[j].o) (fun z : Nat => [(5, .int .i64 (z : Int))]) (fun z : Nat => row p [.slice fo fs.length fc, .slice lo L.length lc] 58 :: (Cf ++ Cl)) (fun z : Nat => L.length - z) (0) (show 0 ≤ L.length ∧ ∀ (j : Nat) (hj : j < L.length), j < 0 → ¬ o = L[j].o from ⟨Nat.zero_le _, fun j hj h => by omega⟩) (Sx.put rfl ((by repeat (first | exact Sx.refl | refine Sx.skip rfl ?_)))) (by repeat (first | exact Sp.here | exact Sp.sn | exact Sp.s0 | exact Fr.here | apply Sp.s2 | apply Sp.sx | apply Fr.fc | apply Fr.al | apply Fr.fa | apply Sp.sc | apply Sp.al | apply Sp.sa)) ?_
  rintro i hI
  replace hI : i ≤ L.length ∧ ∀ (j : Nat) (hj : j < L.length), j < i → ¬ o = L[j].o := hI
  obtain ⟨hi, hno⟩ := hI
  change WC _ _ _ _ _ _ ([(5, .int .i64 (i : Int))] ++ _) (row p [.slice fo fs.length fc, .slice lo L.length lc] 58 :: (Cf ++ Cl))
  refine WC.seq ?_
  refine WC.seq ?_
  refine WC.region ?_
  refine WL.y rfl (Yd.move rfl) ?_
  refine WL.y rfl (Yd.move rfl) ?_
  refine WL.y rfl (Yd.notNil rfl) ?_
  refine WL.y rfl (Yd.fieldAddr (k := 1) (by kernel_rfl) rfl) ?_
  refine WL.h rfl (Hd.load1 (by kernel_rfl) rfl (by repeat (first | exact List.mem_cons_self | apply List.mem_cons_of_mem | apply List.mem_append_right)) (by rfl) ⟨_, rfl, ?_⟩)
  refine WL.y rfl (Yd.len (e := 47) (by kernel_rfl) rfl) ?_
  refine WL.y rfl (Yd.lss rfl rfl) ?_
  refine WL.nil ?_
  refine DN.then_normal ?_
  refine WC.ite rfl (fun h12 => ?_) (fun h12 => ?_)
  · have hlt : i < L.length := by omega
    obtain ⟨lb, lf, lcs, lT, lfr, lex, rfl, _, hlm, hlcs⟩ := hL.rs.lies (by omega)
    refine WC.skip ?_
    refine DN.then_normal ?_
    refine WC.seq ?_
    refine WC.block ?_
    refine WC.seq ?_
    refine WC.region ?_
    refine WL.y rfl (Yd.move rfl) ?_
    refine WL.y rfl (Yd.notNil rfl) ?_
    refine WL.y rfl (Yd.fieldAddr (k := 1) (by kernel_rfl) rfl) ?_
    refine WL.h rfl (Hd.load1 (by kernel_rfl) rfl (by repeat (first | exact List.mem_cons_self | apply List.mem_cons_of_mem | apply List.mem_append_right)) (by rfl) ⟨_, rfl, ?_⟩)
    refine WL.y rfl (Yd.move rfl) ?_
    refine WL.y rfl (Yd.indexAddr (e := 47) (s := 3) (by kernel_rfl) (by kernel_rfl) rfl rfl (by omega) (by omega)) ?_
    refine WL.y rfl (Yd.fieldAddr (k := 0) (by kernel_rfl) rfl) ?_
    refine WL.h rfl (Hd.load1 (v := .int .u32 L[i].o.toNat) (b := lb) (o := lf + (i : Int).toNat * 3 + 0) (cs := lcs) (by kernel_rfl) rfl (Gr.get (by repeat (first | exact Gr.refl | exact Gr.left Gr.refl | exact Gr.nil | exact Gr.app (Gr.left Gr.refl) | refine Gr.cons ?_ | refine Gr.app ?_ | refine Gr.both ?_ ?_ | refine Gr.put (by repeat (first | exact List.mem_cons_self | apply List.mem_cons_of_mem | apply List.mem_append_right)) ?_)) hlm) (bk_rs hlcs (by omega) (by omega)) ⟨_, rfl, ?_⟩)
    refine WL.y rfl (Yd.move rfl) ?_
    refine WL.y rfl (Yd.eql32 _ _ rfl rfl rfl rfl) ?_
    refine WL.nil ?_
    refine DN.then_normal ?_
    refine WC.ite rfl (fun h24 => ?_) (fun h24 => ?_)
    · refine WC.seq ?_
      refine WC.region ?_
      refine WL.y rfl (Yd.move rfl) ?_
      refine WL.y rfl (Yd.assign rfl) ?_
      refine WL.nil ?_
      refine DN.then_normal ?_
      refine WC.ret ?_
      refine DN.block_ret ?_
      refine DN.then_ret ?_
      refine DN.then_ret ?_
      refine DN.block_ret ?_
      refine DN.then_ret ?_
      refine DN.ret1 Try.results27 rfl ?_
      exact ⟨by rw [at_yes L o i hlt h24.symm hno], rfl⟩
    · refine WC.skip ?_
      refine DN.block_normal ?_
      refine DN.then_normal ?_
      refine WC.region ?_
      refine WL.y rfl (Yd.move rfl) ?_
      refine WL.y rfl (Yd.add rfl rfl (by omega) (by omega)) ?_
      refine WL.y rfl (Yd.assign rfl) ?_
      refine WL.nil ?_
      exact DN.againS (i + 1) (show (i + 1) ≤ L.length ∧ ∀ (j : Nat) (hj : j < L.length), j < (i + 1) → ¬ o = L[j].o from ⟨by omega, fun j hj h => by
        rcases Nat.lt_or_ge j i with h5 | h5
        · exact hno j hj h5
        · obtain rfl : j = i := by omega
          exact fun e => h24 e.symm⟩) (show L.length - (i + 1) < L.length - i by omega) (Sx.put rfl ((by repeat (first | exact Sx.refl | refine Sx.skip rfl ?_)))) (by repeat (first | exact Sp.here | exact Sp.sn | exact Sp.s0 | exact Fr.here | apply Sp.s2 | apply Sp.sx | apply Fr.fc | apply Fr.al | apply Fr.fa | apply Sp.sc | apply Sp.al | apply Sp.sa))
  · refine WC.exit ?_
    refine DN.then_exit ?_
    refine DN.then_exit ?_
    refine DN.block_exit ?_
    refine DN.then_normal ?_
    refine WC.seq ?_
    refine WC.region ?_
    refine WL.y rfl (Yd.assign rfl) ?_
    refine WL.nil ?_
    refine DN.then_normal ?_
    refine WC.ret ?_
    refine DN.ret1 Try.results27 rfl ?_
    exact ⟨by rw [at_no L o fun j hj => hno j hj (by omega)], rfl⟩

/-- (*drayage/drayageref11.Dock).Room -/
theorem rroom_reads (p : Nat) (fs rs : List Int) (L : List Bk) (C : List Ck) (h : RfAt 58 3 47 p fs L C) (inv : DInv fs rs L) (day : Int) : Reads Try.prog 22 [.pointer (some ⟨p, 0, none⟩), .int .i64 day] C (.int .i64 (roomOf rs day)) := by
  refine Tells.enter Try.func22 rfl Try.ntmps22 rfl ?_
  intro w0 R
  obtain ⟨vf, vl, Cf, Cl, rfl, hf, hL⟩ := h
  obtain ⟨fo, fc, rfl, hfc⟩ := hf.form
  obtain ⟨lo, lc, rfl, hlc⟩ := hL.form
  have hmany := inv.many
  have hlen := inv.len
  have hfew := inv.few
  refine WC.seq ?_
  refine WC.region ?_
  refine WL.y rfl (Yd.assign rfl) ?_
  refine WL.nil ?_
  refine DN.then_normal ?_
  refine WC.seq ?_
  refine WC.seq ?_
  refine WC.region ?_
  refine WL.y rfl (Yd.move rfl) ?_
  refine WL.y rfl (Yd.lss rfl rfl) ?_
  refine WL.y rfl (Yd.move rfl) ?_
  refine WL.partP (t := 9) rfl (fun hg9 => ?_) (fun hg9 => ?_)
  · refine WL.gn (dj := 9) rfl rfl rfl rfl ?_
    refine WL.gn (dj := 9) rfl rfl rfl rfl ?_
    refine WL.gn (dj := 9) rfl rfl rfl rfl ?_
    refine WL.gn (dj := 9) rfl rfl rfl rfl ?_
    refine WL.gn (dj := 9) rfl rfl rfl rfl ?_
    refine WL.gn (dj := 9) rfl rfl rfl rfl ?_
    refine WL.gn (dj := 9) rfl rfl rfl rfl ?_
    refine WL.y rfl (Yd.pickT rfl rfl) ?_
    refine WL.nil ?_
    refine DN.then_normal ?_
    refine WC.yes rfl ?_
    refine WC.seq ?_
    refine WC.region ?_
    refine WL.y rfl (Yd.assign rfl) ?_
    refine WL.nil ?_
    refine DN.then_normal ?_
    refine WC.ret ?_
    refine DN.then_ret ?_
    refine DN.ret1 Try.results22 rfl ?_
    first
      | exact ⟨by rw [roomOf, if_neg (by omega)], rfl⟩
      | exact ⟨by rw [roomOf, if_pos (by omega), Int.toNat_natCast]; have := (inv.sums d).2; congr 1; omega, rfl⟩
  · refine WL.gy (dj := 9) rfl rfl rfl (Yd.move rfl) ?_
    refine WL.gy (dj := 9) rfl rfl rfl (Yd.move rfl) ?_
    refine WL.gy (dj := 9) rfl rfl rfl (Yd.notNil rfl) ?_
    refine WL.gy (dj := 9) rfl rfl rfl (Yd.fieldAddr (k := 0) (by kernel_rfl) rfl) ?_
    refine WL.gh (dj := 9) rfl rfl rfl (Hd.load1 (by kernel_rfl) rfl (by repeat (first | exact List.mem_cons_self | apply List.mem_cons_of_mem | apply List.mem_append_right)) (by rfl) ⟨_, rfl, ?_⟩)
    refine WL.gy (dj := 9) rfl rfl rfl (Yd.len (e := 3) (by kernel_rfl) rfl) ?_
    refine WL.gy (dj := 9) rfl rfl rfl (Yd.geq rfl rfl) ?_
    refine WL.y rfl (Yd.pickF rfl rfl) ?_
    refine WL.nil ?_
    refine DN.then_normal ?_
    refine WC.ite rfl (fun h17 => ?_) (fun h17 => ?_)
    · refine WC.seq ?_
      refine WC.region ?_
      refine WL.y rfl (Yd.assign rfl) ?_
      refine WL.nil ?_
      refine DN.then_normal ?_
      refine WC.ret ?_
      refine DN.then_ret ?_
      refine DN.ret1 Try.results22 rfl ?_
      first
        | exact ⟨by rw [roomOf, if_neg (by omega)], rfl⟩
        | exact ⟨by rw [roomOf, if_pos (by omega), Int.toNat_natCast]; have := (inv.sums d).2; congr 1; omega, rfl⟩
    · obtain ⟨d, rfl⟩ : ∃ d : Nat, day = (d : Int) := ⟨day.toNat, by omega⟩
      have hd : d < fs.length := by omega
      refine WC.skip ?_
      refine DN.then_normal ?_
      refine WC.seq ?_
      refine WC.region ?_
      refine WL.y rfl (Yd.move rfl) ?_
      refine WL.y rfl (Yd.notNil rfl) ?_
      refine WL.y rfl (Yd.fieldAddr (k := 0) (by kernel_rfl) rfl) ?_
      refine WL.h rfl (Hd.load1 (by kernel_rfl) rfl (by repeat (first | exact List.mem_cons_self | apply List.mem_cons_of_mem | apply List.mem_append_right)) (by rfl) ⟨_, rfl, ?_⟩)
      refine WL.y rfl (Yd.move rfl) ?_
      refine WL.elem (e := 3) (by kernel_rfl) (by kernel_rfl) (by kernel_rfl) rfl rfl (rfl) (hf.rs.mono (by repeat (first | exact Gr.refl | exact Gr.left Gr.refl | exact Gr.nil | exact Gr.app (Gr.left Gr.refl) | refine Gr.cons ?_ | refine Gr.app ?_ | refine Gr.both ?_ ?_ | refine Gr.put (by repeat (first | exact List.mem_cons_self | apply List.mem_cons_of_mem | apply List.mem_append_right)) ?_))) (ic_getD hd) (hd) rfl rfl ?_
      intro _
      refine WL.y rfl (Yd.assign rfl) ?_
      refine WL.nil ?_
      refine DN.then_normal ?_
      refine WC.seq ?_
      refine WC.seq ?_
      refine WC.region ?_
      refine WL.y rfl (Yd.assign rfl) ?_
      refine WL.nil ?_
      refine DN.then_normal ?_
      refine WC.block ?_
      refine WC.loopS (fun z : Nat × Int => z.1 ≤ L.length ∧ z.2 = fs.getD d 0 - sumDay (L.take z.1) d) (fun z : Nat × Int => [(6, .int .i64 (z.1 : Int)), (5, .int .i64 z.2)]) (fun z : Nat × Int => row p [.slice fo fs.length fc, .slice lo L.length lc] 58 :: (Cf ++ Cl)) (fun z : Nat × Int => L.length - z.1) (⟨0, fs.getD d 0⟩) (show 0 ≤ L.length ∧ (fs.getD d 0) = fs.getD d 0 - sumDay (L.take 0) d from ⟨Nat.zero_le _, by simp [sumDay]⟩) (Sx.put rfl (Sx.put rfl ((by repeat (first | exact Sx.refl | refine Sx.skip rfl ?_))))) (by repeat (first | exact Sp.here | exact Sp.sn | exact Sp.s0 | exact Fr.here | apply Sp.s2 | apply Sp.sx | apply Fr.fc | apply Fr.al | apply Fr.fa | apply Sp.sc | apply Sp.al | apply Sp.sa)) ?_
      rintro ⟨i, z⟩ hI
      replace hI : i ≤ L.length ∧ z = fs.getD d 0 - sumDay (L.take i) d := hI
      obtain ⟨hi, hz⟩ := hI
      change WC _ _ _ _ _ _ ([(6, .int .i64 (i : Int)), (5, .int .i64 z)] ++ _) (row p [.slice fo fs.length fc, .slice lo L.length lc] 58 :: (Cf ++ Cl))
      refine WC.seq ?_
      refine WC.seq ?_
      refine WC.region ?_
      refine WL.y rfl (Yd.move rfl) ?_
      refine WL.y rfl (Yd.move rfl) ?_
      refine WL.y rfl (Yd.notNil rfl) ?_
      refine WL.y rfl (Yd.fieldAddr (k := 1) (by kernel_rfl) rfl) ?_
      refine WL.h rfl (Hd.load1 (by kernel_rfl) rfl (by repeat (first | exact List.mem_cons_self | apply List.mem_cons_of_mem | apply List.mem_append_right)) (by rfl) ⟨_, rfl, ?_⟩)
      refine WL.y rfl (Yd.len (e := 47) (by kernel_rfl) rfl) ?_
      refine WL.y rfl (Yd.lss rfl rfl) ?_
      refine WL.nil ?_
      refine DN.then_normal ?_
      refine WC.ite rfl (fun h31 => ?_) (fun h31 => ?_)
      · have hlt : i < L.length := by omega
        obtain ⟨hm1, hm2, hm3, hm4, hm5, hm6, hm7, hm8, hm9⟩ := sumDay_mid inv d hd i hlt
        obtain ⟨lb, lf, lcs, lT, lfr, lex, rfl, _, hlm, hlcs⟩ := hL.rs.lies (by omega)
        refine WC.skip ?_
        refine DN.then_normal ?_
        refine WC.seq ?_
        refine WC.block ?_
        refine WC.seq ?_
        refine WC.region ?_
        refine WL.y rfl (Yd.move rfl) ?_
        refine WL.y rfl (Yd.notNil rfl) ?_
        refine WL.y rfl (Yd.fieldAddr (k := 1) (by kernel_rfl) rfl) ?_
        refine WL.h rfl (Hd.load1 (by kernel_rfl) rfl (by repeat (first | exact List.mem_cons_self | apply List.mem_cons_of_mem | apply List.mem_append_right)) (by rfl) ⟨_, rfl, ?_⟩)
        refine WL.y rfl (Yd.move rfl) ?_
        refine WL.y rfl (Yd.indexAddr (e := 47) (s := 3) (by kernel_rfl) (by kernel_rfl) rfl rfl (by omega) (by omega)) ?_
        refine WL.y rfl (Yd.fieldAddr (k := 1) (by kernel_rfl) rfl) ?_
        refine WL.h rfl (Hd.load1 (v := .int .i64 L[i].day) (b := lb) (o := lf + (i : Int).toNat * 3 + 1) (cs := lcs) (by kernel_rfl) rfl (Gr.get (by repeat (first | exact Gr.refl | exact Gr.left Gr.refl | exact Gr.nil | exact Gr.app (Gr.left Gr.refl) | refine Gr.cons ?_ | refine Gr.app ?_ | refine Gr.both ?_ ?_ | refine Gr.put (by repeat (first | exact List.mem_cons_self | apply List.mem_cons_of_mem | apply List.mem_append_right)) ?_)) hlm) (bk_rs hlcs (by omega) (by omega)) ⟨_, rfl, ?_⟩)
        refine WL.y rfl (Yd.move rfl) ?_
        refine WL.y rfl (Yd.eql rfl rfl) ?_
        refine WL.nil ?_
        refine DN.then_normal ?_
        refine WC.ite rfl (fun h43 => ?_) (fun h43 => ?_)
        · rw [if_pos (by omega)] at hm9
          refine WC.region ?_
          refine WL.y rfl (Yd.move rfl) ?_
          refine WL.y rfl (Yd.move rfl) ?_
          refine WL.y rfl (Yd.notNil rfl) ?_
          refine WL.y rfl (Yd.fieldAddr (k := 1) (by kernel_rfl) rfl) ?_
          refine WL.h rfl (Hd.load1 (by kernel_rfl) rfl (by repeat (first | exact List.mem_cons_self | apply List.mem_cons_of_mem | apply List.mem_append_right)) (by rfl) ⟨_, rfl, ?_⟩)
          refine WL.y rfl (Yd.move rfl) ?_
          refine WL.y rfl (Yd.indexAddr (e := 47) (s := 3) (by kernel_rfl) (by kernel_rfl) rfl rfl (by omega) (by omega)) ?_
          refine WL.y rfl (Yd.fieldAddr (k := 2) (by kernel_rfl) rfl) ?_
          refine WL.h rfl (Hd.load1 (v := .int .i64 L[i].n) (b := lb) (o := lf + (i : Int).toNat * 3 + 2) (cs := lcs) (by kernel_rfl) rfl (Gr.get (by repeat (first | exact Gr.refl | exact Gr.left Gr.refl | exact Gr.nil | exact Gr.app (Gr.left Gr.refl) | refine Gr.cons ?_ | refine Gr.app ?_ | refine Gr.both ?_ ?_ | refine Gr.put (by repeat (first | exact List.mem_cons_self | apply List.mem_cons_of_mem | apply List.mem_append_right)) ?_)) hlm) (bk_rs hlcs (by omega) (by omega)) ⟨_, rfl, ?_⟩)
          refine WL.y rfl (Yd.sub rfl rfl (by omega) (by omega)) ?_
          refine WL.y rfl (Yd.assign rfl) ?_
          refine WL.nil ?_
          refine DN.block_normal ?_
          refine DN.then_normal ?_
          refine WC.region ?_
          refine WL.y rfl (Yd.move rfl) ?_
          refine WL.y rfl (Yd.add rfl rfl (by omega) (by omega)) ?_
          refine WL.y rfl (Yd.assign rfl) ?_
          refine WL.nil ?_
          exact DN.againS (⟨i + 1, z - L[i].n⟩) (show (i + 1) ≤ L.length ∧ (z - L[i].n) = fs.getD d 0 - sumDay (L.take (i + 1)) d from ⟨by omega, by rw [hm9]; omega⟩) (show L.length - (i + 1) < L.length - i by omega) (Sx.put rfl (Sx.put rfl ((by repeat (first | exact Sx.refl | refine Sx.skip rfl ?_))))) (by repeat (first | exact Sp.here | exact Sp.sn | exact Sp.s0 | exact Fr.here | apply Sp.s2 | apply Sp.sx | apply Fr.fc | apply Fr.al | apply Fr.fa | apply Sp.sc | apply Sp.al | apply Sp.sa))
        · rw [if_neg (by omega)] at hm9
          refine WC.skip ?_
          refine DN.block_normal ?_
          refine DN.then_normal ?_
          refine WC.region ?_
          refine WL.y rfl (Yd.move rfl) ?_
          refine WL.y rfl (Yd.add rfl rfl (by omega) (by omega)) ?_
          refine WL.y rfl (Yd.assign rfl) ?_
          refine WL.nil ?_
          exact DN.againS (⟨i + 1, z⟩) (show (i + 1) ≤ L.length ∧ z = fs.getD d 0 - sumDay (L.take (i + 1)) d from ⟨by omega, by rw [hm9]; omega⟩) (show L.length - (i + 1) < L.length - i by omega) (Sx.put rfl (Sx.put rfl ((by repeat (first | exact Sx.refl | refine Sx.skip rfl ?_))))) (by repeat (first | exact Sp.here | exact Sp.sn | exact Sp.s0 | exact Fr.here | apply Sp.s2 | apply Sp.sx | apply Fr.fc | apply Fr.al | apply Fr.fa | apply Sp.sc | apply Sp.al | apply Sp.sa))
      · obtain rfl : i = L.length := by omega
        rw [List.take_length] at hz
        refine WC.exit ?_
        refine DN.then_exit ?_
        refine DN.then_exit ?_
        refine DN.block_exit ?_
        refine DN.then_normal ?_
        refine WC.seq ?_
        refine WC.region ?_
        refine WL.y rfl (Yd.move rfl) ?_
        refine WL.y rfl (Yd.assign rfl) ?_
        refine WL.nil ?_
        refine DN.then_normal ?_
        refine WC.ret ?_
        refine DN.ret1 Try.results22 rfl ?_
        first
          | exact ⟨by rw [roomOf, if_neg (by omega)], rfl⟩
          | exact ⟨by rw [roomOf, if_pos (by omega), Int.toNat_natCast]; have := (inv.sums d).2; congr 1; omega, rfl⟩

/-- (*drayage/drayageref11.Dock).Book -/
theorem rbook_tells (p : Nat) (fs rs : List Int) (L : List Bk) (C : List Ck) (h : RfAt 58 3 47 p fs L C) (inv : DInv fs rs L) (o : BitVec 32) (from_ n : Int) : Tells Try.prog 17 [.pointer (some ⟨p, 0, none⟩), .int .u32 o.toNat, .int .i64 from_, .int .i64 n] C fun r H' => r = .tuple #[.int .i64 (resOf (bookOf rs L o from_ n)).1, .int .i64 (resOf (bookOf rs L o from_ n)).2] ∧ RfAt 58 3 47 p fs (listB L (bookOf rs L o from_ n) o n) H' := by
  refine Tells.enter Try.func17 rfl Try.ntmps17 rfl ?_
  intro w0 R
  have hat := at_spec L o
  have h0 := h
  obtain ⟨vf, vl, Cf, Cl, rfl, hf, hL⟩ := h
  obtain ⟨fo, fc, rfl, hfc⟩ := hf.form
  obtain ⟨lo, lc, rfl, hlc⟩ := hL.form
  have hmany := inv.many
  have hlen := inv.len
  have hfew := inv.few
  refine WC.seq ?_
  refine WC.region ?_
  refine WL.y rfl (Yd.assign rfl) ?_
  refine WL.y rfl (Yd.assign rfl) ?_
  refine WL.nil ?_
  refine DN.then_normal ?_
  refine WC.seq ?_
  refine WC.region ?_
  refine WL.y rfl (Yd.move rfl) ?_
  refine WL.y rfl (Yd.move rfl) ?_
  refine WL.rf rfl (Ent.func Try.call27 rfl) (rat_reads p fs L _ h0 hmany o) (by repeat (first | exact Sp.here | exact Sp.sn | exact Sp.s0 | exact Fr.here | apply Sp.s2 | apply Sp.sx | apply Fr.fc | apply Fr.al | apply Fr.fa | apply Sp.sc | apply Sp.al | apply Sp.sa)) ?_
  refine WL.y rfl (Yd.assign rfl) ?_
  refine WL.nil ?_
  refine DN.then_normal ?_
  refine WC.seq ?_
  refine WC.seq ?_
  refine WC.region ?_
  refine WL.y rfl (Yd.move rfl) ?_
  refine WL.y rfl (Yd.eql32 _ (0#32) rfl rfl rfl rfl) ?_
  refine WL.y rfl (Yd.move rfl) ?_
  refine WL.partP (t := 18) rfl (fun hg18 => ?_) (fun hg18 => ?_)
  · refine WL.gn (dj := 18) rfl rfl rfl rfl ?_
    refine WL.gn (dj := 18) rfl rfl rfl rfl ?_
    refine WL.y rfl (Yd.pickT rfl rfl) ?_
    refine WL.y rfl (Yd.move rfl) ?_
    refine WL.gn (dj := 22) rfl rfl rfl rfl ?_
    refine WL.gn (dj := 22) rfl rfl rfl rfl ?_
    refine WL.y rfl (Yd.pickT rfl rfl) ?_
    refine WL.y rfl (Yd.move rfl) ?_
    refine WL.gn (dj := 26) rfl rfl rfl rfl ?_
    refine WL.gn (dj := 26) rfl rfl rfl rfl ?_
    refine WL.y rfl (Yd.pickT rfl rfl) ?_
    refine WL.nil ?_
    refine DN.then_normal ?_
    refine WC.yes rfl ?_
    refine WC.seq ?_
    refine WC.region ?_
    refine WL.y rfl (Yd.assign rfl) ?_
    refine WL.y rfl (Yd.assign rfl) ?_
    refine WL.nil ?_
    refine DN.then_normal ?_
    refine WC.ret ?_
    refine DN.then_ret ?_
    first | refine DN.fit (C := row p [.slice fo fs.length fc, .slice zo (L.length + 1) zc] 58 :: (Cf ++ C2)) (by repeat (first | exact Sp.here | exact Sp.sn | exact Sp.s0 | exact Fr.here | apply Sp.s2 | apply Sp.sx | apply Fr.fc | apply Fr.al | apply Fr.fa | apply Sp.sc | apply Sp.al | apply Sp.sa)) ?_ | skip
    refine DN.ret2 Try.results17 rfl rfl ?_
    first
      | (rw [hday]
         exact ⟨rfl, _, _, Cf, C2, rfl, hf, by rw [show listB L (some d) o n = L ++ [⟨o, d, n⟩] from rfl, List.flatMap_append, List.length_append]; exact h2⟩)
      | (have hb : bookOf rs L o from_ n = none := by
           rcases Classical.em (o = 0#32 ∨ n < 1 ∨ from_ < 0 ∨ (findB L o).isSome = true) with hc | hc
           · exact if_pos hc
           · first
             | exact (hc (.inl hg18)).elim
             | exact (hc (.inr (.inl hg22))).elim
             | exact (hc (.inr (.inr (.inl hg26)))).elim
             | exact (hc (.inr (.inr (.inl h29)))).elim
             | (rcases hat with h | ⟨i, hi, h1, _, h2⟩
                · exact absurd h.1 (by omega)
                · exact (hc (.inr (.inr (.inr (by rw [h2]; rfl))))).elim)
             | (rw [bookOf, if_neg hc]
                exact dayOf_no rs from_ n fun j hj => hno j (by omega))
         rw [hb]
         exact ⟨rfl, h0⟩)
  · refine WL.gy (dj := 18) rfl rfl rfl (Yd.move rfl) ?_
    refine WL.gy (dj := 18) rfl rfl rfl (Yd.lss rfl rfl) ?_
    refine WL.y rfl (Yd.pickF rfl rfl) ?_
    refine WL.y rfl (Yd.move rfl) ?_
    refine WL.partP (t := 22) rfl (fun hg22 => ?_) (fun hg22 => ?_)
    · refine WL.gn (dj := 22) rfl rfl rfl rfl ?_
      refine WL.gn (dj := 22) rfl rfl rfl rfl ?_
      refine WL.y rfl (Yd.pickT rfl rfl) ?_
      refine WL.y rfl (Yd.move rfl) ?_
      refine WL.gn (dj := 26) rfl rfl rfl rfl ?_
      refine WL.gn (dj := 26) rfl rfl rfl rfl ?_
      refine WL.y rfl (Yd.pickT rfl rfl) ?_
      refine WL.nil ?_
      refine DN.then_normal ?_
      refine WC.yes rfl ?_
      refine WC.seq ?_
      refine WC.region ?_
      refine WL.y rfl (Yd.assign rfl) ?_
      refine WL.y rfl (Yd.assign rfl) ?_
      refine WL.nil ?_
      refine DN.then_normal ?_
      refine WC.ret ?_
      refine DN.then_ret ?_
      first | refine DN.fit (C := row p [.slice fo fs.length fc, .slice zo (L.length + 1) zc] 58 :: (Cf ++ C2)) (by repeat (first | exact Sp.here | exact Sp.sn | exact Sp.s0 | exact Fr.here | apply Sp.s2 | apply Sp.sx | apply Fr.fc | apply Fr.al | apply Fr.fa | apply Sp.sc | apply Sp.al | apply Sp.sa)) ?_ | skip
      refine DN.ret2 Try.results17 rfl rfl ?_
      first
        | (rw [hday]
           exact ⟨rfl, _, _, Cf, C2, rfl, hf, by rw [show listB L (some d) o n = L ++ [⟨o, d, n⟩] from rfl, List.flatMap_append, List.length_append]; exact h2⟩)
        | (have hb : bookOf rs L o from_ n = none := by
             rcases Classical.em (o = 0#32 ∨ n < 1 ∨ from_ < 0 ∨ (findB L o).isSome = true) with hc | hc
             · exact if_pos hc
             · first
               | exact (hc (.inl hg18)).elim
               | exact (hc (.inr (.inl hg22))).elim
               | exact (hc (.inr (.inr (.inl hg26)))).elim
               | exact (hc (.inr (.inr (.inl h29)))).elim
               | (rcases hat with h | ⟨i, hi, h1, _, h2⟩
                  · exact absurd h.1 (by omega)
                  · exact (hc (.inr (.inr (.inr (by rw [h2]; rfl))))).elim)
               | (rw [bookOf, if_neg hc]
                  exact dayOf_no rs from_ n fun j hj => hno j (by omega))
           rw [hb]
           exact ⟨rfl, h0⟩)
    · refine WL.gy (dj := 22) rfl rfl rfl (Yd.move rfl) ?_
      refine WL.gy (dj := 22) rfl rfl rfl (Yd.lss rfl rfl) ?_
      refine WL.y rfl (Yd.pickF rfl rfl) ?_
      refine WL.y rfl (Yd.move rfl) ?_
      refine WL.partP (t := 26) rfl (fun hg26 => ?_) (fun hg26 => ?_)
      · refine WL.gn (dj := 26) rfl rfl rfl rfl ?_
        refine WL.gn (dj := 26) rfl rfl rfl rfl ?_
        refine WL.y rfl (Yd.pickT rfl rfl) ?_
        refine WL.nil ?_
        refine DN.then_normal ?_
        refine WC.yes rfl ?_
        refine WC.seq ?_
        refine WC.region ?_
        refine WL.y rfl (Yd.assign rfl) ?_
        refine WL.y rfl (Yd.assign rfl) ?_
        refine WL.nil ?_
        refine DN.then_normal ?_
        refine WC.ret ?_
        refine DN.then_ret ?_
        first | refine DN.fit (C := row p [.slice fo fs.length fc, .slice zo (L.length + 1) zc] 58 :: (Cf ++ C2)) (by repeat (first | exact Sp.here | exact Sp.sn | exact Sp.s0 | exact Fr.here | apply Sp.s2 | apply Sp.sx | apply Fr.fc | apply Fr.al | apply Fr.fa | apply Sp.sc | apply Sp.al | apply Sp.sa)) ?_ | skip
        refine DN.ret2 Try.results17 rfl rfl ?_
        first
          | (rw [hday]
             exact ⟨rfl, _, _, Cf, C2, rfl, hf, by rw [show listB L (some d) o n = L ++ [⟨o, d, n⟩] from rfl, List.flatMap_append, List.length_append]; exact h2⟩)
          | (have hb : bookOf rs L o from_ n = none := by
               rcases Classical.em (o = 0#32 ∨ n < 1 ∨ from_ < 0 ∨ (findB L o).isSome = true) with hc | hc
               · exact if_pos hc
               · first
                 | exact (hc (.inl hg18)).elim
                 | exact (hc (.inr (.inl hg22))).elim
                 | exact (hc (.inr (.inr (.inl hg26)))).elim
                 | exact (hc (.inr (.inr (.inl h29)))).elim
                 | (rcases hat with h | ⟨i, hi, h1, _, h2⟩
                    · exact absurd h.1 (by omega)
                    · exact (hc (.inr (.inr (.inr (by rw [h2]; rfl))))).elim)
                 | (rw [bookOf, if_neg hc]
                    exact dayOf_no rs from_ n fun j hj => hno j (by omega))
             rw [hb]
             exact ⟨rfl, h0⟩)
      · refine WL.gy (dj := 26) rfl rfl rfl (Yd.move rfl) ?_
        refine WL.gy (dj := 26) rfl rfl rfl (Yd.geq rfl rfl) ?_
        refine WL.y rfl (Yd.pickF rfl rfl) ?_
        refine WL.nil ?_
        refine DN.then_normal ?_
        refine WC.ite rfl (fun h29 => ?_) (fun h29 => ?_)
        · refine WC.seq ?_
          refine WC.region ?_
          refine WL.y rfl (Yd.assign rfl) ?_
          refine WL.y rfl (Yd.assign rfl) ?_
          refine WL.nil ?_
          refine DN.then_normal ?_
          refine WC.ret ?_
          refine DN.then_ret ?_
          first | refine DN.fit (C := row p [.slice fo fs.length fc, .slice zo (L.length + 1) zc] 58 :: (Cf ++ C2)) (by repeat (first | exact Sp.here | exact Sp.sn | exact Sp.s0 | exact Fr.here | apply Sp.s2 | apply Sp.sx | apply Fr.fc | apply Fr.al | apply Fr.fa | apply Sp.sc | apply Sp.al | apply Sp.sa)) ?_ | skip
          refine DN.ret2 Try.results17 rfl rfl ?_
          first
            | (rw [hday]
               exact ⟨rfl, _, _, Cf, C2, rfl, hf, by rw [show listB L (some d) o n = L ++ [⟨o, d, n⟩] from rfl, List.flatMap_append, List.length_append]; exact h2⟩)
            | (have hb : bookOf rs L o from_ n = none := by
                 rcases Classical.em (o = 0#32 ∨ n < 1 ∨ from_ < 0 ∨ (findB L o).isSome = true) with hc | hc
                 · exact if_pos hc
                 · first
                   | exact (hc (.inl hg18)).elim
                   | exact (hc (.inr (.inl hg22))).elim
                   | exact (hc (.inr (.inr (.inl hg26)))).elim
                   | exact (hc (.inr (.inr (.inl h29)))).elim
                   | (rcases hat with h | ⟨i, hi, h1, _, h2⟩
                      · exact absurd h.1 (by omega)
                      · exact (hc (.inr (.inr (.inr (by rw [h2]; rfl))))).elim)
                   | (rw [bookOf, if_neg hc]
                      exact dayOf_no rs from_ n fun j hj => hno j (by omega))
               rw [hb]
               exact ⟨rfl, h0⟩)
        · obtain ⟨d0, hd0⟩ : ∃ d0 : Nat, from_ = (d0 : Int) := ⟨from_.toNat, by omega⟩
          have hnone : findB L o = none := by
            rcases hat with h | ⟨i, hi, h, _⟩
            · exact h.2
            · omega
          refine WC.skip ?_
          refine DN.then_normal ?_
          refine WC.seq ?_
          refine WC.seq ?_
          refine WC.region ?_
          refine WL.y rfl (Yd.move rfl) ?_
          refine WL.renamed (t := 30) (v := .int .i64 (d0 : Int)) rfl (congrArg (Value.int .i64) hd0) ?_
          refine WL.y rfl (Yd.assign rfl) ?_
          refine WL.nil ?_
          refine DN.then_normal ?_
          refine WC.block ?_
          refine WC.loopS (fun z : Nat => from_ ≤ (z : Int) ∧ ∀ j, j < z → ¬ (from_ ≤ (j : Int) ∧ n ≤ rs.getD j 0)) (fun z : Nat => [(11, .int .i64 (z : Int))]) (fun z : Nat => row p [.slice fo fs.length fc, .slice lo L.length lc] 58 :: (Cf ++ Cl)) (fun z : Nat => fs.length - z) (d0) (show from_ ≤ (d0 : Int) ∧ ∀ j, j < d0 → ¬ (from_ ≤ (j : Int) ∧ n ≤ rs.getD j 0) from ⟨by omega, fun j hj => by omega⟩) (Sx.put rfl ((by repeat (first | exact Sx.refl | refine Sx.skip rfl ?_)))) (by repeat (first | exact Sp.here | exact Sp.sn | exact Sp.s0 | exact Fr.here | apply Sp.s2 | apply Sp.sx | apply Fr.fc | apply Fr.al | apply Fr.fa | apply Sp.sc | apply Sp.al | apply Sp.sa)) ?_
          rintro d hI
          replace hI : from_ ≤ (d : Int) ∧ ∀ j, j < d → ¬ (from_ ≤ (j : Int) ∧ n ≤ rs.getD j 0) := hI
          obtain ⟨hfd, hno⟩ := hI
          change WC _ _ _ _ _ _ ([(11, .int .i64 (d : Int))] ++ _) (row p [.slice fo fs.length fc, .slice lo L.length lc] 58 :: (Cf ++ Cl))
          refine WC.seq ?_
          refine WC.seq ?_
          refine WC.region ?_
          refine WL.y rfl (Yd.move rfl) ?_
          refine WL.y rfl (Yd.move rfl) ?_
          refine WL.y rfl (Yd.notNil rfl) ?_
          refine WL.y rfl (Yd.fieldAddr (k := 0) (by kernel_rfl) rfl) ?_
          refine WL.h rfl (Hd.load1 (by kernel_rfl) rfl (by repeat (first | exact List.mem_cons_self | apply List.mem_cons_of_mem | apply List.mem_append_right)) (by rfl) ⟨_, rfl, ?_⟩)
          refine WL.y rfl (Yd.len (e := 3) (by kernel_rfl) rfl) ?_
          refine WL.y rfl (Yd.lss rfl rfl) ?_
          refine WL.nil ?_
          refine DN.then_normal ?_
          refine WC.ite rfl (fun h37 => ?_) (fun h37 => ?_)
          · have hlt : d < fs.length := by omega
            have hrd : roomOf rs (d : Int) = rs.getD d 0 := by rw [roomOf, if_pos (by omega), Int.toNat_natCast]
            refine WC.skip ?_
            refine DN.then_normal ?_
            refine WC.seq ?_
            refine WC.block ?_
            refine WC.seq ?_
            refine WC.region ?_
            refine WL.y rfl (Yd.move rfl) ?_
            refine WL.y rfl (Yd.move rfl) ?_
            refine WL.rf rfl (Ent.func Try.call22 rfl) (rroom_reads p fs rs L _ h0 inv (d : Int)) (by repeat (first | exact Sp.here | exact Sp.sn | exact Sp.s0 | exact Fr.here | apply Sp.s2 | apply Sp.sx | apply Fr.fc | apply Fr.al | apply Fr.fa | apply Sp.sc | apply Sp.al | apply Sp.sa)) ?_
            refine WL.y rfl (Yd.assign rfl) ?_
            refine WL.nil ?_
            refine DN.then_normal ?_
            refine WC.seq ?_
            refine WC.region ?_
            refine WL.y rfl (Yd.move rfl) ?_
            refine WL.y rfl (Yd.move rfl) ?_
            refine WL.y rfl (Yd.geq rfl rfl) ?_
            refine WL.nil ?_
            refine DN.then_normal ?_
            refine WC.ite rfl (fun h45 => ?_) (fun h45 => ?_)
            · have hday : bookOf rs L o from_ n = some d := by
                rw [bookOf, if_neg (by rintro (h | h | h | h); exact absurd h (by assumption); omega; omega; rw [hnone] at h; cases h)]
                exact dayOf_yes rs from_ n d (by omega) (by omega) (by omega) hno
              refine WC.seq ?_
              refine WC.region ?_
              refine WL.y rfl (Yd.move rfl) ?_
              refine WL.y rfl (Yd.move rfl) ?_
              refine WL.y rfl (Yd.notNil rfl) ?_
              refine WL.y rfl (Yd.fieldAddr (k := 1) (by kernel_rfl) rfl) ?_
              refine WL.h rfl (Hd.load1 (by kernel_rfl) rfl (by repeat (first | exact List.mem_cons_self | apply List.mem_cons_of_mem | apply List.mem_append_right)) (by rfl) ⟨_, rfl, ?_⟩)
              refine WL.y rfl (Yd.move rfl) ?_
              refine WL.y rfl (Yd.move rfl) ?_
              refine WL.y rfl (Yd.move rfl) ?_
              refine WL.y rfl (Yd.buildL (pl := [(0, 1), (1, 1), (2, 1)]) (zs := [.int .u32 0, .int .i64 0, .int .i64 0]) (parts := [(0, .tmp 51), (1, .tmp 52), (2, .tmp 53)]) (vs := [(0, _), (1, _), (2, _)]) (cells := [_, _, _]) (by kernel_rfl) (by kernel_rfl) rfl rfl) ?_
              refine WL.h rfl (Hd.buildA (e := 47) (sz := 3) (zs := [.int .u32 0, .int .i64 0, .int .i64 0]) (by kernel_rfl) (by kernel_rfl) (by kernel_rfl) rfl rfl (by rfl) (by kernel_rfl) fun b55 => ⟨_, rfl, ?_⟩)
              refine WL.h rfl (Hd.appendRow (e := 47) (sz := 3) (bytes := 24) (zs := [.int .u32 0, .int .i64 0, .int .i64 0]) (by kernel_rfl) (by kernel_rfl) rfl (by omega) rfl rfl (hL) (by repeat (first | exact Sp.here | exact Sp.sn | exact Sp.s0 | exact Fr.here | apply Sp.s2 | apply Sp.sx | apply Fr.fc | apply Fr.al | apply Fr.fa | apply Sp.sc | apply Sp.al | apply Sp.sa)) (by repeat (first | exact List.mem_cons_self | apply List.mem_cons_of_mem | apply List.mem_append_right)) (by rfl) (by repeat (first | exact fun _ h => absurd h List.not_mem_nil | refine List.forall_mem_cons.2 ⟨by first | rfl | assumption, ?_⟩)) (by simp only [maxLen]; omega) (by omega) fun v2 C2 h2 => ⟨_, rfl, ?_⟩)
              obtain ⟨zo, zc, rfl, _⟩ := h2.form
              refine WL.y rfl (Yd.notNil rfl) ?_
              refine WL.y rfl (Yd.fieldAddr (k := 1) (by kernel_rfl) rfl) ?_
              refine WL.s (Hd.store1s (by kernel_rfl) rfl rfl (by rfl) (by repeat (first | exact Fr.here | apply Fr.fc | apply Fr.al | apply Fr.fa)) (by rfl) (by first | (simp only [List.set_cons_zero, List.set_cons_succ, Nat.zero_add, Nat.add_zero, Nat.reduceAdd]; rfl) | rfl) ⟨rfl, ?_⟩)
              refine WL.nil ?_
              refine DN.then_normal ?_
              refine WC.seq ?_
              refine WC.region ?_
              refine WL.y rfl (Yd.move rfl) ?_
              refine WL.y rfl (Yd.assign rfl) ?_
              refine WL.y rfl (Yd.assign rfl) ?_
              refine WL.nil ?_
              refine DN.then_normal ?_
              refine WC.ret ?_
              refine DN.block_ret ?_
              refine DN.then_ret ?_
              refine DN.then_ret ?_
              refine DN.block_ret ?_
              refine DN.then_ret ?_
              first | refine DN.fit (C := row p [.slice fo fs.length fc, .slice zo (L.length + 1) zc] 58 :: (Cf ++ C2)) (by repeat (first | exact Sp.here | exact Sp.sn | exact Sp.s0 | exact Fr.here | apply Sp.s2 | apply Sp.sx | apply Fr.fc | apply Fr.al | apply Fr.fa | apply Sp.sc | apply Sp.al | apply Sp.sa)) ?_ | skip
              refine DN.ret2 Try.results17 rfl rfl ?_
              first
                | (rw [hday]
                   exact ⟨rfl, _, _, Cf, C2, rfl, hf, by rw [show listB L (some d) o n = L ++ [⟨o, d, n⟩] from rfl, List.flatMap_append, List.length_append]; exact h2⟩)
                | (have hb : bookOf rs L o from_ n = none := by
                     rcases Classical.em (o = 0#32 ∨ n < 1 ∨ from_ < 0 ∨ (findB L o).isSome = true) with hc | hc
                     · exact if_pos hc
                     · first
                       | exact (hc (.inl hg18)).elim
                       | exact (hc (.inr (.inl hg22))).elim
                       | exact (hc (.inr (.inr (.inl hg26)))).elim
                       | exact (hc (.inr (.inr (.inl h29)))).elim
                       | (rcases hat with h | ⟨i, hi, h1, _, h2⟩
                          · exact absurd h.1 (by omega)
                          · exact (hc (.inr (.inr (.inr (by rw [h2]; rfl))))).elim)
                       | (rw [bookOf, if_neg hc]
                          exact dayOf_no rs from_ n fun j hj => hno j (by omega))
                   rw [hb]
                   exact ⟨rfl, h0⟩)
            · refine WC.skip ?_
              refine DN.block_normal ?_
              refine DN.then_normal ?_
              refine WC.region ?_
              refine WL.y rfl (Yd.move rfl) ?_
              refine WL.y rfl (Yd.add rfl rfl (by omega) (by omega)) ?_
              refine WL.y rfl (Yd.assign rfl) ?_
              refine WL.nil ?_
              exact DN.againS (d + 1) (show from_ ≤ ((d + 1) : Int) ∧ ∀ j, j < (d + 1) → ¬ (from_ ≤ (j : Int) ∧ n ≤ rs.getD j 0) from ⟨by omega, fun j hj => by by_cases e : j = d; (subst e; omega); exact hno j (by omega)⟩) (show fs.length - (d + 1) < fs.length - d by omega) (Sx.put rfl ((by repeat (first | exact Sx.refl | refine Sx.skip rfl ?_)))) (by repeat (first | exact Sp.here | exact Sp.sn | exact Sp.s0 | exact Fr.here | apply Sp.s2 | apply Sp.sx | apply Fr.fc | apply Fr.al | apply Fr.fa | apply Sp.sc | apply Sp.al | apply Sp.sa))
          · have hge : fs.length ≤ d := by omega
            refine WC.exit ?_
            refine DN.then_exit ?_
            refine DN.then_exit ?_
            refine DN.block_exit ?_
            refine DN.then_normal ?_
            refine WC.seq ?_
            refine WC.region ?_
            refine WL.y rfl (Yd.assign rfl) ?_
            refine WL.y rfl (Yd.assign rfl) ?_
            refine WL.nil ?_
            refine DN.then_normal ?_
            refine WC.ret ?_
            first | refine DN.fit (C := row p [.slice fo fs.length fc, .slice zo (L.length + 1) zc] 58 :: (Cf ++ C2)) (by repeat (first | exact Sp.here | exact Sp.sn | exact Sp.s0 | exact Fr.here | apply Sp.s2 | apply Sp.sx | apply Fr.fc | apply Fr.al | apply Fr.fa | apply Sp.sc | apply Sp.al | apply Sp.sa)) ?_ | skip
            refine DN.ret2 Try.results17 rfl rfl ?_
            first
              | (rw [hday]
                 exact ⟨rfl, _, _, Cf, C2, rfl, hf, by rw [show listB L (some d) o n = L ++ [⟨o, d, n⟩] from rfl, List.flatMap_append, List.length_append]; exact h2⟩)
              | (have hb : bookOf rs L o from_ n = none := by
                   rcases Classical.em (o = 0#32 ∨ n < 1 ∨ from_ < 0 ∨ (findB L o).isSome = true) with hc | hc
                   · exact if_pos hc
                   · first
                     | exact (hc (.inl hg18)).elim
                     | exact (hc (.inr (.inl hg22))).elim
                     | exact (hc (.inr (.inr (.inl hg26)))).elim
                     | exact (hc (.inr (.inr (.inl h29)))).elim
                     | (rcases hat with h | ⟨i, hi, h1, _, h2⟩
                        · exact absurd h.1 (by omega)
                        · exact (hc (.inr (.inr (.inr (by rw [h2]; rfl))))).elim)
                     | (rw [bookOf, if_neg hc]
                        exact dayOf_no rs from_ n fun j hj => hno j (by omega))
                 rw [hb]
                 exact ⟨rfl, h0⟩)

/-- (*drayage/drayageref11.Dock).Cancel -/
theorem rcancel_tells (p : Nat) (fs : List Int) (L : List Bk) (C : List Ck) (h : RfAt 58 3 47 p fs L C) (hmany : L.length ≤ 100000000) (hn : (L.map Bk.o).Nodup) (o : BitVec 32) : Tells Try.prog 18 [.pointer (some ⟨p, 0, none⟩), .int .u32 o.toNat] C fun r H' => r = .int .i64 (resC (findB L o)) ∧ RfAt 58 3 47 p fs (listC L (findB L o) o) H' := by
  refine Tells.enter Try.func18 rfl Try.ntmps18 rfl ?_
  intro w0 R
  have hat := at_spec L o
  have h0 := h
  obtain ⟨vf, vl, Cf, Cl, rfl, hf, hL⟩ := h
  obtain ⟨fo, fc, rfl, hfc⟩ := hf.form
  obtain ⟨lo, lc, rfl, hlc⟩ := hL.form
  refine WC.seq ?_
  refine WC.region ?_
  refine WL.y rfl (Yd.assign rfl) ?_
  refine WL.nil ?_
  refine DN.then_normal ?_
  refine WC.seq ?_
  refine WC.region ?_
  refine WL.y rfl (Yd.move rfl) ?_
  refine WL.y rfl (Yd.move rfl) ?_
  refine WL.rf rfl (Ent.func Try.call27 rfl) (rat_reads p fs L _ h0 hmany o) (by repeat (first | exact Sp.here | exact Sp.sn | exact Sp.s0 | exact Fr.here | apply Sp.s2 | apply Sp.sx | apply Fr.fc | apply Fr.al | apply Fr.fa | apply Sp.sc | apply Sp.al | apply Sp.sa)) ?_
  refine WL.y rfl (Yd.assign rfl) ?_
  refine WL.nil ?_
  refine DN.then_normal ?_
  refine WC.seq ?_
  refine WC.seq ?_
  refine WC.region ?_
  refine WL.y rfl (Yd.move rfl) ?_
  refine WL.y rfl (Yd.lss rfl rfl) ?_
  refine WL.nil ?_
  refine DN.then_normal ?_
  refine WC.ite rfl (fun h12 => ?_) (fun h12 => ?_)
  · have hnone : findB L o = none := by
      rcases hat with h | ⟨i, hi, h, _⟩
      · exact h.2
      · omega
    refine WC.seq ?_
    refine WC.region ?_
    refine WL.y rfl (Yd.assign rfl) ?_
    refine WL.nil ?_
    refine DN.then_normal ?_
    refine WC.ret ?_
    refine DN.then_ret ?_
    first | refine DN.fit (C := row p [.slice fo fs.length fc, .slice oo ((L.take L.length).eraseIdx q).length oc] 58 :: (Cf ++ Co)) (by repeat (first | exact Sp.here | exact Sp.sn | exact Sp.s0 | exact Fr.here | apply Sp.s2 | apply Sp.sx | apply Fr.fc | apply Fr.al | apply Fr.fa | apply Sp.sc | apply Sp.al | apply Sp.sa)) ?_ | skip
    refine DN.ret1 Try.results18 rfl ?_
    first
      | (rw [hnone]
         exact ⟨rfl, h0⟩)
      | (rw [List.take_length] at ho ⊢
         rw [hfq]
         refine ⟨rfl, _, _, Cf, Co, rfl, hf, ?_⟩
         have e : listC L (some L[q]) o = L.eraseIdx q := by
           rw [erase_at hn hq, ← hoq]; rfl
         rw [e]
         exact ho)
  · obtain ⟨q, hq, haq, hoq, hfq⟩ : ∃ (i : Nat) (hi : i < L.length), atOf L o = i ∧ o = L[i].o ∧ findB L o = some L[i] := by
      rcases hat with h | h
      · exact absurd h.1 (by omega)
      · exact h
    rw [haq]
    refine WC.skip ?_
    refine DN.then_normal ?_
    refine WC.seq ?_
    refine WC.region ?_
    refine WL.y rfl (Yd.assign rfl) ?_
    refine WL.nil ?_
    refine DN.then_normal ?_
    refine WC.seq ?_
    refine WC.seq ?_
    refine WC.region ?_
    refine WL.y rfl (Yd.assign rfl) ?_
    refine WL.nil ?_
    refine DN.then_normal ?_
    refine WC.block ?_
    refine WC.loopS (fun z : Nat × Value × List Ck => z.1 ≤ L.length ∧ Own z.2.1 ((L.take z.1).eraseIdx q).length (((L.take z.1).eraseIdx q).flatMap encB) 47 3 z.2.2) (fun z : Nat × Value × List Ck => [(7, .int .i64 (z.1 : Int)), (6, z.2.1)]) (fun z : Nat × Value × List Ck => z.2.2 ++ (row p [.slice fo fs.length fc, .slice lo L.length lc] 58 :: (Cf ++ Cl))) (fun z : Nat × Value × List Ck => L.length - z.1) (⟨0, .slice none 0 0, []⟩) (show 0 ≤ L.length ∧ Own (.slice none 0 0) ((L.take 0).eraseIdx q).length (((L.take 0).eraseIdx q).flatMap encB) 47 3 [] from ⟨Nat.zero_le _, by simpa using Own.nil 47 3⟩) (Sx.put rfl (Sx.put rfl ((by repeat (first | exact Sx.refl | refine Sx.skip rfl ?_))))) (by repeat (first | exact Sp.here | exact Sp.sn | exact Sp.s0 | exact Fr.here | apply Sp.s2 | apply Sp.sx | apply Fr.fc | apply Fr.al | apply Fr.fa | apply Sp.sc | apply Sp.al | apply Sp.sa)) ?_
    rintro ⟨i, v, Co⟩ hI
    replace hI : i ≤ L.length ∧ Own v ((L.take i).eraseIdx q).length (((L.take i).eraseIdx q).flatMap encB) 47 3 Co := hI
    obtain ⟨hi, ho⟩ := hI
    change WC _ _ _ _ _ _ ([(7, .int .i64 (i : Int)), (6, v)] ++ _) (Co ++ (row p [.slice fo fs.length fc, .slice lo L.length lc] 58 :: (Cf ++ Cl)))
    obtain ⟨oo, oc, rfl, hoc⟩ := ho.form
    refine WC.seq ?_
    refine WC.seq ?_
    refine WC.region ?_
    refine WL.y rfl (Yd.move rfl) ?_
    refine WL.y rfl (Yd.move rfl) ?_
    refine WL.y rfl (Yd.notNil rfl) ?_
    refine WL.y rfl (Yd.fieldAddr (k := 1) (by kernel_rfl) rfl) ?_
    refine WL.h rfl (Hd.load1 (by kernel_rfl) rfl (by repeat (first | exact List.mem_cons_self | apply List.mem_cons_of_mem | apply List.mem_append_right)) (by rfl) ⟨_, rfl, ?_⟩)
    refine WL.y rfl (Yd.len (e := 47) (by kernel_rfl) rfl) ?_
    refine WL.y rfl (Yd.lss rfl rfl) ?_
    refine WL.nil ?_
    refine DN.then_normal ?_
    refine WC.ite rfl (fun h19 => ?_) (fun h19 => ?_)
    · have hlt : i < L.length := by omega
      obtain ⟨lb, lf, lcs, lT, lfr, lex, rfl, _, hlm, hlcs⟩ := hL.rs.lies (by omega)
      have hel : ((L.take i).eraseIdx q).length ≤ L.length := by rw [List.length_eraseIdx, List.length_take]; split <;> omega
      refine WC.skip ?_
      refine DN.then_normal ?_
      refine WC.seq ?_
      refine WC.block ?_
      refine WC.seq ?_
      refine WC.region ?_
      refine WL.y rfl (Yd.move rfl) ?_
      refine WL.y rfl (Yd.move rfl) ?_
      refine WL.y rfl (Yd.neq rfl rfl) ?_
      refine WL.nil ?_
      refine DN.then_normal ?_
      refine WC.ite rfl (fun h24 => ?_) (fun h24 => ?_)
      · refine WC.region ?_
        refine WL.y rfl (Yd.move rfl) ?_
        refine WL.y rfl (Yd.move rfl) ?_
        refine WL.y rfl (Yd.notNil rfl) ?_
        refine WL.y rfl (Yd.fieldAddr (k := 1) (by kernel_rfl) rfl) ?_
        refine WL.h rfl (Hd.load1 (by kernel_rfl) rfl (by repeat (first | exact List.mem_cons_self | apply List.mem_cons_of_mem | apply List.mem_append_right)) (by rfl) ⟨_, rfl, ?_⟩)
        refine WL.y rfl (Yd.move rfl) ?_
        refine WL.y rfl (Yd.indexAddr (e := 47) (s := 3) (by kernel_rfl) (by kernel_rfl) rfl rfl (by omega) (by omega)) ?_
        refine WL.h rfl (Hd.loadA (n := 3) (b := lb) (o := lf + (i : Int).toNat * 3) (cs := lcs) (vs := encB L[i]) (by kernel_rfl) rfl (Gr.get (by repeat (first | exact Gr.refl | exact Gr.left Gr.refl | exact Gr.nil | exact Gr.app (Gr.left Gr.refl) | refine Gr.cons ?_ | refine Gr.app ?_ | refine Gr.both ?_ ?_ | refine Gr.put (by repeat (first | exact List.mem_cons_self | apply List.mem_cons_of_mem | apply List.mem_append_right)) ?_)) hlm) (encB_len _) (rs_cell hlcs (by rw [flat_len encB 3 encB_len]; omega) (flat_row encB 3 encB_len L i (by omega))) ⟨_, rfl, ?_⟩)
        refine WL.h rfl (Hd.buildA (e := 47) (sz := 3) (zs := [.int .u32 0, .int .i64 0, .int .i64 0]) (by kernel_rfl) (by kernel_rfl) (by kernel_rfl) rfl rfl (by rfl) (by kernel_rfl) fun b33 => ⟨_, rfl, ?_⟩)
        refine WL.h rfl (Hd.appendRow (e := 47) (sz := 3) (bytes := 24) (zs := [.int .u32 0, .int .i64 0, .int .i64 0]) (by kernel_rfl) (by kernel_rfl) rfl (by omega) rfl rfl (ho) (by repeat (first | exact Sp.here | exact Sp.sn | exact Sp.s0 | exact Fr.here | apply Sp.s2 | apply Sp.sx | apply Fr.fc | apply Fr.al | apply Fr.fa | apply Sp.sc | apply Sp.al | apply Sp.sa)) (by repeat (first | exact List.mem_cons_self | apply List.mem_cons_of_mem | apply List.mem_append_right)) (by rfl) (by repeat (first | exact fun _ h => absurd h List.not_mem_nil | refine List.forall_mem_cons.2 ⟨by first | rfl | assumption, ?_⟩)) (by simp only [maxLen]; omega) (by omega) fun v2 C2 h2 => ⟨_, rfl, ?_⟩)
        refine WL.y rfl (Yd.assign rfl) ?_
        refine WL.nil ?_
        refine DN.block_normal ?_
        refine DN.then_normal ?_
        refine WC.region ?_
        refine WL.y rfl (Yd.move rfl) ?_
        refine WL.y rfl (Yd.add rfl rfl (by omega) (by omega)) ?_
        refine WL.y rfl (Yd.assign rfl) ?_
        refine WL.nil ?_
        exact DN.againS (⟨i + 1, v2, C2⟩) (show (i + 1) ≤ L.length ∧ Own v2 ((L.take (i + 1)).eraseIdx q).length (((L.take (i + 1)).eraseIdx q).flatMap encB) 47 3 C2 from ⟨by omega, by rw [erase_skip L i q hlt (by omega), List.flatMap_append, List.length_append]; simpa using h2⟩) (show L.length - (i + 1) < L.length - i by omega) (Sx.put rfl (Sx.put rfl ((by repeat (first | exact Sx.refl | refine Sx.skip rfl ?_))))) (by repeat (first | exact Sp.here | exact Sp.sn | exact Sp.s0 | exact Fr.here | apply Sp.s2 | apply Sp.sx | apply Fr.fc | apply Fr.al | apply Fr.fa | apply Sp.sc | apply Sp.al | apply Sp.sa))
      · refine WC.skip ?_
        refine DN.block_normal ?_
        refine DN.then_normal ?_
        refine WC.region ?_
        refine WL.y rfl (Yd.move rfl) ?_
        refine WL.y rfl (Yd.add rfl rfl (by omega) (by omega)) ?_
        refine WL.y rfl (Yd.assign rfl) ?_
        refine WL.nil ?_
        exact DN.againS (⟨i + 1, .slice oo ((L.take i).eraseIdx q).length oc, Co⟩) (show (i + 1) ≤ L.length ∧ Own (.slice oo ((L.take i).eraseIdx q).length oc) ((L.take (i + 1)).eraseIdx q).length (((L.take (i + 1)).eraseIdx q).flatMap encB) 47 3 Co from ⟨by omega, by obtain rfl : i = q := (by omega); rw [erase_here L i hlt]; exact ho⟩) (show L.length - (i + 1) < L.length - i by omega) (Sx.put rfl (Sx.put rfl ((by repeat (first | exact Sx.refl | refine Sx.skip rfl ?_))))) (by repeat (first | exact Sp.here | exact Sp.sn | exact Sp.s0 | exact Fr.here | apply Sp.s2 | apply Sp.sx | apply Fr.fc | apply Fr.al | apply Fr.fa | apply Sp.sc | apply Sp.al | apply Sp.sa))
    · obtain rfl : i = L.length := by omega
      refine WC.exit ?_
      refine DN.then_exit ?_
      refine DN.then_exit ?_
      refine DN.block_exit ?_
      refine DN.then_normal ?_
      refine WC.seq ?_
      refine WC.region ?_
      refine WL.y rfl (Yd.move rfl) ?_
      refine WL.y rfl (Yd.move rfl) ?_
      refine WL.y rfl (Yd.notNil rfl) ?_
      refine WL.y rfl (Yd.fieldAddr (k := 1) (by kernel_rfl) rfl) ?_
      refine WL.s (Hd.store1s (by kernel_rfl) rfl rfl (by rfl) (by repeat (first | exact Fr.here | apply Fr.fc | apply Fr.al | apply Fr.fa)) (by rfl) (by first | (simp only [List.set_cons_zero, List.set_cons_succ, Nat.zero_add, Nat.add_zero, Nat.reduceAdd]; rfl) | rfl) ⟨rfl, ?_⟩)
      refine WL.nil ?_
      refine DN.then_normal ?_
      refine WC.seq ?_
      refine WC.region ?_
      refine WL.y rfl (Yd.assign rfl) ?_
      refine WL.nil ?_
      refine DN.then_normal ?_
      refine WC.ret ?_
      first | refine DN.fit (C := row p [.slice fo fs.length fc, .slice oo ((L.take L.length).eraseIdx q).length oc] 58 :: (Cf ++ Co)) (by repeat (first | exact Sp.here | exact Sp.sn | exact Sp.s0 | exact Fr.here | apply Sp.s2 | apply Sp.sx | apply Fr.fc | apply Fr.al | apply Fr.fa | apply Sp.sc | apply Sp.al | apply Sp.sa)) ?_ | skip
      refine DN.ret1 Try.results18 rfl ?_
      first
        | (rw [hnone]
           exact ⟨rfl, h0⟩)
        | (rw [List.take_length] at ho ⊢
           rw [hfq]
           refine ⟨rfl, _, _, Cf, Co, rfl, hf, ?_⟩
           have e : listC L (some L[q]) o = L.eraseIdx q := by
             rw [erase_at hn hq, ← hoq]; rfl
           rw [e]
           exact ho)

end Go.Proofs.Ytmdbmcicbambjaa
