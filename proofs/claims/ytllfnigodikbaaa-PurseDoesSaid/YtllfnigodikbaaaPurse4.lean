/-
  The walks of a purse that is not there, of the chapter's example, of PurseMost and PurseWays.
-/
import Derived.Test.YtllfnigodikbaaaPurse3
import Derived.Test.YtllfnigodikbaaaPurseLaw2
set_option linter.unusedVariables false
set_option linter.unusedSimpArgs false
set_option maxHeartbeats 4000000
namespace Go.Proofs.Ytllfnigodikbaaa
open Go.SL
theorem idx_of (w : Int) (n : Nat) (h : 0 < n) (hn : n ≤ 50) : ((BitVec.ofInt 64 (n : Int)).toNat ≠ 0) ∧ ∃ i : Nat, i < n ∧ (((BitVec.ofInt 64 w % BitVec.ofInt 64 (n : Int)).toNat : Nat) : Int) = (i : Int) := by
  have e : (BitVec.ofInt 64 (n : Int)).toNat = n := by
    rw [BitVec.toNat_ofInt]; omega
  refine ⟨by omega, _, ?_, rfl⟩
  rw [BitVec.toNat_umod, e]
  exact Nat.mod_lt _ h


/-- (*drayage/purse.Purse).Authorise -/
theorem auth_nil (o : BitVec 32) (nm : ByteArray) (n : Int) (H : List Ck) : Reads Try.prog 24 [.pointer none, .int .u32 o.toNat, .string nm, .int .i64 n] H (.int .i64 2) := by
  refine Tells.enter Try.func24 rfl Try.ntmps24 rfl ?_
  intro w0 R
  refine WC.seq ?_
  refine WC.region ?_
  refine WL.y rfl (Yd.assign rfl) ?_
  refine WL.nil ?_
  refine DN.then_normal ?_
  refine WC.seq ?_
  refine WC.seq ?_
  refine WC.region ?_
  refine WL.y rfl (Yd.move rfl) ?_
  refine WL.y rfl (Yd.eqlNil Try.underlying26 rfl rfl) ?_
  refine WL.renamed (t := 13) (v := .bool true) rfl (congrArg Value.bool (rfl)) ?_
  refine WL.y rfl (Yd.move rfl) ?_
  refine WL.gn (dj := 14) rfl rfl rfl rfl ?_
  refine WL.gn (dj := 14) rfl rfl rfl rfl ?_
  refine WL.y rfl (Yd.pickT rfl rfl) ?_
  refine WL.y rfl (Yd.move rfl) ?_
  refine WL.gn (dj := 18) rfl rfl rfl rfl ?_
  refine WL.gn (dj := 18) rfl rfl rfl rfl ?_
  refine WL.y rfl (Yd.pickT rfl rfl) ?_
  refine WL.nil ?_
  refine DN.then_normal ?_
  refine WC.yes rfl ?_
  refine WC.seq ?_
  refine WC.region ?_
  refine WL.y rfl (Yd.assign rfl) ?_
  refine WL.nil ?_
  refine DN.then_normal ?_
  refine WC.ret ?_
  refine DN.then_ret ?_
  refine DN.ret1 Try.results24 rfl ?_
  exact ⟨rfl, rfl⟩

/-- (*drayage/purse.Purse).turn -/
theorem turn_nil (o : BitVec 32) (s t dm dh : Int) (H : List Ck) : Reads Try.prog 36 [.pointer none, .int .u32 o.toNat, .int .i64 s, .int .i64 t, .int .i64 dm, .int .i64 dh] H (.int .i64 2) := by
  refine Tells.enter Try.func36 rfl Try.ntmps36 rfl ?_
  intro w0 R
  refine WC.seq ?_
  refine WC.region ?_
  refine WL.y rfl (Yd.assign rfl) ?_
  refine WL.nil ?_
  refine DN.then_normal ?_
  refine WC.seq ?_
  refine WC.seq ?_
  refine WC.region ?_
  refine WL.y rfl (Yd.move rfl) ?_
  refine WL.y rfl (Yd.eqlNil Try.underlying26 rfl rfl) ?_
  refine WL.renamed (t := 17) (v := .bool true) rfl (congrArg Value.bool (rfl)) ?_
  refine WL.nil ?_
  refine DN.then_normal ?_
  refine WC.yes rfl ?_
  refine WC.seq ?_
  refine WC.region ?_
  refine WL.y rfl (Yd.assign rfl) ?_
  refine WL.nil ?_
  refine DN.then_normal ?_
  refine WC.ret ?_
  refine DN.then_ret ?_
  refine DN.ret1 Try.results36 rfl ?_
  exact ⟨rfl, rfl⟩

/-- (*drayage/purse.Purse).Capture -/
theorem capture_nil (o : BitVec 32) (H : List Ck) : Reads Try.prog 26 [.pointer none, .int .u32 o.toNat] H (.int .i64 2) := by
  refine Tells.enter Try.func26 rfl Try.ntmps26 rfl ?_
  intro w0 R
  refine WC.seq ?_
  refine WC.region ?_
  refine WL.y rfl (Yd.assign rfl) ?_
  refine WL.nil ?_
  refine DN.then_normal ?_
  refine WC.seq ?_
  refine WC.region ?_
  refine WL.y rfl (Yd.move rfl) ?_
  refine WL.y rfl (Yd.move rfl) ?_
  refine WL.r rfl (Ent.func Try.call36 rfl) (turn_nil o 1 2 (-1) (-1) _) ?_
  refine WL.y rfl (Yd.assign rfl) ?_
  refine WL.nil ?_
  refine DN.then_normal ?_
  refine WC.ret ?_
  refine DN.ret1 Try.results26 rfl ?_
  exact ⟨rfl, rfl⟩

/-- (*drayage/purse.Purse).Void -/
theorem void_nil (o : BitVec 32) (H : List Ck) : Reads Try.prog 27 [.pointer none, .int .u32 o.toNat] H (.int .i64 2) := by
  refine Tells.enter Try.func27 rfl Try.ntmps27 rfl ?_
  intro w0 R
  refine WC.seq ?_
  refine WC.region ?_
  refine WL.y rfl (Yd.assign rfl) ?_
  refine WL.nil ?_
  refine DN.then_normal ?_
  refine WC.seq ?_
  refine WC.region ?_
  refine WL.y rfl (Yd.move rfl) ?_
  refine WL.y rfl (Yd.move rfl) ?_
  refine WL.r rfl (Ent.func Try.call36 rfl) (turn_nil o 1 3 0 (-1) _) ?_
  refine WL.y rfl (Yd.assign rfl) ?_
  refine WL.nil ?_
  refine DN.then_normal ?_
  refine WC.ret ?_
  refine DN.ret1 Try.results27 rfl ?_
  exact ⟨rfl, rfl⟩

/-- (*drayage/purse.Purse).Refund -/
theorem refund_nil (o : BitVec 32) (H : List Ck) : Reads Try.prog 25 [.pointer none, .int .u32 o.toNat] H (.int .i64 2) := by
  refine Tells.enter Try.func25 rfl Try.ntmps25 rfl ?_
  intro w0 R
  refine WC.seq ?_
  refine WC.region ?_
  refine WL.y rfl (Yd.assign rfl) ?_
  refine WL.nil ?_
  refine DN.then_normal ?_
  refine WC.seq ?_
  refine WC.region ?_
  refine WL.y rfl (Yd.move rfl) ?_
  refine WL.y rfl (Yd.move rfl) ?_
  refine WL.r rfl (Ent.func Try.call36 rfl) (turn_nil o 2 3 1 0 _) ?_
  refine WL.y rfl (Yd.assign rfl) ?_
  refine WL.nil ?_
  refine DN.then_normal ?_
  refine WC.ret ?_
  refine DN.ret1 Try.results25 rfl ?_
  exact ⟨rfl, rfl⟩

/-- (*drayage/purse.Purse).Accounts -/
theorem accs_nil (H : List Ck) : Reads Try.prog 16 [.pointer none] H (.slice none 0 0) := by
  refine Tells.enter Try.func16 rfl Try.ntmps16 rfl ?_
  intro w0 R
  refine WC.seq ?_
  refine WC.region ?_
  refine WL.y rfl (Yd.assign rfl) ?_
  refine WL.nil ?_
  refine DN.then_normal ?_
  refine WC.seq ?_
  refine WC.seq ?_
  refine WC.region ?_
  refine WL.y rfl (Yd.move rfl) ?_
  refine WL.y rfl (Yd.eqlNil Try.underlying26 rfl rfl) ?_
  refine WL.renamed (t := 7) (v := .bool true) rfl (congrArg Value.bool (rfl)) ?_
  refine WL.nil ?_
  refine DN.then_normal ?_
  refine WC.yes rfl ?_
  refine WC.seq ?_
  refine WC.region ?_
  refine WL.y rfl (Yd.assign rfl) ?_
  refine WL.nil ?_
  refine DN.then_normal ?_
  refine WC.ret ?_
  refine DN.then_ret ?_
  refine DN.ret1 Try.results16 rfl ?_
  exact ⟨rfl, rfl⟩

/-- (*drayage/purse.Purse).Pays -/
theorem pays_nil (H : List Ck) : Reads Try.prog 17 [.pointer none] H (.slice none 0 0) := by
  refine Tells.enter Try.func17 rfl Try.ntmps17 rfl ?_
  intro w0 R
  refine WC.seq ?_
  refine WC.region ?_
  refine WL.y rfl (Yd.assign rfl) ?_
  refine WL.nil ?_
  refine DN.then_normal ?_
  refine WC.seq ?_
  refine WC.seq ?_
  refine WC.region ?_
  refine WL.y rfl (Yd.move rfl) ?_
  refine WL.y rfl (Yd.eqlNil Try.underlying26 rfl rfl) ?_
  refine WL.renamed (t := 7) (v := .bool true) rfl (congrArg Value.bool (rfl)) ?_
  refine WL.nil ?_
  refine DN.then_normal ?_
  refine WC.yes rfl ?_
  refine WC.seq ?_
  refine WC.region ?_
  refine WL.y rfl (Yd.assign rfl) ?_
  refine WL.nil ?_
  refine DN.then_normal ?_
  refine WC.ret ?_
  refine DN.then_ret ?_
  refine DN.ret1 Try.results17 rfl ?_
  exact ⟨rfl, rfl⟩

/-- (*drayage/purse.Purse).Taken -/
theorem taken_nil (H : List Ck) : Reads Try.prog 22 [.pointer none] H (.int .i64 0) := by
  refine Tells.enter Try.func22 rfl Try.ntmps22 rfl ?_
  intro w0 R
  refine WC.seq ?_
  refine WC.region ?_
  refine WL.y rfl (Yd.assign rfl) ?_
  refine WL.nil ?_
  refine DN.then_normal ?_
  refine WC.seq ?_
  refine WC.region ?_
  refine WL.y rfl (Yd.assign rfl) ?_
  refine WL.nil ?_
  refine DN.then_normal ?_
  refine WC.seq ?_
  refine WC.seq ?_
  refine WC.region ?_
  refine WL.y rfl (Yd.move rfl) ?_
  refine WL.r rfl (Ent.func Try.call17 rfl) (pays_nil _) ?_
  refine WL.y rfl (Yd.len (e := 48) (by kernel_rfl) rfl) ?_
  refine WL.y rfl (Yd.move rfl) ?_
  refine WL.nil ?_
  refine DN.then_normal ?_
  refine WC.block ?_
  refine WC.loopS (fun z : Nat => z = 0) (fun z : Nat => [(9, .int .i64 (z : Int))]) (fun z : Nat => H) (fun z : Nat => 0 - z) (0) (show 0 = 0 from rfl) (Sx.put rfl ((by repeat (first | exact Sx.refl | refine Sx.skip rfl ?_)))) (by repeat (first | exact Sp.here | exact Sp.sn | exact Sp.s0 | exact Fr.here | apply Sp.s2 | apply Sp.sx | apply Fr.fc | apply Fr.al | apply Fr.fa | apply Sp.sc | apply Sp.al | apply Sp.sa)) ?_
  rintro j hI
  replace hI : j = 0 := hI
  obtain hj := hI
  change WC _ _ _ _ _ _ ([(9, .int .i64 (j : Int))] ++ _) (H)
  refine WC.seq ?_
  refine WC.region ?_
  refine WL.y rfl (Yd.lss rfl rfl) ?_
  refine WL.renamed (t := 10) (v := .bool false) rfl (congrArg Value.bool (decide_eq_false (by omega))) ?_
  refine WL.nil ?_
  refine DN.then_normal ?_
  refine WC.seq ?_
  refine WC.no rfl ?_
  refine WC.exit ?_
  refine DN.then_exit ?_
  refine DN.then_exit ?_
  refine DN.block_exit ?_
  refine DN.then_normal ?_
  refine WC.seq ?_
  refine WC.region ?_
  refine WL.y rfl (Yd.move rfl) ?_
  refine WL.y rfl (Yd.assign rfl) ?_
  refine WL.nil ?_
  refine DN.then_normal ?_
  refine WC.ret ?_
  refine DN.ret1 Try.results22 rfl ?_
  exact ⟨rfl, rfl⟩

/-- drayage/drayagelaw10.known -/
theorem known10 (H : List Ck) : Reads Try.prog 10 [] H (.bool true) := by
  refine Tells.enter Try.func10 rfl Try.ntmps10 rfl ?_
  intro w0 R
  refine WC.seq ?_
  refine WC.region ?_
  refine WL.y rfl (Yd.assign rfl) ?_
  refine WL.nil ?_
  refine DN.then_normal ?_
  refine WC.seq ?_
  refine WC.region ?_
  refine WL.y rfl (Yd.buildL (pl := [(0, 1), (1, 1), (2, 1)]) (zs := [.string ⟨#[]⟩, .int .i64 0, .int .i64 0]) (parts := [(0, .const (.string ⟨#[97, 110, 110]⟩)), (1, .const (.int .i64 10))]) (vs := [(0, _), (1, _)]) (cells := [_, _, .int .i64 0]) (by kernel_rfl) (by kernel_rfl) rfl rfl) ?_
  refine WL.h rfl (Hd.buildA (e := 46) (sz := 3) (zs := [.string ⟨#[]⟩, .int .i64 0, .int .i64 0]) (by kernel_rfl) (by kernel_rfl) (by kernel_rfl) rfl rfl (by rfl) (by kernel_rfl) fun b14 => ⟨_, rfl, ?_⟩)
  refine WL.ca rfl (Ent.func Try.call11 rfl) (new_tells _ pn0 _ (.inr ⟨b14, 0, 1, pn0.flatMap cellsU, 46, (0, 0), true, rfl, Nat.le_refl _, List.mem_cons_self, rfl⟩) (by decide)) ?_
  rintro q H1 hq
  obtain ⟨p, C1, rfl, h1, rfl⟩ := new_inP hq pn_good
  have inv1 := PInv.start pn_good
  refine WL.y rfl (Yd.move rfl) ?_
  refine WL.y rfl (Yd.extract rfl rfl) ?_
  refine WL.y rfl (Yd.extract rfl rfl) ?_
  refine WL.y rfl (Yd.assign rfl) ?_
  refine WL.y rfl (Yd.assign rfl) ?_
  refine WL.nil ?_
  refine DN.then_normal ?_
  refine WC.seq ?_
  refine WC.seq ?_
  refine WC.region ?_
  refine WL.y rfl (Yd.move rfl) ?_
  refine WL.y rfl (Yd.neq rfl rfl) ?_
  refine WL.renamed (t := 19) (v := .bool false) rfl (congrArg Value.bool (by decide)) ?_
  refine WL.y rfl (Yd.move rfl) ?_
  refine WL.gy (dj := 20) rfl rfl rfl (Yd.move rfl) ?_
  refine WL.gy (dj := 20) rfl rfl rfl (Yd.eqlNil Try.underlying26 rfl rfl) ?_
  refine WL.renamed (t := 22) (v := .bool false) rfl (congrArg Value.bool (rfl)) ?_
  refine WL.y rfl (Yd.pickF rfl rfl) ?_
  refine WL.nil ?_
  refine DN.then_normal ?_
  refine WC.no rfl ?_
  refine WC.skip ?_
  refine DN.then_normal ?_
  refine WC.seq ?_
  refine WC.region ?_
  refine WL.y rfl (Yd.move rfl) ?_
  refine WL.c rfl (Ent.func Try.call24 rfl) (auth_tells p pn0 pn0 [] C1 h1 inv1 1#32 ⟨#[97, 110, 110]⟩ 7) (Sp.p (by repeat (first | exact Sp.here | exact Sp.sn | exact Sp.s0 | exact Fr.here | apply Sp.s2 | apply Sp.sx | apply Fr.fc | apply Fr.al | apply Fr.fa | apply Sp.sc | apply Sp.al | apply Sp.sa))) ?_
  rintro q C2 ⟨rfl, h2⟩
  have inv2 := inv1.auth 1#32 ⟨#[97, 110, 110]⟩ 7
  rw [pn_a.2.1, pn_a.2.2] at h2 inv2
  rw [pn_a.1]
  refine WL.y rfl (Yd.assign rfl) ?_
  refine WL.nil ?_
  refine DN.then_normal ?_
  refine WC.seq ?_
  refine WC.region ?_
  refine WL.y rfl (Yd.move rfl) ?_
  refine WL.c rfl (Ent.func Try.call24 rfl) (auth_tells p pn0 pn1 pl1 C2 h2 inv2 2#32 ⟨#[97, 110, 110]⟩ 4) (Sp.p (by repeat (first | exact Sp.here | exact Sp.sn | exact Sp.s0 | exact Fr.here | apply Sp.s2 | apply Sp.sx | apply Fr.fc | apply Fr.al | apply Fr.fa | apply Sp.sc | apply Sp.al | apply Sp.sa))) ?_
  rintro q C3 ⟨rfl, h3⟩
  rw [(auth_no pn_b).1, (auth_no pn_b).2] at h3
  rw [pn_b]
  refine WL.y rfl (Yd.assign rfl) ?_
  refine WL.nil ?_
  refine DN.then_normal ?_
  refine WC.seq ?_
  refine WC.region ?_
  refine WL.y rfl (Yd.move rfl) ?_
  refine WL.c rfl (Ent.func Try.call26 rfl) (capture_tells p pn0 pn1 pl1 C3 h3 inv2 1#32) (Sp.p (by repeat (first | exact Sp.here | exact Sp.sn | exact Sp.s0 | exact Fr.here | apply Sp.s2 | apply Sp.sx | apply Fr.fc | apply Fr.al | apply Fr.fa | apply Sp.sc | apply Sp.al | apply Sp.sa))) ?_
  rintro q C4 ⟨rfl, h4⟩
  have inv4 := inv2.turn 1#32 1 2 (-1) (-1) (by unfold turnOk; decide)
  rw [pn_c.2.1, pn_c.2.2] at h4 inv4
  rw [pn_c.1]
  refine WL.y rfl (Yd.assign rfl) ?_
  refine WL.nil ?_
  refine DN.then_normal ?_
  refine WC.seq ?_
  refine WC.region ?_
  refine WL.y rfl (Yd.move rfl) ?_
  refine WL.c rfl (Ent.func Try.call16 rfl) (accs_tells p pn2 pl2 C4 h4 (by decide)) (Sp.p (by repeat (first | exact Sp.here | exact Sp.sn | exact Sp.s0 | exact Fr.here | apply Sp.s2 | apply Sp.sx | apply Fr.fc | apply Fr.al | apply Fr.fa | apply Sp.sc | apply Sp.al | apply Sp.sa))) ?_
  rintro q C5 ⟨S, Cs, hT, ho, rfl⟩
  obtain rfl := told_sameU (by decide) (told_one ⟨⟨#[97, 110, 110]⟩, 3, 0⟩) hT
  obtain ⟨uo, uc, rfl, _⟩ := ho.form
  obtain ⟨ub, uf, us, uT, ufr, uex, rfl, _, hum, hus⟩ := ho.rs.lies (by decide)
  refine WL.y rfl (Yd.assign rfl) ?_
  refine WL.nil ?_
  refine DN.then_normal ?_
  refine WC.seq ?_
  refine WC.region ?_
  refine WL.y rfl (Yd.move rfl) ?_
  refine WL.rf rfl (Ent.func Try.call22 rfl) (taken_reads p pn0 pn2 pl2 C4 h4 inv4 (by decide)) (by repeat (first | exact Sp.here | exact Sp.sn | exact Sp.s0 | exact Fr.here | apply Sp.s2 | apply Sp.sx | apply Fr.fc | apply Fr.al | apply Fr.fa | apply Sp.sc | apply Sp.al | apply Sp.sa)) ?_
  refine WL.y rfl (Yd.assign rfl) ?_
  refine WL.nil ?_
  refine DN.then_normal ?_
  refine WC.seq ?_
  refine WC.region ?_
  refine WL.y rfl (Yd.move rfl) ?_
  refine WL.c rfl (Ent.func Try.call25 rfl) (refund_tells p pn0 pn2 pl2 C4 h4 inv4 1#32) (Sp.p (by repeat (first | exact Sp.here | exact Sp.sn | exact Sp.s0 | exact Fr.here | apply Sp.s2 | apply Sp.sx | apply Fr.fc | apply Fr.al | apply Fr.fa | apply Sp.sc | apply Sp.al | apply Sp.sa))) ?_
  rintro q C6 ⟨rfl, h6⟩
  have inv6 := inv4.turn 1#32 2 3 1 0 (by unfold turnOk; decide)
  rw [pn_d.2.1, pn_d.2.2] at h6 inv6
  rw [pn_d.1]
  refine WL.y rfl (Yd.assign rfl) ?_
  refine WL.nil ?_
  refine DN.then_normal ?_
  refine WC.seq ?_
  refine WC.region ?_
  refine WL.y rfl (Yd.move rfl) ?_
  refine WL.c rfl (Ent.func Try.call25 rfl) (refund_tells p pn0 pn0 pl3 C6 h6 inv6 1#32) (Sp.p (by repeat (first | exact Sp.here | exact Sp.sn | exact Sp.s0 | exact Fr.here | apply Sp.s2 | apply Sp.sx | apply Fr.fc | apply Fr.al | apply Fr.fa | apply Sp.sc | apply Sp.al | apply Sp.sa))) ?_
  rintro q C7 ⟨rfl, h7⟩
  rw [(turn_no 3 1 0 pn_e).1, (turn_no (K := pn0) 3 1 0 pn_e).2] at h7
  rw [pn_e]
  refine WL.y rfl (Yd.assign rfl) ?_
  refine WL.nil ?_
  refine DN.then_normal ?_
  refine WC.seq ?_
  refine WC.region ?_
  refine WL.y rfl (Yd.move rfl) ?_
  refine WL.c rfl (Ent.func Try.call24 rfl) (auth_tells p pn0 pn0 pl3 C7 h7 inv6 1#32 ⟨#[97, 110, 110]⟩ 1) (Sp.p (by repeat (first | exact Sp.here | exact Sp.sn | exact Sp.s0 | exact Fr.here | apply Sp.s2 | apply Sp.sx | apply Fr.fc | apply Fr.al | apply Fr.fa | apply Sp.sc | apply Sp.al | apply Sp.sa))) ?_
  rintro q C8 ⟨rfl, h8⟩
  rw [(auth_no pn_f).1, (auth_no pn_f).2] at h8
  rw [pn_f]
  refine WL.y rfl (Yd.assign rfl) ?_
  refine WL.nil ?_
  refine DN.then_normal ?_
  refine WC.seq ?_
  refine WC.region ?_
  refine WL.y rfl (Yd.move rfl) ?_
  refine WL.c rfl (Ent.func Try.call16 rfl) (accs_tells p pn0 pl3 C8 h8 (by decide)) (Sp.p (by repeat (first | exact Sp.here | exact Sp.sn | exact Sp.s0 | exact Fr.here | apply Sp.s2 | apply Sp.sx | apply Fr.fc | apply Fr.al | apply Fr.fa | apply Sp.sc | apply Sp.al | apply Sp.sa))) ?_
  rintro q C9 ⟨S9, Cs9, hT9, ho9, rfl⟩
  obtain rfl := told_sameU (by decide) (told_one ⟨⟨#[97, 110, 110]⟩, 10, 0⟩) hT9
  obtain ⟨vo, vc, rfl, _⟩ := ho9.form
  obtain ⟨vb, vf, vs, vT, vfr, vex, rfl, _, hvm, hvs⟩ := ho9.rs.lies (by decide)
  refine WL.y rfl (Yd.assign rfl) ?_
  refine WL.nil ?_
  refine DN.then_normal ?_
  refine WC.seq ?_
  refine WC.region ?_
  refine WL.y rfl (Yd.move rfl) ?_
  refine WL.y rfl (Yd.eql rfl rfl) ?_
  refine WL.renamed (t := 43) (v := .bool true) rfl (congrArg Value.bool (by kernel_rfl)) ?_
  refine WL.y rfl (Yd.move rfl) ?_
  refine WL.gy (dj := 44) rfl rfl rfl (Yd.move rfl) ?_
  refine WL.gy (dj := 44) rfl rfl rfl (Yd.eql rfl rfl) ?_
  refine WL.renamed (t := 46) (v := .bool true) rfl (congrArg Value.bool (by kernel_rfl)) ?_
  refine WL.y rfl (Yd.pickT rfl rfl) ?_
  refine WL.y rfl (Yd.move rfl) ?_
  refine WL.gy (dj := 48) rfl rfl rfl (Yd.move rfl) ?_
  refine WL.gy (dj := 48) rfl rfl rfl (Yd.eql rfl rfl) ?_
  refine WL.renamed (t := 50) (v := .bool true) rfl (congrArg Value.bool (by kernel_rfl)) ?_
  refine WL.y rfl (Yd.pickT rfl rfl) ?_
  refine WL.y rfl (Yd.move rfl) ?_
  refine WL.gy (dj := 52) rfl rfl rfl (Yd.move rfl) ?_
  refine WL.gy (dj := 52) rfl rfl rfl (Yd.len (e := 46) (by kernel_rfl) rfl) ?_
  refine WL.gy (dj := 52) rfl rfl rfl (Yd.eql rfl rfl) ?_
  refine WL.renamed (t := 55) (v := .bool true) rfl (congrArg Value.bool (by kernel_rfl)) ?_
  refine WL.y rfl (Yd.pickT rfl rfl) ?_
  refine WL.y rfl (Yd.move rfl) ?_
  refine WL.gy (dj := 57) rfl rfl rfl (Yd.move rfl) ?_
  refine WL.gy (dj := 57) rfl rfl rfl (Yd.indexAddr (e := 46) (s := 3) (by kernel_rfl) (by kernel_rfl) rfl rfl (by decide) (by decide)) ?_
  refine WL.gy (dj := 57) rfl rfl rfl (Yd.fieldAddr (k := 1) (by kernel_rfl) rfl) ?_
  refine WL.gh (dj := 57) rfl rfl rfl (Hd.load1 (v := .int .i64 3) (b := ub) (o := uf + ((0 : Nat) : Int).toNat * 3 + 1) (cs := us) (by kernel_rfl) rfl (Gr.get (by repeat (first | exact Gr.refl | exact Gr.left Gr.refl | exact Gr.left (Gr.left Gr.refl) | exact Gr.left (Gr.app Gr.refl) | exact Gr.left (Gr.left (Gr.left Gr.refl)) | exact Gr.nil | exact Gr.app (Gr.left Gr.refl) | refine Gr.cons ?_ | refine Gr.app ?_ | refine Gr.both ?_ ?_ | refine Gr.put (by repeat (first | exact List.mem_cons_self | apply List.mem_cons_of_mem | apply List.mem_append_right)) ?_)) hum) (cell_atP (L := [⟨⟨#[97, 110, 110]⟩, 3, 0⟩]) cellsU_len hus (by decide) (by decide)) ⟨_, rfl, ?_⟩)
  refine WL.gy (dj := 57) rfl rfl rfl (Yd.eql rfl rfl) ?_
  refine WL.renamed (t := 62) (v := .bool true) rfl (congrArg Value.bool (by kernel_rfl)) ?_
  refine WL.y rfl (Yd.pickT rfl rfl) ?_
  refine WL.y rfl (Yd.move rfl) ?_
  refine WL.gy (dj := 64) rfl rfl rfl (Yd.move rfl) ?_
  refine WL.gy (dj := 64) rfl rfl rfl (Yd.eql rfl rfl) ?_
  refine WL.renamed (t := 66) (v := .bool true) rfl (congrArg Value.bool (by kernel_rfl)) ?_
  refine WL.y rfl (Yd.pickT rfl rfl) ?_
  refine WL.y rfl (Yd.move rfl) ?_
  refine WL.gy (dj := 68) rfl rfl rfl (Yd.move rfl) ?_
  refine WL.gy (dj := 68) rfl rfl rfl (Yd.eql rfl rfl) ?_
  refine WL.renamed (t := 70) (v := .bool true) rfl (congrArg Value.bool (by kernel_rfl)) ?_
  refine WL.y rfl (Yd.pickT rfl rfl) ?_
  refine WL.y rfl (Yd.move rfl) ?_
  refine WL.gy (dj := 72) rfl rfl rfl (Yd.move rfl) ?_
  refine WL.gy (dj := 72) rfl rfl rfl (Yd.eql rfl rfl) ?_
  refine WL.renamed (t := 74) (v := .bool true) rfl (congrArg Value.bool (by kernel_rfl)) ?_
  refine WL.y rfl (Yd.pickT rfl rfl) ?_
  refine WL.y rfl (Yd.move rfl) ?_
  refine WL.gy (dj := 76) rfl rfl rfl (Yd.move rfl) ?_
  refine WL.gy (dj := 76) rfl rfl rfl (Yd.eql rfl rfl) ?_
  refine WL.renamed (t := 78) (v := .bool true) rfl (congrArg Value.bool (by kernel_rfl)) ?_
  refine WL.y rfl (Yd.pickT rfl rfl) ?_
  refine WL.y rfl (Yd.move rfl) ?_
  refine WL.gy (dj := 80) rfl rfl rfl (Yd.move rfl) ?_
  refine WL.gy (dj := 80) rfl rfl rfl (Yd.indexAddr (e := 46) (s := 3) (by kernel_rfl) (by kernel_rfl) rfl rfl (by decide) (by decide)) ?_
  refine WL.gh (dj := 80) rfl rfl rfl (Hd.loadA (n := 3) (b := vb) (o := vf + ((0 : Nat) : Int).toNat * 3) (cs := vs) (vs := cellsU ⟨⟨#[97, 110, 110]⟩, 10, 0⟩) (by kernel_rfl) rfl (Gr.get (by repeat (first | exact Gr.refl | exact Gr.left Gr.refl | exact Gr.left (Gr.left Gr.refl) | exact Gr.left (Gr.app Gr.refl) | exact Gr.left (Gr.left (Gr.left Gr.refl)) | exact Gr.nil | exact Gr.app (Gr.left Gr.refl) | refine Gr.cons ?_ | refine Gr.app ?_ | refine Gr.both ?_ ?_ | refine Gr.put (by repeat (first | exact List.mem_cons_self | apply List.mem_cons_of_mem | apply List.mem_append_right)) ?_)) hvm) (cellsU_len _) (rs_cell hvs (by decide) (by rfl)) ⟨_, rfl, ?_⟩)
  refine WL.gy (dj := 80) rfl rfl rfl (Yd.buildL (pl := [(0, 1), (1, 1), (2, 1)]) (zs := [.string ⟨#[]⟩, .int .i64 0, .int .i64 0]) (parts := [(0, .const (.string ⟨#[97, 110, 110]⟩)), (1, .const (.int .i64 10))]) (vs := [(0, _), (1, _)]) (cells := [_, _, .int .i64 0]) (by kernel_rfl) (by kernel_rfl) rfl rfl) ?_
  refine WL.gy (dj := 80) rfl rfl rfl (Yd.eqlSt [1, 0, 0] (by kernel_rfl) rfl rfl (same_au ⟨⟨#[97, 110, 110]⟩, 10, 0⟩ ⟨⟨#[97, 110, 110]⟩, 10, 0⟩)) ?_
  refine WL.renamed (t := 85) (v := .bool true) rfl (congrArg Value.bool (by kernel_rfl)) ?_
  refine WL.y rfl (Yd.pickT rfl rfl) ?_
  refine WL.y rfl (Yd.move rfl) ?_
  refine WL.gy (dj := 87) rfl rfl rfl (Yd.move rfl) ?_
  refine WL.grf (dj := 87) rfl rfl rfl (Ent.func Try.call22 rfl) (taken_reads p pn0 pn0 pl3 C8 h8 inv6 (by decide)) (by repeat (first | exact Sp.here | exact Sp.sn | exact Sp.s0 | exact Fr.here | apply Sp.s2 | apply Sp.sx | apply Fr.fc | apply Fr.al | apply Fr.fa | apply Sp.sc | apply Sp.al | apply Sp.sa)) ?_
  refine WL.gy (dj := 87) rfl rfl rfl (Yd.eql rfl rfl) ?_
  refine WL.renamed (t := 90) (v := .bool true) rfl (congrArg Value.bool (by kernel_rfl)) ?_
  refine WL.y rfl (Yd.pickT rfl rfl) ?_
  refine WL.y rfl (Yd.assign rfl) ?_
  refine WL.nil ?_
  refine DN.then_normal ?_
  refine WC.ret ?_
  refine DN.fit (C := H) (by repeat (first | exact Sp.here | exact Sp.sn | exact Sp.s0 | exact Fr.here | apply Sp.s2 | apply Sp.sx | apply Fr.fc | apply Fr.al | apply Fr.fa | apply Sp.sc | apply Sp.al | apply Sp.sa)) ?_
  refine DN.ret1 Try.results10 rfl ?_
  exact ⟨rfl, rfl⟩

/-- drayage/drayagelaw10.PurseMost -/
theorem law_PurseMost (H : List Ck) (v : Value) (gs : List Au) (hv : Rs v gs.length (gs.flatMap cellsU) H) (hl : gs.length ≤ 9223372036854775807) (va : Value) (acts : List Aq) (hva : Rs va acts.length (acts.flatMap cellsQ) H) (hla : acts.length ≤ 9223372036854775807) (w : Int) : Reads Try.prog 7 [v, va, .int .i64 w] H (.bool true) := by
  refine Tells.enter Try.func7 rfl Try.ntmps7 rfl ?_
  intro w0 R
  obtain ⟨vo, vc, rfl, hvc⟩ := hv.form
  obtain ⟨ao, ac, rfl, hac⟩ := hva.form
  refine WC.seq ?_
  refine WC.region ?_
  refine WL.y rfl (Yd.assign rfl) ?_
  refine WL.nil ?_
  refine DN.then_normal ?_
  refine WC.seq ?_
  refine WC.seq ?_
  refine WC.region ?_
  refine WL.y rfl (Yd.move rfl) ?_
  refine WL.y rfl (Yd.move rfl) ?_
  refine WL.rf rfl (Ent.func Try.call9 rfl) (long_reads _ _ gs acts H hv hva hl hla) (by repeat (first | exact Sp.here | exact Sp.sn | exact Sp.s0 | exact Fr.here | apply Sp.s2 | apply Sp.sx | apply Fr.fc | apply Fr.al | apply Fr.fa | apply Sp.sc | apply Sp.al | apply Sp.sa)) ?_
  refine WL.nil ?_
  refine DN.then_normal ?_
  refine WC.cond rfl (fun h19 => ?_) (fun h19 => ?_)
  · refine WC.seq ?_
    refine WC.region ?_
    refine WL.r rfl (Ent.func Try.call10 rfl) (known10 _) ?_
    refine WL.y rfl (Yd.assign rfl) ?_
    refine WL.nil ?_
    refine DN.then_normal ?_
    refine WC.ret ?_
    refine DN.then_ret ?_
    refine DN.fit (C := H) (by repeat (first | exact Sp.here | exact Sp.sn | exact Sp.s0 | exact Fr.here | apply Sp.s2 | apply Sp.sx | apply Fr.fc | apply Fr.al | apply Fr.fa | apply Sp.sc | apply Sp.al | apply Sp.sa)) ?_
    refine DN.ret1 Try.results7 rfl ?_
    exact ⟨rfl, rfl⟩
  · refine WC.skip ?_
    refine DN.then_normal ?_
    refine WC.seq ?_
    rcases Classical.em (AccL gs) with hA | hA
    · refine WC.region ?_
      refine WL.y rfl (Yd.move rfl) ?_
      refine WL.ca rfl (Ent.func Try.call11 rfl) (new_tells _ gs H hv hl) ?_
      rintro q H1 hq
      first | (have inv1 := PInv.start hA; obtain ⟨p, C1, rfl, h1, rfl⟩ := new_inP hq hA) | (obtain ⟨rfl, hHq⟩ := new_outP hq hA; rw [hHq])
      refine WL.y rfl (Yd.move rfl) ?_
      refine WL.y rfl (Yd.extract rfl rfl) ?_
      refine WL.y rfl (Yd.extract rfl rfl) ?_
      refine WL.y rfl (Yd.assign rfl) ?_
      refine WL.y rfl (Yd.assign rfl) ?_
      refine WL.nil ?_
      refine DN.then_normal ?_
      refine WC.seq ?_
      refine WC.seq ?_
      refine WC.region ?_
      refine WL.y rfl (Yd.move rfl) ?_
      refine WL.y rfl (Yd.neq rfl rfl) ?_
      refine WL.renamed (t := 27) (v := .bool false) rfl (congrArg Value.bool (by decide)) ?_
      refine WL.y rfl (Yd.move rfl) ?_
      refine WL.gy (dj := 28) rfl rfl rfl (Yd.move rfl) ?_
      refine WL.gy (dj := 28) rfl rfl rfl (Yd.len (e := 46) (by kernel_rfl) rfl) ?_
      refine WL.gy (dj := 28) rfl rfl rfl (Yd.eql rfl rfl) ?_
      refine WL.y rfl (Yd.pickF rfl rfl) ?_
      refine WL.nil ?_
      refine DN.then_normal ?_
      refine WC.cond rfl (fun h32 => ?_) (fun h32 => ?_)
      · refine WC.seq ?_
        refine WC.region ?_
        refine WL.y rfl (Yd.move rfl) ?_
        refine WL.y rfl (Yd.eql rfl rfl) ?_
        refine WL.renamed (t := 34) (v := .bool true) rfl (congrArg Value.bool (by decide)) ?_
        refine WL.y rfl (Yd.move rfl) ?_
        refine WL.y rfl (Yd.neqNil Try.underlying26 rfl rfl) ?_
        refine WL.renamed (t := 36) (v := .bool true) rfl (congrArg Value.bool (rfl)) ?_
        refine WL.y rfl (Yd.eqlB Try.underlying4 rfl rfl) ?_
        refine WL.renamed (t := 37) (v := .bool true) rfl (congrArg Value.bool (by decide)) ?_
        refine WL.y rfl (Yd.move rfl) ?_
        refine WL.gr (dj := 38) rfl rfl rfl (Ent.func Try.call10 rfl) (known10 _) ?_
        refine WL.y rfl (Yd.pickT rfl rfl) ?_
        refine WL.y rfl (Yd.assign rfl) ?_
        refine WL.nil ?_
        refine DN.then_normal ?_
        refine WC.ret ?_
        refine DN.then_ret ?_
        refine DN.fit (C := H) (by repeat (first | exact Sp.here | exact Sp.sn | exact Sp.s0 | exact Fr.here | apply Sp.s2 | apply Sp.sx | apply Fr.fc | apply Fr.al | apply Fr.fa | apply Sp.sc | apply Sp.al | apply Sp.sa)) ?_
        refine DN.ret1 Try.results7 rfl ?_
        exact ⟨rfl, rfl⟩
      · have hne0 : gs.length ≠ 0 := by simp only [decide_eq_false_iff_not] at h32; omega
        refine WC.skip ?_
        refine DN.then_normal ?_
        refine WC.seq ?_
        refine WC.seq ?_
        refine WC.region ?_
        refine WL.y rfl (Yd.assign rfl) ?_
        refine WL.nil ?_
        refine DN.then_normal ?_
        refine WC.block ?_
        refine WC.loopS (fun z : Nat × List Au × List Py × List Ck => z.1 ≤ acts.length ∧ z.1 ≤ 60 ∧ z.2.2.1.length ≤ z.1 ∧ PsAt 57 p z.2.1 z.2.2.1 z.2.2.2 ∧ PInv gs z.2.1 z.2.2.1) (fun z : Nat × List Au × List Py × List Ck => [(9, .int .i64 (z.1 : Int))]) (fun z : Nat × List Au × List Py × List Ck => z.2.2.2 ++ H) (fun z : Nat × List Au × List Py × List Ck => acts.length - z.1) (⟨0, gs, [], C1⟩) (show 0 ≤ acts.length ∧ 0 ≤ 60 ∧ [].length ≤ 0 ∧ PsAt 57 p gs [] C1 ∧ PInv gs gs [] from ⟨Nat.zero_le _, Nat.zero_le _, Nat.zero_le _, h1, inv1⟩) (Sx.put rfl ((by repeat (first | exact Sx.refl | refine Sx.skip rfl ?_)))) (by repeat (first | exact Sp.here | exact Sp.sn | exact Sp.s0 | exact Fr.here | apply Sp.s2 | apply Sp.sx | apply Fr.fc | apply Fr.al | apply Fr.fa | apply Sp.sc | apply Sp.al | apply Sp.sa)) ?_
        rintro ⟨i, K1, L1, C2⟩ hI
        replace hI : i ≤ acts.length ∧ i ≤ 60 ∧ L1.length ≤ i ∧ PsAt 57 p K1 L1 C2 ∧ PInv gs K1 L1 := hI
        obtain ⟨hi, hi60, hcnt, h2, inv⟩ := hI
        change WC _ _ _ _ _ _ ([(9, .int .i64 (i : Int))] ++ _) (C2 ++ H)
        have hmany := inv.few2
        refine WC.seq ?_
        refine WC.seq ?_
        refine WC.region ?_
        refine WL.y rfl (Yd.move rfl) ?_
        refine WL.y rfl (Yd.move rfl) ?_
        refine WL.y rfl (Yd.len (e := 35) (by kernel_rfl) rfl) ?_
        refine WL.y rfl (Yd.lss rfl rfl) ?_
        refine WL.y rfl (Yd.move rfl) ?_
        refine WL.partP (t := 45) rfl (fun hg45 => ?_) (fun hg45 => ?_)
        · refine WL.gy (dj := 45) rfl rfl rfl (Yd.move rfl) ?_
          refine WL.gy (dj := 45) rfl rfl rfl (Yd.lss rfl rfl) ?_
          refine WL.y rfl (Yd.pickT rfl rfl) ?_
          refine WL.nil ?_
          refine DN.then_normal ?_
          refine WC.ite rfl (fun h48 => ?_) (fun h48 => ?_)
          · have hlt : i < acts.length := by omega
            refine WC.skip ?_
            refine DN.then_normal ?_
            refine WC.seq ?_
            refine WC.block ?_
            refine WC.region ?_
            refine WL.y rfl (Yd.move rfl) ?_
            refine WL.y rfl (Yd.move rfl) ?_
            refine WL.y rfl (Yd.move rfl) ?_
            refine WL.elemA (e := 35) (s := 4) (by kernel_rfl) (by kernel_rfl) (by kernel_rfl) rfl rfl (rfl) (hva.mono (by repeat (first | exact Gr.refl | exact Gr.left Gr.refl | exact Gr.left (Gr.left Gr.refl) | exact Gr.left (Gr.app Gr.refl) | exact Gr.left (Gr.left (Gr.left Gr.refl)) | exact Gr.nil | exact Gr.app (Gr.left Gr.refl) | refine Gr.cons ?_ | refine Gr.app ?_ | refine Gr.both ?_ ?_ | refine Gr.put (by repeat (first | exact List.mem_cons_self | apply List.mem_cons_of_mem | apply List.mem_append_right)) ?_))) (flat_row cellsQ 4 cellsQ_len acts i hlt) (by rfl) (by omega) (hlt) rfl rfl ?_
            intro p54
            refine WL.c rfl (Ent.func Try.call13 rfl) (act_tells p gs K1 L1 C2 h2 inv acts[i]) (Sp.p (by repeat (first | exact Sp.here | exact Sp.sn | exact Sp.s0 | exact Fr.here | apply Sp.s2 | apply Sp.sx | apply Fr.fc | apply Fr.al | apply Fr.fa | apply Sp.sc | apply Sp.al | apply Sp.sa))) ?_
            rintro q C3 ⟨rfl, h3⟩
            obtain ⟨inv3, hcnt3⟩ := inv.act acts[i]
            obtain ⟨K3, hK3⟩ : ∃ x, x = actKP K1 L1 acts[i] := ⟨_, rfl⟩
            obtain ⟨L3, hL3⟩ : ∃ x, x = actLP K1 L1 acts[i] := ⟨_, rfl⟩
            rw [← hK3, ← hL3] at h3 inv3
            rw [← hL3] at hcnt3
            have hmany3 := inv3.few2
            refine WL.nil ?_
            refine DN.block_normal ?_
            refine DN.then_normal ?_
            refine WC.region ?_
            refine WL.y rfl (Yd.move rfl) ?_
            refine WL.y rfl (Yd.add rfl rfl (by omega) (by omega)) ?_
            refine WL.y rfl (Yd.assign rfl) ?_
            refine WL.nil ?_
            exact DN.againS (⟨i + 1, K3, L3, C3⟩) (show (i + 1) ≤ acts.length ∧ (i + 1) ≤ 60 ∧ L3.length ≤ (i + 1) ∧ PsAt 57 p K3 L3 C3 ∧ PInv gs K3 L3 from ⟨by omega, by omega, by omega, h3, inv3⟩) (show acts.length - (i + 1) < acts.length - i by omega) (Sx.put rfl ((by repeat (first | exact Sx.refl | refine Sx.skip rfl ?_)))) (by repeat (first | exact Sp.here | exact Sp.sn | exact Sp.s0 | exact Fr.here | apply Sp.s2 | apply Sp.sx | apply Fr.fc | apply Fr.al | apply Fr.fa | apply Sp.sc | apply Sp.al | apply Sp.sa))
          · refine WC.exit ?_
            refine DN.then_exit ?_
            refine DN.then_exit ?_
            refine DN.block_exit ?_
            refine DN.then_normal ?_
            refine WC.seq ?_
            refine WC.region ?_
            refine WL.y rfl (Yd.move rfl) ?_
            refine WL.c rfl (Ent.func Try.call16 rfl) (accs_tells p K1 L1 C2 h2 (by omega)) (Sp.p (by repeat (first | exact Sp.here | exact Sp.sn | exact Sp.s0 | exact Fr.here | apply Sp.s2 | apply Sp.sx | apply Fr.fc | apply Fr.al | apply Fr.fa | apply Sp.sc | apply Sp.al | apply Sp.sa))) ?_
            rintro q C5 ⟨S5, Cs5, hT5, ho5, rfl⟩
            have hl5 := hT5.perm.length_eq
            obtain ⟨so5, sc5, rfl, _⟩ := ho5.form
            obtain ⟨ub, uf, us, uT, ufr, uex, rfl, _, hum, hus⟩ := ho5.rs.lies (by omega)
            obtain ⟨hne, ix, hi5, hix⟩ := idx_of w S5.length (by omega) (by omega)
            obtain ⟨x, hx⟩ : ∃ x, x = S5[ix] := ⟨_, rfl⟩
            have hxm : x ∈ S5 := hx ▸ List.getElem_mem hi5
            have hfr := told_acc inv.knd hT5 hxm
            have hgx := inv.moneys (hT5.perm.mem_iff.1 hxm)
            refine WL.y rfl (Yd.assign rfl) ?_
            refine WL.nil ?_
            refine DN.then_normal ?_
            refine WC.seq ?_
            refine WC.seq ?_
            refine WC.region ?_
            refine WL.y rfl (Yd.move rfl) ?_
            refine WL.y rfl (Yd.len (e := 46) (by kernel_rfl) rfl) ?_
            refine WL.y rfl (Yd.eql rfl rfl) ?_
            refine WL.renamed (t := 61) (v := .bool false) rfl (congrArg Value.bool (decide_eq_false (by omega))) ?_
            refine WL.nil ?_
            refine DN.then_normal ?_
            refine WC.no rfl ?_
            refine WC.skip ?_
            refine DN.then_normal ?_
            refine WC.seq ?_
            refine WC.region ?_
            refine WL.y rfl (Yd.move rfl) ?_
            refine WL.y rfl (Yd.move rfl) ?_
            refine WL.y rfl (Yd.to64 _ (by kernel_rfl) (by kernel_rfl) rfl rfl) ?_
            refine WL.y rfl (Yd.move rfl) ?_
            refine WL.y rfl (Yd.len (e := 46) (by kernel_rfl) rfl) ?_
            refine WL.y rfl (Yd.to64 _ (by kernel_rfl) (by kernel_rfl) rfl rfl) ?_
            refine WL.y rfl (Yd.rem64 _ _ rfl rfl rfl rfl hne) ?_
            refine WL.renamed (t := 68) (v := .int .u64 (ix : Int)) rfl (congrArg (Value.int .u64) hix) ?_
            refine WL.y rfl (Yd.toInt (by kernel_rfl) (by kernel_rfl) rfl (by omega) (by omega)) ?_
            refine WL.y rfl (Yd.indexAddr (e := 46) (s := 3) (by kernel_rfl) (by kernel_rfl) rfl rfl (by omega) (by omega)) ?_
            refine WL.h rfl (Hd.loadA (n := 3) (b := ub) (o := uf + (ix : Int).toNat * 3) (cs := us) (vs := cellsU x) (by kernel_rfl) rfl (Gr.get (by repeat (first | exact Gr.refl | exact Gr.left Gr.refl | exact Gr.left (Gr.left Gr.refl) | exact Gr.left (Gr.app Gr.refl) | exact Gr.left (Gr.left (Gr.left Gr.refl)) | exact Gr.nil | exact Gr.app (Gr.left Gr.refl) | refine Gr.cons ?_ | refine Gr.app ?_ | refine Gr.both ?_ ?_ | refine Gr.put (by repeat (first | exact List.mem_cons_self | apply List.mem_cons_of_mem | apply List.mem_append_right)) ?_)) hum) (cellsU_len _) (rs_cell hus (by rw [flat_len cellsU 3 cellsU_len]; omega) (by rw [hx]; exact flat_row cellsU 3 cellsU_len S5 ix (by omega))) ⟨_, rfl, ?_⟩)
            refine WL.h rfl (Hd.alloc (zs := [.string ⟨#[]⟩, .int .i64 0, .int .i64 0]) (by kernel_rfl) fun b11 => ⟨_, rfl, ?_⟩)
            refine WL.s (Hd.storeAll (n := 3) (by kernel_rfl) rfl rfl (by rfl) (by repeat (first | exact fun _ h => absurd h List.not_mem_nil | refine List.forall_mem_cons.2 ⟨by first | rfl | assumption, ?_⟩)) (by repeat (first | exact Fr.here | apply Fr.fc | apply Fr.al | apply Fr.fa)) (by rfl) ⟨rfl, ?_⟩)
            refine WL.nil ?_
            refine DN.then_normal ?_
            refine WC.seq ?_
            refine WC.region ?_
            refine WL.y rfl (Yd.assign (v := .int .u32 ((4000000000#32).toNat : Int)) rfl) ?_
            refine WL.nil ?_
            refine DN.then_normal ?_
            refine WC.seq ?_
            refine WC.block ?_
            refine WC.loopS (fun z : Nat => z ≤ 100 ∧ ∀ j, j < z → (findK Py.o L1 (bigO j)).isSome = true) (fun z : Nat => [(12, .int .u32 ((bigO z).toNat : Int))]) (fun z : Nat => row b11 (cellsU x) 46 :: (C2 ++ H)) (fun z : Nat => 100 - z) (0) (show 0 ≤ 100 ∧ ∀ j, j < 0 → (findK Py.o L1 (bigO j)).isSome = true from ⟨Nat.zero_le _, fun j hj => by omega⟩) (Sx.put rfl ((by repeat (first | exact Sx.refl | refine Sx.skip rfl ?_)))) (by repeat (first | exact Sp.here | exact Sp.sn | exact Sp.s0 | exact Fr.here | apply Sp.s2 | apply Sp.sx | apply Fr.fc | apply Fr.al | apply Fr.fa | apply Sp.sc | apply Sp.al | apply Sp.sa)) ?_
            rintro k hI
            replace hI : k ≤ 100 ∧ ∀ j, j < k → (findK Py.o L1 (bigO j)).isSome = true := hI
            obtain ⟨hk, hk2⟩ := hI
            change WC _ _ _ _ _ _ ([(12, .int .u32 ((bigO k).toNat : Int))] ++ _) (row b11 (cellsU x) 46 :: (C2 ++ H))
            refine WC.seq ?_
            refine WC.seq ?_
            refine WC.region ?_
            refine WL.y rfl (Yd.move rfl) ?_
            refine WL.c rfl (Ent.func Try.call17 rfl) (pays_tells p K1 L1 C2 h2 (by omega)) (Sp.p (by repeat (first | exact Sp.here | exact Sp.sn | exact Sp.s0 | exact Fr.here | apply Sp.s2 | apply Sp.sx | apply Fr.fc | apply Fr.al | apply Fr.fa | apply Sp.sc | apply Sp.al | apply Sp.sa))) ?_
            rintro q C6 ⟨T6, Ds6, hU6, hq6, rfl⟩
            have hm6 := hU6.perm.length_eq
            obtain ⟨to6, tc6, rfl, _⟩ := hq6.form
            refine WL.y rfl (Yd.move rfl) ?_
            refine WL.rf rfl (Ent.func Try.call28 rfl) (has_reads _ T6 (bigO k) Ds6 hq6.rs (by omega)) (by repeat (first | exact Sp.here | exact Sp.sn | exact Sp.s0 | exact Fr.here | apply Sp.s2 | apply Sp.sx | apply Fr.fc | apply Fr.al | apply Fr.fa | apply Sp.sc | apply Sp.al | apply Sp.sa)) ?_
            refine WL.nil ?_
            refine DN.then_normal ?_
            refine WC.cond rfl (fun h75 => ?_) (fun h75 => ?_)
            · rw [findK_permP inv.keys hU6.perm] at h75
              have hall : ∀ j, j < k + 1 → (findK Py.o L1 (bigO j)).isSome = true := fun j hj => by
                rcases Nat.lt_or_ge j k with h5 | h5
                · exact hk2 j h5
                · obtain rfl : j = k := by omega
                  exact h75
              have hfew := bigO_few (by omega) hall
              refine WC.skip ?_
              refine DN.then_normal ?_
              refine WC.block ?_
              refine WC.region ?_
              refine WL.y rfl (Yd.move rfl) ?_
              refine WL.y rfl (Yd.add32 (bigO k) (1#32) rfl rfl rfl rfl) ?_
              refine WL.renamed (t := 77) (v := .int .u32 ((bigO (k + 1)).toNat : Int)) rfl (congrArg (fun z : BitVec 32 => Value.int .u32 (z.toNat : Int)) (bigO_next (by omega))) ?_
              refine WL.y rfl (Yd.assign rfl) ?_
              refine WL.nil ?_
              refine DN.block_normal ?_
              exact DN.againS (k + 1) (show (k + 1) ≤ 100 ∧ ∀ j, j < (k + 1) → (findK Py.o L1 (bigO j)).isSome = true from ⟨by omega, hall⟩) (show 100 - (k + 1) < 100 - k by omega) (Sx.put rfl ((by repeat (first | exact Sx.refl | refine Sx.skip rfl ?_)))) (by repeat (first | exact Sp.here | exact Sp.sn | exact Sp.s0 | exact Fr.here | apply Sp.s2 | apply Sp.sx | apply Fr.fc | apply Fr.al | apply Fr.fa | apply Sp.sc | apply Sp.al | apply Sp.sa))
            · rw [findK_permP inv.keys hU6.perm] at h75
              have hnone : findK Py.o L1 (bigO k) = none := by simpa using h75
              refine WC.exit ?_
              refine DN.then_exit ?_
              refine DN.then_exit ?_
              refine DN.block_exit ?_
              refine DN.then_normal ?_
              refine WC.seq ?_
              refine WC.region ?_
              refine WL.y rfl (Yd.move rfl) ?_
              refine WL.y rfl (Yd.move rfl) ?_
              refine WL.y rfl (Yd.fieldAddr (k := 0) (by kernel_rfl) rfl) ?_
              refine WL.h rfl (Hd.load1 (by kernel_rfl) rfl (by repeat (first | exact List.mem_cons_self | apply List.mem_cons_of_mem | apply List.mem_append_right)) (by rfl) ⟨_, rfl, ?_⟩)
              refine WL.y rfl (Yd.fieldAddr (k := 1) (by kernel_rfl) rfl) ?_
              refine WL.h rfl (Hd.load1 (by kernel_rfl) rfl (by repeat (first | exact List.mem_cons_self | apply List.mem_cons_of_mem | apply List.mem_append_right)) (by rfl) ⟨_, rfl, ?_⟩)
              refine WL.y rfl (Yd.fieldAddr (k := 2) (by kernel_rfl) rfl) ?_
              refine WL.h rfl (Hd.load1 (by kernel_rfl) rfl (by repeat (first | exact List.mem_cons_self | apply List.mem_cons_of_mem | apply List.mem_append_right)) (by rfl) ⟨_, rfl, ?_⟩)
              refine WL.y rfl (Yd.sub rfl rfl (by omega) (by omega)) ?_
              refine WL.y rfl (Yd.add rfl rfl (by omega) (by omega)) ?_
              refine WL.c rfl (Ent.func Try.call24 rfl) (auth_tells p gs K1 L1 C2 h2 inv (bigO k) x.name (x.money - x.held + 1)) (Sp.p (by repeat (first | exact Sp.here | exact Sp.sn | exact Sp.s0 | exact Fr.here | apply Sp.s2 | apply Sp.sx | apply Fr.fc | apply Fr.al | apply Fr.fa | apply Sp.sc | apply Sp.al | apply Sp.sa))) ?_
              rintro q C7 ⟨rfl, h7⟩
              have hb1 : authB K1 L1 (bigO k) x.name (x.money - x.held + 1) = false := by
                rw [Bool.eq_false_iff]
                intro hb
                have := (authB_parts hb).2.2.2.1
                unfold moneyOf heldU at this
                rw [hfr] at this
                omega
              rw [(auth_no hb1).1, (auth_no hb1).2] at h7
              rw [hb1]
              refine WL.y rfl (Yd.assign rfl) ?_
              refine WL.nil ?_
              refine DN.then_normal ?_
              refine WC.seq ?_
              refine WC.region ?_
              refine WL.y rfl (Yd.move rfl) ?_
              refine WL.y rfl (Yd.move rfl) ?_
              refine WL.y rfl (Yd.fieldAddr (k := 0) (by kernel_rfl) rfl) ?_
              refine WL.h rfl (Hd.load1 (by kernel_rfl) rfl (by repeat (first | exact List.mem_cons_self | apply List.mem_cons_of_mem | apply List.mem_append_right)) (by rfl) ⟨_, rfl, ?_⟩)
              refine WL.y rfl (Yd.fieldAddr (k := 1) (by kernel_rfl) rfl) ?_
              refine WL.h rfl (Hd.load1 (by kernel_rfl) rfl (by repeat (first | exact List.mem_cons_self | apply List.mem_cons_of_mem | apply List.mem_append_right)) (by rfl) ⟨_, rfl, ?_⟩)
              refine WL.y rfl (Yd.fieldAddr (k := 2) (by kernel_rfl) rfl) ?_
              refine WL.h rfl (Hd.load1 (by kernel_rfl) rfl (by repeat (first | exact List.mem_cons_self | apply List.mem_cons_of_mem | apply List.mem_append_right)) (by rfl) ⟨_, rfl, ?_⟩)
              refine WL.y rfl (Yd.sub rfl rfl (by omega) (by omega)) ?_
              refine WL.c rfl (Ent.func Try.call24 rfl) (auth_tells p gs K1 L1 C7 h7 inv (bigO k) x.name (x.money - x.held)) (Sp.p (by repeat (first | exact Sp.here | exact Sp.sn | exact Sp.s0 | exact Fr.here | apply Sp.s2 | apply Sp.sx | apply Fr.fc | apply Fr.al | apply Fr.fa | apply Sp.sc | apply Sp.al | apply Sp.sa))) ?_
              rintro q C8 ⟨rfl, h8⟩
              have hb2 : authB K1 L1 (bigO k) x.name (x.money - x.held) = decide (x.held < x.money) := by
                rw [Bool.eq_iff_iff]
                constructor
                · intro hb
                  have := (authB_parts hb).2.1
                  simp only [decide_eq_true_eq]; omega
                · intro hb
                  simp only [decide_eq_true_eq] at hb
                  unfold authB moneyOf heldU
                  rw [hfr, hnone]
                  simp only [Bool.and_eq_true, decide_eq_true_eq, Bool.not_eq_true']
                  exact ⟨bigO_zero k (by omega), by omega, rfl, by omega⟩
              refine WL.y rfl (Yd.assign rfl) ?_
              refine WL.nil ?_
              refine DN.then_normal ?_
              refine WC.seq ?_
              refine WC.region ?_
              refine WL.y rfl (Yd.assign rfl) ?_
              refine WL.nil ?_
              refine DN.then_normal ?_
              refine WC.seq ?_
              refine WC.region ?_
              refine WL.y rfl (Yd.move rfl) ?_
              refine WL.rf rfl (Ent.func Try.call24 rfl) (auth_nil 1#32 ⟨#[97]⟩ 1 []) (by repeat (first | exact Sp.here | exact Sp.sn | exact Sp.s0 | exact Fr.here | apply Sp.s2 | apply Sp.sx | apply Fr.fc | apply Fr.al | apply Fr.fa | apply Sp.sc | apply Sp.al | apply Sp.sa)) ?_
              refine WL.y rfl (Yd.eql rfl rfl) ?_
              refine WL.renamed (t := 101) (v := .bool true) rfl (congrArg Value.bool (by decide)) ?_
              refine WL.y rfl (Yd.move rfl) ?_
              refine WL.gy (dj := 102) rfl rfl rfl (Yd.move rfl) ?_
              refine WL.grf (dj := 102) rfl rfl rfl (Ent.func Try.call26 rfl) (capture_nil 1#32 []) (by repeat (first | exact Sp.here | exact Sp.sn | exact Sp.s0 | exact Fr.here | apply Sp.s2 | apply Sp.sx | apply Fr.fc | apply Fr.al | apply Fr.fa | apply Sp.sc | apply Sp.al | apply Sp.sa)) ?_
              refine WL.gy (dj := 102) rfl rfl rfl (Yd.eql rfl rfl) ?_
              refine WL.renamed (t := 105) (v := .bool true) rfl (congrArg Value.bool (by decide)) ?_
              refine WL.y rfl (Yd.pickT rfl rfl) ?_
              refine WL.y rfl (Yd.move rfl) ?_
              refine WL.gy (dj := 107) rfl rfl rfl (Yd.move rfl) ?_
              refine WL.grf (dj := 107) rfl rfl rfl (Ent.func Try.call27 rfl) (void_nil 1#32 []) (by repeat (first | exact Sp.here | exact Sp.sn | exact Sp.s0 | exact Fr.here | apply Sp.s2 | apply Sp.sx | apply Fr.fc | apply Fr.al | apply Fr.fa | apply Sp.sc | apply Sp.al | apply Sp.sa)) ?_
              refine WL.gy (dj := 107) rfl rfl rfl (Yd.eql rfl rfl) ?_
              refine WL.renamed (t := 110) (v := .bool true) rfl (congrArg Value.bool (by decide)) ?_
              refine WL.y rfl (Yd.pickT rfl rfl) ?_
              refine WL.y rfl (Yd.move rfl) ?_
              refine WL.gy (dj := 112) rfl rfl rfl (Yd.move rfl) ?_
              refine WL.grf (dj := 112) rfl rfl rfl (Ent.func Try.call25 rfl) (refund_nil 1#32 []) (by repeat (first | exact Sp.here | exact Sp.sn | exact Sp.s0 | exact Fr.here | apply Sp.s2 | apply Sp.sx | apply Fr.fc | apply Fr.al | apply Fr.fa | apply Sp.sc | apply Sp.al | apply Sp.sa)) ?_
              refine WL.gy (dj := 112) rfl rfl rfl (Yd.eql rfl rfl) ?_
              refine WL.renamed (t := 115) (v := .bool true) rfl (congrArg Value.bool (by decide)) ?_
              refine WL.y rfl (Yd.pickT rfl rfl) ?_
              refine WL.y rfl (Yd.move rfl) ?_
              refine WL.gy (dj := 117) rfl rfl rfl (Yd.move rfl) ?_
              refine WL.grf (dj := 117) rfl rfl rfl (Ent.func Try.call16 rfl) (accs_nil []) (by repeat (first | exact Sp.here | exact Sp.sn | exact Sp.s0 | exact Fr.here | apply Sp.s2 | apply Sp.sx | apply Fr.fc | apply Fr.al | apply Fr.fa | apply Sp.sc | apply Sp.al | apply Sp.sa)) ?_
              refine WL.gy (dj := 117) rfl rfl rfl (Yd.len (e := 46) (by kernel_rfl) rfl) ?_
              refine WL.gy (dj := 117) rfl rfl rfl (Yd.eql rfl rfl) ?_
              refine WL.renamed (t := 121) (v := .bool true) rfl (congrArg Value.bool (by decide)) ?_
              refine WL.y rfl (Yd.pickT rfl rfl) ?_
              refine WL.y rfl (Yd.move rfl) ?_
              refine WL.gy (dj := 123) rfl rfl rfl (Yd.move rfl) ?_
              refine WL.grf (dj := 123) rfl rfl rfl (Ent.func Try.call17 rfl) (pays_nil []) (by repeat (first | exact Sp.here | exact Sp.sn | exact Sp.s0 | exact Fr.here | apply Sp.s2 | apply Sp.sx | apply Fr.fc | apply Fr.al | apply Fr.fa | apply Sp.sc | apply Sp.al | apply Sp.sa)) ?_
              refine WL.gy (dj := 123) rfl rfl rfl (Yd.len (e := 48) (by kernel_rfl) rfl) ?_
              refine WL.gy (dj := 123) rfl rfl rfl (Yd.eql rfl rfl) ?_
              refine WL.renamed (t := 127) (v := .bool true) rfl (congrArg Value.bool (by decide)) ?_
              refine WL.y rfl (Yd.pickT rfl rfl) ?_
              refine WL.y rfl (Yd.move rfl) ?_
              refine WL.gy (dj := 129) rfl rfl rfl (Yd.move rfl) ?_
              refine WL.grf (dj := 129) rfl rfl rfl (Ent.func Try.call22 rfl) (taken_nil []) (by repeat (first | exact Sp.here | exact Sp.sn | exact Sp.s0 | exact Fr.here | apply Sp.s2 | apply Sp.sx | apply Fr.fc | apply Fr.al | apply Fr.fa | apply Sp.sc | apply Sp.al | apply Sp.sa)) ?_
              refine WL.gy (dj := 129) rfl rfl rfl (Yd.eql rfl rfl) ?_
              refine WL.renamed (t := 132) (v := .bool true) rfl (congrArg Value.bool (by decide)) ?_
              refine WL.y rfl (Yd.pickT rfl rfl) ?_
              refine WL.y rfl (Yd.assign rfl) ?_
              refine WL.nil ?_
              refine DN.then_normal ?_
              refine WC.seq ?_
              refine WC.region ?_
              refine WL.y rfl (Yd.move rfl) ?_
              refine WL.y rfl (Yd.eql rfl rfl) ?_
              refine WL.renamed (t := 135) (v := .bool true) rfl (congrArg Value.bool (by decide)) ?_
              refine WL.y rfl (Yd.move rfl) ?_
              refine WL.gy (dj := 136) rfl rfl rfl (Yd.move rfl) ?_
              refine WL.gy (dj := 136) rfl rfl rfl (Yd.eql rfl rfl) ?_
              refine WL.gy (dj := 136) rfl rfl rfl (Yd.fieldAddr (k := 1) (by kernel_rfl) rfl) ?_
              refine WL.gh (dj := 136) rfl rfl rfl (Hd.load1 (by kernel_rfl) rfl (by repeat (first | exact List.mem_cons_self | apply List.mem_cons_of_mem | apply List.mem_append_right)) (by rfl) ⟨_, rfl, ?_⟩)
              refine WL.gy (dj := 136) rfl rfl rfl (Yd.fieldAddr (k := 2) (by kernel_rfl) rfl) ?_
              refine WL.gh (dj := 136) rfl rfl rfl (Hd.load1 (by kernel_rfl) rfl (by repeat (first | exact List.mem_cons_self | apply List.mem_cons_of_mem | apply List.mem_append_right)) (by rfl) ⟨_, rfl, ?_⟩)
              refine WL.gy (dj := 136) rfl rfl rfl (Yd.gtr rfl rfl) ?_
              refine WL.gy (dj := 136) rfl rfl rfl (Yd.eqlB Try.underlying4 rfl rfl) ?_
              refine WL.renamed (t := 144) (v := .bool true) rfl (congrArg Value.bool (by rw [hb2]; by_cases h0 : x.held < x.money <;> simp [h0, vdP])) ?_
              refine WL.y rfl (Yd.pickT rfl rfl) ?_
              refine WL.y rfl (Yd.move rfl) ?_
              refine WL.gy (dj := 146) rfl rfl rfl (Yd.move rfl) ?_
              refine WL.y rfl (Yd.pickT rfl rfl) ?_
              refine WL.y rfl (Yd.move rfl) ?_
              refine WL.gr (dj := 149) rfl rfl rfl (Ent.func Try.call10 rfl) (known10 _) ?_
              refine WL.y rfl (Yd.pickT rfl rfl) ?_
              refine WL.y rfl (Yd.assign rfl) ?_
              refine WL.nil ?_
              refine DN.then_normal ?_
              refine WC.ret ?_
              refine DN.fit (C := H) (by repeat (first | exact Sp.here | exact Sp.sn | exact Sp.s0 | exact Fr.here | apply Sp.s2 | apply Sp.sx | apply Fr.fc | apply Fr.al | apply Fr.fa | apply Sp.sc | apply Sp.al | apply Sp.sa)) ?_
              refine DN.ret1 Try.results7 rfl ?_
              exact ⟨rfl, rfl⟩
        · refine WL.gn (dj := 45) rfl rfl rfl rfl ?_
          refine WL.gn (dj := 45) rfl rfl rfl rfl ?_
          refine WL.y rfl (Yd.pickF rfl rfl) ?_
          refine WL.nil ?_
          refine DN.then_normal ?_
          refine WC.no rfl ?_
          refine WC.exit ?_
          refine DN.then_exit ?_
          refine DN.then_exit ?_
          refine DN.block_exit ?_
          refine DN.then_normal ?_
          refine WC.seq ?_
          refine WC.region ?_
          refine WL.y rfl (Yd.move rfl) ?_
          refine WL.c rfl (Ent.func Try.call16 rfl) (accs_tells p K1 L1 C2 h2 (by omega)) (Sp.p (by repeat (first | exact Sp.here | exact Sp.sn | exact Sp.s0 | exact Fr.here | apply Sp.s2 | apply Sp.sx | apply Fr.fc | apply Fr.al | apply Fr.fa | apply Sp.sc | apply Sp.al | apply Sp.sa))) ?_
          rintro q C5 ⟨S5, Cs5, hT5, ho5, rfl⟩
          have hl5 := hT5.perm.length_eq
          obtain ⟨so5, sc5, rfl, _⟩ := ho5.form
          obtain ⟨ub, uf, us, uT, ufr, uex, rfl, _, hum, hus⟩ := ho5.rs.lies (by omega)
          obtain ⟨hne, ix, hi5, hix⟩ := idx_of w S5.length (by omega) (by omega)
          obtain ⟨x, hx⟩ : ∃ x, x = S5[ix] := ⟨_, rfl⟩
          have hxm : x ∈ S5 := hx ▸ List.getElem_mem hi5
          have hfr := told_acc inv.knd hT5 hxm
          have hgx := inv.moneys (hT5.perm.mem_iff.1 hxm)
          refine WL.y rfl (Yd.assign rfl) ?_
          refine WL.nil ?_
          refine DN.then_normal ?_
          refine WC.seq ?_
          refine WC.seq ?_
          refine WC.region ?_
          refine WL.y rfl (Yd.move rfl) ?_
          refine WL.y rfl (Yd.len (e := 46) (by kernel_rfl) rfl) ?_
          refine WL.y rfl (Yd.eql rfl rfl) ?_
          refine WL.renamed (t := 61) (v := .bool false) rfl (congrArg Value.bool (decide_eq_false (by omega))) ?_
          refine WL.nil ?_
          refine DN.then_normal ?_
          refine WC.no rfl ?_
          refine WC.skip ?_
          refine DN.then_normal ?_
          refine WC.seq ?_
          refine WC.region ?_
          refine WL.y rfl (Yd.move rfl) ?_
          refine WL.y rfl (Yd.move rfl) ?_
          refine WL.y rfl (Yd.to64 _ (by kernel_rfl) (by kernel_rfl) rfl rfl) ?_
          refine WL.y rfl (Yd.move rfl) ?_
          refine WL.y rfl (Yd.len (e := 46) (by kernel_rfl) rfl) ?_
          refine WL.y rfl (Yd.to64 _ (by kernel_rfl) (by kernel_rfl) rfl rfl) ?_
          refine WL.y rfl (Yd.rem64 _ _ rfl rfl rfl rfl hne) ?_
          refine WL.renamed (t := 68) (v := .int .u64 (ix : Int)) rfl (congrArg (Value.int .u64) hix) ?_
          refine WL.y rfl (Yd.toInt (by kernel_rfl) (by kernel_rfl) rfl (by omega) (by omega)) ?_
          refine WL.y rfl (Yd.indexAddr (e := 46) (s := 3) (by kernel_rfl) (by kernel_rfl) rfl rfl (by omega) (by omega)) ?_
          refine WL.h rfl (Hd.loadA (n := 3) (b := ub) (o := uf + (ix : Int).toNat * 3) (cs := us) (vs := cellsU x) (by kernel_rfl) rfl (Gr.get (by repeat (first | exact Gr.refl | exact Gr.left Gr.refl | exact Gr.left (Gr.left Gr.refl) | exact Gr.left (Gr.app Gr.refl) | exact Gr.left (Gr.left (Gr.left Gr.refl)) | exact Gr.nil | exact Gr.app (Gr.left Gr.refl) | refine Gr.cons ?_ | refine Gr.app ?_ | refine Gr.both ?_ ?_ | refine Gr.put (by repeat (first | exact List.mem_cons_self | apply List.mem_cons_of_mem | apply List.mem_append_right)) ?_)) hum) (cellsU_len _) (rs_cell hus (by rw [flat_len cellsU 3 cellsU_len]; omega) (by rw [hx]; exact flat_row cellsU 3 cellsU_len S5 ix (by omega))) ⟨_, rfl, ?_⟩)
          refine WL.h rfl (Hd.alloc (zs := [.string ⟨#[]⟩, .int .i64 0, .int .i64 0]) (by kernel_rfl) fun b11 => ⟨_, rfl, ?_⟩)
          refine WL.s (Hd.storeAll (n := 3) (by kernel_rfl) rfl rfl (by rfl) (by repeat (first | exact fun _ h => absurd h List.not_mem_nil | refine List.forall_mem_cons.2 ⟨by first | rfl | assumption, ?_⟩)) (by repeat (first | exact Fr.here | apply Fr.fc | apply Fr.al | apply Fr.fa)) (by rfl) ⟨rfl, ?_⟩)
          refine WL.nil ?_
          refine DN.then_normal ?_
          refine WC.seq ?_
          refine WC.region ?_
          refine WL.y rfl (Yd.assign (v := .int .u32 ((4000000000#32).toNat : Int)) rfl) ?_
          refine WL.nil ?_
          refine DN.then_normal ?_
          refine WC.seq ?_
          refine WC.block ?_
          refine WC.loopS (fun z : Nat => z ≤ 100 ∧ ∀ j, j < z → (findK Py.o L1 (bigO j)).isSome = true) (fun z : Nat => [(12, .int .u32 ((bigO z).toNat : Int))]) (fun z : Nat => row b11 (cellsU x) 46 :: (C2 ++ H)) (fun z : Nat => 100 - z) (0) (show 0 ≤ 100 ∧ ∀ j, j < 0 → (findK Py.o L1 (bigO j)).isSome = true from ⟨Nat.zero_le _, fun j hj => by omega⟩) (Sx.put rfl ((by repeat (first | exact Sx.refl | refine Sx.skip rfl ?_)))) (by repeat (first | exact Sp.here | exact Sp.sn | exact Sp.s0 | exact Fr.here | apply Sp.s2 | apply Sp.sx | apply Fr.fc | apply Fr.al | apply Fr.fa | apply Sp.sc | apply Sp.al | apply Sp.sa)) ?_
          rintro k hI
          replace hI : k ≤ 100 ∧ ∀ j, j < k → (findK Py.o L1 (bigO j)).isSome = true := hI
          obtain ⟨hk, hk2⟩ := hI
          change WC _ _ _ _ _ _ ([(12, .int .u32 ((bigO k).toNat : Int))] ++ _) (row b11 (cellsU x) 46 :: (C2 ++ H))
          refine WC.seq ?_
          refine WC.seq ?_
          refine WC.region ?_
          refine WL.y rfl (Yd.move rfl) ?_
          refine WL.c rfl (Ent.func Try.call17 rfl) (pays_tells p K1 L1 C2 h2 (by omega)) (Sp.p (by repeat (first | exact Sp.here | exact Sp.sn | exact Sp.s0 | exact Fr.here | apply Sp.s2 | apply Sp.sx | apply Fr.fc | apply Fr.al | apply Fr.fa | apply Sp.sc | apply Sp.al | apply Sp.sa))) ?_
          rintro q C6 ⟨T6, Ds6, hU6, hq6, rfl⟩
          have hm6 := hU6.perm.length_eq
          obtain ⟨to6, tc6, rfl, _⟩ := hq6.form
          refine WL.y rfl (Yd.move rfl) ?_
          refine WL.rf rfl (Ent.func Try.call28 rfl) (has_reads _ T6 (bigO k) Ds6 hq6.rs (by omega)) (by repeat (first | exact Sp.here | exact Sp.sn | exact Sp.s0 | exact Fr.here | apply Sp.s2 | apply Sp.sx | apply Fr.fc | apply Fr.al | apply Fr.fa | apply Sp.sc | apply Sp.al | apply Sp.sa)) ?_
          refine WL.nil ?_
          refine DN.then_normal ?_
          refine WC.cond rfl (fun h75 => ?_) (fun h75 => ?_)
          · rw [findK_permP inv.keys hU6.perm] at h75
            have hall : ∀ j, j < k + 1 → (findK Py.o L1 (bigO j)).isSome = true := fun j hj => by
              rcases Nat.lt_or_ge j k with h5 | h5
              · exact hk2 j h5
              · obtain rfl : j = k := by omega
                exact h75
            have hfew := bigO_few (by omega) hall
            refine WC.skip ?_
            refine DN.then_normal ?_
            refine WC.block ?_
            refine WC.region ?_
            refine WL.y rfl (Yd.move rfl) ?_
            refine WL.y rfl (Yd.add32 (bigO k) (1#32) rfl rfl rfl rfl) ?_
            refine WL.renamed (t := 77) (v := .int .u32 ((bigO (k + 1)).toNat : Int)) rfl (congrArg (fun z : BitVec 32 => Value.int .u32 (z.toNat : Int)) (bigO_next (by omega))) ?_
            refine WL.y rfl (Yd.assign rfl) ?_
            refine WL.nil ?_
            refine DN.block_normal ?_
            exact DN.againS (k + 1) (show (k + 1) ≤ 100 ∧ ∀ j, j < (k + 1) → (findK Py.o L1 (bigO j)).isSome = true from ⟨by omega, hall⟩) (show 100 - (k + 1) < 100 - k by omega) (Sx.put rfl ((by repeat (first | exact Sx.refl | refine Sx.skip rfl ?_)))) (by repeat (first | exact Sp.here | exact Sp.sn | exact Sp.s0 | exact Fr.here | apply Sp.s2 | apply Sp.sx | apply Fr.fc | apply Fr.al | apply Fr.fa | apply Sp.sc | apply Sp.al | apply Sp.sa))
          · rw [findK_permP inv.keys hU6.perm] at h75
            have hnone : findK Py.o L1 (bigO k) = none := by simpa using h75
            refine WC.exit ?_
            refine DN.then_exit ?_
            refine DN.then_exit ?_
            refine DN.block_exit ?_
            refine DN.then_normal ?_
            refine WC.seq ?_
            refine WC.region ?_
            refine WL.y rfl (Yd.move rfl) ?_
            refine WL.y rfl (Yd.move rfl) ?_
            refine WL.y rfl (Yd.fieldAddr (k := 0) (by kernel_rfl) rfl) ?_
            refine WL.h rfl (Hd.load1 (by kernel_rfl) rfl (by repeat (first | exact List.mem_cons_self | apply List.mem_cons_of_mem | apply List.mem_append_right)) (by rfl) ⟨_, rfl, ?_⟩)
            refine WL.y rfl (Yd.fieldAddr (k := 1) (by kernel_rfl) rfl) ?_
            refine WL.h rfl (Hd.load1 (by kernel_rfl) rfl (by repeat (first | exact List.mem_cons_self | apply List.mem_cons_of_mem | apply List.mem_append_right)) (by rfl) ⟨_, rfl, ?_⟩)
            refine WL.y rfl (Yd.fieldAddr (k := 2) (by kernel_rfl) rfl) ?_
            refine WL.h rfl (Hd.load1 (by kernel_rfl) rfl (by repeat (first | exact List.mem_cons_self | apply List.mem_cons_of_mem | apply List.mem_append_right)) (by rfl) ⟨_, rfl, ?_⟩)
            refine WL.y rfl (Yd.sub rfl rfl (by omega) (by omega)) ?_
            refine WL.y rfl (Yd.add rfl rfl (by omega) (by omega)) ?_
            refine WL.c rfl (Ent.func Try.call24 rfl) (auth_tells p gs K1 L1 C2 h2 inv (bigO k) x.name (x.money - x.held + 1)) (Sp.p (by repeat (first | exact Sp.here | exact Sp.sn | exact Sp.s0 | exact Fr.here | apply Sp.s2 | apply Sp.sx | apply Fr.fc | apply Fr.al | apply Fr.fa | apply Sp.sc | apply Sp.al | apply Sp.sa))) ?_
            rintro q C7 ⟨rfl, h7⟩
            have hb1 : authB K1 L1 (bigO k) x.name (x.money - x.held + 1) = false := by
              rw [Bool.eq_false_iff]
              intro hb
              have := (authB_parts hb).2.2.2.1
              unfold moneyOf heldU at this
              rw [hfr] at this
              omega
            rw [(auth_no hb1).1, (auth_no hb1).2] at h7
            rw [hb1]
            refine WL.y rfl (Yd.assign rfl) ?_
            refine WL.nil ?_
            refine DN.then_normal ?_
            refine WC.seq ?_
            refine WC.region ?_
            refine WL.y rfl (Yd.move rfl) ?_
            refine WL.y rfl (Yd.move rfl) ?_
            refine WL.y rfl (Yd.fieldAddr (k := 0) (by kernel_rfl) rfl) ?_
            refine WL.h rfl (Hd.load1 (by kernel_rfl) rfl (by repeat (first | exact List.mem_cons_self | apply List.mem_cons_of_mem | apply List.mem_append_right)) (by rfl) ⟨_, rfl, ?_⟩)
            refine WL.y rfl (Yd.fieldAddr (k := 1) (by kernel_rfl) rfl) ?_
            refine WL.h rfl (Hd.load1 (by kernel_rfl) rfl (by repeat (first | exact List.mem_cons_self | apply List.mem_cons_of_mem | apply List.mem_append_right)) (by rfl) ⟨_, rfl, ?_⟩)
            refine WL.y rfl (Yd.fieldAddr (k := 2) (by kernel_rfl) rfl) ?_
            refine WL.h rfl (Hd.load1 (by kernel_rfl) rfl (by repeat (first | exact List.mem_cons_self | apply List.mem_cons_of_mem | apply List.mem_append_right)) (by rfl) ⟨_, rfl, ?_⟩)
            refine WL.y rfl (Yd.sub rfl rfl (by omega) (by omega)) ?_
            refine WL.c rfl (Ent.func Try.call24 rfl) (auth_tells p gs K1 L1 C7 h7 inv (bigO k) x.name (x.money - x.held)) (Sp.p (by repeat (first | exact Sp.here | exact Sp.sn | exact Sp.s0 | exact Fr.here | apply Sp.s2 | apply Sp.sx | apply Fr.fc | apply Fr.al | apply Fr.fa | apply Sp.sc | apply Sp.al | apply Sp.sa))) ?_
            rintro q C8 ⟨rfl, h8⟩
            have hb2 : authB K1 L1 (bigO k) x.name (x.money - x.held) = decide (x.held < x.money) := by
              rw [Bool.eq_iff_iff]
              constructor
              · intro hb
                have := (authB_parts hb).2.1
                simp only [decide_eq_true_eq]; omega
              · intro hb
                simp only [decide_eq_true_eq] at hb
                unfold authB moneyOf heldU
                rw [hfr, hnone]
                simp only [Bool.and_eq_true, decide_eq_true_eq, Bool.not_eq_true']
                exact ⟨bigO_zero k (by omega), by omega, rfl, by omega⟩
            refine WL.y rfl (Yd.assign rfl) ?_
            refine WL.nil ?_
            refine DN.then_normal ?_
            refine WC.seq ?_
            refine WC.region ?_
            refine WL.y rfl (Yd.assign rfl) ?_
            refine WL.nil ?_
            refine DN.then_normal ?_
            refine WC.seq ?_
            refine WC.region ?_
            refine WL.y rfl (Yd.move rfl) ?_
            refine WL.rf rfl (Ent.func Try.call24 rfl) (auth_nil 1#32 ⟨#[97]⟩ 1 []) (by repeat (first | exact Sp.here | exact Sp.sn | exact Sp.s0 | exact Fr.here | apply Sp.s2 | apply Sp.sx | apply Fr.fc | apply Fr.al | apply Fr.fa | apply Sp.sc | apply Sp.al | apply Sp.sa)) ?_
            refine WL.y rfl (Yd.eql rfl rfl) ?_
            refine WL.renamed (t := 101) (v := .bool true) rfl (congrArg Value.bool (by decide)) ?_
            refine WL.y rfl (Yd.move rfl) ?_
            refine WL.gy (dj := 102) rfl rfl rfl (Yd.move rfl) ?_
            refine WL.grf (dj := 102) rfl rfl rfl (Ent.func Try.call26 rfl) (capture_nil 1#32 []) (by repeat (first | exact Sp.here | exact Sp.sn | exact Sp.s0 | exact Fr.here | apply Sp.s2 | apply Sp.sx | apply Fr.fc | apply Fr.al | apply Fr.fa | apply Sp.sc | apply Sp.al | apply Sp.sa)) ?_
            refine WL.gy (dj := 102) rfl rfl rfl (Yd.eql rfl rfl) ?_
            refine WL.renamed (t := 105) (v := .bool true) rfl (congrArg Value.bool (by decide)) ?_
            refine WL.y rfl (Yd.pickT rfl rfl) ?_
            refine WL.y rfl (Yd.move rfl) ?_
            refine WL.gy (dj := 107) rfl rfl rfl (Yd.move rfl) ?_
            refine WL.grf (dj := 107) rfl rfl rfl (Ent.func Try.call27 rfl) (void_nil 1#32 []) (by repeat (first | exact Sp.here | exact Sp.sn | exact Sp.s0 | exact Fr.here | apply Sp.s2 | apply Sp.sx | apply Fr.fc | apply Fr.al | apply Fr.fa | apply Sp.sc | apply Sp.al | apply Sp.sa)) ?_
            refine WL.gy (dj := 107) rfl rfl rfl (Yd.eql rfl rfl) ?_
            refine WL.renamed (t := 110) (v := .bool true) rfl (congrArg Value.bool (by decide)) ?_
            refine WL.y rfl (Yd.pickT rfl rfl) ?_
            refine WL.y rfl (Yd.move rfl) ?_
            refine WL.gy (dj := 112) rfl rfl rfl (Yd.move rfl) ?_
            refine WL.grf (dj := 112) rfl rfl rfl (Ent.func Try.call25 rfl) (refund_nil 1#32 []) (by repeat (first | exact Sp.here | exact Sp.sn | exact Sp.s0 | exact Fr.here | apply Sp.s2 | apply Sp.sx | apply Fr.fc | apply Fr.al | apply Fr.fa | apply Sp.sc | apply Sp.al | apply Sp.sa)) ?_
            refine WL.gy (dj := 112) rfl rfl rfl (Yd.eql rfl rfl) ?_
            refine WL.renamed (t := 115) (v := .bool true) rfl (congrArg Value.bool (by decide)) ?_
            refine WL.y rfl (Yd.pickT rfl rfl) ?_
            refine WL.y rfl (Yd.move rfl) ?_
            refine WL.gy (dj := 117) rfl rfl rfl (Yd.move rfl) ?_
            refine WL.grf (dj := 117) rfl rfl rfl (Ent.func Try.call16 rfl) (accs_nil []) (by repeat (first | exact Sp.here | exact Sp.sn | exact Sp.s0 | exact Fr.here | apply Sp.s2 | apply Sp.sx | apply Fr.fc | apply Fr.al | apply Fr.fa | apply Sp.sc | apply Sp.al | apply Sp.sa)) ?_
            refine WL.gy (dj := 117) rfl rfl rfl (Yd.len (e := 46) (by kernel_rfl) rfl) ?_
            refine WL.gy (dj := 117) rfl rfl rfl (Yd.eql rfl rfl) ?_
            refine WL.renamed (t := 121) (v := .bool true) rfl (congrArg Value.bool (by decide)) ?_
            refine WL.y rfl (Yd.pickT rfl rfl) ?_
            refine WL.y rfl (Yd.move rfl) ?_
            refine WL.gy (dj := 123) rfl rfl rfl (Yd.move rfl) ?_
            refine WL.grf (dj := 123) rfl rfl rfl (Ent.func Try.call17 rfl) (pays_nil []) (by repeat (first | exact Sp.here | exact Sp.sn | exact Sp.s0 | exact Fr.here | apply Sp.s2 | apply Sp.sx | apply Fr.fc | apply Fr.al | apply Fr.fa | apply Sp.sc | apply Sp.al | apply Sp.sa)) ?_
            refine WL.gy (dj := 123) rfl rfl rfl (Yd.len (e := 48) (by kernel_rfl) rfl) ?_
            refine WL.gy (dj := 123) rfl rfl rfl (Yd.eql rfl rfl) ?_
            refine WL.renamed (t := 127) (v := .bool true) rfl (congrArg Value.bool (by decide)) ?_
            refine WL.y rfl (Yd.pickT rfl rfl) ?_
            refine WL.y rfl (Yd.move rfl) ?_
            refine WL.gy (dj := 129) rfl rfl rfl (Yd.move rfl) ?_
            refine WL.grf (dj := 129) rfl rfl rfl (Ent.func Try.call22 rfl) (taken_nil []) (by repeat (first | exact Sp.here | exact Sp.sn | exact Sp.s0 | exact Fr.here | apply Sp.s2 | apply Sp.sx | apply Fr.fc | apply Fr.al | apply Fr.fa | apply Sp.sc | apply Sp.al | apply Sp.sa)) ?_
            refine WL.gy (dj := 129) rfl rfl rfl (Yd.eql rfl rfl) ?_
            refine WL.renamed (t := 132) (v := .bool true) rfl (congrArg Value.bool (by decide)) ?_
            refine WL.y rfl (Yd.pickT rfl rfl) ?_
            refine WL.y rfl (Yd.assign rfl) ?_
            refine WL.nil ?_
            refine DN.then_normal ?_
            refine WC.seq ?_
            refine WC.region ?_
            refine WL.y rfl (Yd.move rfl) ?_
            refine WL.y rfl (Yd.eql rfl rfl) ?_
            refine WL.renamed (t := 135) (v := .bool true) rfl (congrArg Value.bool (by decide)) ?_
            refine WL.y rfl (Yd.move rfl) ?_
            refine WL.gy (dj := 136) rfl rfl rfl (Yd.move rfl) ?_
            refine WL.gy (dj := 136) rfl rfl rfl (Yd.eql rfl rfl) ?_
            refine WL.gy (dj := 136) rfl rfl rfl (Yd.fieldAddr (k := 1) (by kernel_rfl) rfl) ?_
            refine WL.gh (dj := 136) rfl rfl rfl (Hd.load1 (by kernel_rfl) rfl (by repeat (first | exact List.mem_cons_self | apply List.mem_cons_of_mem | apply List.mem_append_right)) (by rfl) ⟨_, rfl, ?_⟩)
            refine WL.gy (dj := 136) rfl rfl rfl (Yd.fieldAddr (k := 2) (by kernel_rfl) rfl) ?_
            refine WL.gh (dj := 136) rfl rfl rfl (Hd.load1 (by kernel_rfl) rfl (by repeat (first | exact List.mem_cons_self | apply List.mem_cons_of_mem | apply List.mem_append_right)) (by rfl) ⟨_, rfl, ?_⟩)
            refine WL.gy (dj := 136) rfl rfl rfl (Yd.gtr rfl rfl) ?_
            refine WL.gy (dj := 136) rfl rfl rfl (Yd.eqlB Try.underlying4 rfl rfl) ?_
            refine WL.renamed (t := 144) (v := .bool true) rfl (congrArg Value.bool (by rw [hb2]; by_cases h0 : x.held < x.money <;> simp [h0, vdP])) ?_
            refine WL.y rfl (Yd.pickT rfl rfl) ?_
            refine WL.y rfl (Yd.move rfl) ?_
            refine WL.gy (dj := 146) rfl rfl rfl (Yd.move rfl) ?_
            refine WL.y rfl (Yd.pickT rfl rfl) ?_
            refine WL.y rfl (Yd.move rfl) ?_
            refine WL.gr (dj := 149) rfl rfl rfl (Ent.func Try.call10 rfl) (known10 _) ?_
            refine WL.y rfl (Yd.pickT rfl rfl) ?_
            refine WL.y rfl (Yd.assign rfl) ?_
            refine WL.nil ?_
            refine DN.then_normal ?_
            refine WC.ret ?_
            refine DN.fit (C := H) (by repeat (first | exact Sp.here | exact Sp.sn | exact Sp.s0 | exact Fr.here | apply Sp.s2 | apply Sp.sx | apply Fr.fc | apply Fr.al | apply Fr.fa | apply Sp.sc | apply Sp.al | apply Sp.sa)) ?_
            refine DN.ret1 Try.results7 rfl ?_
            exact ⟨rfl, rfl⟩
    · refine WC.region ?_
      refine WL.y rfl (Yd.move rfl) ?_
      refine WL.ca rfl (Ent.func Try.call11 rfl) (new_tells _ gs H hv hl) ?_
      rintro q H1 hq
      first | (have inv1 := PInv.start hA; obtain ⟨p, C1, rfl, h1, rfl⟩ := new_inP hq hA) | (obtain ⟨rfl, hHq⟩ := new_outP hq hA; rw [hHq])
      refine WL.y rfl (Yd.move rfl) ?_
      refine WL.y rfl (Yd.extract rfl rfl) ?_
      refine WL.y rfl (Yd.extract rfl rfl) ?_
      refine WL.y rfl (Yd.assign rfl) ?_
      refine WL.y rfl (Yd.assign rfl) ?_
      refine WL.nil ?_
      refine DN.then_normal ?_
      refine WC.seq ?_
      refine WC.seq ?_
      refine WC.region ?_
      refine WL.y rfl (Yd.move rfl) ?_
      refine WL.y rfl (Yd.neq rfl rfl) ?_
      refine WL.renamed (t := 27) (v := .bool true) rfl (congrArg Value.bool (by decide)) ?_
      refine WL.y rfl (Yd.move rfl) ?_
      refine WL.gn (dj := 28) rfl rfl rfl rfl ?_
      refine WL.gn (dj := 28) rfl rfl rfl rfl ?_
      refine WL.gn (dj := 28) rfl rfl rfl rfl ?_
      refine WL.y rfl (Yd.pickT rfl rfl) ?_
      refine WL.nil ?_
      refine DN.then_normal ?_
      refine WC.yes rfl ?_
      refine WC.seq ?_
      refine WC.region ?_
      refine WL.y rfl (Yd.move rfl) ?_
      refine WL.y rfl (Yd.eql rfl rfl) ?_
      refine WL.renamed (t := 34) (v := .bool false) rfl (congrArg Value.bool (by decide)) ?_
      refine WL.y rfl (Yd.move rfl) ?_
      refine WL.y rfl (Yd.neqNil Try.underlying26 rfl rfl) ?_
      refine WL.renamed (t := 36) (v := .bool false) rfl (congrArg Value.bool (rfl)) ?_
      refine WL.y rfl (Yd.eqlB Try.underlying4 rfl rfl) ?_
      refine WL.renamed (t := 37) (v := .bool true) rfl (congrArg Value.bool (by decide)) ?_
      refine WL.y rfl (Yd.move rfl) ?_
      refine WL.gr (dj := 38) rfl rfl rfl (Ent.func Try.call10 rfl) (known10 _) ?_
      refine WL.y rfl (Yd.pickT rfl rfl) ?_
      refine WL.y rfl (Yd.assign rfl) ?_
      refine WL.nil ?_
      refine DN.then_normal ?_
      refine WC.ret ?_
      refine DN.then_ret ?_
      refine DN.fit (C := H) (by repeat (first | exact Sp.here | exact Sp.sn | exact Sp.s0 | exact Fr.here | apply Sp.s2 | apply Sp.sx | apply Fr.fc | apply Fr.al | apply Fr.fa | apply Sp.sc | apply Sp.al | apply Sp.sa)) ?_
      refine DN.ret1 Try.results7 rfl ?_
      exact ⟨rfl, rfl⟩

end Go.Proofs.Ytllfnigodikbaaa
