/-
  The walks of a stock that is not there, and of the chapter's example.
-/
import Derived.Test.YtdbbkodjhmfjfaaStock4
import Derived.Test.YtdbbkodjhmfjfaaStockLaw
set_option linter.unusedVariables false
set_option linter.unusedSimpArgs false
set_option maxHeartbeats 4000000
namespace Go.Proofs.Ytdbbkodjhmfjfaa
open Go.SL


/-- (*drayage/stock.Stock).Hold -/
theorem hold_nil (o : BitVec 32) (nm : ByteArray) (n : Int) (H : List Ck) : Reads Try.prog 13 [.pointer none, .int .u32 o.toNat, .string nm, .int .i64 n] H (.int .i64 2) := by
  refine Tells.enter Try.func13 rfl Try.ntmps13 rfl ?_
  intro w0 R
  refine WC.seq ?_
  refine WC.region ?_
  refine WL.y rfl (Yd.assign rfl) ?_
  refine WL.nil ?_
  refine DN.then_normal ?_
  refine WC.seq ?_
  refine WC.seq ?_
  refine WC.region ?_
  refine WL.y rfl (Yd.move rfl) ?_
  refine WL.y rfl (Yd.eqlNil Try.underlying26 rfl rfl) ?_
  refine WL.renamed (t := 13) (v := .bool true) rfl (congrArg Value.bool (rfl)) ?_
  refine WL.y rfl (Yd.move rfl) ?_
  refine WL.gn (dj := 14) rfl rfl rfl rfl ?_
  refine WL.gn (dj := 14) rfl rfl rfl rfl ?_
  refine WL.y rfl (Yd.pickT rfl rfl) ?_
  refine WL.y rfl (Yd.move rfl) ?_
  refine WL.gn (dj := 18) rfl rfl rfl rfl ?_
  refine WL.gn (dj := 18) rfl rfl rfl rfl ?_
  refine WL.y rfl (Yd.pickT rfl rfl) ?_
  refine WL.nil ?_
  refine DN.then_normal ?_
  refine WC.yes rfl ?_
  refine WC.seq ?_
  refine WC.region ?_
  refine WL.y rfl (Yd.assign rfl) ?_
  refine WL.nil ?_
  refine DN.then_normal ?_
  refine WC.ret ?_
  refine DN.then_ret ?_
  refine DN.ret1 Try.results13 rfl ?_
  exact ⟨rfl, rfl⟩

/-- (*drayage/stock.Stock).leave -/
theorem leave_nil (o : BitVec 32) (g : Bool) (H : List Ck) : Reads Try.prog 34 [.pointer none, .int .u32 o.toNat, .bool g] H (.int .i64 2) := by
  refine Tells.enter Try.func34 rfl Try.ntmps34 rfl ?_
  intro w0 R
  refine WC.seq ?_
  refine WC.region ?_
  refine WL.y rfl (Yd.assign rfl) ?_
  refine WL.nil ?_
  refine DN.then_normal ?_
  refine WC.seq ?_
  refine WC.seq ?_
  refine WC.region ?_
  refine WL.y rfl (Yd.move rfl) ?_
  refine WL.y rfl (Yd.eqlNil Try.underlying26 rfl rfl) ?_
  refine WL.renamed (t := 11) (v := .bool true) rfl (congrArg Value.bool (rfl)) ?_
  refine WL.nil ?_
  refine DN.then_normal ?_
  refine WC.yes rfl ?_
  refine WC.seq ?_
  refine WC.region ?_
  refine WL.y rfl (Yd.assign rfl) ?_
  refine WL.nil ?_
  refine DN.then_normal ?_
  refine WC.ret ?_
  refine DN.then_ret ?_
  refine DN.ret1 Try.results34 rfl ?_
  exact ⟨rfl, rfl⟩

/-- (*drayage/stock.Stock).Free -/
theorem free_nil (o : BitVec 32) (H : List Ck) : Reads Try.prog 25 [.pointer none, .int .u32 o.toNat] H (.int .i64 2) := by
  refine Tells.enter Try.func25 rfl Try.ntmps25 rfl ?_
  intro w0 R
  refine WC.seq ?_
  refine WC.region ?_
  refine WL.y rfl (Yd.assign rfl) ?_
  refine WL.nil ?_
  refine DN.then_normal ?_
  refine WC.seq ?_
  refine WC.region ?_
  refine WL.y rfl (Yd.move rfl) ?_
  refine WL.y rfl (Yd.move rfl) ?_
  refine WL.r rfl (Ent.func Try.call34 rfl) (leave_nil o false _) ?_
  refine WL.y rfl (Yd.assign rfl) ?_
  refine WL.nil ?_
  refine DN.then_normal ?_
  refine WC.ret ?_
  refine DN.ret1 Try.results25 rfl ?_
  exact ⟨rfl, rfl⟩

/-- (*drayage/stock.Stock).Ship -/
theorem ship_nil (o : BitVec 32) (H : List Ck) : Reads Try.prog 26 [.pointer none, .int .u32 o.toNat] H (.int .i64 2) := by
  refine Tells.enter Try.func26 rfl Try.ntmps26 rfl ?_
  intro w0 R
  refine WC.seq ?_
  refine WC.region ?_
  refine WL.y rfl (Yd.assign rfl) ?_
  refine WL.nil ?_
  refine DN.then_normal ?_
  refine WC.seq ?_
  refine WC.region ?_
  refine WL.y rfl (Yd.move rfl) ?_
  refine WL.y rfl (Yd.move rfl) ?_
  refine WL.r rfl (Ent.func Try.call34 rfl) (leave_nil o true _) ?_
  refine WL.y rfl (Yd.assign rfl) ?_
  refine WL.nil ?_
  refine DN.then_normal ?_
  refine WC.ret ?_
  refine DN.ret1 Try.results26 rfl ?_
  exact ⟨rfl, rfl⟩

/-- (*drayage/stock.Stock).Goods -/
theorem goods_nil (H : List Ck) : Reads Try.prog 12 [.pointer none] H (.slice none 0 0) := by
  refine Tells.enter Try.func12 rfl Try.ntmps12 rfl ?_
  intro w0 R
  refine WC.seq ?_
  refine WC.region ?_
  refine WL.y rfl (Yd.assign rfl) ?_
  refine WL.nil ?_
  refine DN.then_normal ?_
  refine WC.seq ?_
  refine WC.seq ?_
  refine WC.region ?_
  refine WL.y rfl (Yd.move rfl) ?_
  refine WL.y rfl (Yd.eqlNil Try.underlying26 rfl rfl) ?_
  refine WL.renamed (t := 7) (v := .bool true) rfl (congrArg Value.bool (rfl)) ?_
  refine WL.nil ?_
  refine DN.then_normal ?_
  refine WC.yes rfl ?_
  refine WC.seq ?_
  refine WC.region ?_
  refine WL.y rfl (Yd.assign rfl) ?_
  refine WL.nil ?_
  refine DN.then_normal ?_
  refine WC.ret ?_
  refine DN.then_ret ?_
  refine DN.ret1 Try.results12 rfl ?_
  exact ⟨rfl, rfl⟩

/-- (*drayage/stock.Stock).Holds -/
theorem holdsS_nil (H : List Ck) : Reads Try.prog 18 [.pointer none] H (.slice none 0 0) := by
  refine Tells.enter Try.func18 rfl Try.ntmps18 rfl ?_
  intro w0 R
  refine WC.seq ?_
  refine WC.region ?_
  refine WL.y rfl (Yd.assign rfl) ?_
  refine WL.nil ?_
  refine DN.then_normal ?_
  refine WC.seq ?_
  refine WC.seq ?_
  refine WC.region ?_
  refine WL.y rfl (Yd.move rfl) ?_
  refine WL.y rfl (Yd.eqlNil Try.underlying26 rfl rfl) ?_
  refine WL.renamed (t := 7) (v := .bool true) rfl (congrArg Value.bool (rfl)) ?_
  refine WL.nil ?_
  refine DN.then_normal ?_
  refine WC.yes rfl ?_
  refine WC.seq ?_
  refine WC.region ?_
  refine WL.y rfl (Yd.assign rfl) ?_
  refine WL.nil ?_
  refine DN.then_normal ?_
  refine WC.ret ?_
  refine DN.then_ret ?_
  refine DN.ret1 Try.results18 rfl ?_
  exact ⟨rfl, rfl⟩

/-- (*drayage/stock.Stock).Gone -/
theorem gone_nil (nm : ByteArray) (H : List Ck) : Reads Try.prog 23 [.pointer none, .string nm] H (.int .i64 0) := by
  refine Tells.enter Try.func23 rfl Try.ntmps23 rfl ?_
  intro w0 R
  refine WC.seq ?_
  refine WC.region ?_
  refine WL.y rfl (Yd.assign rfl) ?_
  refine WL.nil ?_
  refine DN.then_normal ?_
  refine WC.seq ?_
  refine WC.seq ?_
  refine WC.region ?_
  refine WL.y rfl (Yd.move rfl) ?_
  refine WL.y rfl (Yd.eqlNil Try.underlying26 rfl rfl) ?_
  refine WL.renamed (t := 6) (v := .bool true) rfl (congrArg Value.bool (rfl)) ?_
  refine WL.nil ?_
  refine DN.then_normal ?_
  refine WC.yes rfl ?_
  refine WC.seq ?_
  refine WC.region ?_
  refine WL.y rfl (Yd.assign rfl) ?_
  refine WL.nil ?_
  refine DN.then_normal ?_
  refine WC.ret ?_
  refine DN.then_ret ?_
  refine DN.ret1 Try.results23 rfl ?_
  exact ⟨rfl, rfl⟩

/-- drayage/drayagelaw09.known -/
theorem known09 (H : List Ck) : Reads Try.prog 10 [] H (.bool true) := by
  refine Tells.enter Try.func10 rfl Try.ntmps10 rfl ?_
  intro w0 R
  refine WC.seq ?_
  refine WC.region ?_
  refine WL.y rfl (Yd.assign rfl) ?_
  refine WL.nil ?_
  refine DN.then_normal ?_
  refine WC.seq ?_
  refine WC.region ?_
  refine WL.y rfl (Yd.buildL (pl := [(0, 1), (1, 1)]) (zs := [.string ⟨#[]⟩, .int .i64 0]) (parts := [(0, .const (.string ⟨#[98]⟩)), (1, .const (.int .i64 1))]) (vs := [(0, _), (1, _)]) (cells := [_, _]) (by kernel_rfl) (by kernel_rfl) rfl rfl) ?_
  refine WL.y rfl (Yd.buildL (pl := [(0, 1), (1, 1)]) (zs := [.string ⟨#[]⟩, .int .i64 0]) (parts := [(0, .const (.string ⟨#[97]⟩)), (1, .const (.int .i64 5))]) (vs := [(0, _), (1, _)]) (cells := [_, _]) (by kernel_rfl) (by kernel_rfl) rfl rfl) ?_
  refine WL.h rfl (Hd.buildSlice (e := 32) (sz := 2) (zs := [.string ⟨#[]⟩, .int .i64 0]) (parts := [(0, .tmp 12), (1, .tmp 13)]) (vs := [(0, .agg (cellsG ⟨⟨#[98]⟩, 1, 0⟩).toArray), (1, .agg (cellsG ⟨⟨#[97]⟩, 5, 0⟩).toArray)]) (cells := kn0.flatMap cellsG) (by kernel_rfl) (by kernel_rfl) (by kernel_rfl) rfl (by kernel_rfl) (by kernel_rfl) fun rb => ⟨_, rfl, ?_⟩)
  refine WL.ca rfl (Ent.func Try.call11 rfl) (new_tells _ kn0 (by decide) _ (.inr ⟨rb, 0, 2, kn0.flatMap cellsG, 32, (0, 0), true, rfl, Nat.le_refl _, List.mem_cons_self, rfl⟩) (by decide)) ?_
  rintro q H1 hq
  obtain ⟨p, C1, rfl, h1, rfl⟩ := new_in hq kn_good
  have inv1 : SInv kn0 kn0 [] := SInv.start (by decide) (by decide) fun g hg => ⟨kn_good.2.2 g hg, (by decide : ∀ g ∈ kn0, g.gone = 0) g hg⟩
  refine WL.y rfl (Yd.move rfl) ?_
  refine WL.y rfl (Yd.extract rfl rfl) ?_
  refine WL.y rfl (Yd.extract rfl rfl) ?_
  refine WL.y rfl (Yd.assign rfl) ?_
  refine WL.y rfl (Yd.assign rfl) ?_
  refine WL.nil ?_
  refine DN.then_normal ?_
  refine WC.seq ?_
  refine WC.seq ?_
  refine WC.region ?_
  refine WL.y rfl (Yd.move rfl) ?_
  refine WL.y rfl (Yd.neq rfl rfl) ?_
  refine WL.renamed (t := 19) (v := .bool false) rfl (congrArg Value.bool (by decide)) ?_
  refine WL.y rfl (Yd.move rfl) ?_
  refine WL.gy (dj := 20) rfl rfl rfl (Yd.move rfl) ?_
  refine WL.gy (dj := 20) rfl rfl rfl (Yd.eqlNil Try.underlying26 rfl rfl) ?_
  refine WL.renamed (t := 22) (v := .bool false) rfl (congrArg Value.bool (rfl)) ?_
  refine WL.y rfl (Yd.pickF rfl rfl) ?_
  refine WL.nil ?_
  refine DN.then_normal ?_
  refine WC.no rfl ?_
  refine WC.skip ?_
  refine DN.then_normal ?_
  refine WC.seq ?_
  refine WC.region ?_
  refine WL.y rfl (Yd.move rfl) ?_
  refine WL.c rfl (Ent.func Try.call13 rfl) (hold_tells p kn0 kn0 [] C1 h1 inv1 7#32 ⟨#[97]⟩ 3) (Sp.p (by repeat (first | exact Sp.here | exact Sp.sn | exact Sp.s0 | exact Fr.here | apply Sp.s2 | apply Sp.sx | apply Fr.fc | apply Fr.al | apply Fr.fa | apply Sp.sc | apply Sp.al | apply Sp.sa))) ?_
  rintro q C2 ⟨rfl, h2⟩
  have inv2 := inv1.hold 7#32 ⟨#[97]⟩ 3
  rw [kn_a.2.1, kn_a.2.2] at h2 inv2
  rw [kn_a.1]
  refine WL.y rfl (Yd.assign rfl) ?_
  refine WL.nil ?_
  refine DN.then_normal ?_
  refine WC.seq ?_
  refine WC.region ?_
  refine WL.y rfl (Yd.move rfl) ?_
  refine WL.c rfl (Ent.func Try.call13 rfl) (hold_tells p kn0 kn1 kl1 C2 h2 inv2 8#32 ⟨#[97]⟩ 3) (Sp.p (by repeat (first | exact Sp.here | exact Sp.sn | exact Sp.s0 | exact Fr.here | apply Sp.s2 | apply Sp.sx | apply Fr.fc | apply Fr.al | apply Fr.fa | apply Sp.sc | apply Sp.al | apply Sp.sa))) ?_
  rintro q C3 ⟨rfl, h3⟩
  rw [(hold_no kn_b.1).1, (hold_no kn_b.1).2] at h3
  rw [kn_b.1]
  refine WL.y rfl (Yd.assign rfl) ?_
  refine WL.nil ?_
  refine DN.then_normal ?_
  refine WC.seq ?_
  refine WC.region ?_
  refine WL.y rfl (Yd.move rfl) ?_
  refine WL.c rfl (Ent.func Try.call13 rfl) (hold_tells p kn0 kn1 kl1 C3 h3 inv2 7#32 ⟨#[98]⟩ 1) (Sp.p (by repeat (first | exact Sp.here | exact Sp.sn | exact Sp.s0 | exact Fr.here | apply Sp.s2 | apply Sp.sx | apply Fr.fc | apply Fr.al | apply Fr.fa | apply Sp.sc | apply Sp.al | apply Sp.sa))) ?_
  rintro q C4 ⟨rfl, h4⟩
  rw [(hold_no kn_b.2).1, (hold_no kn_b.2).2] at h4
  rw [kn_b.2]
  refine WL.y rfl (Yd.assign rfl) ?_
  refine WL.nil ?_
  refine DN.then_normal ?_
  refine WC.seq ?_
  refine WC.region ?_
  refine WL.y rfl (Yd.move rfl) ?_
  refine WL.c rfl (Ent.func Try.call25 rfl) (free_tells p kn0 kn1 kl1 C4 h4 inv2 7#32) (Sp.p (by repeat (first | exact Sp.here | exact Sp.sn | exact Sp.s0 | exact Fr.here | apply Sp.s2 | apply Sp.sx | apply Fr.fc | apply Fr.al | apply Fr.fa | apply Sp.sc | apply Sp.al | apply Sp.sa))) ?_
  rintro q C5 ⟨rfl, h5⟩
  rw [kn_c.1, kn_c.2] at h5
  refine WL.y rfl (Yd.assign rfl) ?_
  refine WL.nil ?_
  refine DN.then_normal ?_
  refine WC.seq ?_
  refine WC.region ?_
  refine WL.y rfl (Yd.move rfl) ?_
  refine WL.c rfl (Ent.func Try.call12 rfl) (goods_tells p kn0 [] C5 h5 (by decide)) (Sp.p (by repeat (first | exact Sp.here | exact Sp.sn | exact Sp.s0 | exact Fr.here | apply Sp.s2 | apply Sp.sx | apply Fr.fc | apply Fr.al | apply Fr.fa | apply Sp.sc | apply Sp.al | apply Sp.sa))) ?_
  rintro q C6 ⟨S, Cs, hT, ho, rfl⟩
  obtain rfl := told_same (by decide) (kn_sort 1 0 5 0) hT
  obtain ⟨uo, uc, rfl, _⟩ := ho.form
  obtain ⟨ub, uf, us, uT, ufr, uex, rfl, _, hum, hus⟩ := ho.rs.lies (by decide)
  refine WL.y rfl (Yd.assign rfl) ?_
  refine WL.nil ?_
  refine DN.then_normal ?_
  refine WC.seq ?_
  refine WC.region ?_
  refine WL.y rfl (Yd.move rfl) ?_
  refine WL.c rfl (Ent.func Try.call13 rfl) (hold_tells p kn0 kn0 [] C5 h5 inv1 8#32 ⟨#[97]⟩ 5) (Sp.p (by repeat (first | exact Sp.here | exact Sp.sn | exact Sp.s0 | exact Fr.here | apply Sp.s2 | apply Sp.sx | apply Fr.fc | apply Fr.al | apply Fr.fa | apply Sp.sc | apply Sp.al | apply Sp.sa))) ?_
  rintro q C7 ⟨rfl, h7⟩
  have inv7 := inv1.hold 8#32 ⟨#[97]⟩ 5
  rw [kn_d.1, kn_d.2.1] at h7 inv7
  rw [kn_d.2.2]
  refine WL.y rfl (Yd.assign rfl) ?_
  refine WL.nil ?_
  refine DN.then_normal ?_
  refine WC.seq ?_
  refine WC.region ?_
  refine WL.y rfl (Yd.move rfl) ?_
  refine WL.c rfl (Ent.func Try.call26 rfl) (ship_tells p kn0 kn3 kl3 C7 h7 inv7 8#32) (Sp.p (by repeat (first | exact Sp.here | exact Sp.sn | exact Sp.s0 | exact Fr.here | apply Sp.s2 | apply Sp.sx | apply Fr.fc | apply Fr.al | apply Fr.fa | apply Sp.sc | apply Sp.al | apply Sp.sa))) ?_
  rintro q C8 ⟨rfl, h8⟩
  rw [kn_e.1, kn_e.2] at h8
  refine WL.y rfl (Yd.assign rfl) ?_
  refine WL.nil ?_
  refine DN.then_normal ?_
  refine WC.seq ?_
  refine WC.region ?_
  refine WL.y rfl (Yd.move rfl) ?_
  refine WL.c rfl (Ent.func Try.call12 rfl) (goods_tells p kn4 [] C8 h8 (by decide)) (Sp.p (by repeat (first | exact Sp.here | exact Sp.sn | exact Sp.s0 | exact Fr.here | apply Sp.s2 | apply Sp.sx | apply Fr.fc | apply Fr.al | apply Fr.fa | apply Sp.sc | apply Sp.al | apply Sp.sa))) ?_
  rintro q C9 ⟨S9, Cs9, hT9, ho9, rfl⟩
  obtain rfl := told_same (by decide) (kn_sort 1 0 0 5) hT9
  obtain ⟨vo, vc, rfl, _⟩ := ho9.form
  obtain ⟨vb, vf, vs, vT, vfr, vex, rfl, _, hvm, hvs⟩ := ho9.rs.lies (by decide)
  refine WL.y rfl (Yd.assign rfl) ?_
  refine WL.nil ?_
  refine DN.then_normal ?_
  refine WC.seq ?_
  refine WC.region ?_
  refine WL.y rfl (Yd.move rfl) ?_
  refine WL.y rfl (Yd.eql rfl rfl) ?_
  refine WL.renamed (t := 41) (v := .bool true) rfl (congrArg Value.bool (by kernel_rfl)) ?_
  refine WL.y rfl (Yd.move rfl) ?_
  refine WL.gy (dj := 42) rfl rfl rfl (Yd.move rfl) ?_
  refine WL.gy (dj := 42) rfl rfl rfl (Yd.eql rfl rfl) ?_
  refine WL.renamed (t := 44) (v := .bool true) rfl (congrArg Value.bool (by kernel_rfl)) ?_
  refine WL.y rfl (Yd.pickT rfl rfl) ?_
  refine WL.y rfl (Yd.move rfl) ?_
  refine WL.gy (dj := 46) rfl rfl rfl (Yd.move rfl) ?_
  refine WL.gy (dj := 46) rfl rfl rfl (Yd.eql rfl rfl) ?_
  refine WL.renamed (t := 48) (v := .bool true) rfl (congrArg Value.bool (by kernel_rfl)) ?_
  refine WL.y rfl (Yd.pickT rfl rfl) ?_
  refine WL.y rfl (Yd.move rfl) ?_
  refine WL.gy (dj := 50) rfl rfl rfl (Yd.move rfl) ?_
  refine WL.gy (dj := 50) rfl rfl rfl (Yd.eql rfl rfl) ?_
  refine WL.renamed (t := 52) (v := .bool true) rfl (congrArg Value.bool (by kernel_rfl)) ?_
  refine WL.y rfl (Yd.pickT rfl rfl) ?_
  refine WL.y rfl (Yd.move rfl) ?_
  refine WL.gy (dj := 54) rfl rfl rfl (Yd.move rfl) ?_
  refine WL.gy (dj := 54) rfl rfl rfl (Yd.len (e := 32) (by kernel_rfl) rfl) ?_
  refine WL.gy (dj := 54) rfl rfl rfl (Yd.eql rfl rfl) ?_
  refine WL.renamed (t := 57) (v := .bool true) rfl (congrArg Value.bool (by kernel_rfl)) ?_
  refine WL.y rfl (Yd.pickT rfl rfl) ?_
  refine WL.y rfl (Yd.move rfl) ?_
  refine WL.gy (dj := 59) rfl rfl rfl (Yd.move rfl) ?_
  refine WL.gy (dj := 59) rfl rfl rfl (Yd.indexAddr (e := 32) (s := 2) (by kernel_rfl) (by kernel_rfl) rfl rfl (by decide) (by decide)) ?_
  refine WL.gh (dj := 59) rfl rfl rfl (Hd.loadA (n := 2) (b := ub) (o := uf + ((0 : Nat) : Int).toNat * 2) (cs := us) (vs := cellsG ⟨⟨#[97]⟩, 5, 0⟩) (by kernel_rfl) rfl (Gr.get (by repeat (first | exact Gr.refl | exact Gr.left Gr.refl | exact Gr.left (Gr.left Gr.refl) | exact Gr.left (Gr.app Gr.refl) | exact Gr.left (Gr.left (Gr.left Gr.refl)) | exact Gr.nil | exact Gr.app (Gr.left Gr.refl) | refine Gr.cons ?_ | refine Gr.app ?_ | refine Gr.both ?_ ?_ | refine Gr.put (by repeat (first | exact List.mem_cons_self | apply List.mem_cons_of_mem | apply List.mem_append_right)) ?_)) hum) (cellsG_len _) (rs_cell hus (by decide) (by rfl)) ⟨_, rfl, ?_⟩)
  refine WL.gy (dj := 59) rfl rfl rfl (Yd.buildL (pl := [(0, 1), (1, 1)]) (zs := [.string ⟨#[]⟩, .int .i64 0]) (parts := [(0, .const (.string ⟨#[97]⟩)), (1, .const (.int .i64 5))]) (vs := [(0, _), (1, _)]) (cells := [_, _]) (by kernel_rfl) (by kernel_rfl) rfl rfl) ?_
  refine WL.gy (dj := 59) rfl rfl rfl (Yd.eqlSt [1, 0] (by kernel_rfl) rfl rfl (same_gd ⟨⟨#[97]⟩, 5, 0⟩ ⟨⟨#[97]⟩, 5, 0⟩)) ?_
  refine WL.renamed (t := 64) (v := .bool true) rfl (congrArg Value.bool (by kernel_rfl)) ?_
  refine WL.y rfl (Yd.pickT rfl rfl) ?_
  refine WL.y rfl (Yd.move rfl) ?_
  refine WL.gy (dj := 66) rfl rfl rfl (Yd.move rfl) ?_
  refine WL.gy (dj := 66) rfl rfl rfl (Yd.eql rfl rfl) ?_
  refine WL.renamed (t := 68) (v := .bool true) rfl (congrArg Value.bool (by kernel_rfl)) ?_
  refine WL.y rfl (Yd.pickT rfl rfl) ?_
  refine WL.y rfl (Yd.move rfl) ?_
  refine WL.gy (dj := 70) rfl rfl rfl (Yd.move rfl) ?_
  refine WL.gy (dj := 70) rfl rfl rfl (Yd.eql rfl rfl) ?_
  refine WL.renamed (t := 72) (v := .bool true) rfl (congrArg Value.bool (by kernel_rfl)) ?_
  refine WL.y rfl (Yd.pickT rfl rfl) ?_
  refine WL.y rfl (Yd.move rfl) ?_
  refine WL.gy (dj := 74) rfl rfl rfl (Yd.move rfl) ?_
  refine WL.gy (dj := 74) rfl rfl rfl (Yd.indexAddr (e := 32) (s := 2) (by kernel_rfl) (by kernel_rfl) rfl rfl (by decide) (by decide)) ?_
  refine WL.gy (dj := 74) rfl rfl rfl (Yd.fieldAddr (k := 1) (by kernel_rfl) rfl) ?_
  refine WL.gh (dj := 74) rfl rfl rfl (Hd.load1 (v := .int .i64 0) (b := vb) (o := vf + ((0 : Nat) : Int).toNat * 2 + 1) (cs := vs) (by kernel_rfl) rfl (Gr.get (by repeat (first | exact Gr.refl | exact Gr.left Gr.refl | exact Gr.left (Gr.left Gr.refl) | exact Gr.left (Gr.app Gr.refl) | exact Gr.left (Gr.left (Gr.left Gr.refl)) | exact Gr.nil | exact Gr.app (Gr.left Gr.refl) | refine Gr.cons ?_ | refine Gr.app ?_ | refine Gr.both ?_ ?_ | refine Gr.put (by repeat (first | exact List.mem_cons_self | apply List.mem_cons_of_mem | apply List.mem_append_right)) ?_)) hvm) (cell_at2 (L := [⟨⟨#[97]⟩, 0, 5⟩, ⟨⟨#[98]⟩, 1, 0⟩]) cellsG_len hvs (by decide) (by decide)) ⟨_, rfl, ?_⟩)
  refine WL.gy (dj := 74) rfl rfl rfl (Yd.eql rfl rfl) ?_
  refine WL.renamed (t := 79) (v := .bool true) rfl (congrArg Value.bool (by kernel_rfl)) ?_
  refine WL.y rfl (Yd.pickT rfl rfl) ?_
  refine WL.y rfl (Yd.move rfl) ?_
  refine WL.gy (dj := 81) rfl rfl rfl (Yd.move rfl) ?_
  refine WL.grf (dj := 81) rfl rfl rfl (Ent.func Try.call23 rfl) (gone_reads p kn4 [] C8 h8 ⟨#[97]⟩) (by repeat (first | exact Sp.here | exact Sp.sn | exact Sp.s0 | exact Fr.here | apply Sp.s2 | apply Sp.sx | apply Fr.fc | apply Fr.al | apply Fr.fa | apply Sp.sc | apply Sp.al | apply Sp.sa)) ?_
  refine WL.gy (dj := 81) rfl rfl rfl (Yd.eql rfl rfl) ?_
  refine WL.renamed (t := 84) (v := .bool true) rfl (congrArg Value.bool (by kernel_rfl)) ?_
  refine WL.y rfl (Yd.pickT rfl rfl) ?_
  refine WL.y rfl (Yd.assign rfl) ?_
  refine WL.nil ?_
  refine DN.then_normal ?_
  refine WC.ret ?_
  refine DN.fit (C := H) (by repeat (first | exact Sp.here | exact Sp.sn | exact Sp.s0 | exact Fr.here | apply Sp.s2 | apply Sp.sx | apply Fr.fc | apply Fr.al | apply Fr.fa | apply Sp.sc | apply Sp.al | apply Sp.sa)) ?_
  refine DN.ret1 Try.results10 rfl ?_
  exact ⟨rfl, rfl⟩

end Go.Proofs.Ytdbbkodjhmfjfaa
