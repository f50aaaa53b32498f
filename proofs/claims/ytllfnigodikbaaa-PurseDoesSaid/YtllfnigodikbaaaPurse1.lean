/-
  The walks of the purse: Authorise, turn, Capture, Void, Refund.
-/
import Derived.Test.YtllfnigodikbaaaPurseMath
import Derived.Test.YtllfnigodikbaaaSLQuiet2
import Derived.Test.YtllfnigodikbaaaRows
set_option linter.unusedVariables false
set_option linter.unusedSimpArgs false
set_option maxHeartbeats 4000000
namespace Go.Proofs.Ytllfnigodikbaaa
open Go.SL
theorem turn_mid {first K : List Au} {L : List Py} (inv : PInv first K L) {x : Py} (hx : x ∈ L) {s t dm dh : Int} (hok : turnOk s t dm dh) : -1000000000 ≤ dm * x.n ∧ dm * x.n ≤ 1000000000 ∧ -1000000000 ≤ dh * x.n ∧ dh * x.n ≤ 1000000000 ∧ 0 ≤ (acc K x.name).held ∧ (acc K x.name).held ≤ (acc K x.name).money ∧ (acc K x.name).money ≤ 1000000000 := by
  have h1 := inv.pays x hx
  have h2 := inv.mid x.name
  unfold heldU moneyOf at h2
  rcases hok with ⟨_, _, rfl, rfl⟩ | ⟨_, _, rfl, rfl⟩ | ⟨_, _, rfl, rfl⟩ <;> omega


/-- (*drayage/purse.Purse).Authorise -/
theorem auth_tells (p : Nat) (first K : List Au) (L : List Py) (C : List Ck) (h : PsAt 57 p K L C) (inv : PInv first K L) (o : BitVec 32) (nm : ByteArray) (n : Int) : Tells Try.prog 24 [.pointer (some ⟨p, 0, none⟩), .int .u32 o.toNat, .string nm, .int .i64 n] C fun r H' => r = .int .i64 (vdP (authB K L o nm n)) ∧ PsAt 57 p (authKs K L o nm n) (authLs K L o nm n) H' := by
  refine Tells.enter Try.func24 rfl Try.ntmps24 rfl ?_
  intro w0 R
  have hS := h
  obtain ⟨b1, b2, C1, C2, rfl, hK, hL⟩ := h
  have hmid := inv.mid nm
  unfold heldU moneyOf at hmid
  obtain ⟨x10, hx10⟩ : ∃ x, x = (findK Py.o L o).getD zeroP := ⟨_, rfl⟩
  refine WC.seq ?_
  refine WC.region ?_
  refine WL.y rfl (Yd.assign rfl) ?_
  refine WL.nil ?_
  refine DN.then_normal ?_
  refine WC.seq ?_
  refine WC.seq ?_
  refine WC.region ?_
  refine WL.y rfl (Yd.move rfl) ?_
  refine WL.y rfl (Yd.eqlNil Try.underlying26 rfl rfl) ?_
  refine WL.renamed (t := 13) (v := .bool false) rfl (congrArg Value.bool (rfl)) ?_
  refine WL.y rfl (Yd.move rfl) ?_
  refine WL.gy (dj := 14) rfl rfl rfl (Yd.move rfl) ?_
  refine WL.gy (dj := 14) rfl rfl rfl (Yd.eql32 _ (0#32) rfl rfl rfl rfl) ?_
  refine WL.y rfl (Yd.pickF rfl rfl) ?_
  refine WL.y rfl (Yd.move rfl) ?_
  refine WL.partP (t := 18) rfl (fun hg18 => ?_) (fun hg18 => ?_)
  · refine WL.gn (dj := 18) rfl rfl rfl rfl ?_
    refine WL.gn (dj := 18) rfl rfl rfl rfl ?_
    refine WL.y rfl (Yd.pickT rfl rfl) ?_
    refine WL.nil ?_
    refine DN.then_normal ?_
    refine WC.yes rfl ?_
    refine WC.seq ?_
    refine WC.region ?_
    refine WL.y rfl (Yd.assign rfl) ?_
    refine WL.nil ?_
    refine DN.then_normal ?_
    refine WC.ret ?_
    refine DN.then_ret ?_
    first | refine DN.fit (C := row p [.map (some b1), .map (some b2)] 57 :: (C3 ++ C4)) (by repeat (first | exact Sp.here | exact Sp.sn | exact Sp.s0 | exact Fr.here | apply Sp.s2 | apply Sp.sx | apply Fr.fc | apply Fr.al | apply Fr.fa | apply Sp.sc | apply Sp.al | apply Sp.sa)) ?_ | refine DN.fit (C := row p [.map (some b1), .map (some b2)] 57 :: (C1 ++ C2)) (by repeat (first | exact Sp.here | exact Sp.sn | exact Sp.s0 | exact Fr.here | apply Sp.s2 | apply Sp.sx | apply Fr.fc | apply Fr.al | apply Fr.fa | apply Sp.sc | apply Sp.al | apply Sp.sa)) ?_
    refine DN.ret1 Try.results24 rfl ?_
    first
      | (have hb : authB K L o nm n = true := by
           unfold authB moneyOf heldU
           simp only [Bool.and_eq_true, decide_eq_true_eq, Bool.not_eq_true']
           exact ⟨hg18, by omega, hg38, by omega⟩
         have hin := (authB_parts hb).2.2.2.2
         have hf : findK Py.o L o = none := by simpa using hg38
         rw [(auth_yes hb).1, (auth_yes hb).2, hb]
         refine ⟨rfl, b1, b2, C3, C4, rfl, ?_, ?_⟩
         · have e : adjU K nm 0 n = putK Au.name K ⟨(acc K nm).name, (acc K nm).money, (acc K nm).held + n⟩ := by unfold adjU moneyOf heldU; rw [Int.add_zero, acc_in hin]
           rw [e, ← putU K ⟨(acc K nm).name, (acc K nm).money, (acc K nm).held + n⟩ nm (acc_in hin).symm]; exact h3
         · rw [← putP_new (x := ⟨o, nm, n, 1⟩) hf, ← putP L ⟨o, nm, n, 1⟩ o rfl]; exact h4)
      | (have hb : authB K L o nm n = false := by
           unfold authB moneyOf heldU
           rw [Bool.eq_false_iff]
           simp only [ne_eq, Bool.and_eq_true, decide_eq_true_eq, Bool.not_eq_true']
           rintro ⟨e1, e2, e3, e4⟩
           first
           | omega
           | exact e1 hg18
           | exact Bool.noConfusion (e3.symm.trans hg38)
         rw [(auth_no hb).1, (auth_no hb).2, hb]
         exact ⟨rfl, hS⟩)
  · refine WL.gy (dj := 18) rfl rfl rfl (Yd.move rfl) ?_
    refine WL.gy (dj := 18) rfl rfl rfl (Yd.lss rfl rfl) ?_
    refine WL.y rfl (Yd.pickF rfl rfl) ?_
    refine WL.nil ?_
    refine DN.then_normal ?_
    refine WC.ite rfl (fun h21 => ?_) (fun h21 => ?_)
    · refine WC.seq ?_
      refine WC.region ?_
      refine WL.y rfl (Yd.assign rfl) ?_
      refine WL.nil ?_
      refine DN.then_normal ?_
      refine WC.ret ?_
      refine DN.then_ret ?_
      first | refine DN.fit (C := row p [.map (some b1), .map (some b2)] 57 :: (C3 ++ C4)) (by repeat (first | exact Sp.here | exact Sp.sn | exact Sp.s0 | exact Fr.here | apply Sp.s2 | apply Sp.sx | apply Fr.fc | apply Fr.al | apply Fr.fa | apply Sp.sc | apply Sp.al | apply Sp.sa)) ?_ | refine DN.fit (C := row p [.map (some b1), .map (some b2)] 57 :: (C1 ++ C2)) (by repeat (first | exact Sp.here | exact Sp.sn | exact Sp.s0 | exact Fr.here | apply Sp.s2 | apply Sp.sx | apply Fr.fc | apply Fr.al | apply Fr.fa | apply Sp.sc | apply Sp.al | apply Sp.sa)) ?_
      refine DN.ret1 Try.results24 rfl ?_
      first
        | (have hb : authB K L o nm n = true := by
             unfold authB moneyOf heldU
             simp only [Bool.and_eq_true, decide_eq_true_eq, Bool.not_eq_true']
             exact ⟨hg18, by omega, hg38, by omega⟩
           have hin := (authB_parts hb).2.2.2.2
           have hf : findK Py.o L o = none := by simpa using hg38
           rw [(auth_yes hb).1, (auth_yes hb).2, hb]
           refine ⟨rfl, b1, b2, C3, C4, rfl, ?_, ?_⟩
           · have e : adjU K nm 0 n = putK Au.name K ⟨(acc K nm).name, (acc K nm).money, (acc K nm).held + n⟩ := by unfold adjU moneyOf heldU; rw [Int.add_zero, acc_in hin]
             rw [e, ← putU K ⟨(acc K nm).name, (acc K nm).money, (acc K nm).held + n⟩ nm (acc_in hin).symm]; exact h3
           · rw [← putP_new (x := ⟨o, nm, n, 1⟩) hf, ← putP L ⟨o, nm, n, 1⟩ o rfl]; exact h4)
        | (have hb : authB K L o nm n = false := by
             unfold authB moneyOf heldU
             rw [Bool.eq_false_iff]
             simp only [ne_eq, Bool.and_eq_true, decide_eq_true_eq, Bool.not_eq_true']
             rintro ⟨e1, e2, e3, e4⟩
             first
             | omega
             | exact e1 hg18
             | exact Bool.noConfusion (e3.symm.trans hg38)
           rw [(auth_no hb).1, (auth_no hb).2, hb]
           exact ⟨rfl, hS⟩)
    · refine WC.skip ?_
      refine DN.then_normal ?_
      refine WC.seq ?_
      refine WC.region ?_
      refine WL.y rfl (Yd.move rfl) ?_
      refine WL.y rfl (Yd.notNil rfl) ?_
      refine WL.y rfl (Yd.fieldAddr (k := 0) (by kernel_rfl) rfl) ?_
      refine WL.h rfl (Hd.load1 (by kernel_rfl) rfl (by repeat (first | exact List.mem_cons_self | apply List.mem_cons_of_mem | apply List.mem_append_right)) (by rfl) ⟨_, rfl, ?_⟩)
      refine WL.y rfl (Yd.move rfl) ?_
      refine WL.h rfl (Hd.lookupG (k0 := kStr) (KT := 9) (ET := 46) (TD := .string) (n := nm) (z := .agg #[.string ⟨#[]⟩, .int .i64 0, .int .i64 0]) (by kernel_rfl) Try.underlying9 rfl (by kernel_rfl) rfl rfl hK (by repeat (first | exact Sp.here | exact Sp.sn | exact Sp.s0 | exact Fr.here | apply Sp.s2 | apply Sp.sx | apply Fr.fc | apply Fr.al | apply Fr.fa | apply Sp.sc | apply Sp.al | apply Sp.sa)) (lkU K nm) ⟨_, rfl, ?_⟩)
      refine WL.h rfl (Hd.alloc (zs := [.string ⟨#[]⟩, .int .i64 0, .int .i64 0]) (by kernel_rfl) fun b9 => ⟨_, rfl, ?_⟩)
      refine WL.s (Hd.storeAll (n := 3) (by kernel_rfl) rfl rfl (by rfl) (by repeat (first | exact fun _ h => absurd h List.not_mem_nil | refine List.forall_mem_cons.2 ⟨by first | rfl | assumption, ?_⟩)) (by repeat (first | exact Fr.here | apply Fr.fc | apply Fr.al | apply Fr.fa)) (by rfl) ⟨rfl, ?_⟩)
      refine WL.nil ?_
      refine DN.then_normal ?_
      refine WC.seq ?_
      refine WC.seq ?_
      refine WC.region ?_
      refine WL.y rfl (Yd.move rfl) ?_
      refine WL.y rfl (Yd.notNil rfl) ?_
      refine WL.y rfl (Yd.fieldAddr (k := 1) (by kernel_rfl) rfl) ?_
      refine WL.h rfl (Hd.load1 (by kernel_rfl) rfl (by repeat (first | exact List.mem_cons_self | apply List.mem_cons_of_mem | apply List.mem_append_right)) (by rfl) ⟨_, rfl, ?_⟩)
      refine WL.y rfl (Yd.move rfl) ?_
      refine WL.h rfl (Hd.lookupG (k0 := kU32) (KT := 33) (ET := 48) (TD := .int .u32) (n := o) (z := .agg #[.int .u32 0, .string ⟨#[]⟩, .int .i64 0, .int .i64 0]) (by kernel_rfl) Try.underlying33 ⟨_, rfl⟩ (by kernel_rfl) rfl rfl hL (by repeat (first | exact Sp.here | exact Sp.sn | exact Sp.s0 | exact Fr.here | apply Sp.s2 | apply Sp.sx | apply Fr.fc | apply Fr.al | apply Fr.fa | apply Sp.sc | apply Sp.al | apply Sp.sa)) (lkP2 L o) ⟨_, rfl, ?_⟩)
      refine WL.y rfl (Yd.move rfl) ?_
      rw [← hx10]
      refine WL.y rfl (Yd.extract rfl rfl) ?_
      refine WL.y rfl (Yd.extract rfl rfl) ?_
      refine WL.h rfl (Hd.alloc (zs := [.int .u32 0, .string ⟨#[]⟩, .int .i64 0, .int .i64 0]) (by kernel_rfl) fun b10 => ⟨_, rfl, ?_⟩)
      refine WL.s (Hd.storeAll (n := 4) (by kernel_rfl) rfl rfl (by rfl) (by repeat (first | exact fun _ h => absurd h List.not_mem_nil | refine List.forall_mem_cons.2 ⟨by first | rfl | assumption, ?_⟩)) (by repeat (first | exact Fr.here | apply Fr.fc | apply Fr.al | apply Fr.fa)) (by rfl) ⟨rfl, ?_⟩)
      refine WL.y rfl (Yd.assign rfl) ?_
      refine WL.nil ?_
      refine DN.then_normal ?_
      refine WC.seq ?_
      refine WC.region ?_
      refine WL.y rfl (Yd.move rfl) ?_
      refine WL.y rfl (Yd.move rfl) ?_
      refine WL.part (t := 38) rfl (fun hg38 => ?_) (fun hg38 => ?_)
      · refine WL.gn (dj := 38) rfl rfl rfl rfl ?_
        refine WL.gn (dj := 38) rfl rfl rfl rfl ?_
        refine WL.gn (dj := 38) rfl rfl rfl rfl ?_
        refine WL.gn (dj := 38) rfl rfl rfl rfl ?_
        refine WL.gn (dj := 38) rfl rfl rfl rfl ?_
        refine WL.gn (dj := 38) rfl rfl rfl rfl ?_
        refine WL.gn (dj := 38) rfl rfl rfl rfl ?_
        refine WL.y rfl (Yd.pickT rfl rfl) ?_
        refine WL.nil ?_
        refine DN.then_normal ?_
        refine WC.yes rfl ?_
        refine WC.seq ?_
        refine WC.region ?_
        refine WL.y rfl (Yd.assign rfl) ?_
        refine WL.nil ?_
        refine DN.then_normal ?_
        refine WC.ret ?_
        refine DN.then_ret ?_
        first | refine DN.fit (C := row p [.map (some b1), .map (some b2)] 57 :: (C3 ++ C4)) (by repeat (first | exact Sp.here | exact Sp.sn | exact Sp.s0 | exact Fr.here | apply Sp.s2 | apply Sp.sx | apply Fr.fc | apply Fr.al | apply Fr.fa | apply Sp.sc | apply Sp.al | apply Sp.sa)) ?_ | refine DN.fit (C := row p [.map (some b1), .map (some b2)] 57 :: (C1 ++ C2)) (by repeat (first | exact Sp.here | exact Sp.sn | exact Sp.s0 | exact Fr.here | apply Sp.s2 | apply Sp.sx | apply Fr.fc | apply Fr.al | apply Fr.fa | apply Sp.sc | apply Sp.al | apply Sp.sa)) ?_
        refine DN.ret1 Try.results24 rfl ?_
        first
          | (have hb : authB K L o nm n = true := by
               unfold authB moneyOf heldU
               simp only [Bool.and_eq_true, decide_eq_true_eq, Bool.not_eq_true']
               exact ⟨hg18, by omega, hg38, by omega⟩
             have hin := (authB_parts hb).2.2.2.2
             have hf : findK Py.o L o = none := by simpa using hg38
             rw [(auth_yes hb).1, (auth_yes hb).2, hb]
             refine ⟨rfl, b1, b2, C3, C4, rfl, ?_, ?_⟩
             · have e : adjU K nm 0 n = putK Au.name K ⟨(acc K nm).name, (acc K nm).money, (acc K nm).held + n⟩ := by unfold adjU moneyOf heldU; rw [Int.add_zero, acc_in hin]
               rw [e, ← putU K ⟨(acc K nm).name, (acc K nm).money, (acc K nm).held + n⟩ nm (acc_in hin).symm]; exact h3
             · rw [← putP_new (x := ⟨o, nm, n, 1⟩) hf, ← putP L ⟨o, nm, n, 1⟩ o rfl]; exact h4)
          | (have hb : authB K L o nm n = false := by
               unfold authB moneyOf heldU
               rw [Bool.eq_false_iff]
               simp only [ne_eq, Bool.and_eq_true, decide_eq_true_eq, Bool.not_eq_true']
               rintro ⟨e1, e2, e3, e4⟩
               first
               | omega
               | exact e1 hg18
               | exact Bool.noConfusion (e3.symm.trans hg38)
             rw [(auth_no hb).1, (auth_no hb).2, hb]
             exact ⟨rfl, hS⟩)
      · refine WL.gy (dj := 38) rfl rfl rfl (Yd.fieldAddr (k := 1) (by kernel_rfl) rfl) ?_
        refine WL.gh (dj := 38) rfl rfl rfl (Hd.load1 (by kernel_rfl) rfl (by repeat (first | exact List.mem_cons_self | apply List.mem_cons_of_mem | apply List.mem_append_right)) (by rfl) ⟨_, rfl, ?_⟩)
        refine WL.gy (dj := 38) rfl rfl rfl (Yd.fieldAddr (k := 2) (by kernel_rfl) rfl) ?_
        refine WL.gh (dj := 38) rfl rfl rfl (Hd.load1 (by kernel_rfl) rfl (by repeat (first | exact List.mem_cons_self | apply List.mem_cons_of_mem | apply List.mem_append_right)) (by rfl) ⟨_, rfl, ?_⟩)
        refine WL.gy (dj := 38) rfl rfl rfl (Yd.sub rfl rfl (by omega) (by omega)) ?_
        refine WL.gy (dj := 38) rfl rfl rfl (Yd.move rfl) ?_
        refine WL.gy (dj := 38) rfl rfl rfl (Yd.lss rfl rfl) ?_
        refine WL.y rfl (Yd.pickF rfl rfl) ?_
        refine WL.nil ?_
        refine DN.then_normal ?_
        refine WC.ite rfl (fun h46 => ?_) (fun h46 => ?_)
        · refine WC.seq ?_
          refine WC.region ?_
          refine WL.y rfl (Yd.assign rfl) ?_
          refine WL.nil ?_
          refine DN.then_normal ?_
          refine WC.ret ?_
          refine DN.then_ret ?_
          first | refine DN.fit (C := row p [.map (some b1), .map (some b2)] 57 :: (C3 ++ C4)) (by repeat (first | exact Sp.here | exact Sp.sn | exact Sp.s0 | exact Fr.here | apply Sp.s2 | apply Sp.sx | apply Fr.fc | apply Fr.al | apply Fr.fa | apply Sp.sc | apply Sp.al | apply Sp.sa)) ?_ | refine DN.fit (C := row p [.map (some b1), .map (some b2)] 57 :: (C1 ++ C2)) (by repeat (first | exact Sp.here | exact Sp.sn | exact Sp.s0 | exact Fr.here | apply Sp.s2 | apply Sp.sx | apply Fr.fc | apply Fr.al | apply Fr.fa | apply Sp.sc | apply Sp.al | apply Sp.sa)) ?_
          refine DN.ret1 Try.results24 rfl ?_
          first
            | (have hb : authB K L o nm n = true := by
                 unfold authB moneyOf heldU
                 simp only [Bool.and_eq_true, decide_eq_true_eq, Bool.not_eq_true']
                 exact ⟨hg18, by omega, hg38, by omega⟩
               have hin := (authB_parts hb).2.2.2.2
               have hf : findK Py.o L o = none := by simpa using hg38
               rw [(auth_yes hb).1, (auth_yes hb).2, hb]
               refine ⟨rfl, b1, b2, C3, C4, rfl, ?_, ?_⟩
               · have e : adjU K nm 0 n = putK Au.name K ⟨(acc K nm).name, (acc K nm).money, (acc K nm).held + n⟩ := by unfold adjU moneyOf heldU; rw [Int.add_zero, acc_in hin]
                 rw [e, ← putU K ⟨(acc K nm).name, (acc K nm).money, (acc K nm).held + n⟩ nm (acc_in hin).symm]; exact h3
               · rw [← putP_new (x := ⟨o, nm, n, 1⟩) hf, ← putP L ⟨o, nm, n, 1⟩ o rfl]; exact h4)
            | (have hb : authB K L o nm n = false := by
                 unfold authB moneyOf heldU
                 rw [Bool.eq_false_iff]
                 simp only [ne_eq, Bool.and_eq_true, decide_eq_true_eq, Bool.not_eq_true']
                 rintro ⟨e1, e2, e3, e4⟩
                 first
                 | omega
                 | exact e1 hg18
                 | exact Bool.noConfusion (e3.symm.trans hg38)
               rw [(auth_no hb).1, (auth_no hb).2, hb]
               exact ⟨rfl, hS⟩)
        · refine WC.skip ?_
          refine DN.then_normal ?_
          refine WC.seq ?_
          refine WC.region ?_
          refine WL.y rfl (Yd.fieldAddr (k := 2) (by kernel_rfl) rfl) ?_
          refine WL.h rfl (Hd.load1 (by kernel_rfl) rfl (by repeat (first | exact List.mem_cons_self | apply List.mem_cons_of_mem | apply List.mem_append_right)) (by rfl) ⟨_, rfl, ?_⟩)
          refine WL.y rfl (Yd.move rfl) ?_
          refine WL.y rfl (Yd.add rfl rfl (by omega) (by omega)) ?_
          refine WL.y rfl (Yd.fieldAddr (k := 2) (by kernel_rfl) rfl) ?_
          refine WL.s (Hd.store1s (by kernel_rfl) rfl rfl (by rfl) (by repeat (first | exact Fr.here | apply Fr.fc | apply Fr.al | apply Fr.fa)) (by rfl) (by first | (simp only [List.set_cons_zero, List.set_cons_succ, Nat.zero_add, Nat.add_zero, Nat.reduceAdd]; rfl) | rfl) ⟨rfl, ?_⟩)
          refine WL.nil ?_
          refine DN.then_normal ?_
          refine WC.seq ?_
          refine WC.draw 7 (by kernel_rfl) rfl ?_
          refine WA.y (i := 0) (NoPanic.then (NoPanic.body)) rfl (by kernel_rfl) (by kernel_rfl) (by kernel_rfl) rfl (Yd.move rfl) ?_
          refine WA.y (i := 1) (NoPanic.then (NoPanic.body)) rfl (by kernel_rfl) (by kernel_rfl) (by kernel_rfl) rfl (Yd.notNil rfl) ?_
          refine WA.y (i := 2) (NoPanic.then (NoPanic.body)) rfl (by kernel_rfl) (by kernel_rfl) (by kernel_rfl) rfl (Yd.fieldAddr (k := 0) (by kernel_rfl) rfl) ?_
          refine WA.y (i := 4) (NoPanic.then (NoPanic.body)) rfl (by kernel_rfl) (by kernel_rfl) (by kernel_rfl) rfl (Yd.move rfl) ?_
          refine WA.reads [(3, 55, _), (5, 57, _)] [3, 5] [] 1 rfl rfl (List.forall_mem_cons.2 ⟨ReadAt.mk rfl Wt.none rfl (Rd.load1 (by kernel_rfl) rfl (by repeat (first | exact List.mem_cons_self | apply List.mem_cons_of_mem | apply List.mem_append_right)) (by rfl)), List.forall_mem_cons.2 ⟨ReadAt.mk rfl Wt.none rfl (Rd.loadAll (n := 3) (by kernel_rfl) rfl (by repeat (first | exact List.mem_cons_self | apply List.mem_cons_of_mem | apply List.mem_append_right)) (by rfl)), fun _ h => absurd h List.not_mem_nil⟩⟩) (by decide) (by simp) (List.forall_mem_cons.2 ⟨rfl, List.forall_mem_cons.2 ⟨rfl, fun _ h => absurd h List.not_mem_nil⟩⟩) (by kernel_rfl) (fun _ h => absurd h List.not_mem_nil) ?_
          · change WA _ _ _ _ _ _ 1 _ ([(55, _), (57, _)] ++ _) _
            refine WA.one (i := 6) (by kernel_rfl) ?_
            refine WO.s rfl Wt.none (Hd.mapSet (k0 := kStr) (KT := 9) (ET := 46) (TD := .string) (n := nm) (v := .agg #[.string (acc K nm).name, .int .i64 (acc K nm).money, .int .i64 ((acc K nm).held + n)]) (by kernel_rfl) Try.underlying9 rfl rfl rfl rfl hK (by rw [kvs_keys]; exact inv.knd) (by repeat (first | exact Sp.here | exact Sp.sn | exact Sp.s0 | exact Fr.here | apply Sp.s2 | apply Sp.sx | apply Fr.fc | apply Fr.al | apply Fr.fa | apply Sp.sc | apply Sp.al | apply Sp.sa)) fun C3 h3 => ⟨rfl, ?_⟩)
            refine WA.done (by kernel_rfl) ?_
            refine DN.then_normal ?_
            refine WC.seq ?_
            refine WC.region ?_
            refine WL.y rfl (Yd.move rfl) ?_
            refine WL.y rfl (Yd.notNil rfl) ?_
            refine WL.y rfl (Yd.fieldAddr (k := 1) (by kernel_rfl) rfl) ?_
            refine WL.h rfl (Hd.load1 (by kernel_rfl) rfl (by repeat (first | exact List.mem_cons_self | apply List.mem_cons_of_mem | apply List.mem_append_right)) (by rfl) ⟨_, rfl, ?_⟩)
            refine WL.y rfl (Yd.move rfl) ?_
            refine WL.y rfl (Yd.move rfl) ?_
            refine WL.y rfl (Yd.move rfl) ?_
            refine WL.y rfl (Yd.move rfl) ?_
            refine WL.y rfl (Yd.buildL (pl := [(0, 1), (1, 1), (2, 1), (3, 1)]) (zs := [.int .u32 0, .string ⟨#[]⟩, .int .i64 0, .int .i64 0]) (parts := [(0, .tmp 63), (1, .tmp 64), (2, .tmp 65), (3, .const (.int .i64 1))]) (vs := [(0, _), (1, _), (2, _), (3, _)]) (cells := [_, _, _, _]) (by kernel_rfl) (by kernel_rfl) rfl rfl) ?_
            refine WL.s (Hd.mapSet (k0 := kU32) (KT := 33) (ET := 48) (TD := .int .u32) (n := o) (v := .agg #[.int .u32 o.toNat, .string nm, .int .i64 n, .int .i64 1]) (by kernel_rfl) Try.underlying33 ⟨_, rfl⟩ rfl rfl rfl hL (by rw [kvs_keys]; exact inv.keys) (by repeat (first | exact Sp.here | exact Sp.sn | exact Sp.s0 | exact Fr.here | apply Sp.s2 | apply Sp.sx | apply Fr.fc | apply Fr.al | apply Fr.fa | apply Sp.sc | apply Sp.al | apply Sp.sa)) fun C4 h4 => ⟨rfl, ?_⟩)
            refine WL.nil ?_
            refine DN.then_normal ?_
            refine WC.seq ?_
            refine WC.region ?_
            refine WL.y rfl (Yd.assign rfl) ?_
            refine WL.nil ?_
            refine DN.then_normal ?_
            refine WC.ret ?_
            first | refine DN.fit (C := row p [.map (some b1), .map (some b2)] 57 :: (C3 ++ C4)) (by repeat (first | exact Sp.here | exact Sp.sn | exact Sp.s0 | exact Fr.here | apply Sp.s2 | apply Sp.sx | apply Fr.fc | apply Fr.al | apply Fr.fa | apply Sp.sc | apply Sp.al | apply Sp.sa)) ?_ | refine DN.fit (C := row p [.map (some b1), .map (some b2)] 57 :: (C1 ++ C2)) (by repeat (first | exact Sp.here | exact Sp.sn | exact Sp.s0 | exact Fr.here | apply Sp.s2 | apply Sp.sx | apply Fr.fc | apply Fr.al | apply Fr.fa | apply Sp.sc | apply Sp.al | apply Sp.sa)) ?_
            refine DN.ret1 Try.results24 rfl ?_
            first
              | (have hb : authB K L o nm n = true := by
                   unfold authB moneyOf heldU
                   simp only [Bool.and_eq_true, decide_eq_true_eq, Bool.not_eq_true']
                   exact ⟨hg18, by omega, hg38, by omega⟩
                 have hin := (authB_parts hb).2.2.2.2
                 have hf : findK Py.o L o = none := by simpa using hg38
                 rw [(auth_yes hb).1, (auth_yes hb).2, hb]
                 refine ⟨rfl, b1, b2, C3, C4, rfl, ?_, ?_⟩
                 · have e : adjU K nm 0 n = putK Au.name K ⟨(acc K nm).name, (acc K nm).money, (acc K nm).held + n⟩ := by unfold adjU moneyOf heldU; rw [Int.add_zero, acc_in hin]
                   rw [e, ← putU K ⟨(acc K nm).name, (acc K nm).money, (acc K nm).held + n⟩ nm (acc_in hin).symm]; exact h3
                 · rw [← putP_new (x := ⟨o, nm, n, 1⟩) hf, ← putP L ⟨o, nm, n, 1⟩ o rfl]; exact h4)
              | (have hb : authB K L o nm n = false := by
                   unfold authB moneyOf heldU
                   rw [Bool.eq_false_iff]
                   simp only [ne_eq, Bool.and_eq_true, decide_eq_true_eq, Bool.not_eq_true']
                   rintro ⟨e1, e2, e3, e4⟩
                   first
                   | omega
                   | exact e1 hg18
                   | exact Bool.noConfusion (e3.symm.trans hg38)
                 rw [(auth_no hb).1, (auth_no hb).2, hb]
                 exact ⟨rfl, hS⟩)

/-- (*drayage/purse.Purse).turn -/
theorem turn_tells (p : Nat) (first K : List Au) (L : List Py) (C : List Ck) (h : PsAt 57 p K L C) (inv : PInv first K L) (o : BitVec 32) (s t dm dh : Int) (hok : turnOk s t dm dh) : Tells Try.prog 36 [.pointer (some ⟨p, 0, none⟩), .int .u32 o.toNat, .int .i64 s, .int .i64 t, .int .i64 dm, .int .i64 dh] C fun r H' => r = .int .i64 (vdP (turnB L o s)) ∧ PsAt 57 p (turnKs K L o s dm dh) (turnLs L o s t) H' := by
  refine Tells.enter Try.func36 rfl Try.ntmps36 rfl ?_
  intro w0 R
  have hS := h
  obtain ⟨b1, b2, C1, C2, rfl, hK, hL⟩ := h
  obtain ⟨x10, hx10⟩ : ∃ x, x = (findK Py.o L o).getD zeroP := ⟨_, rfl⟩
  refine WC.seq ?_
  refine WC.region ?_
  refine WL.y rfl (Yd.assign rfl) ?_
  refine WL.nil ?_
  refine DN.then_normal ?_
  refine WC.seq ?_
  refine WC.seq ?_
  refine WC.region ?_
  refine WL.y rfl (Yd.move rfl) ?_
  refine WL.y rfl (Yd.eqlNil Try.underlying26 rfl rfl) ?_
  refine WL.renamed (t := 17) (v := .bool false) rfl (congrArg Value.bool (rfl)) ?_
  refine WL.nil ?_
  refine DN.then_normal ?_
  refine WC.no rfl ?_
  refine WC.skip ?_
  refine DN.then_normal ?_
  refine WC.seq ?_
  refine WC.region ?_
  refine WL.y rfl (Yd.move rfl) ?_
  refine WL.y rfl (Yd.notNil rfl) ?_
  refine WL.y rfl (Yd.fieldAddr (k := 1) (by kernel_rfl) rfl) ?_
  refine WL.h rfl (Hd.load1 (by kernel_rfl) rfl (by repeat (first | exact List.mem_cons_self | apply List.mem_cons_of_mem | apply List.mem_append_right)) (by rfl) ⟨_, rfl, ?_⟩)
  refine WL.y rfl (Yd.move rfl) ?_
  refine WL.h rfl (Hd.lookupG (k0 := kU32) (KT := 33) (ET := 48) (TD := .int .u32) (n := o) (z := .agg #[.int .u32 0, .string ⟨#[]⟩, .int .i64 0, .int .i64 0]) (by kernel_rfl) Try.underlying33 ⟨_, rfl⟩ (by kernel_rfl) rfl rfl hL (by repeat (first | exact Sp.here | exact Sp.sn | exact Sp.s0 | exact Fr.here | apply Sp.s2 | apply Sp.sx | apply Fr.fc | apply Fr.al | apply Fr.fa | apply Sp.sc | apply Sp.al | apply Sp.sa)) (lkP2 L o) ⟨_, rfl, ?_⟩)
  refine WL.y rfl (Yd.move rfl) ?_
  rw [← hx10]
  refine WL.y rfl (Yd.extract rfl rfl) ?_
  refine WL.y rfl (Yd.extract rfl rfl) ?_
  refine WL.h rfl (Hd.alloc (zs := [.int .u32 0, .string ⟨#[]⟩, .int .i64 0, .int .i64 0]) (by kernel_rfl) fun b13 => ⟨_, rfl, ?_⟩)
  refine WL.s (Hd.storeAll (n := 4) (by kernel_rfl) rfl rfl (by rfl) (by repeat (first | exact fun _ h => absurd h List.not_mem_nil | refine List.forall_mem_cons.2 ⟨by first | rfl | assumption, ?_⟩)) (by repeat (first | exact Fr.here | apply Fr.fc | apply Fr.al | apply Fr.fa)) (by rfl) ⟨rfl, ?_⟩)
  refine WL.y rfl (Yd.assign rfl) ?_
  refine WL.nil ?_
  refine DN.then_normal ?_
  refine WC.seq ?_
  refine WC.seq ?_
  refine WC.region ?_
  refine WL.y rfl (Yd.move rfl) ?_
  refine WL.y rfl (Yd.notB rfl) ?_
  refine WL.y rfl (Yd.move rfl) ?_
  refine WL.part (t := 29) rfl (fun hg29 => ?_) (fun hg29 => ?_)
  · refine WL.gn (dj := 29) rfl rfl rfl rfl ?_
    refine WL.gn (dj := 29) rfl rfl rfl rfl ?_
    refine WL.gn (dj := 29) rfl rfl rfl rfl ?_
    refine WL.gn (dj := 29) rfl rfl rfl rfl ?_
    refine WL.y rfl (Yd.pickT rfl rfl) ?_
    refine WL.nil ?_
    refine DN.then_normal ?_
    refine WC.yes rfl ?_
    refine WC.seq ?_
    refine WC.region ?_
    refine WL.y rfl (Yd.assign rfl) ?_
    refine WL.nil ?_
    refine DN.then_normal ?_
    refine WC.ret ?_
    refine DN.then_ret ?_
    first | refine DN.fit (C := row p [.map (some b1), .map (some b2)] 57 :: (C1 ++ C2)) (by repeat (first | exact Sp.here | exact Sp.sn | exact Sp.s0 | exact Fr.here | apply Sp.s2 | apply Sp.sx | apply Fr.fc | apply Fr.al | apply Fr.fa | apply Sp.sc | apply Sp.al | apply Sp.sa)) ?_ | skip
    refine DN.ret1 Try.results36 rfl ?_
    first
      | (rw [hb]; exact ⟨rfl, hz⟩)
      | (have hb : turnB L o s = false := by
           unfold turnB
           cases hf : findK Py.o L o with
           | none => rfl
           | some x =>
             rw [hf] at hx10 hg29
             simp only [Option.getD_some] at hx10
             subst hx10
             first
             | (simp at hg29; done)
             | exact decide_eq_false h34
         rw [hb, (turn_no t dm dh hb).1, (turn_no (K := K) t dm dh hb).2]
         exact ⟨rfl, hS⟩)
  · refine WL.gy (dj := 29) rfl rfl rfl (Yd.fieldAddr (k := 3) (by kernel_rfl) rfl) ?_
    refine WL.gh (dj := 29) rfl rfl rfl (Hd.load1 (by kernel_rfl) rfl (by repeat (first | exact List.mem_cons_self | apply List.mem_cons_of_mem | apply List.mem_append_right)) (by rfl) ⟨_, rfl, ?_⟩)
    refine WL.gy (dj := 29) rfl rfl rfl (Yd.move rfl) ?_
    refine WL.gy (dj := 29) rfl rfl rfl (Yd.neq rfl rfl) ?_
    refine WL.y rfl (Yd.pickF rfl rfl) ?_
    refine WL.nil ?_
    refine DN.then_normal ?_
    refine WC.ite rfl (fun h34 => ?_) (fun h34 => ?_)
    · refine WC.seq ?_
      refine WC.region ?_
      refine WL.y rfl (Yd.assign rfl) ?_
      refine WL.nil ?_
      refine DN.then_normal ?_
      refine WC.ret ?_
      refine DN.then_ret ?_
      first | refine DN.fit (C := row p [.map (some b1), .map (some b2)] 57 :: (C1 ++ C2)) (by repeat (first | exact Sp.here | exact Sp.sn | exact Sp.s0 | exact Fr.here | apply Sp.s2 | apply Sp.sx | apply Fr.fc | apply Fr.al | apply Fr.fa | apply Sp.sc | apply Sp.al | apply Sp.sa)) ?_ | skip
      refine DN.ret1 Try.results36 rfl ?_
      first
        | (rw [hb]; exact ⟨rfl, hz⟩)
        | (have hb : turnB L o s = false := by
             unfold turnB
             cases hf : findK Py.o L o with
             | none => rfl
             | some x =>
               rw [hf] at hx10 hg29
               simp only [Option.getD_some] at hx10
               subst hx10
               first
               | (simp at hg29; done)
               | exact decide_eq_false h34
           rw [hb, (turn_no t dm dh hb).1, (turn_no (K := K) t dm dh hb).2]
           exact ⟨rfl, hS⟩)
    · have hsome : findK Py.o L o = some x10 := by
        have h1 : (findK Py.o L o).isSome = true := by simpa using hg29
        obtain ⟨x, hx⟩ := Option.isSome_iff_exists.1 h1
        rw [hx] at hx10 ⊢
        exact congrArg some hx10.symm
      have hst : x10.st = s := Classical.byContradiction h34
      have hxin := (findK_mem hsome).1
      have hxo := (findK_mem hsome).2
      have hmid := turn_mid inv hxin hok
      have hin : x10.name ∈ K.map Au.name := by rw [inv.names]; exact (inv.pays x10 hxin).2.2.2.1
      have hgu : getG (kvs Au.name encU K) x10.name = some (encU (acc K x10.name)) := by
        rw [getG_kvs]
        obtain ⟨y, hy⟩ := Option.isSome_iff_exists.1 (find_namesU hin)
        unfold acc
        rw [hy]
        rfl
      have hgp : getG (kvs Py.o encP L) o = some (encP x10) := by rw [getG_kvs, hsome]; rfl
      have hb : turnB L o s = true := by unfold turnB; rw [hsome]; simpa using hst
      have eK : turnKs K L o s dm dh = adjU K x10.name (dm * x10.n) (dh * x10.n) := by unfold turnKs; rw [hsome]; exact if_pos hst
      have eL : turnLs L o s t = putK Py.o L ⟨x10.o, x10.name, x10.n, t⟩ := by unfold turnLs; rw [hsome]; exact if_pos hst
      refine WC.skip ?_
      refine DN.then_normal ?_
      refine WC.cutK (fun z : Nat => True) (fun z : Nat => [(15, .pointer (some ⟨z, 0, none⟩))]) (fun z : Nat => row z (cellsU (acc K x10.name)) 46 :: (row b13 (cellsP x10) 48 :: (row p [.map (some b1), .map (some b2)] 57 :: (C1 ++ C2)))) ?_ ?_
      · refine WC.draw 9 (by kernel_rfl) rfl ?_
        refine WA.y (i := 0) (NoPanic.then (NoPanic.body)) rfl (by kernel_rfl) (by kernel_rfl) (by kernel_rfl) rfl (Yd.move rfl) ?_
        refine WA.y (i := 1) (NoPanic.then (NoPanic.body)) rfl (by kernel_rfl) (by kernel_rfl) (by kernel_rfl) rfl (Yd.notNil rfl) ?_
        refine WA.y (i := 2) (NoPanic.then (NoPanic.body)) rfl (by kernel_rfl) (by kernel_rfl) (by kernel_rfl) rfl (Yd.fieldAddr (k := 0) (by kernel_rfl) rfl) ?_
        refine WA.y (i := 4) (NoPanic.then (NoPanic.body)) rfl (by kernel_rfl) (by kernel_rfl) (by kernel_rfl) rfl (Yd.fieldAddr (k := 1) (by kernel_rfl) rfl) ?_
        refine WA.reads [(3, 38, _), (5, 40, _)] [3, 5] [([], 7), ([3], 7), ([5], 7)] 3 rfl rfl (List.forall_mem_cons.2 ⟨ReadAt.mk rfl Wt.none rfl (Rd.load1 (by kernel_rfl) rfl (by repeat (first | exact List.mem_cons_self | apply List.mem_cons_of_mem | apply List.mem_append_right)) (by rfl)), List.forall_mem_cons.2 ⟨ReadAt.mk rfl Wt.none rfl (Rd.load1 (by kernel_rfl) rfl (by repeat (first | exact List.mem_cons_self | apply List.mem_cons_of_mem | apply List.mem_append_right)) (by rfl)), fun _ h => absurd h List.not_mem_nil⟩⟩) (by decide) (by simp) (List.forall_mem_cons.2 ⟨rfl, List.forall_mem_cons.2 ⟨rfl, fun _ h => absurd h List.not_mem_nil⟩⟩) (by kernel_rfl) (List.forall_mem_cons.2 ⟨?_, List.forall_mem_cons.2 ⟨?_, List.forall_mem_cons.2 ⟨?_, fun _ h => absurd h List.not_mem_nil⟩⟩⟩) ?_
        · change WO _ _ _ _ _ _ 4 _ 7 ([] ++ _) _
          refine WO.h rfl Wt.none rfl (Hd.alloc (zs := [.string ⟨#[]⟩, .int .i64 0, .int .i64 0]) (by kernel_rfl) fun b15 => ⟨_, rfl, ?_⟩)
          refine WA.reads [(3, 38, _), (5, 40, _)] [3, 5] [] 2 rfl rfl (List.forall_mem_cons.2 ⟨ReadAt.mk rfl Wt.none rfl (Rd.load1 (by kernel_rfl) rfl (by repeat (first | exact List.mem_cons_self | apply List.mem_cons_of_mem | apply List.mem_append_right)) (by rfl)), List.forall_mem_cons.2 ⟨ReadAt.mk rfl Wt.none rfl (Rd.load1 (by kernel_rfl) rfl (by repeat (first | exact List.mem_cons_self | apply List.mem_cons_of_mem | apply List.mem_append_right)) (by rfl)), fun _ h => absurd h List.not_mem_nil⟩⟩) (by decide) (by simp) (List.forall_mem_cons.2 ⟨rfl, List.forall_mem_cons.2 ⟨rfl, fun _ h => absurd h List.not_mem_nil⟩⟩) (by kernel_rfl) (fun _ h => absurd h List.not_mem_nil) ?_
          · change WA _ _ _ _ _ _ 2 _ ([(38, _), (40, _)] ++ _) _
            refine WA.one (i := 6) (by kernel_rfl) ?_
            refine WO.h rfl Wt.none rfl (Hd.lookupG (k0 := kStr) (KT := 9) (ET := 46) (TD := .string) (n := x10.name) (z := .agg #[.string ⟨#[]⟩, .int .i64 0, .int .i64 0]) (by kernel_rfl) Try.underlying9 rfl (by kernel_rfl) rfl rfl hK (by repeat (first | exact Sp.here | exact Sp.sn | exact Sp.s0 | exact Fr.here | apply Sp.s2 | apply Sp.sx | apply Fr.fc | apply Fr.al | apply Fr.fa | apply Sp.sc | apply Sp.al | apply Sp.sa)) (lkU K x10.name) ⟨_, rfl, ?_⟩)
            refine WA.one (i := 8) (by kernel_rfl) ?_
            refine WO.s rfl Wt.none (Hd.storeAll (n := 3) (by kernel_rfl) rfl rfl (by rfl) (by repeat (first | exact fun _ h => absurd h List.not_mem_nil | refine List.forall_mem_cons.2 ⟨by first | rfl | assumption, ?_⟩)) (by repeat (first | exact Fr.here | apply Fr.fc | apply Fr.al | apply Fr.fa)) (by rfl) ⟨rfl, ?_⟩)
            refine WA.done (by kernel_rfl) ?_
            exact DN.reachK (b15) (trivial) (Sx.put rfl ((by repeat (first | exact Sx.refl | refine Sx.skip rfl ?_)))) (Sp.all (by repeat (first | exact Sp.here | exact Sp.sn | exact Sp.s0 | exact Fr.here | apply Sp.s2 | apply Sp.sx | apply Fr.fc | apply Fr.al | apply Fr.fa | apply Sp.sc | apply Sp.al | apply Sp.sa)))
        · change WO _ _ _ _ _ _ 3 _ 7 ([(38, _)] ++ _) _
          refine WO.h rfl Wt.none rfl (Hd.alloc (zs := [.string ⟨#[]⟩, .int .i64 0, .int .i64 0]) (by kernel_rfl) fun b15 => ⟨_, rfl, ?_⟩)
          refine WA.one (i := 5) (by kernel_rfl) ?_
          refine WO.h rfl Wt.none rfl (Hd.load1 (by kernel_rfl) rfl (by repeat (first | exact List.mem_cons_self | apply List.mem_cons_of_mem | apply List.mem_append_right)) (by rfl) ⟨_, rfl, ?_⟩)
          refine WA.one (i := 6) (by kernel_rfl) ?_
          refine WO.h rfl Wt.none rfl (Hd.lookupG (k0 := kStr) (KT := 9) (ET := 46) (TD := .string) (n := x10.name) (z := .agg #[.string ⟨#[]⟩, .int .i64 0, .int .i64 0]) (by kernel_rfl) Try.underlying9 rfl (by kernel_rfl) rfl rfl hK (by repeat (first | exact Sp.here | exact Sp.sn | exact Sp.s0 | exact Fr.here | apply Sp.s2 | apply Sp.sx | apply Fr.fc | apply Fr.al | apply Fr.fa | apply Sp.sc | apply Sp.al | apply Sp.sa)) (lkU K x10.name) ⟨_, rfl, ?_⟩)
          refine WA.one (i := 8) (by kernel_rfl) ?_
          refine WO.s rfl Wt.none (Hd.storeAll (n := 3) (by kernel_rfl) rfl rfl (by rfl) (by repeat (first | exact fun _ h => absurd h List.not_mem_nil | refine List.forall_mem_cons.2 ⟨by first | rfl | assumption, ?_⟩)) (by repeat (first | exact Fr.here | apply Fr.fc | apply Fr.al | apply Fr.fa)) (by rfl) ⟨rfl, ?_⟩)
          refine WA.done (by kernel_rfl) ?_
          exact DN.reachK (b15) (trivial) (Sx.put rfl ((by repeat (first | exact Sx.refl | refine Sx.skip rfl ?_)))) (Sp.all (by repeat (first | exact Sp.here | exact Sp.sn | exact Sp.s0 | exact Fr.here | apply Sp.s2 | apply Sp.sx | apply Fr.fc | apply Fr.al | apply Fr.fa | apply Sp.sc | apply Sp.al | apply Sp.sa)))
        · change WO _ _ _ _ _ _ 3 _ 7 ([(40, _)] ++ _) _
          refine WO.h rfl Wt.none rfl (Hd.alloc (zs := [.string ⟨#[]⟩, .int .i64 0, .int .i64 0]) (by kernel_rfl) fun b15 => ⟨_, rfl, ?_⟩)
          refine WA.one (i := 3) (by kernel_rfl) ?_
          refine WO.h rfl Wt.none rfl (Hd.load1 (by kernel_rfl) rfl (by repeat (first | exact List.mem_cons_self | apply List.mem_cons_of_mem | apply List.mem_append_right)) (by rfl) ⟨_, rfl, ?_⟩)
          refine WA.one (i := 6) (by kernel_rfl) ?_
          refine WO.h rfl Wt.none rfl (Hd.lookupG (k0 := kStr) (KT := 9) (ET := 46) (TD := .string) (n := x10.name) (z := .agg #[.string ⟨#[]⟩, .int .i64 0, .int .i64 0]) (by kernel_rfl) Try.underlying9 rfl (by kernel_rfl) rfl rfl hK (by repeat (first | exact Sp.here | exact Sp.sn | exact Sp.s0 | exact Fr.here | apply Sp.s2 | apply Sp.sx | apply Fr.fc | apply Fr.al | apply Fr.fa | apply Sp.sc | apply Sp.al | apply Sp.sa)) (lkU K x10.name) ⟨_, rfl, ?_⟩)
          refine WA.one (i := 8) (by kernel_rfl) ?_
          refine WO.s rfl Wt.none (Hd.storeAll (n := 3) (by kernel_rfl) rfl rfl (by rfl) (by repeat (first | exact fun _ h => absurd h List.not_mem_nil | refine List.forall_mem_cons.2 ⟨by first | rfl | assumption, ?_⟩)) (by repeat (first | exact Fr.here | apply Fr.fc | apply Fr.al | apply Fr.fa)) (by rfl) ⟨rfl, ?_⟩)
          refine WA.done (by kernel_rfl) ?_
          exact DN.reachK (b15) (trivial) (Sx.put rfl ((by repeat (first | exact Sx.refl | refine Sx.skip rfl ?_)))) (Sp.all (by repeat (first | exact Sp.here | exact Sp.sn | exact Sp.s0 | exact Fr.here | apply Sp.s2 | apply Sp.sx | apply Fr.fc | apply Fr.al | apply Fr.fa | apply Sp.sc | apply Sp.al | apply Sp.sa)))
        · change WA _ _ _ _ _ _ 3 _ ([(38, _), (40, _)] ++ _) _
          refine WA.two (i := 6) (j := 7) (by kernel_rfl) ?_ ?_
          · refine WO.h rfl Wt.none rfl (Hd.lookupG (k0 := kStr) (KT := 9) (ET := 46) (TD := .string) (n := x10.name) (z := .agg #[.string ⟨#[]⟩, .int .i64 0, .int .i64 0]) (by kernel_rfl) Try.underlying9 rfl (by kernel_rfl) rfl rfl hK (by repeat (first | exact Sp.here | exact Sp.sn | exact Sp.s0 | exact Fr.here | apply Sp.s2 | apply Sp.sx | apply Fr.fc | apply Fr.al | apply Fr.fa | apply Sp.sc | apply Sp.al | apply Sp.sa)) (lkU K x10.name) ⟨_, rfl, ?_⟩)
            refine WA.one (i := 7) (by kernel_rfl) ?_
            refine WO.h rfl Wt.none rfl (Hd.alloc (zs := [.string ⟨#[]⟩, .int .i64 0, .int .i64 0]) (by kernel_rfl) fun b15 => ⟨_, rfl, ?_⟩)
            refine WA.one (i := 8) (by kernel_rfl) ?_
            refine WO.s rfl Wt.none (Hd.storeAll (n := 3) (by kernel_rfl) rfl rfl (by rfl) (by repeat (first | exact fun _ h => absurd h List.not_mem_nil | refine List.forall_mem_cons.2 ⟨by first | rfl | assumption, ?_⟩)) (by repeat (first | exact Fr.here | apply Fr.fc | apply Fr.al | apply Fr.fa)) (by rfl) ⟨rfl, ?_⟩)
            refine WA.done (by kernel_rfl) ?_
            exact DN.reachK (b15) (trivial) (Sx.put rfl ((by repeat (first | exact Sx.refl | refine Sx.skip rfl ?_)))) (Sp.all (by repeat (first | exact Sp.here | exact Sp.sn | exact Sp.s0 | exact Fr.here | apply Sp.s2 | apply Sp.sx | apply Fr.fc | apply Fr.al | apply Fr.fa | apply Sp.sc | apply Sp.al | apply Sp.sa)))
          · refine WO.h rfl Wt.none rfl (Hd.alloc (zs := [.string ⟨#[]⟩, .int .i64 0, .int .i64 0]) (by kernel_rfl) fun b15 => ⟨_, rfl, ?_⟩)
            refine WA.one (i := 6) (by kernel_rfl) ?_
            refine WO.h rfl Wt.none rfl (Hd.lookupG (k0 := kStr) (KT := 9) (ET := 46) (TD := .string) (n := x10.name) (z := .agg #[.string ⟨#[]⟩, .int .i64 0, .int .i64 0]) (by kernel_rfl) Try.underlying9 rfl (by kernel_rfl) rfl rfl hK (by repeat (first | exact Sp.here | exact Sp.sn | exact Sp.s0 | exact Fr.here | apply Sp.s2 | apply Sp.sx | apply Fr.fc | apply Fr.al | apply Fr.fa | apply Sp.sc | apply Sp.al | apply Sp.sa)) (lkU K x10.name) ⟨_, rfl, ?_⟩)
            refine WA.one (i := 8) (by kernel_rfl) ?_
            refine WO.s rfl Wt.none (Hd.storeAll (n := 3) (by kernel_rfl) rfl rfl (by rfl) (by repeat (first | exact fun _ h => absurd h List.not_mem_nil | refine List.forall_mem_cons.2 ⟨by first | rfl | assumption, ?_⟩)) (by repeat (first | exact Fr.here | apply Fr.fc | apply Fr.al | apply Fr.fa)) (by rfl) ⟨rfl, ?_⟩)
            refine WA.done (by kernel_rfl) ?_
            exact DN.reachK (b15) (trivial) (Sx.put rfl ((by repeat (first | exact Sx.refl | refine Sx.skip rfl ?_)))) (Sp.all (by repeat (first | exact Sp.here | exact Sp.sn | exact Sp.s0 | exact Fr.here | apply Sp.s2 | apply Sp.sx | apply Fr.fc | apply Fr.al | apply Fr.fa | apply Sp.sc | apply Sp.al | apply Sp.sa)))
      · intro b15 _
        refine WC.seq ?_
        refine WC.region ?_
        refine WL.y rfl (Yd.fieldAddr (k := 1) (by kernel_rfl) rfl) ?_
        refine WL.h rfl (Hd.load1 (by kernel_rfl) rfl (by repeat (first | exact List.mem_cons_self | apply List.mem_cons_of_mem | apply List.mem_append_right)) (by rfl) ⟨_, rfl, ?_⟩)
        refine WL.y rfl (Yd.move rfl) ?_
        refine WL.y rfl (Yd.fieldAddr (k := 2) (by kernel_rfl) rfl) ?_
        refine WL.h rfl (Hd.load1 (by kernel_rfl) rfl (by repeat (first | exact List.mem_cons_self | apply List.mem_cons_of_mem | apply List.mem_append_right)) (by rfl) ⟨_, rfl, ?_⟩)
        refine WL.y rfl (Yd.mul rfl rfl (by omega) (by omega)) ?_
        refine WL.y rfl (Yd.add rfl rfl (by omega) (by omega)) ?_
        refine WL.y rfl (Yd.fieldAddr (k := 1) (by kernel_rfl) rfl) ?_
        refine WL.s (Hd.store1s (by kernel_rfl) rfl rfl (by rfl) (by repeat (first | exact Fr.here | apply Fr.fc | apply Fr.al | apply Fr.fa)) (by rfl) (by first | (simp only [List.set_cons_zero, List.set_cons_succ, Nat.zero_add, Nat.add_zero, Nat.reduceAdd]; rfl) | rfl) ⟨rfl, ?_⟩)
        refine WL.nil ?_
        refine DN.then_normal ?_
        refine WC.seq ?_
        refine WC.region ?_
        refine WL.y rfl (Yd.fieldAddr (k := 2) (by kernel_rfl) rfl) ?_
        refine WL.h rfl (Hd.load1 (by kernel_rfl) rfl (by repeat (first | exact List.mem_cons_self | apply List.mem_cons_of_mem | apply List.mem_append_right)) (by rfl) ⟨_, rfl, ?_⟩)
        refine WL.y rfl (Yd.move rfl) ?_
        refine WL.y rfl (Yd.fieldAddr (k := 2) (by kernel_rfl) rfl) ?_
        refine WL.h rfl (Hd.load1 (by kernel_rfl) rfl (by repeat (first | exact List.mem_cons_self | apply List.mem_cons_of_mem | apply List.mem_append_right)) (by rfl) ⟨_, rfl, ?_⟩)
        refine WL.y rfl (Yd.mul rfl rfl (by omega) (by omega)) ?_
        refine WL.y rfl (Yd.add rfl rfl (by omega) (by omega)) ?_
        refine WL.y rfl (Yd.fieldAddr (k := 2) (by kernel_rfl) rfl) ?_
        refine WL.s (Hd.store1s (by kernel_rfl) rfl rfl (by rfl) (by repeat (first | exact Fr.here | apply Fr.fc | apply Fr.al | apply Fr.fa)) (by rfl) (by first | (simp only [List.set_cons_zero, List.set_cons_succ, Nat.zero_add, Nat.add_zero, Nat.reduceAdd]; rfl) | rfl) ⟨rfl, ?_⟩)
        refine WL.nil ?_
        refine DN.then_normal ?_
        refine WC.seq ?_
        refine WC.region ?_
        refine WL.y rfl (Yd.move rfl) ?_
        refine WL.y rfl (Yd.fieldAddr (k := 3) (by kernel_rfl) rfl) ?_
        refine WL.s (Hd.store1s (by kernel_rfl) rfl rfl (by rfl) (by repeat (first | exact Fr.here | apply Fr.fc | apply Fr.al | apply Fr.fa)) (by rfl) (by first | (simp only [List.set_cons_zero, List.set_cons_succ, Nat.zero_add, Nat.add_zero, Nat.reduceAdd]; rfl) | rfl) ⟨rfl, ?_⟩)
        refine WL.nil ?_
        refine DN.then_normal ?_
        refine WC.cutK (fun z : List Ck => PsAt 57 p (turnKs K L o s dm dh) (turnLs L o s t) z) (fun z : List Ck => []) (fun z : List Ck => z) ?_ ?_
        · refine WC.draw 19 (by kernel_rfl) rfl ?_
          refine WA.y (i := 0) (NoPanic.then (NoPanic.body)) rfl (by kernel_rfl) (by kernel_rfl) (by kernel_rfl) rfl (Yd.move rfl) ?_
          refine WA.y (i := 1) (NoPanic.then (NoPanic.body)) rfl (by kernel_rfl) (by kernel_rfl) (by kernel_rfl) rfl (Yd.notNil rfl) ?_
          refine WA.y (i := 2) (NoPanic.then (NoPanic.body)) rfl (by kernel_rfl) (by kernel_rfl) (by kernel_rfl) rfl (Yd.fieldAddr (k := 0) (by kernel_rfl) rfl) ?_
          refine WA.y (i := 4) (NoPanic.then (NoPanic.body)) rfl (by kernel_rfl) (by kernel_rfl) (by kernel_rfl) rfl (Yd.fieldAddr (k := 1) (by kernel_rfl) rfl) ?_
          refine WA.y (i := 6) (NoPanic.then (NoPanic.body)) rfl (by kernel_rfl) (by kernel_rfl) (by kernel_rfl) rfl (Yd.move rfl) ?_
          refine WA.y (i := 7) (NoPanic.then (NoPanic.body)) rfl (by kernel_rfl) (by kernel_rfl) (by kernel_rfl) rfl (Yd.notNil rfl) ?_
          refine WA.y (i := 8) (NoPanic.then (NoPanic.body)) rfl (by kernel_rfl) (by kernel_rfl) (by kernel_rfl) rfl (Yd.fieldAddr (k := 1) (by kernel_rfl) rfl) ?_
          refine WA.y (i := 10) (NoPanic.then (NoPanic.body)) rfl (by kernel_rfl) (by kernel_rfl) (by kernel_rfl) rfl (Yd.move rfl) ?_
          refine WA.reads [(3, 63, _), (5, 65, _), (9, 69, _), (11, 71, _), (12, 72, _)] [3, 5, 9, 11, 12] [([3, 5, 9], 13), ([3, 5, 9, 11], 13), ([3, 5, 9, 12], 13)] 6 rfl rfl (List.forall_mem_cons.2 ⟨ReadAt.mk rfl Wt.none rfl (Rd.load1 (by kernel_rfl) rfl (by repeat (first | exact List.mem_cons_self | apply List.mem_cons_of_mem | apply List.mem_append_right)) (by rfl)), List.forall_mem_cons.2 ⟨ReadAt.mk rfl Wt.none rfl (Rd.load1 (by kernel_rfl) rfl (by repeat (first | exact List.mem_cons_self | apply List.mem_cons_of_mem | apply List.mem_append_right)) (by rfl)), List.forall_mem_cons.2 ⟨ReadAt.mk rfl Wt.none rfl (Rd.load1 (by kernel_rfl) rfl (by repeat (first | exact List.mem_cons_self | apply List.mem_cons_of_mem | apply List.mem_append_right)) (by rfl)), List.forall_mem_cons.2 ⟨ReadAt.mk rfl Wt.none rfl (Rd.loadAll (n := 3) (by kernel_rfl) rfl (by repeat (first | exact List.mem_cons_self | apply List.mem_cons_of_mem | apply List.mem_append_right)) (by rfl)), List.forall_mem_cons.2 ⟨ReadAt.mk rfl Wt.none rfl (Rd.loadAll (n := 4) (by kernel_rfl) rfl (by repeat (first | exact List.mem_cons_self | apply List.mem_cons_of_mem | apply List.mem_append_right)) (by rfl)), fun _ h => absurd h List.not_mem_nil⟩⟩⟩⟩⟩) (by decide) (by simp) (List.forall_mem_cons.2 ⟨rfl, List.forall_mem_cons.2 ⟨rfl, List.forall_mem_cons.2 ⟨rfl, List.forall_mem_cons.2 ⟨rfl, List.forall_mem_cons.2 ⟨rfl, fun _ h => absurd h List.not_mem_nil⟩⟩⟩⟩⟩) (by kernel_rfl) (List.forall_mem_cons.2 ⟨?_, List.forall_mem_cons.2 ⟨?_, List.forall_mem_cons.2 ⟨?_, fun _ h => absurd h List.not_mem_nil⟩⟩⟩) ?_
          · change WO _ _ _ _ _ _ 7 _ 13 ([(63, _), (65, _), (69, _)] ++ _) _
            refine WO.h rfl Wt.none rfl (Hd.mapEntry (k0 := kStr) (KT := 9) (ET := 46) (TD := .string) (n := x10.name) (by kernel_rfl) Try.underlying9 rfl rfl rfl hK hgu (by repeat (first | exact Sp.here | exact Sp.sn | exact Sp.s0 | exact Fr.here | apply Sp.s2 | apply Sp.sx | apply Fr.fc | apply Fr.al | apply Fr.fa | apply Sp.sc | apply Sp.al | apply Sp.sa)) fun bo1 D1 hE1 => ⟨_, rfl, ?_⟩)
            refine WA.y (i := 14) (NoPanic.then (NoPanic.body)) rfl (by kernel_rfl) (by kernel_rfl) (by kernel_rfl) rfl (Yd.extract rfl rfl) ?_
            refine WA.reads [(11, 71, _), (12, 72, _)] [11, 12] [([11], 15)] 4 rfl rfl (List.forall_mem_cons.2 ⟨ReadAt.mk rfl Wt.none rfl (Rd.loadAll (n := 3) (by kernel_rfl) rfl (by repeat (first | exact List.mem_cons_self | apply List.mem_cons_of_mem | apply List.mem_append_right)) (by rfl)), List.forall_mem_cons.2 ⟨ReadAt.mk rfl Wt.none rfl (Rd.loadAll (n := 4) (by kernel_rfl) rfl (by repeat (first | exact List.mem_cons_self | apply List.mem_cons_of_mem | apply List.mem_append_right)) (by rfl)), fun _ h => absurd h List.not_mem_nil⟩⟩) (by decide) (by simp) (List.forall_mem_cons.2 ⟨rfl, List.forall_mem_cons.2 ⟨rfl, fun _ h => absurd h List.not_mem_nil⟩⟩) (by kernel_rfl) (List.forall_mem_cons.2 ⟨?_, fun _ h => absurd h List.not_mem_nil⟩) ?_
            · change WO _ _ _ _ _ _ 4 _ 15 ([(71, _)] ++ _) _
              refine WO.s rfl Wt.none (Hd.entryStore (k0 := kStr) rfl rfl rfl hE1 (by rw [kvs_keys]; exact inv.knd) (by repeat (first | exact Sp.here | exact Sp.sn | exact Sp.s0 | exact Fr.here | apply Sp.s2 | apply Sp.sx | apply Fr.fc | apply Fr.al | apply Fr.fa | apply Sp.sc | apply Sp.al | apply Sp.sa)) fun C5 h5 => ⟨rfl, ?_⟩)
              refine WA.two (i := 12) (j := 16) (by kernel_rfl) ?_ ?_
              · refine WO.h rfl Wt.none rfl (Hd.loadAll (n := 4) (by kernel_rfl) rfl (by repeat (first | exact List.mem_cons_self | apply List.mem_cons_of_mem | apply List.mem_append_right)) (by rfl) ⟨_, rfl, ?_⟩)
                refine WA.one (i := 16) (by kernel_rfl) ?_
                refine WO.h rfl Wt.none rfl (Hd.mapEntry (k0 := kU32) (KT := 33) (ET := 48) (TD := .int .u32) (n := o) (by kernel_rfl) Try.underlying33 ⟨_, rfl⟩ rfl rfl hL hgp (by repeat (first | exact Sp.here | exact Sp.sn | exact Sp.s0 | exact Fr.here | apply Sp.s2 | apply Sp.sx | apply Fr.fc | apply Fr.al | apply Fr.fa | apply Sp.sc | apply Sp.al | apply Sp.sa)) fun bo2 D2 hE2 => ⟨_, rfl, ?_⟩)
                refine WA.y (i := 17) (NoPanic.then (NoPanic.body)) rfl (by kernel_rfl) (by kernel_rfl) (by kernel_rfl) rfl (Yd.extract rfl rfl) ?_
                refine WA.one (i := 18) (by kernel_rfl) ?_
                refine WO.s rfl Wt.none (Hd.entryStore (k0 := kU32) rfl rfl rfl hE2 (by rw [kvs_keys]; exact inv.keys) (by repeat (first | exact Sp.here | exact Sp.sn | exact Sp.s0 | exact Fr.here | apply Sp.s2 | apply Sp.sx | apply Fr.fc | apply Fr.al | apply Fr.fa | apply Sp.sc | apply Sp.al | apply Sp.sa)) fun C6 h6 => ⟨rfl, ?_⟩)
                refine WA.done (by kernel_rfl) ?_
                refine DN.fit (C := row p [.map (some b1), .map (some b2)] 57 :: (C5 ++ C6)) (by repeat (first | exact Sp.here | exact Sp.sn | exact Sp.s0 | exact Fr.here | apply Sp.s2 | apply Sp.sx | apply Fr.fc | apply Fr.al | apply Fr.fa | apply Sp.sc | apply Sp.al | apply Sp.sa)) ?_
                exact DN.reachK (row p [.map (some b1), .map (some b2)] 57 :: (C5 ++ C6)) (by
                  refine ⟨b1, b2, C5, C6, rfl, ?_, ?_⟩
                  · have e : adjU K x10.name (dm * x10.n) (dh * x10.n) = putK Au.name K ⟨(acc K x10.name).name, (acc K x10.name).money + dm * x10.n, (acc K x10.name).held + dh * x10.n⟩ := by unfold adjU moneyOf heldU; rw [acc_in hin]
                    rw [eK, e, ← putU K ⟨(acc K x10.name).name, (acc K x10.name).money + dm * x10.n, (acc K x10.name).held + dh * x10.n⟩ x10.name (acc_in hin).symm]; exact h5
                  · rw [eL, ← putP L ⟨x10.o, x10.name, x10.n, t⟩ o hxo.symm]; exact h6) ((by repeat (first | exact Sx.refl | refine Sx.skip rfl ?_))) (Sp.all (by repeat (first | exact Sp.here | exact Sp.sn | exact Sp.s0 | exact Fr.here | apply Sp.s2 | apply Sp.sx | apply Fr.fc | apply Fr.al | apply Fr.fa | apply Sp.sc | apply Sp.al | apply Sp.sa)))
              · refine WO.h rfl Wt.none rfl (Hd.mapEntry (k0 := kU32) (KT := 33) (ET := 48) (TD := .int .u32) (n := o) (by kernel_rfl) Try.underlying33 ⟨_, rfl⟩ rfl rfl hL hgp (by repeat (first | exact Sp.here | exact Sp.sn | exact Sp.s0 | exact Fr.here | apply Sp.s2 | apply Sp.sx | apply Fr.fc | apply Fr.al | apply Fr.fa | apply Sp.sc | apply Sp.al | apply Sp.sa)) fun bo2 D2 hE2 => ⟨_, rfl, ?_⟩)
                refine WA.y (i := 17) (NoPanic.then (NoPanic.body)) rfl (by kernel_rfl) (by kernel_rfl) (by kernel_rfl) rfl (Yd.extract rfl rfl) ?_
                refine WA.one (i := 12) (by kernel_rfl) ?_
                refine WO.h rfl Wt.none rfl (Hd.loadAll (n := 4) (by kernel_rfl) rfl (by repeat (first | exact List.mem_cons_self | apply List.mem_cons_of_mem | apply List.mem_append_right)) (by rfl) ⟨_, rfl, ?_⟩)
                refine WA.one (i := 18) (by kernel_rfl) ?_
                refine WO.s rfl Wt.none (Hd.entryStore (k0 := kU32) rfl rfl rfl hE2 (by rw [kvs_keys]; exact inv.keys) (by repeat (first | exact Sp.here | exact Sp.sn | exact Sp.s0 | exact Fr.here | apply Sp.s2 | apply Sp.sx | apply Fr.fc | apply Fr.al | apply Fr.fa | apply Sp.sc | apply Sp.al | apply Sp.sa)) fun C6 h6 => ⟨rfl, ?_⟩)
                refine WA.done (by kernel_rfl) ?_
                refine DN.fit (C := row p [.map (some b1), .map (some b2)] 57 :: (C5 ++ C6)) (by repeat (first | exact Sp.here | exact Sp.sn | exact Sp.s0 | exact Fr.here | apply Sp.s2 | apply Sp.sx | apply Fr.fc | apply Fr.al | apply Fr.fa | apply Sp.sc | apply Sp.al | apply Sp.sa)) ?_
                exact DN.reachK (row p [.map (some b1), .map (some b2)] 57 :: (C5 ++ C6)) (by
                  refine ⟨b1, b2, C5, C6, rfl, ?_, ?_⟩
                  · have e : adjU K x10.name (dm * x10.n) (dh * x10.n) = putK Au.name K ⟨(acc K x10.name).name, (acc K x10.name).money + dm * x10.n, (acc K x10.name).held + dh * x10.n⟩ := by unfold adjU moneyOf heldU; rw [acc_in hin]
                    rw [eK, e, ← putU K ⟨(acc K x10.name).name, (acc K x10.name).money + dm * x10.n, (acc K x10.name).held + dh * x10.n⟩ x10.name (acc_in hin).symm]; exact h5
                  · rw [eL, ← putP L ⟨x10.o, x10.name, x10.n, t⟩ o hxo.symm]; exact h6) ((by repeat (first | exact Sx.refl | refine Sx.skip rfl ?_))) (Sp.all (by repeat (first | exact Sp.here | exact Sp.sn | exact Sp.s0 | exact Fr.here | apply Sp.s2 | apply Sp.sx | apply Fr.fc | apply Fr.al | apply Fr.fa | apply Sp.sc | apply Sp.al | apply Sp.sa)))
            · change WA _ _ _ _ _ _ 4 _ ([(71, _), (72, _)] ++ _) _
              refine WA.one (i := 15) (by kernel_rfl) ?_
              refine WO.s rfl Wt.none (Hd.entryStore (k0 := kStr) rfl rfl rfl hE1 (by rw [kvs_keys]; exact inv.knd) (by repeat (first | exact Sp.here | exact Sp.sn | exact Sp.s0 | exact Fr.here | apply Sp.s2 | apply Sp.sx | apply Fr.fc | apply Fr.al | apply Fr.fa | apply Sp.sc | apply Sp.al | apply Sp.sa)) fun C5 h5 => ⟨rfl, ?_⟩)
              refine WA.one (i := 16) (by kernel_rfl) ?_
              refine WO.h rfl Wt.none rfl (Hd.mapEntry (k0 := kU32) (KT := 33) (ET := 48) (TD := .int .u32) (n := o) (by kernel_rfl) Try.underlying33 ⟨_, rfl⟩ rfl rfl hL hgp (by repeat (first | exact Sp.here | exact Sp.sn | exact Sp.s0 | exact Fr.here | apply Sp.s2 | apply Sp.sx | apply Fr.fc | apply Fr.al | apply Fr.fa | apply Sp.sc | apply Sp.al | apply Sp.sa)) fun bo2 D2 hE2 => ⟨_, rfl, ?_⟩)
              refine WA.y (i := 17) (NoPanic.then (NoPanic.body)) rfl (by kernel_rfl) (by kernel_rfl) (by kernel_rfl) rfl (Yd.extract rfl rfl) ?_
              refine WA.one (i := 18) (by kernel_rfl) ?_
              refine WO.s rfl Wt.none (Hd.entryStore (k0 := kU32) rfl rfl rfl hE2 (by rw [kvs_keys]; exact inv.keys) (by repeat (first | exact Sp.here | exact Sp.sn | exact Sp.s0 | exact Fr.here | apply Sp.s2 | apply Sp.sx | apply Fr.fc | apply Fr.al | apply Fr.fa | apply Sp.sc | apply Sp.al | apply Sp.sa)) fun C6 h6 => ⟨rfl, ?_⟩)
              refine WA.done (by kernel_rfl) ?_
              refine DN.fit (C := row p [.map (some b1), .map (some b2)] 57 :: (C5 ++ C6)) (by repeat (first | exact Sp.here | exact Sp.sn | exact Sp.s0 | exact Fr.here | apply Sp.s2 | apply Sp.sx | apply Fr.fc | apply Fr.al | apply Fr.fa | apply Sp.sc | apply Sp.al | apply Sp.sa)) ?_
              exact DN.reachK (row p [.map (some b1), .map (some b2)] 57 :: (C5 ++ C6)) (by
                refine ⟨b1, b2, C5, C6, rfl, ?_, ?_⟩
                · have e : adjU K x10.name (dm * x10.n) (dh * x10.n) = putK Au.name K ⟨(acc K x10.name).name, (acc K x10.name).money + dm * x10.n, (acc K x10.name).held + dh * x10.n⟩ := by unfold adjU moneyOf heldU; rw [acc_in hin]
                  rw [eK, e, ← putU K ⟨(acc K x10.name).name, (acc K x10.name).money + dm * x10.n, (acc K x10.name).held + dh * x10.n⟩ x10.name (acc_in hin).symm]; exact h5
                · rw [eL, ← putP L ⟨x10.o, x10.name, x10.n, t⟩ o hxo.symm]; exact h6) ((by repeat (first | exact Sx.refl | refine Sx.skip rfl ?_))) (Sp.all (by repeat (first | exact Sp.here | exact Sp.sn | exact Sp.s0 | exact Fr.here | apply Sp.s2 | apply Sp.sx | apply Fr.fc | apply Fr.al | apply Fr.fa | apply Sp.sc | apply Sp.al | apply Sp.sa)))
          · change WO _ _ _ _ _ _ 6 _ 13 ([(63, _), (65, _), (69, _), (71, _)] ++ _) _
            refine WO.h rfl Wt.none rfl (Hd.mapEntry (k0 := kStr) (KT := 9) (ET := 46) (TD := .string) (n := x10.name) (by kernel_rfl) Try.underlying9 rfl rfl rfl hK hgu (by repeat (first | exact Sp.here | exact Sp.sn | exact Sp.s0 | exact Fr.here | apply Sp.s2 | apply Sp.sx | apply Fr.fc | apply Fr.al | apply Fr.fa | apply Sp.sc | apply Sp.al | apply Sp.sa)) fun bo1 D1 hE1 => ⟨_, rfl, ?_⟩)
            refine WA.y (i := 14) (NoPanic.then (NoPanic.body)) rfl (by kernel_rfl) (by kernel_rfl) (by kernel_rfl) rfl (Yd.extract rfl rfl) ?_
            refine WA.two (i := 12) (j := 15) (by kernel_rfl) ?_ ?_
            · refine WO.h rfl Wt.none rfl (Hd.loadAll (n := 4) (by kernel_rfl) rfl (by repeat (first | exact List.mem_cons_self | apply List.mem_cons_of_mem | apply List.mem_append_right)) (by rfl) ⟨_, rfl, ?_⟩)
              refine WA.one (i := 15) (by kernel_rfl) ?_
              refine WO.s rfl Wt.none (Hd.entryStore (k0 := kStr) rfl rfl rfl hE1 (by rw [kvs_keys]; exact inv.knd) (by repeat (first | exact Sp.here | exact Sp.sn | exact Sp.s0 | exact Fr.here | apply Sp.s2 | apply Sp.sx | apply Fr.fc | apply Fr.al | apply Fr.fa | apply Sp.sc | apply Sp.al | apply Sp.sa)) fun C5 h5 => ⟨rfl, ?_⟩)
              refine WA.one (i := 16) (by kernel_rfl) ?_
              refine WO.h rfl Wt.none rfl (Hd.mapEntry (k0 := kU32) (KT := 33) (ET := 48) (TD := .int .u32) (n := o) (by kernel_rfl) Try.underlying33 ⟨_, rfl⟩ rfl rfl hL hgp (by repeat (first | exact Sp.here | exact Sp.sn | exact Sp.s0 | exact Fr.here | apply Sp.s2 | apply Sp.sx | apply Fr.fc | apply Fr.al | apply Fr.fa | apply Sp.sc | apply Sp.al | apply Sp.sa)) fun bo2 D2 hE2 => ⟨_, rfl, ?_⟩)
              refine WA.y (i := 17) (NoPanic.then (NoPanic.body)) rfl (by kernel_rfl) (by kernel_rfl) (by kernel_rfl) rfl (Yd.extract rfl rfl) ?_
              refine WA.one (i := 18) (by kernel_rfl) ?_
              refine WO.s rfl Wt.none (Hd.entryStore (k0 := kU32) rfl rfl rfl hE2 (by rw [kvs_keys]; exact inv.keys) (by repeat (first | exact Sp.here | exact Sp.sn | exact Sp.s0 | exact Fr.here | apply Sp.s2 | apply Sp.sx | apply Fr.fc | apply Fr.al | apply Fr.fa | apply Sp.sc | apply Sp.al | apply Sp.sa)) fun C6 h6 => ⟨rfl, ?_⟩)
              refine WA.done (by kernel_rfl) ?_
              refine DN.fit (C := row p [.map (some b1), .map (some b2)] 57 :: (C5 ++ C6)) (by repeat (first | exact Sp.here | exact Sp.sn | exact Sp.s0 | exact Fr.here | apply Sp.s2 | apply Sp.sx | apply Fr.fc | apply Fr.al | apply Fr.fa | apply Sp.sc | apply Sp.al | apply Sp.sa)) ?_
              exact DN.reachK (row p [.map (some b1), .map (some b2)] 57 :: (C5 ++ C6)) (by
                refine ⟨b1, b2, C5, C6, rfl, ?_, ?_⟩
                · have e : adjU K x10.name (dm * x10.n) (dh * x10.n) = putK Au.name K ⟨(acc K x10.name).name, (acc K x10.name).money + dm * x10.n, (acc K x10.name).held + dh * x10.n⟩ := by unfold adjU moneyOf heldU; rw [acc_in hin]
                  rw [eK, e, ← putU K ⟨(acc K x10.name).name, (acc K x10.name).money + dm * x10.n, (acc K x10.name).held + dh * x10.n⟩ x10.name (acc_in hin).symm]; exact h5
                · rw [eL, ← putP L ⟨x10.o, x10.name, x10.n, t⟩ o hxo.symm]; exact h6) ((by repeat (first | exact Sx.refl | refine Sx.skip rfl ?_))) (Sp.all (by repeat (first | exact Sp.here | exact Sp.sn | exact Sp.s0 | exact Fr.here | apply Sp.s2 | apply Sp.sx | apply Fr.fc | apply Fr.al | apply Fr.fa | apply Sp.sc | apply Sp.al | apply Sp.sa)))
            · refine WO.s rfl Wt.none (Hd.entryStore (k0 := kStr) rfl rfl rfl hE1 (by rw [kvs_keys]; exact inv.knd) (by repeat (first | exact Sp.here | exact Sp.sn | exact Sp.s0 | exact Fr.here | apply Sp.s2 | apply Sp.sx | apply Fr.fc | apply Fr.al | apply Fr.fa | apply Sp.sc | apply Sp.al | apply Sp.sa)) fun C5 h5 => ⟨rfl, ?_⟩)
              refine WA.two (i := 12) (j := 16) (by kernel_rfl) ?_ ?_
              · refine WO.h rfl Wt.none rfl (Hd.loadAll (n := 4) (by kernel_rfl) rfl (by repeat (first | exact List.mem_cons_self | apply List.mem_cons_of_mem | apply List.mem_append_right)) (by rfl) ⟨_, rfl, ?_⟩)
                refine WA.one (i := 16) (by kernel_rfl) ?_
                refine WO.h rfl Wt.none rfl (Hd.mapEntry (k0 := kU32) (KT := 33) (ET := 48) (TD := .int .u32) (n := o) (by kernel_rfl) Try.underlying33 ⟨_, rfl⟩ rfl rfl hL hgp (by repeat (first | exact Sp.here | exact Sp.sn | exact Sp.s0 | exact Fr.here | apply Sp.s2 | apply Sp.sx | apply Fr.fc | apply Fr.al | apply Fr.fa | apply Sp.sc | apply Sp.al | apply Sp.sa)) fun bo2 D2 hE2 => ⟨_, rfl, ?_⟩)
                refine WA.y (i := 17) (NoPanic.then (NoPanic.body)) rfl (by kernel_rfl) (by kernel_rfl) (by kernel_rfl) rfl (Yd.extract rfl rfl) ?_
                refine WA.one (i := 18) (by kernel_rfl) ?_
                refine WO.s rfl Wt.none (Hd.entryStore (k0 := kU32) rfl rfl rfl hE2 (by rw [kvs_keys]; exact inv.keys) (by repeat (first | exact Sp.here | exact Sp.sn | exact Sp.s0 | exact Fr.here | apply Sp.s2 | apply Sp.sx | apply Fr.fc | apply Fr.al | apply Fr.fa | apply Sp.sc | apply Sp.al | apply Sp.sa)) fun C6 h6 => ⟨rfl, ?_⟩)
                refine WA.done (by kernel_rfl) ?_
                refine DN.fit (C := row p [.map (some b1), .map (some b2)] 57 :: (C5 ++ C6)) (by repeat (first | exact Sp.here | exact Sp.sn | exact Sp.s0 | exact Fr.here | apply Sp.s2 | apply Sp.sx | apply Fr.fc | apply Fr.al | apply Fr.fa | apply Sp.sc | apply Sp.al | apply Sp.sa)) ?_
                exact DN.reachK (row p [.map (some b1), .map (some b2)] 57 :: (C5 ++ C6)) (by
                  refine ⟨b1, b2, C5, C6, rfl, ?_, ?_⟩
                  · have e : adjU K x10.name (dm * x10.n) (dh * x10.n) = putK Au.name K ⟨(acc K x10.name).name, (acc K x10.name).money + dm * x10.n, (acc K x10.name).held + dh * x10.n⟩ := by unfold adjU moneyOf heldU; rw [acc_in hin]
                    rw [eK, e, ← putU K ⟨(acc K x10.name).name, (acc K x10.name).money + dm * x10.n, (acc K x10.name).held + dh * x10.n⟩ x10.name (acc_in hin).symm]; exact h5
                  · rw [eL, ← putP L ⟨x10.o, x10.name, x10.n, t⟩ o hxo.symm]; exact h6) ((by repeat (first | exact Sx.refl | refine Sx.skip rfl ?_))) (Sp.all (by repeat (first | exact Sp.here | exact Sp.sn | exact Sp.s0 | exact Fr.here | apply Sp.s2 | apply Sp.sx | apply Fr.fc | apply Fr.al | apply Fr.fa | apply Sp.sc | apply Sp.al | apply Sp.sa)))
              · refine WO.h rfl Wt.none rfl (Hd.mapEntry (k0 := kU32) (KT := 33) (ET := 48) (TD := .int .u32) (n := o) (by kernel_rfl) Try.underlying33 ⟨_, rfl⟩ rfl rfl hL hgp (by repeat (first | exact Sp.here | exact Sp.sn | exact Sp.s0 | exact Fr.here | apply Sp.s2 | apply Sp.sx | apply Fr.fc | apply Fr.al | apply Fr.fa | apply Sp.sc | apply Sp.al | apply Sp.sa)) fun bo2 D2 hE2 => ⟨_, rfl, ?_⟩)
                refine WA.y (i := 17) (NoPanic.then (NoPanic.body)) rfl (by kernel_rfl) (by kernel_rfl) (by kernel_rfl) rfl (Yd.extract rfl rfl) ?_
                refine WA.one (i := 12) (by kernel_rfl) ?_
                refine WO.h rfl Wt.none rfl (Hd.loadAll (n := 4) (by kernel_rfl) rfl (by repeat (first | exact List.mem_cons_self | apply List.mem_cons_of_mem | apply List.mem_append_right)) (by rfl) ⟨_, rfl, ?_⟩)
                refine WA.one (i := 18) (by kernel_rfl) ?_
                refine WO.s rfl Wt.none (Hd.entryStore (k0 := kU32) rfl rfl rfl hE2 (by rw [kvs_keys]; exact inv.keys) (by repeat (first | exact Sp.here | exact Sp.sn | exact Sp.s0 | exact Fr.here | apply Sp.s2 | apply Sp.sx | apply Fr.fc | apply Fr.al | apply Fr.fa | apply Sp.sc | apply Sp.al | apply Sp.sa)) fun C6 h6 => ⟨rfl, ?_⟩)
                refine WA.done (by kernel_rfl) ?_
                refine DN.fit (C := row p [.map (some b1), .map (some b2)] 57 :: (C5 ++ C6)) (by repeat (first | exact Sp.here | exact Sp.sn | exact Sp.s0 | exact Fr.here | apply Sp.s2 | apply Sp.sx | apply Fr.fc | apply Fr.al | apply Fr.fa | apply Sp.sc | apply Sp.al | apply Sp.sa)) ?_
                exact DN.reachK (row p [.map (some b1), .map (some b2)] 57 :: (C5 ++ C6)) (by
                  refine ⟨b1, b2, C5, C6, rfl, ?_, ?_⟩
                  · have e : adjU K x10.name (dm * x10.n) (dh * x10.n) = putK Au.name K ⟨(acc K x10.name).name, (acc K x10.name).money + dm * x10.n, (acc K x10.name).held + dh * x10.n⟩ := by unfold adjU moneyOf heldU; rw [acc_in hin]
                    rw [eK, e, ← putU K ⟨(acc K x10.name).name, (acc K x10.name).money + dm * x10.n, (acc K x10.name).held + dh * x10.n⟩ x10.name (acc_in hin).symm]; exact h5
                  · rw [eL, ← putP L ⟨x10.o, x10.name, x10.n, t⟩ o hxo.symm]; exact h6) ((by repeat (first | exact Sx.refl | refine Sx.skip rfl ?_))) (Sp.all (by repeat (first | exact Sp.here | exact Sp.sn | exact Sp.s0 | exact Fr.here | apply Sp.s2 | apply Sp.sx | apply Fr.fc | apply Fr.al | apply Fr.fa | apply Sp.sc | apply Sp.al | apply Sp.sa)))
          · change WO _ _ _ _ _ _ 6 _ 13 ([(63, _), (65, _), (69, _), (72, _)] ++ _) _
            refine WO.h rfl Wt.none rfl (Hd.mapEntry (k0 := kStr) (KT := 9) (ET := 46) (TD := .string) (n := x10.name) (by kernel_rfl) Try.underlying9 rfl rfl rfl hK hgu (by repeat (first | exact Sp.here | exact Sp.sn | exact Sp.s0 | exact Fr.here | apply Sp.s2 | apply Sp.sx | apply Fr.fc | apply Fr.al | apply Fr.fa | apply Sp.sc | apply Sp.al | apply Sp.sa)) fun bo1 D1 hE1 => ⟨_, rfl, ?_⟩)
            refine WA.y (i := 14) (NoPanic.then (NoPanic.body)) rfl (by kernel_rfl) (by kernel_rfl) (by kernel_rfl) rfl (Yd.extract rfl rfl) ?_
            refine WA.one (i := 11) (by kernel_rfl) ?_
            refine WO.h rfl Wt.none rfl (Hd.loadAll (n := 3) (by kernel_rfl) rfl (by repeat (first | exact List.mem_cons_self | apply List.mem_cons_of_mem | apply List.mem_append_right)) (by rfl) ⟨_, rfl, ?_⟩)
            refine WA.one (i := 15) (by kernel_rfl) ?_
            refine WO.s rfl Wt.none (Hd.entryStore (k0 := kStr) rfl rfl rfl hE1 (by rw [kvs_keys]; exact inv.knd) (by repeat (first | exact Sp.here | exact Sp.sn | exact Sp.s0 | exact Fr.here | apply Sp.s2 | apply Sp.sx | apply Fr.fc | apply Fr.al | apply Fr.fa | apply Sp.sc | apply Sp.al | apply Sp.sa)) fun C5 h5 => ⟨rfl, ?_⟩)
            refine WA.one (i := 16) (by kernel_rfl) ?_
            refine WO.h rfl Wt.none rfl (Hd.mapEntry (k0 := kU32) (KT := 33) (ET := 48) (TD := .int .u32) (n := o) (by kernel_rfl) Try.underlying33 ⟨_, rfl⟩ rfl rfl hL hgp (by repeat (first | exact Sp.here | exact Sp.sn | exact Sp.s0 | exact Fr.here | apply Sp.s2 | apply Sp.sx | apply Fr.fc | apply Fr.al | apply Fr.fa | apply Sp.sc | apply Sp.al | apply Sp.sa)) fun bo2 D2 hE2 => ⟨_, rfl, ?_⟩)
            refine WA.y (i := 17) (NoPanic.then (NoPanic.body)) rfl (by kernel_rfl) (by kernel_rfl) (by kernel_rfl) rfl (Yd.extract rfl rfl) ?_
            refine WA.one (i := 18) (by kernel_rfl) ?_
            refine WO.s rfl Wt.none (Hd.entryStore (k0 := kU32) rfl rfl rfl hE2 (by rw [kvs_keys]; exact inv.keys) (by repeat (first | exact Sp.here | exact Sp.sn | exact Sp.s0 | exact Fr.here | apply Sp.s2 | apply Sp.sx | apply Fr.fc | apply Fr.al | apply Fr.fa | apply Sp.sc | apply Sp.al | apply Sp.sa)) fun C6 h6 => ⟨rfl, ?_⟩)
            refine WA.done (by kernel_rfl) ?_
            refine DN.fit (C := row p [.map (some b1), .map (some b2)] 57 :: (C5 ++ C6)) (by repeat (first | exact Sp.here | exact Sp.sn | exact Sp.s0 | exact Fr.here | apply Sp.s2 | apply Sp.sx | apply Fr.fc | apply Fr.al | apply Fr.fa | apply Sp.sc | apply Sp.al | apply Sp.sa)) ?_
            exact DN.reachK (row p [.map (some b1), .map (some b2)] 57 :: (C5 ++ C6)) (by
              refine ⟨b1, b2, C5, C6, rfl, ?_, ?_⟩
              · have e : adjU K x10.name (dm * x10.n) (dh * x10.n) = putK Au.name K ⟨(acc K x10.name).name, (acc K x10.name).money + dm * x10.n, (acc K x10.name).held + dh * x10.n⟩ := by unfold adjU moneyOf heldU; rw [acc_in hin]
                rw [eK, e, ← putU K ⟨(acc K x10.name).name, (acc K x10.name).money + dm * x10.n, (acc K x10.name).held + dh * x10.n⟩ x10.name (acc_in hin).symm]; exact h5
              · rw [eL, ← putP L ⟨x10.o, x10.name, x10.n, t⟩ o hxo.symm]; exact h6) ((by repeat (first | exact Sx.refl | refine Sx.skip rfl ?_))) (Sp.all (by repeat (first | exact Sp.here | exact Sp.sn | exact Sp.s0 | exact Fr.here | apply Sp.s2 | apply Sp.sx | apply Fr.fc | apply Fr.al | apply Fr.fa | apply Sp.sc | apply Sp.al | apply Sp.sa)))
          · change WA _ _ _ _ _ _ 6 _ ([(63, _), (65, _), (69, _), (71, _), (72, _)] ++ _) _
            refine WA.one (i := 13) (by kernel_rfl) ?_
            refine WO.h rfl Wt.none rfl (Hd.mapEntry (k0 := kStr) (KT := 9) (ET := 46) (TD := .string) (n := x10.name) (by kernel_rfl) Try.underlying9 rfl rfl rfl hK hgu (by repeat (first | exact Sp.here | exact Sp.sn | exact Sp.s0 | exact Fr.here | apply Sp.s2 | apply Sp.sx | apply Fr.fc | apply Fr.al | apply Fr.fa | apply Sp.sc | apply Sp.al | apply Sp.sa)) fun bo1 D1 hE1 => ⟨_, rfl, ?_⟩)
            refine WA.y (i := 14) (NoPanic.then (NoPanic.body)) rfl (by kernel_rfl) (by kernel_rfl) (by kernel_rfl) rfl (Yd.extract rfl rfl) ?_
            refine WA.one (i := 15) (by kernel_rfl) ?_
            refine WO.s rfl Wt.none (Hd.entryStore (k0 := kStr) rfl rfl rfl hE1 (by rw [kvs_keys]; exact inv.knd) (by repeat (first | exact Sp.here | exact Sp.sn | exact Sp.s0 | exact Fr.here | apply Sp.s2 | apply Sp.sx | apply Fr.fc | apply Fr.al | apply Fr.fa | apply Sp.sc | apply Sp.al | apply Sp.sa)) fun C5 h5 => ⟨rfl, ?_⟩)
            refine WA.one (i := 16) (by kernel_rfl) ?_
            refine WO.h rfl Wt.none rfl (Hd.mapEntry (k0 := kU32) (KT := 33) (ET := 48) (TD := .int .u32) (n := o) (by kernel_rfl) Try.underlying33 ⟨_, rfl⟩ rfl rfl hL hgp (by repeat (first | exact Sp.here | exact Sp.sn | exact Sp.s0 | exact Fr.here | apply Sp.s2 | apply Sp.sx | apply Fr.fc | apply Fr.al | apply Fr.fa | apply Sp.sc | apply Sp.al | apply Sp.sa)) fun bo2 D2 hE2 => ⟨_, rfl, ?_⟩)
            refine WA.y (i := 17) (NoPanic.then (NoPanic.body)) rfl (by kernel_rfl) (by kernel_rfl) (by kernel_rfl) rfl (Yd.extract rfl rfl) ?_
            refine WA.one (i := 18) (by kernel_rfl) ?_
            refine WO.s rfl Wt.none (Hd.entryStore (k0 := kU32) rfl rfl rfl hE2 (by rw [kvs_keys]; exact inv.keys) (by repeat (first | exact Sp.here | exact Sp.sn | exact Sp.s0 | exact Fr.here | apply Sp.s2 | apply Sp.sx | apply Fr.fc | apply Fr.al | apply Fr.fa | apply Sp.sc | apply Sp.al | apply Sp.sa)) fun C6 h6 => ⟨rfl, ?_⟩)
            refine WA.done (by kernel_rfl) ?_
            refine DN.fit (C := row p [.map (some b1), .map (some b2)] 57 :: (C5 ++ C6)) (by repeat (first | exact Sp.here | exact Sp.sn | exact Sp.s0 | exact Fr.here | apply Sp.s2 | apply Sp.sx | apply Fr.fc | apply Fr.al | apply Fr.fa | apply Sp.sc | apply Sp.al | apply Sp.sa)) ?_
            exact DN.reachK (row p [.map (some b1), .map (some b2)] 57 :: (C5 ++ C6)) (by
              refine ⟨b1, b2, C5, C6, rfl, ?_, ?_⟩
              · have e : adjU K x10.name (dm * x10.n) (dh * x10.n) = putK Au.name K ⟨(acc K x10.name).name, (acc K x10.name).money + dm * x10.n, (acc K x10.name).held + dh * x10.n⟩ := by unfold adjU moneyOf heldU; rw [acc_in hin]
                rw [eK, e, ← putU K ⟨(acc K x10.name).name, (acc K x10.name).money + dm * x10.n, (acc K x10.name).held + dh * x10.n⟩ x10.name (acc_in hin).symm]; exact h5
              · rw [eL, ← putP L ⟨x10.o, x10.name, x10.n, t⟩ o hxo.symm]; exact h6) ((by repeat (first | exact Sx.refl | refine Sx.skip rfl ?_))) (Sp.all (by repeat (first | exact Sp.here | exact Sp.sn | exact Sp.s0 | exact Fr.here | apply Sp.s2 | apply Sp.sx | apply Fr.fc | apply Fr.al | apply Fr.fa | apply Sp.sc | apply Sp.al | apply Sp.sa)))
        · intro z hz
          refine WC.seq ?_
          refine WC.region ?_
          refine WL.y rfl (Yd.assign rfl) ?_
          refine WL.nil ?_
          refine DN.then_normal ?_
          refine WC.ret ?_
          first | refine DN.fit (C := row p [.map (some b1), .map (some b2)] 57 :: (C1 ++ C2)) (by repeat (first | exact Sp.here | exact Sp.sn | exact Sp.s0 | exact Fr.here | apply Sp.s2 | apply Sp.sx | apply Fr.fc | apply Fr.al | apply Fr.fa | apply Sp.sc | apply Sp.al | apply Sp.sa)) ?_ | skip
          refine DN.ret1 Try.results36 rfl ?_
          first
            | (rw [hb]; exact ⟨rfl, hz⟩)
            | (have hb : turnB L o s = false := by
                 unfold turnB
                 cases hf : findK Py.o L o with
                 | none => rfl
                 | some x =>
                   rw [hf] at hx10 hg29
                   simp only [Option.getD_some] at hx10
                   subst hx10
                   first
                   | (simp at hg29; done)
                   | exact decide_eq_false h34
               rw [hb, (turn_no t dm dh hb).1, (turn_no (K := K) t dm dh hb).2]
               exact ⟨rfl, hS⟩)

/-- (*drayage/purse.Purse).Capture -/
theorem capture_tells (p : Nat) (first K : List Au) (L : List Py) (C : List Ck) (h : PsAt 57 p K L C) (inv : PInv first K L) (o : BitVec 32) : Tells Try.prog 26 [.pointer (some ⟨p, 0, none⟩), .int .u32 o.toNat] C fun r H' => r = .int .i64 (vdP (turnB L o 1)) ∧ PsAt 57 p (turnKs K L o 1 (-1) (-1)) (turnLs L o 1 2) H' := by
  refine Tells.enter Try.func26 rfl Try.ntmps26 rfl ?_
  intro w0 R
  refine WC.seq ?_
  refine WC.region ?_
  refine WL.y rfl (Yd.assign rfl) ?_
  refine WL.nil ?_
  refine DN.then_normal ?_
  refine WC.seq ?_
  refine WC.region ?_
  refine WL.y rfl (Yd.move rfl) ?_
  refine WL.y rfl (Yd.move rfl) ?_
  refine WL.c rfl (Ent.func Try.call36 rfl) (turn_tells p first K L C h inv o 1 2 (-1) (-1) (by unfold turnOk; decide)) (Sp.p (by repeat (first | exact Sp.here | exact Sp.sn | exact Sp.s0 | exact Fr.here | apply Sp.s2 | apply Sp.sx | apply Fr.fc | apply Fr.al | apply Fr.fa | apply Sp.sc | apply Sp.al | apply Sp.sa))) ?_
  rintro q C9 ⟨rfl, h9⟩
  refine WL.y rfl (Yd.assign rfl) ?_
  refine WL.nil ?_
  refine DN.then_normal ?_
  refine WC.ret ?_
  refine DN.ret1 Try.results26 rfl ?_
  exact ⟨rfl, by simpa using h9⟩

/-- (*drayage/purse.Purse).Void -/
theorem void_tells (p : Nat) (first K : List Au) (L : List Py) (C : List Ck) (h : PsAt 57 p K L C) (inv : PInv first K L) (o : BitVec 32) : Tells Try.prog 27 [.pointer (some ⟨p, 0, none⟩), .int .u32 o.toNat] C fun r H' => r = .int .i64 (vdP (turnB L o 1)) ∧ PsAt 57 p (turnKs K L o 1 0 (-1)) (turnLs L o 1 3) H' := by
  refine Tells.enter Try.func27 rfl Try.ntmps27 rfl ?_
  intro w0 R
  refine WC.seq ?_
  refine WC.region ?_
  refine WL.y rfl (Yd.assign rfl) ?_
  refine WL.nil ?_
  refine DN.then_normal ?_
  refine WC.seq ?_
  refine WC.region ?_
  refine WL.y rfl (Yd.move rfl) ?_
  refine WL.y rfl (Yd.move rfl) ?_
  refine WL.c rfl (Ent.func Try.call36 rfl) (turn_tells p first K L C h inv o 1 3 0 (-1) (by unfold turnOk; decide)) (Sp.p (by repeat (first | exact Sp.here | exact Sp.sn | exact Sp.s0 | exact Fr.here | apply Sp.s2 | apply Sp.sx | apply Fr.fc | apply Fr.al | apply Fr.fa | apply Sp.sc | apply Sp.al | apply Sp.sa))) ?_
  rintro q C9 ⟨rfl, h9⟩
  refine WL.y rfl (Yd.assign rfl) ?_
  refine WL.nil ?_
  refine DN.then_normal ?_
  refine WC.ret ?_
  refine DN.ret1 Try.results27 rfl ?_
  exact ⟨rfl, by simpa using h9⟩

/-- (*drayage/purse.Purse).Refund -/
theorem refund_tells (p : Nat) (first K : List Au) (L : List Py) (C : List Ck) (h : PsAt 57 p K L C) (inv : PInv first K L) (o : BitVec 32) : Tells Try.prog 25 [.pointer (some ⟨p, 0, none⟩), .int .u32 o.toNat] C fun r H' => r = .int .i64 (vdP (turnB L o 2)) ∧ PsAt 57 p (turnKs K L o 2 1 0) (turnLs L o 2 3) H' := by
  refine Tells.enter Try.func25 rfl Try.ntmps25 rfl ?_
  intro w0 R
  refine WC.seq ?_
  refine WC.region ?_
  refine WL.y rfl (Yd.assign rfl) ?_
  refine WL.nil ?_
  refine DN.then_normal ?_
  refine WC.seq ?_
  refine WC.region ?_
  refine WL.y rfl (Yd.move rfl) ?_
  refine WL.y rfl (Yd.move rfl) ?_
  refine WL.c rfl (Ent.func Try.call36 rfl) (turn_tells p first K L C h inv o 2 3 1 0 (by unfold turnOk; decide)) (Sp.p (by repeat (first | exact Sp.here | exact Sp.sn | exact Sp.s0 | exact Fr.here | apply Sp.s2 | apply Sp.sx | apply Fr.fc | apply Fr.al | apply Fr.fa | apply Sp.sc | apply Sp.al | apply Sp.sa))) ?_
  rintro q C9 ⟨rfl, h9⟩
  refine WL.y rfl (Yd.assign rfl) ?_
  refine WL.nil ?_
  refine DN.then_normal ?_
  refine WC.ret ?_
  refine DN.ret1 Try.results25 rfl ?_
  exact ⟨rfl, by simpa using h9⟩

end Go.Proofs.Ytllfnigodikbaaa
