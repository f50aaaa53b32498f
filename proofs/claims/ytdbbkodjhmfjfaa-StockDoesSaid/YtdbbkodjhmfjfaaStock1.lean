/-
  The walks of the stock: Hold, leave, Free, Ship, Gone.
-/
import Derived.Test.YtdbbkodjhmfjfaaStockMath
import Derived.Test.YtdbbkodjhmfjfaaRows
set_option linter.unusedVariables false
set_option linter.unusedSimpArgs false
set_option maxHeartbeats 4000000
namespace Go.Proofs.Ytdbbkodjhmfjfaa
open Go.SL


/-- (*drayage/stock.Stock).Gone -/
theorem gone_reads (p : Nat) (K : List Gd) (L : List Ho) (C : List Ck) (h : StAt 57 p K L C) (nm : ByteArray) : Reads Try.prog 23 [.pointer (some ⟨p, 0, none⟩), .string nm] C (.int .i64 (goneOf K nm)) := by
  refine Tells.enter Try.func23 rfl Try.ntmps23 rfl ?_
  intro w0 R
  have hS := h
  obtain ⟨b1, b2, C1, C2, rfl, hK, hL⟩ := h
  refine WC.seq ?_
  refine WC.region ?_
  refine WL.y rfl (Yd.assign rfl) ?_
  refine WL.nil ?_
  refine DN.then_normal ?_
  refine WC.seq ?_
  refine WC.seq ?_
  refine WC.region ?_
  refine WL.y rfl (Yd.move rfl) ?_
  refine WL.y rfl (Yd.eqlNil Try.underlying26 rfl rfl) ?_
  refine WL.nil ?_
  refine DN.then_normal ?_
  refine WC.no rfl ?_
  refine WC.skip ?_
  refine DN.then_normal ?_
  refine WC.seq ?_
  refine WC.region ?_
  refine WL.y rfl (Yd.move rfl) ?_
  refine WL.y rfl (Yd.notNil rfl) ?_
  refine WL.y rfl (Yd.fieldAddr (k := 0) (by kernel_rfl) rfl) ?_
  refine WL.h rfl (Hd.load1 (by kernel_rfl) rfl (by repeat (first | exact List.mem_cons_self | apply List.mem_cons_of_mem | apply List.mem_append_right)) (by rfl) ⟨_, rfl, ?_⟩)
  refine WL.y rfl (Yd.move rfl) ?_
  refine WL.h rfl (Hd.lookupG (k0 := kStr) (KT := 9) (ET := 59) (TD := .string) (n := nm) (z := .agg #[.int .i64 0, .int .i64 0]) (by kernel_rfl) Try.underlying9 rfl (by kernel_rfl) rfl rfl hK (by repeat (first | exact Sp.here | exact Sp.sn | exact Sp.s0 | exact Fr.here | apply Sp.s2 | apply Sp.sx | apply Fr.fc | apply Fr.al | apply Fr.fa | apply Sp.sc | apply Sp.al | apply Sp.sa)) (lkG K nm) ⟨_, rfl, ?_⟩)
  refine WL.y rfl (Yd.field1 (o := 1) (n := 1) (by kernel_rfl) rfl rfl) ?_
  refine WL.y rfl (Yd.assign rfl) ?_
  refine WL.nil ?_
  refine DN.then_normal ?_
  refine WC.ret ?_
  refine DN.ret1 Try.results23 rfl ?_
  exact ⟨rfl, rfl⟩

/-- (*drayage/stock.Stock).Hold -/
theorem hold_tells (p : Nat) (first K : List Gd) (L : List Ho) (C : List Ck) (h : StAt 57 p K L C) (inv : SInv first K L) (o : BitVec 32) (nm : ByteArray) (n : Int) : Tells Try.prog 13 [.pointer (some ⟨p, 0, none⟩), .int .u32 o.toNat, .string nm, .int .i64 n] C fun r H' => r = .int .i64 (vd (holdB K L o nm n)) ∧ StAt 57 p (holdKs K L o nm n) (holdLs K L o nm n) H' := by
  refine Tells.enter Try.func13 rfl Try.ntmps13 rfl ?_
  intro w0 R
  have hS := h
  obtain ⟨b1, b2, C1, C2, rfl, hK, hL⟩ := h
  have hmid := inv.mid nm
  obtain ⟨x10, hx10⟩ : ∃ x, x = (findK Ho.o L o).getD zeroH := ⟨_, rfl⟩
  refine WC.seq ?_
  refine WC.region ?_
  refine WL.y rfl (Yd.assign rfl) ?_
  refine WL.nil ?_
  refine DN.then_normal ?_
  refine WC.seq ?_
  refine WC.seq ?_
  refine WC.region ?_
  refine WL.y rfl (Yd.move rfl) ?_
  refine WL.y rfl (Yd.eqlNil Try.underlying26 rfl rfl) ?_
  refine WL.renamed (t := 13) (v := .bool false) rfl (congrArg Value.bool (rfl)) ?_
  refine WL.y rfl (Yd.move rfl) ?_
  refine WL.gy (dj := 14) rfl rfl rfl (Yd.move rfl) ?_
  refine WL.gy (dj := 14) rfl rfl rfl (Yd.eql32 _ (0#32) rfl rfl rfl rfl) ?_
  refine WL.y rfl (Yd.pickF rfl rfl) ?_
  refine WL.y rfl (Yd.move rfl) ?_
  refine WL.partP (t := 18) rfl (fun hg18 => ?_) (fun hg18 => ?_)
  · refine WL.gn (dj := 18) rfl rfl rfl rfl ?_
    refine WL.gn (dj := 18) rfl rfl rfl rfl ?_
    refine WL.y rfl (Yd.pickT rfl rfl) ?_
    refine WL.nil ?_
    refine DN.then_normal ?_
    refine WC.yes rfl ?_
    refine WC.seq ?_
    refine WC.region ?_
    refine WL.y rfl (Yd.assign rfl) ?_
    refine WL.nil ?_
    refine DN.then_normal ?_
    refine WC.ret ?_
    refine DN.then_ret ?_
    first | refine DN.fit (C := row p [.map (some b1), .map (some b2)] 57 :: (C3 ++ C4)) (by repeat (first | exact Sp.here | exact Sp.sn | exact Sp.s0 | exact Fr.here | apply Sp.s2 | apply Sp.sx | apply Fr.fc | apply Fr.al | apply Fr.fa | apply Sp.sc | apply Sp.al | apply Sp.sa)) ?_ | refine DN.fit (C := row p [.map (some b1), .map (some b2)] 57 :: (C1 ++ C2)) (by repeat (first | exact Sp.here | exact Sp.sn | exact Sp.s0 | exact Fr.here | apply Sp.s2 | apply Sp.sx | apply Fr.fc | apply Fr.al | apply Fr.fa | apply Sp.sc | apply Sp.al | apply Sp.sa)) ?_
    refine DN.ret1 Try.results13 rfl ?_
    first
      | (have hb : holdB K L o nm n = true := by
           unfold holdB
           simp only [Bool.and_eq_true, decide_eq_true_eq, Bool.not_eq_true']
           exact ⟨hg18, by omega, hg38, by omega⟩
         have hf : findK Ho.o L o = none := by simpa using hg38
         unfold holdKs holdLs
         rw [hb]
         simp only [if_true]
         refine ⟨rfl, b1, b2, C3, C4, rfl, ?_, ?_⟩
         · have e : adj K nm (-n) 0 = putK Gd.name K ⟨nm, freeOf K nm - n, goneOf K nm⟩ := by unfold adj; rw [Int.add_zero]; rfl
           rw [e, ← putG]; exact h3
         · rw [← putH L o nm n hf]; exact h4)
      | (have hb : holdB K L o nm n = false := by
           unfold holdB
           rw [Bool.eq_false_iff]
           simp only [ne_eq, Bool.and_eq_true, decide_eq_true_eq, Bool.not_eq_true']
           rintro ⟨e1, e2, e3, e4⟩
           first
           | omega
           | exact e1 hg18
           | exact Bool.noConfusion (e3.symm.trans hg38)
         unfold holdKs holdLs
         rw [hb]
         simp only [Bool.false_eq_true, if_false]
         exact ⟨rfl, hS⟩)
  · refine WL.gy (dj := 18) rfl rfl rfl (Yd.move rfl) ?_
    refine WL.gy (dj := 18) rfl rfl rfl (Yd.lss rfl rfl) ?_
    refine WL.y rfl (Yd.pickF rfl rfl) ?_
    refine WL.nil ?_
    refine DN.then_normal ?_
    refine WC.ite rfl (fun h21 => ?_) (fun h21 => ?_)
    · refine WC.seq ?_
      refine WC.region ?_
      refine WL.y rfl (Yd.assign rfl) ?_
      refine WL.nil ?_
      refine DN.then_normal ?_
      refine WC.ret ?_
      refine DN.then_ret ?_
      first | refine DN.fit (C := row p [.map (some b1), .map (some b2)] 57 :: (C3 ++ C4)) (by repeat (first | exact Sp.here | exact Sp.sn | exact Sp.s0 | exact Fr.here | apply Sp.s2 | apply Sp.sx | apply Fr.fc | apply Fr.al | apply Fr.fa | apply Sp.sc | apply Sp.al | apply Sp.sa)) ?_ | refine DN.fit (C := row p [.map (some b1), .map (some b2)] 57 :: (C1 ++ C2)) (by repeat (first | exact Sp.here | exact Sp.sn | exact Sp.s0 | exact Fr.here | apply Sp.s2 | apply Sp.sx | apply Fr.fc | apply Fr.al | apply Fr.fa | apply Sp.sc | apply Sp.al | apply Sp.sa)) ?_
      refine DN.ret1 Try.results13 rfl ?_
      first
        | (have hb : holdB K L o nm n = true := by
             unfold holdB
             simp only [Bool.and_eq_true, decide_eq_true_eq, Bool.not_eq_true']
             exact ⟨hg18, by omega, hg38, by omega⟩
           have hf : findK Ho.o L o = none := by simpa using hg38
           unfold holdKs holdLs
           rw [hb]
           simp only [if_true]
           refine ⟨rfl, b1, b2, C3, C4, rfl, ?_, ?_⟩
           · have e : adj K nm (-n) 0 = putK Gd.name K ⟨nm, freeOf K nm - n, goneOf K nm⟩ := by unfold adj; rw [Int.add_zero]; rfl
             rw [e, ← putG]; exact h3
           · rw [← putH L o nm n hf]; exact h4)
        | (have hb : holdB K L o nm n = false := by
             unfold holdB
             rw [Bool.eq_false_iff]
             simp only [ne_eq, Bool.and_eq_true, decide_eq_true_eq, Bool.not_eq_true']
             rintro ⟨e1, e2, e3, e4⟩
             first
             | omega
             | exact e1 hg18
             | exact Bool.noConfusion (e3.symm.trans hg38)
           unfold holdKs holdLs
           rw [hb]
           simp only [Bool.false_eq_true, if_false]
           exact ⟨rfl, hS⟩)
    · refine WC.skip ?_
      refine DN.then_normal ?_
      refine WC.seq ?_
      refine WC.region ?_
      refine WL.y rfl (Yd.move rfl) ?_
      refine WL.y rfl (Yd.notNil rfl) ?_
      refine WL.y rfl (Yd.fieldAddr (k := 0) (by kernel_rfl) rfl) ?_
      refine WL.h rfl (Hd.load1 (by kernel_rfl) rfl (by repeat (first | exact List.mem_cons_self | apply List.mem_cons_of_mem | apply List.mem_append_right)) (by rfl) ⟨_, rfl, ?_⟩)
      refine WL.y rfl (Yd.move rfl) ?_
      refine WL.h rfl (Hd.lookupG (k0 := kStr) (KT := 9) (ET := 59) (TD := .string) (n := nm) (z := .agg #[.int .i64 0, .int .i64 0]) (by kernel_rfl) Try.underlying9 rfl (by kernel_rfl) rfl rfl hK (by repeat (first | exact Sp.here | exact Sp.sn | exact Sp.s0 | exact Fr.here | apply Sp.s2 | apply Sp.sx | apply Fr.fc | apply Fr.al | apply Fr.fa | apply Sp.sc | apply Sp.al | apply Sp.sa)) (lkG K nm) ⟨_, rfl, ?_⟩)
      refine WL.h rfl (Hd.alloc (zs := [.int .i64 0, .int .i64 0]) (by kernel_rfl) fun b9 => ⟨_, rfl, ?_⟩)
      refine WL.s (Hd.storeAll (n := 2) (by kernel_rfl) rfl rfl (by rfl) (by repeat (first | exact fun _ h => absurd h List.not_mem_nil | refine List.forall_mem_cons.2 ⟨by first | rfl | assumption, ?_⟩)) (by repeat (first | exact Fr.here | apply Fr.fc | apply Fr.al | apply Fr.fa)) (by rfl) ⟨rfl, ?_⟩)
      refine WL.nil ?_
      refine DN.then_normal ?_
      refine WC.seq ?_
      refine WC.seq ?_
      refine WC.region ?_
      refine WL.y rfl (Yd.move rfl) ?_
      refine WL.y rfl (Yd.notNil rfl) ?_
      refine WL.y rfl (Yd.fieldAddr (k := 1) (by kernel_rfl) rfl) ?_
      refine WL.h rfl (Hd.load1 (by kernel_rfl) rfl (by repeat (first | exact List.mem_cons_self | apply List.mem_cons_of_mem | apply List.mem_append_right)) (by rfl) ⟨_, rfl, ?_⟩)
      refine WL.y rfl (Yd.move rfl) ?_
      refine WL.h rfl (Hd.lookupG (k0 := kU32) (KT := 23) (ET := 50) (TD := .int .u32) (n := o) (z := .agg #[.int .u32 0, .string ⟨#[]⟩, .int .i64 0]) (by kernel_rfl) Try.underlying23 ⟨_, rfl⟩ (by kernel_rfl) rfl rfl hL (by repeat (first | exact Sp.here | exact Sp.sn | exact Sp.s0 | exact Fr.here | apply Sp.s2 | apply Sp.sx | apply Fr.fc | apply Fr.al | apply Fr.fa | apply Sp.sc | apply Sp.al | apply Sp.sa)) (lkH2 L o) ⟨_, rfl, ?_⟩)
      refine WL.y rfl (Yd.move rfl) ?_
      rw [← hx10]
      refine WL.y rfl (Yd.extract rfl rfl) ?_
      refine WL.y rfl (Yd.extract rfl rfl) ?_
      refine WL.h rfl (Hd.alloc (zs := [.int .u32 0, .string ⟨#[]⟩, .int .i64 0]) (by kernel_rfl) fun b10 => ⟨_, rfl, ?_⟩)
      refine WL.s (Hd.storeAll (n := 3) (by kernel_rfl) rfl rfl (by rfl) (by repeat (first | exact fun _ h => absurd h List.not_mem_nil | refine List.forall_mem_cons.2 ⟨by first | rfl | assumption, ?_⟩)) (by repeat (first | exact Fr.here | apply Fr.fc | apply Fr.al | apply Fr.fa)) (by rfl) ⟨rfl, ?_⟩)
      refine WL.y rfl (Yd.assign rfl) ?_
      refine WL.nil ?_
      refine DN.then_normal ?_
      refine WC.seq ?_
      refine WC.region ?_
      refine WL.y rfl (Yd.move rfl) ?_
      refine WL.y rfl (Yd.move rfl) ?_
      refine WL.part (t := 38) rfl (fun hg38 => ?_) (fun hg38 => ?_)
      · refine WL.gn (dj := 38) rfl rfl rfl rfl ?_
        refine WL.gn (dj := 38) rfl rfl rfl rfl ?_
        refine WL.gn (dj := 38) rfl rfl rfl rfl ?_
        refine WL.gn (dj := 38) rfl rfl rfl rfl ?_
        refine WL.y rfl (Yd.pickT rfl rfl) ?_
        refine WL.nil ?_
        refine DN.then_normal ?_
        refine WC.yes rfl ?_
        refine WC.seq ?_
        refine WC.region ?_
        refine WL.y rfl (Yd.assign rfl) ?_
        refine WL.nil ?_
        refine DN.then_normal ?_
        refine WC.ret ?_
        refine DN.then_ret ?_
        first | refine DN.fit (C := row p [.map (some b1), .map (some b2)] 57 :: (C3 ++ C4)) (by repeat (first | exact Sp.here | exact Sp.sn | exact Sp.s0 | exact Fr.here | apply Sp.s2 | apply Sp.sx | apply Fr.fc | apply Fr.al | apply Fr.fa | apply Sp.sc | apply Sp.al | apply Sp.sa)) ?_ | refine DN.fit (C := row p [.map (some b1), .map (some b2)] 57 :: (C1 ++ C2)) (by repeat (first | exact Sp.here | exact Sp.sn | exact Sp.s0 | exact Fr.here | apply Sp.s2 | apply Sp.sx | apply Fr.fc | apply Fr.al | apply Fr.fa | apply Sp.sc | apply Sp.al | apply Sp.sa)) ?_
        refine DN.ret1 Try.results13 rfl ?_
        first
          | (have hb : holdB K L o nm n = true := by
               unfold holdB
               simp only [Bool.and_eq_true, decide_eq_true_eq, Bool.not_eq_true']
               exact ⟨hg18, by omega, hg38, by omega⟩
             have hf : findK Ho.o L o = none := by simpa using hg38
             unfold holdKs holdLs
             rw [hb]
             simp only [if_true]
             refine ⟨rfl, b1, b2, C3, C4, rfl, ?_, ?_⟩
             · have e : adj K nm (-n) 0 = putK Gd.name K ⟨nm, freeOf K nm - n, goneOf K nm⟩ := by unfold adj; rw [Int.add_zero]; rfl
               rw [e, ← putG]; exact h3
             · rw [← putH L o nm n hf]; exact h4)
          | (have hb : holdB K L o nm n = false := by
               unfold holdB
               rw [Bool.eq_false_iff]
               simp only [ne_eq, Bool.and_eq_true, decide_eq_true_eq, Bool.not_eq_true']
               rintro ⟨e1, e2, e3, e4⟩
               first
               | omega
               | exact e1 hg18
               | exact Bool.noConfusion (e3.symm.trans hg38)
             unfold holdKs holdLs
             rw [hb]
             simp only [Bool.false_eq_true, if_false]
             exact ⟨rfl, hS⟩)
      · refine WL.gy (dj := 38) rfl rfl rfl (Yd.fieldAddr (k := 0) (by kernel_rfl) rfl) ?_
        refine WL.gh (dj := 38) rfl rfl rfl (Hd.load1 (by kernel_rfl) rfl (by repeat (first | exact List.mem_cons_self | apply List.mem_cons_of_mem | apply List.mem_append_right)) (by rfl) ⟨_, rfl, ?_⟩)
        refine WL.gy (dj := 38) rfl rfl rfl (Yd.move rfl) ?_
        refine WL.gy (dj := 38) rfl rfl rfl (Yd.lss rfl rfl) ?_
        refine WL.y rfl (Yd.pickF rfl rfl) ?_
        refine WL.nil ?_
        refine DN.then_normal ?_
        refine WC.ite rfl (fun h43 => ?_) (fun h43 => ?_)
        · refine WC.seq ?_
          refine WC.region ?_
          refine WL.y rfl (Yd.assign rfl) ?_
          refine WL.nil ?_
          refine DN.then_normal ?_
          refine WC.ret ?_
          refine DN.then_ret ?_
          first | refine DN.fit (C := row p [.map (some b1), .map (some b2)] 57 :: (C3 ++ C4)) (by repeat (first | exact Sp.here | exact Sp.sn | exact Sp.s0 | exact Fr.here | apply Sp.s2 | apply Sp.sx | apply Fr.fc | apply Fr.al | apply Fr.fa | apply Sp.sc | apply Sp.al | apply Sp.sa)) ?_ | refine DN.fit (C := row p [.map (some b1), .map (some b2)] 57 :: (C1 ++ C2)) (by repeat (first | exact Sp.here | exact Sp.sn | exact Sp.s0 | exact Fr.here | apply Sp.s2 | apply Sp.sx | apply Fr.fc | apply Fr.al | apply Fr.fa | apply Sp.sc | apply Sp.al | apply Sp.sa)) ?_
          refine DN.ret1 Try.results13 rfl ?_
          first
            | (have hb : holdB K L o nm n = true := by
                 unfold holdB
                 simp only [Bool.and_eq_true, decide_eq_true_eq, Bool.not_eq_true']
                 exact ⟨hg18, by omega, hg38, by omega⟩
               have hf : findK Ho.o L o = none := by simpa using hg38
               unfold holdKs holdLs
               rw [hb]
               simp only [if_true]
               refine ⟨rfl, b1, b2, C3, C4, rfl, ?_, ?_⟩
               · have e : adj K nm (-n) 0 = putK Gd.name K ⟨nm, freeOf K nm - n, goneOf K nm⟩ := by unfold adj; rw [Int.add_zero]; rfl
                 rw [e, ← putG]; exact h3
               · rw [← putH L o nm n hf]; exact h4)
            | (have hb : holdB K L o nm n = false := by
                 unfold holdB
                 rw [Bool.eq_false_iff]
                 simp only [ne_eq, Bool.and_eq_true, decide_eq_true_eq, Bool.not_eq_true']
                 rintro ⟨e1, e2, e3, e4⟩
                 first
                 | omega
                 | exact e1 hg18
                 | exact Bool.noConfusion (e3.symm.trans hg38)
               unfold holdKs holdLs
               rw [hb]
               simp only [Bool.false_eq_true, if_false]
               exact ⟨rfl, hS⟩)
        · refine WC.skip ?_
          refine DN.then_normal ?_
          refine WC.seq ?_
          refine WC.region ?_
          refine WL.y rfl (Yd.fieldAddr (k := 0) (by kernel_rfl) rfl) ?_
          refine WL.h rfl (Hd.load1 (by kernel_rfl) rfl (by repeat (first | exact List.mem_cons_self | apply List.mem_cons_of_mem | apply List.mem_append_right)) (by rfl) ⟨_, rfl, ?_⟩)
          refine WL.y rfl (Yd.move rfl) ?_
          refine WL.y rfl (Yd.sub rfl rfl (by omega) (by omega)) ?_
          refine WL.y rfl (Yd.fieldAddr (k := 0) (by kernel_rfl) rfl) ?_
          refine WL.s (Hd.store1s (by kernel_rfl) rfl rfl (by rfl) (by repeat (first | exact Fr.here | apply Fr.fc | apply Fr.al | apply Fr.fa)) (by rfl) (by first | (simp only [List.set_cons_zero, List.set_cons_succ, Nat.zero_add, Nat.add_zero, Nat.reduceAdd]; rfl) | rfl) ⟨rfl, ?_⟩)
          refine WL.nil ?_
          refine DN.then_normal ?_
          refine WC.seq ?_
          refine WC.draw 7 (by kernel_rfl) rfl ?_
          refine WA.y (i := 0) (NoPanic.then (NoPanic.body)) rfl (by kernel_rfl) (by kernel_rfl) (by kernel_rfl) rfl (Yd.move rfl) ?_
          refine WA.y (i := 1) (NoPanic.then (NoPanic.body)) rfl (by kernel_rfl) (by kernel_rfl) (by kernel_rfl) rfl (Yd.notNil rfl) ?_
          refine WA.y (i := 2) (NoPanic.then (NoPanic.body)) rfl (by kernel_rfl) (by kernel_rfl) (by kernel_rfl) rfl (Yd.fieldAddr (k := 0) (by kernel_rfl) rfl) ?_
          refine WA.y (i := 4) (NoPanic.then (NoPanic.body)) rfl (by kernel_rfl) (by kernel_rfl) (by kernel_rfl) rfl (Yd.move rfl) ?_
          refine WA.two (i := 3) (j := 5) (by kernel_rfl) ?_ ?_
          · refine WO.h rfl Wt.none rfl (Hd.load1 (by kernel_rfl) rfl (by repeat (first | exact List.mem_cons_self | apply List.mem_cons_of_mem | apply List.mem_append_right)) (by rfl) ⟨_, rfl, ?_⟩)
            refine WA.one (i := 5) (by kernel_rfl) ?_
            refine WO.h rfl Wt.none rfl (Hd.loadAll (n := 2) (by kernel_rfl) rfl (by repeat (first | exact List.mem_cons_self | apply List.mem_cons_of_mem | apply List.mem_append_right)) (by rfl) ⟨_, rfl, ?_⟩)
            refine WA.one (i := 6) (by kernel_rfl) ?_
            refine WO.s rfl Wt.none (Hd.mapSet (k0 := kStr) (KT := 9) (ET := 59) (TD := .string) (n := nm) (v := .agg #[.int .i64 (freeOf K nm - n), .int .i64 (goneOf K nm)]) (by kernel_rfl) Try.underlying9 rfl rfl rfl rfl hK (by rw [kvs_keys]; exact inv.knd) (by repeat (first | exact Sp.here | exact Sp.sn | exact Sp.s0 | exact Fr.here | apply Sp.s2 | apply Sp.sx | apply Fr.fc | apply Fr.al | apply Fr.fa | apply Sp.sc | apply Sp.al | apply Sp.sa)) fun C3 h3 => ⟨rfl, ?_⟩)
            refine WA.done (by kernel_rfl) ?_
            refine DN.then_normal ?_
            refine WC.seq ?_
            refine WC.region ?_
            refine WL.y rfl (Yd.move rfl) ?_
            refine WL.y rfl (Yd.notNil rfl) ?_
            refine WL.y rfl (Yd.fieldAddr (k := 1) (by kernel_rfl) rfl) ?_
            refine WL.h rfl (Hd.load1 (by kernel_rfl) rfl (by repeat (first | exact List.mem_cons_self | apply List.mem_cons_of_mem | apply List.mem_append_right)) (by rfl) ⟨_, rfl, ?_⟩)
            refine WL.y rfl (Yd.move rfl) ?_
            refine WL.y rfl (Yd.move rfl) ?_
            refine WL.y rfl (Yd.move rfl) ?_
            refine WL.y rfl (Yd.move rfl) ?_
            refine WL.y rfl (Yd.buildL (pl := [(0, 1), (1, 1), (2, 1)]) (zs := [.int .u32 0, .string ⟨#[]⟩, .int .i64 0]) (parts := [(0, .tmp 60), (1, .tmp 61), (2, .tmp 62)]) (vs := [(0, _), (1, _), (2, _)]) (cells := [_, _, _]) (by kernel_rfl) (by kernel_rfl) rfl rfl) ?_
            refine WL.s (Hd.mapSet (k0 := kU32) (KT := 23) (ET := 50) (TD := .int .u32) (n := o) (v := .agg #[.int .u32 o.toNat, .string nm, .int .i64 n]) (by kernel_rfl) Try.underlying23 ⟨_, rfl⟩ rfl rfl rfl hL (by rw [kvs_keys]; exact inv.keys) (by repeat (first | exact Sp.here | exact Sp.sn | exact Sp.s0 | exact Fr.here | apply Sp.s2 | apply Sp.sx | apply Fr.fc | apply Fr.al | apply Fr.fa | apply Sp.sc | apply Sp.al | apply Sp.sa)) fun C4 h4 => ⟨rfl, ?_⟩)
            refine WL.nil ?_
            refine DN.then_normal ?_
            refine WC.seq ?_
            refine WC.region ?_
            refine WL.y rfl (Yd.assign rfl) ?_
            refine WL.nil ?_
            refine DN.then_normal ?_
            refine WC.ret ?_
            first | refine DN.fit (C := row p [.map (some b1), .map (some b2)] 57 :: (C3 ++ C4)) (by repeat (first | exact Sp.here | exact Sp.sn | exact Sp.s0 | exact Fr.here | apply Sp.s2 | apply Sp.sx | apply Fr.fc | apply Fr.al | apply Fr.fa | apply Sp.sc | apply Sp.al | apply Sp.sa)) ?_ | refine DN.fit (C := row p [.map (some b1), .map (some b2)] 57 :: (C1 ++ C2)) (by repeat (first | exact Sp.here | exact Sp.sn | exact Sp.s0 | exact Fr.here | apply Sp.s2 | apply Sp.sx | apply Fr.fc | apply Fr.al | apply Fr.fa | apply Sp.sc | apply Sp.al | apply Sp.sa)) ?_
            refine DN.ret1 Try.results13 rfl ?_
            first
              | (have hb : holdB K L o nm n = true := by
                   unfold holdB
                   simp only [Bool.and_eq_true, decide_eq_true_eq, Bool.not_eq_true']
                   exact ⟨hg18, by omega, hg38, by omega⟩
                 have hf : findK Ho.o L o = none := by simpa using hg38
                 unfold holdKs holdLs
                 rw [hb]
                 simp only [if_true]
                 refine ⟨rfl, b1, b2, C3, C4, rfl, ?_, ?_⟩
                 · have e : adj K nm (-n) 0 = putK Gd.name K ⟨nm, freeOf K nm - n, goneOf K nm⟩ := by unfold adj; rw [Int.add_zero]; rfl
                   rw [e, ← putG]; exact h3
                 · rw [← putH L o nm n hf]; exact h4)
              | (have hb : holdB K L o nm n = false := by
                   unfold holdB
                   rw [Bool.eq_false_iff]
                   simp only [ne_eq, Bool.and_eq_true, decide_eq_true_eq, Bool.not_eq_true']
                   rintro ⟨e1, e2, e3, e4⟩
                   first
                   | omega
                   | exact e1 hg18
                   | exact Bool.noConfusion (e3.symm.trans hg38)
                 unfold holdKs holdLs
                 rw [hb]
                 simp only [Bool.false_eq_true, if_false]
                 exact ⟨rfl, hS⟩)
          · refine WO.h rfl Wt.none rfl (Hd.loadAll (n := 2) (by kernel_rfl) rfl (by repeat (first | exact List.mem_cons_self | apply List.mem_cons_of_mem | apply List.mem_append_right)) (by rfl) ⟨_, rfl, ?_⟩)
            refine WA.one (i := 3) (by kernel_rfl) ?_
            refine WO.h rfl Wt.none rfl (Hd.load1 (by kernel_rfl) rfl (by repeat (first | exact List.mem_cons_self | apply List.mem_cons_of_mem | apply List.mem_append_right)) (by rfl) ⟨_, rfl, ?_⟩)
            refine WA.one (i := 6) (by kernel_rfl) ?_
            refine WO.s rfl Wt.none (Hd.mapSet (k0 := kStr) (KT := 9) (ET := 59) (TD := .string) (n := nm) (v := .agg #[.int .i64 (freeOf K nm - n), .int .i64 (goneOf K nm)]) (by kernel_rfl) Try.underlying9 rfl rfl rfl rfl hK (by rw [kvs_keys]; exact inv.knd) (by repeat (first | exact Sp.here | exact Sp.sn | exact Sp.s0 | exact Fr.here | apply Sp.s2 | apply Sp.sx | apply Fr.fc | apply Fr.al | apply Fr.fa | apply Sp.sc | apply Sp.al | apply Sp.sa)) fun C3 h3 => ⟨rfl, ?_⟩)
            refine WA.done (by kernel_rfl) ?_
            refine DN.then_normal ?_
            refine WC.seq ?_
            refine WC.region ?_
            refine WL.y rfl (Yd.move rfl) ?_
            refine WL.y rfl (Yd.notNil rfl) ?_
            refine WL.y rfl (Yd.fieldAddr (k := 1) (by kernel_rfl) rfl) ?_
            refine WL.h rfl (Hd.load1 (by kernel_rfl) rfl (by repeat (first | exact List.mem_cons_self | apply List.mem_cons_of_mem | apply List.mem_append_right)) (by rfl) ⟨_, rfl, ?_⟩)
            refine WL.y rfl (Yd.move rfl) ?_
            refine WL.y rfl (Yd.move rfl) ?_
            refine WL.y rfl (Yd.move rfl) ?_
            refine WL.y rfl (Yd.move rfl) ?_
            refine WL.y rfl (Yd.buildL (pl := [(0, 1), (1, 1), (2, 1)]) (zs := [.int .u32 0, .string ⟨#[]⟩, .int .i64 0]) (parts := [(0, .tmp 60), (1, .tmp 61), (2, .tmp 62)]) (vs := [(0, _), (1, _), (2, _)]) (cells := [_, _, _]) (by kernel_rfl) (by kernel_rfl) rfl rfl) ?_
            refine WL.s (Hd.mapSet (k0 := kU32) (KT := 23) (ET := 50) (TD := .int .u32) (n := o) (v := .agg #[.int .u32 o.toNat, .string nm, .int .i64 n]) (by kernel_rfl) Try.underlying23 ⟨_, rfl⟩ rfl rfl rfl hL (by rw [kvs_keys]; exact inv.keys) (by repeat (first | exact Sp.here | exact Sp.sn | exact Sp.s0 | exact Fr.here | apply Sp.s2 | apply Sp.sx | apply Fr.fc | apply Fr.al | apply Fr.fa | apply Sp.sc | apply Sp.al | apply Sp.sa)) fun C4 h4 => ⟨rfl, ?_⟩)
            refine WL.nil ?_
            refine DN.then_normal ?_
            refine WC.seq ?_
            refine WC.region ?_
            refine WL.y rfl (Yd.assign rfl) ?_
            refine WL.nil ?_
            refine DN.then_normal ?_
            refine WC.ret ?_
            first | refine DN.fit (C := row p [.map (some b1), .map (some b2)] 57 :: (C3 ++ C4)) (by repeat (first | exact Sp.here | exact Sp.sn | exact Sp.s0 | exact Fr.here | apply Sp.s2 | apply Sp.sx | apply Fr.fc | apply Fr.al | apply Fr.fa | apply Sp.sc | apply Sp.al | apply Sp.sa)) ?_ | refine DN.fit (C := row p [.map (some b1), .map (some b2)] 57 :: (C1 ++ C2)) (by repeat (first | exact Sp.here | exact Sp.sn | exact Sp.s0 | exact Fr.here | apply Sp.s2 | apply Sp.sx | apply Fr.fc | apply Fr.al | apply Fr.fa | apply Sp.sc | apply Sp.al | apply Sp.sa)) ?_
            refine DN.ret1 Try.results13 rfl ?_
            first
              | (have hb : holdB K L o nm n = true := by
                   unfold holdB
                   simp only [Bool.and_eq_true, decide_eq_true_eq, Bool.not_eq_true']
                   exact ⟨hg18, by omega, hg38, by omega⟩
                 have hf : findK Ho.o L o = none := by simpa using hg38
                 unfold holdKs holdLs
                 rw [hb]
                 simp only [if_true]
                 refine ⟨rfl, b1, b2, C3, C4, rfl, ?_, ?_⟩
                 · have e : adj K nm (-n) 0 = putK Gd.name K ⟨nm, freeOf K nm - n, goneOf K nm⟩ := by unfold adj; rw [Int.add_zero]; rfl
                   rw [e, ← putG]; exact h3
                 · rw [← putH L o nm n hf]; exact h4)
              | (have hb : holdB K L o nm n = false := by
                   unfold holdB
                   rw [Bool.eq_false_iff]
                   simp only [ne_eq, Bool.and_eq_true, decide_eq_true_eq, Bool.not_eq_true']
                   rintro ⟨e1, e2, e3, e4⟩
                   first
                   | omega
                   | exact e1 hg18
                   | exact Bool.noConfusion (e3.symm.trans hg38)
                 unfold holdKs holdLs
                 rw [hb]
                 simp only [Bool.false_eq_true, if_false]
                 exact ⟨rfl, hS⟩)

/-- (*drayage/stock.Stock).leave -/
theorem leave_tells (p : Nat) (first K : List Gd) (L : List Ho) (C : List Ck) (h : StAt 57 p K L C) (inv : SInv first K L) (o : BitVec 32) (gone : Bool) : Tells Try.prog 34 [.pointer (some ⟨p, 0, none⟩), .int .u32 o.toNat, .bool gone] C fun r H' => r = .int .i64 (vd (findK Ho.o L o).isSome) ∧ StAt 57 p (leaveKs K L o gone) (delK Ho.o L o) H' := by
  refine Tells.enter Try.func34 rfl Try.ntmps34 rfl ?_
  intro w0 R
  have hS := h
  obtain ⟨b1, b2, C1, C2, rfl, hK, hL⟩ := h
  obtain ⟨x10, hx10⟩ : ∃ x, x = (findK Ho.o L o).getD zeroH := ⟨_, rfl⟩
  refine WC.seq ?_
  refine WC.region ?_
  refine WL.y rfl (Yd.assign rfl) ?_
  refine WL.nil ?_
  refine DN.then_normal ?_
  refine WC.seq ?_
  refine WC.seq ?_
  refine WC.region ?_
  refine WL.y rfl (Yd.move rfl) ?_
  refine WL.y rfl (Yd.eqlNil Try.underlying26 rfl rfl) ?_
  refine WL.renamed (t := 11) (v := .bool false) rfl (congrArg Value.bool (rfl)) ?_
  refine WL.nil ?_
  refine DN.then_normal ?_
  refine WC.no rfl ?_
  refine WC.skip ?_
  refine DN.then_normal ?_
  refine WC.seq ?_
  refine WC.region ?_
  refine WL.y rfl (Yd.move rfl) ?_
  refine WL.y rfl (Yd.notNil rfl) ?_
  refine WL.y rfl (Yd.fieldAddr (k := 1) (by kernel_rfl) rfl) ?_
  refine WL.h rfl (Hd.load1 (by kernel_rfl) rfl (by repeat (first | exact List.mem_cons_self | apply List.mem_cons_of_mem | apply List.mem_append_right)) (by rfl) ⟨_, rfl, ?_⟩)
  refine WL.y rfl (Yd.move rfl) ?_
  refine WL.h rfl (Hd.lookupG (k0 := kU32) (KT := 23) (ET := 50) (TD := .int .u32) (n := o) (z := .agg #[.int .u32 0, .string ⟨#[]⟩, .int .i64 0]) (by kernel_rfl) Try.underlying23 ⟨_, rfl⟩ (by kernel_rfl) rfl rfl hL (by repeat (first | exact Sp.here | exact Sp.sn | exact Sp.s0 | exact Fr.here | apply Sp.s2 | apply Sp.sx | apply Fr.fc | apply Fr.al | apply Fr.fa | apply Sp.sc | apply Sp.al | apply Sp.sa)) (lkH2 L o) ⟨_, rfl, ?_⟩)
  refine WL.y rfl (Yd.move rfl) ?_
  rw [← hx10]
  refine WL.y rfl (Yd.extract rfl rfl) ?_
  refine WL.y rfl (Yd.extract rfl rfl) ?_
  refine WL.h rfl (Hd.alloc (zs := [.int .u32 0, .string ⟨#[]⟩, .int .i64 0]) (by kernel_rfl) fun b7 => ⟨_, rfl, ?_⟩)
  refine WL.s (Hd.storeAll (n := 3) (by kernel_rfl) rfl rfl (by rfl) (by repeat (first | exact fun _ h => absurd h List.not_mem_nil | refine List.forall_mem_cons.2 ⟨by first | rfl | assumption, ?_⟩)) (by repeat (first | exact Fr.here | apply Fr.fc | apply Fr.al | apply Fr.fa)) (by rfl) ⟨rfl, ?_⟩)
  refine WL.y rfl (Yd.assign rfl) ?_
  refine WL.nil ?_
  refine DN.then_normal ?_
  refine WC.seq ?_
  refine WC.seq ?_
  refine WC.region ?_
  refine WL.y rfl (Yd.move rfl) ?_
  refine WL.y rfl (Yd.notB rfl) ?_
  refine WL.nil ?_
  refine DN.then_normal ?_
  refine WC.cond rfl (fun h22 => ?_) (fun h22 => ?_)
  · have hnone : findK Ho.o L o = none := by simpa using h22
    refine WC.seq ?_
    refine WC.region ?_
    refine WL.y rfl (Yd.assign rfl) ?_
    refine WL.nil ?_
    refine DN.then_normal ?_
    refine WC.ret ?_
    refine DN.then_ret ?_
    first | refine DN.fit (C := row p [.map (some b1), .map (some b2)] 57 :: (C5 ++ C4)) (by repeat (first | exact Sp.here | exact Sp.sn | exact Sp.s0 | exact Fr.here | apply Sp.s2 | apply Sp.sx | apply Fr.fc | apply Fr.al | apply Fr.fa | apply Sp.sc | apply Sp.al | apply Sp.sa)) ?_ | refine DN.fit (C := row p [.map (some b1), .map (some b2)] 57 :: (C1 ++ C2)) (by repeat (first | exact Sp.here | exact Sp.sn | exact Sp.s0 | exact Fr.here | apply Sp.s2 | apply Sp.sx | apply Fr.fc | apply Fr.al | apply Fr.fa | apply Sp.sc | apply Sp.al | apply Sp.sa)) ?_
    refine DN.ret1 Try.results34 rfl ?_
    first
      | (rw [hnone, delK_none hnone]
         unfold leaveKs
         rw [hnone]
         exact ⟨rfl, hS⟩)
      | (unfold leaveKs
         rw [hsome]
         refine ⟨rfl, b1, b2, C5, C4, rfl, ?_, by rw [← delG_kvs]; exact h4⟩
         first
         | (have e : adj K x10.name 0 x10.n = putK Gd.name K ⟨x10.name, freeOf K x10.name, goneOf K x10.name + x10.n⟩ := by unfold adj; rw [Int.add_zero]
            show MpG kStr b1 (kvs Gd.name encG (adj K x10.name 0 x10.n)) C5
            rw [e, ← putG]; exact h5)
         | (have e : adj K x10.name x10.n 0 = putK Gd.name K ⟨x10.name, freeOf K x10.name + x10.n, goneOf K x10.name⟩ := by unfold adj; rw [Int.add_zero]
            show MpG kStr b1 (kvs Gd.name encG (adj K x10.name x10.n 0)) C5
            rw [e, ← putG]; exact h5))
  · have hsome : findK Ho.o L o = some x10 := by
      have h1 : (findK Ho.o L o).isSome = true := by simpa using h22
      obtain ⟨x, hx⟩ := Option.isSome_iff_exists.1 h1
      rw [hx] at hx10 ⊢
      exact congrArg some hx10.symm
    have hxin := (findK_mem hsome).1
    have hxn := inv.nle hxin
    have hmid := inv.mid x10.name
    refine WC.skip ?_
    refine DN.then_normal ?_
    refine WC.seq ?_
    refine WC.region ?_
    refine WL.y rfl (Yd.move rfl) ?_
    refine WL.y rfl (Yd.notNil rfl) ?_
    refine WL.y rfl (Yd.fieldAddr (k := 1) (by kernel_rfl) rfl) ?_
    refine WL.h rfl (Hd.load1 (by kernel_rfl) rfl (by repeat (first | exact List.mem_cons_self | apply List.mem_cons_of_mem | apply List.mem_append_right)) (by rfl) ⟨_, rfl, ?_⟩)
    refine WL.y rfl (Yd.move rfl) ?_
    refine WL.h0 (Hd.deleteG (k0 := kU32) (KT := 23) (ET := 50) (TD := .int .u32) (n := o) (by kernel_rfl) Try.underlying23 ⟨_, rfl⟩ rfl rfl rfl hL (by rw [kvs_keys]; exact inv.keys) (by repeat (first | exact Sp.here | exact Sp.sn | exact Sp.s0 | exact Fr.here | apply Sp.s2 | apply Sp.sx | apply Fr.fc | apply Fr.al | apply Fr.fa | apply Sp.sc | apply Sp.al | apply Sp.sa)) fun C4 h4 => ⟨_, rfl, ?_⟩)
    refine WL.nil ?_
    refine DN.then_normal ?_
    refine WC.cutK (fun z : Nat => True) (fun z : Nat => [(9, .pointer (some ⟨z, 0, none⟩))]) (fun z : Nat => row z [.int .i64 (freeOf K x10.name), .int .i64 (goneOf K x10.name)] 59 :: (row b7 (cellsH x10) 50 :: (row p [.map (some b1), .map (some b2)] 57 :: (C1 ++ C4)))) ?_ ?_
    · refine WC.draw 9 (by kernel_rfl) rfl ?_
      refine WA.y (i := 0) (NoPanic.then (NoPanic.body)) rfl (by kernel_rfl) (by kernel_rfl) (by kernel_rfl) rfl (Yd.move rfl) ?_
      refine WA.y (i := 1) (NoPanic.then (NoPanic.body)) rfl (by kernel_rfl) (by kernel_rfl) (by kernel_rfl) rfl (Yd.notNil rfl) ?_
      refine WA.y (i := 2) (NoPanic.then (NoPanic.body)) rfl (by kernel_rfl) (by kernel_rfl) (by kernel_rfl) rfl (Yd.fieldAddr (k := 0) (by kernel_rfl) rfl) ?_
      refine WA.y (i := 4) (NoPanic.then (NoPanic.body)) rfl (by kernel_rfl) (by kernel_rfl) (by kernel_rfl) rfl (Yd.fieldAddr (k := 1) (by kernel_rfl) rfl) ?_
      refine WA.three (i := 3) (j := 5) (k := 7) (by kernel_rfl) ?_ ?_ ?_
      · refine WO.h rfl Wt.none rfl (Hd.load1 (by kernel_rfl) rfl (by repeat (first | exact List.mem_cons_self | apply List.mem_cons_of_mem | apply List.mem_append_right)) (by rfl) ⟨_, rfl, ?_⟩)
        refine WA.two (i := 5) (j := 7) (by kernel_rfl) ?_ ?_
        · refine WO.h rfl Wt.none rfl (Hd.load1 (by kernel_rfl) rfl (by repeat (first | exact List.mem_cons_self | apply List.mem_cons_of_mem | apply List.mem_append_right)) (by rfl) ⟨_, rfl, ?_⟩)
          refine WA.two (i := 6) (j := 7) (by kernel_rfl) ?_ ?_
          · refine WO.h rfl Wt.none rfl (Hd.lookupG (k0 := kStr) (KT := 9) (ET := 59) (TD := .string) (n := x10.name) (z := .agg #[.int .i64 0, .int .i64 0]) (by kernel_rfl) Try.underlying9 rfl (by kernel_rfl) rfl rfl hK (by repeat (first | exact Sp.here | exact Sp.sn | exact Sp.s0 | exact Fr.here | apply Sp.s2 | apply Sp.sx | apply Fr.fc | apply Fr.al | apply Fr.fa | apply Sp.sc | apply Sp.al | apply Sp.sa)) (lkG K x10.name) ⟨_, rfl, ?_⟩)
            refine WA.one (i := 7) (by kernel_rfl) ?_
            refine WO.h rfl Wt.none rfl (Hd.alloc (zs := [.int .i64 0, .int .i64 0]) (by kernel_rfl) fun b9 => ⟨_, rfl, ?_⟩)
            refine WA.one (i := 8) (by kernel_rfl) ?_
            refine WO.s rfl Wt.none (Hd.storeAll (n := 2) (by kernel_rfl) rfl rfl (by rfl) (by repeat (first | exact fun _ h => absurd h List.not_mem_nil | refine List.forall_mem_cons.2 ⟨by first | rfl | assumption, ?_⟩)) (by repeat (first | exact Fr.here | apply Fr.fc | apply Fr.al | apply Fr.fa)) (by rfl) ⟨rfl, ?_⟩)
            refine WA.done (by kernel_rfl) ?_
            exact DN.reachK (b9) (trivial) (Sx.put rfl ((by repeat (first | exact Sx.refl | refine Sx.skip rfl ?_)))) (Sp.all (by repeat (first | exact Sp.here | exact Sp.sn | exact Sp.s0 | exact Fr.here | apply Sp.s2 | apply Sp.sx | apply Fr.fc | apply Fr.al | apply Fr.fa | apply Sp.sc | apply Sp.al | apply Sp.sa)))
          · refine WO.h rfl Wt.none rfl (Hd.alloc (zs := [.int .i64 0, .int .i64 0]) (by kernel_rfl) fun b9 => ⟨_, rfl, ?_⟩)
            refine WA.one (i := 6) (by kernel_rfl) ?_
            refine WO.h rfl Wt.none rfl (Hd.lookupG (k0 := kStr) (KT := 9) (ET := 59) (TD := .string) (n := x10.name) (z := .agg #[.int .i64 0, .int .i64 0]) (by kernel_rfl) Try.underlying9 rfl (by kernel_rfl) rfl rfl hK (by repeat (first | exact Sp.here | exact Sp.sn | exact Sp.s0 | exact Fr.here | apply Sp.s2 | apply Sp.sx | apply Fr.fc | apply Fr.al | apply Fr.fa | apply Sp.sc | apply Sp.al | apply Sp.sa)) (lkG K x10.name) ⟨_, rfl, ?_⟩)
            refine WA.one (i := 8) (by kernel_rfl) ?_
            refine WO.s rfl Wt.none (Hd.storeAll (n := 2) (by kernel_rfl) rfl rfl (by rfl) (by repeat (first | exact fun _ h => absurd h List.not_mem_nil | refine List.forall_mem_cons.2 ⟨by first | rfl | assumption, ?_⟩)) (by repeat (first | exact Fr.here | apply Fr.fc | apply Fr.al | apply Fr.fa)) (by rfl) ⟨rfl, ?_⟩)
            refine WA.done (by kernel_rfl) ?_
            exact DN.reachK (b9) (trivial) (Sx.put rfl ((by repeat (first | exact Sx.refl | refine Sx.skip rfl ?_)))) (Sp.all (by repeat (first | exact Sp.here | exact Sp.sn | exact Sp.s0 | exact Fr.here | apply Sp.s2 | apply Sp.sx | apply Fr.fc | apply Fr.al | apply Fr.fa | apply Sp.sc | apply Sp.al | apply Sp.sa)))
        · refine WO.h rfl Wt.none rfl (Hd.alloc (zs := [.int .i64 0, .int .i64 0]) (by kernel_rfl) fun b9 => ⟨_, rfl, ?_⟩)
          refine WA.one (i := 5) (by kernel_rfl) ?_
          refine WO.h rfl Wt.none rfl (Hd.load1 (by kernel_rfl) rfl (by repeat (first | exact List.mem_cons_self | apply List.mem_cons_of_mem | apply List.mem_append_right)) (by rfl) ⟨_, rfl, ?_⟩)
          refine WA.one (i := 6) (by kernel_rfl) ?_
          refine WO.h rfl Wt.none rfl (Hd.lookupG (k0 := kStr) (KT := 9) (ET := 59) (TD := .string) (n := x10.name) (z := .agg #[.int .i64 0, .int .i64 0]) (by kernel_rfl) Try.underlying9 rfl (by kernel_rfl) rfl rfl hK (by repeat (first | exact Sp.here | exact Sp.sn | exact Sp.s0 | exact Fr.here | apply Sp.s2 | apply Sp.sx | apply Fr.fc | apply Fr.al | apply Fr.fa | apply Sp.sc | apply Sp.al | apply Sp.sa)) (lkG K x10.name) ⟨_, rfl, ?_⟩)
          refine WA.one (i := 8) (by kernel_rfl) ?_
          refine WO.s rfl Wt.none (Hd.storeAll (n := 2) (by kernel_rfl) rfl rfl (by rfl) (by repeat (first | exact fun _ h => absurd h List.not_mem_nil | refine List.forall_mem_cons.2 ⟨by first | rfl | assumption, ?_⟩)) (by repeat (first | exact Fr.here | apply Fr.fc | apply Fr.al | apply Fr.fa)) (by rfl) ⟨rfl, ?_⟩)
          refine WA.done (by kernel_rfl) ?_
          exact DN.reachK (b9) (trivial) (Sx.put rfl ((by repeat (first | exact Sx.refl | refine Sx.skip rfl ?_)))) (Sp.all (by repeat (first | exact Sp.here | exact Sp.sn | exact Sp.s0 | exact Fr.here | apply Sp.s2 | apply Sp.sx | apply Fr.fc | apply Fr.al | apply Fr.fa | apply Sp.sc | apply Sp.al | apply Sp.sa)))
      · refine WO.h rfl Wt.none rfl (Hd.load1 (by kernel_rfl) rfl (by repeat (first | exact List.mem_cons_self | apply List.mem_cons_of_mem | apply List.mem_append_right)) (by rfl) ⟨_, rfl, ?_⟩)
        refine WA.two (i := 3) (j := 7) (by kernel_rfl) ?_ ?_
        · refine WO.h rfl Wt.none rfl (Hd.load1 (by kernel_rfl) rfl (by repeat (first | exact List.mem_cons_self | apply List.mem_cons_of_mem | apply List.mem_append_right)) (by rfl) ⟨_, rfl, ?_⟩)
          refine WA.two (i := 6) (j := 7) (by kernel_rfl) ?_ ?_
          · refine WO.h rfl Wt.none rfl (Hd.lookupG (k0 := kStr) (KT := 9) (ET := 59) (TD := .string) (n := x10.name) (z := .agg #[.int .i64 0, .int .i64 0]) (by kernel_rfl) Try.underlying9 rfl (by kernel_rfl) rfl rfl hK (by repeat (first | exact Sp.here | exact Sp.sn | exact Sp.s0 | exact Fr.here | apply Sp.s2 | apply Sp.sx | apply Fr.fc | apply Fr.al | apply Fr.fa | apply Sp.sc | apply Sp.al | apply Sp.sa)) (lkG K x10.name) ⟨_, rfl, ?_⟩)
            refine WA.one (i := 7) (by kernel_rfl) ?_
            refine WO.h rfl Wt.none rfl (Hd.alloc (zs := [.int .i64 0, .int .i64 0]) (by kernel_rfl) fun b9 => ⟨_, rfl, ?_⟩)
            refine WA.one (i := 8) (by kernel_rfl) ?_
            refine WO.s rfl Wt.none (Hd.storeAll (n := 2) (by kernel_rfl) rfl rfl (by rfl) (by repeat (first | exact fun _ h => absurd h List.not_mem_nil | refine List.forall_mem_cons.2 ⟨by first | rfl | assumption, ?_⟩)) (by repeat (first | exact Fr.here | apply Fr.fc | apply Fr.al | apply Fr.fa)) (by rfl) ⟨rfl, ?_⟩)
            refine WA.done (by kernel_rfl) ?_
            exact DN.reachK (b9) (trivial) (Sx.put rfl ((by repeat (first | exact Sx.refl | refine Sx.skip rfl ?_)))) (Sp.all (by repeat (first | exact Sp.here | exact Sp.sn | exact Sp.s0 | exact Fr.here | apply Sp.s2 | apply Sp.sx | apply Fr.fc | apply Fr.al | apply Fr.fa | apply Sp.sc | apply Sp.al | apply Sp.sa)))
          · refine WO.h rfl Wt.none rfl (Hd.alloc (zs := [.int .i64 0, .int .i64 0]) (by kernel_rfl) fun b9 => ⟨_, rfl, ?_⟩)
            refine WA.one (i := 6) (by kernel_rfl) ?_
            refine WO.h rfl Wt.none rfl (Hd.lookupG (k0 := kStr) (KT := 9) (ET := 59) (TD := .string) (n := x10.name) (z := .agg #[.int .i64 0, .int .i64 0]) (by kernel_rfl) Try.underlying9 rfl (by kernel_rfl) rfl rfl hK (by repeat (first | exact Sp.here | exact Sp.sn | exact Sp.s0 | exact Fr.here | apply Sp.s2 | apply Sp.sx | apply Fr.fc | apply Fr.al | apply Fr.fa | apply Sp.sc | apply Sp.al | apply Sp.sa)) (lkG K x10.name) ⟨_, rfl, ?_⟩)
            refine WA.one (i := 8) (by kernel_rfl) ?_
            refine WO.s rfl Wt.none (Hd.storeAll (n := 2) (by kernel_rfl) rfl rfl (by rfl) (by repeat (first | exact fun _ h => absurd h List.not_mem_nil | refine List.forall_mem_cons.2 ⟨by first | rfl | assumption, ?_⟩)) (by repeat (first | exact Fr.here | apply Fr.fc | apply Fr.al | apply Fr.fa)) (by rfl) ⟨rfl, ?_⟩)
            refine WA.done (by kernel_rfl) ?_
            exact DN.reachK (b9) (trivial) (Sx.put rfl ((by repeat (first | exact Sx.refl | refine Sx.skip rfl ?_)))) (Sp.all (by repeat (first | exact Sp.here | exact Sp.sn | exact Sp.s0 | exact Fr.here | apply Sp.s2 | apply Sp.sx | apply Fr.fc | apply Fr.al | apply Fr.fa | apply Sp.sc | apply Sp.al | apply Sp.sa)))
        · refine WO.h rfl Wt.none rfl (Hd.alloc (zs := [.int .i64 0, .int .i64 0]) (by kernel_rfl) fun b9 => ⟨_, rfl, ?_⟩)
          refine WA.one (i := 3) (by kernel_rfl) ?_
          refine WO.h rfl Wt.none rfl (Hd.load1 (by kernel_rfl) rfl (by repeat (first | exact List.mem_cons_self | apply List.mem_cons_of_mem | apply List.mem_append_right)) (by rfl) ⟨_, rfl, ?_⟩)
          refine WA.one (i := 6) (by kernel_rfl) ?_
          refine WO.h rfl Wt.none rfl (Hd.lookupG (k0 := kStr) (KT := 9) (ET := 59) (TD := .string) (n := x10.name) (z := .agg #[.int .i64 0, .int .i64 0]) (by kernel_rfl) Try.underlying9 rfl (by kernel_rfl) rfl rfl hK (by repeat (first | exact Sp.here | exact Sp.sn | exact Sp.s0 | exact Fr.here | apply Sp.s2 | apply Sp.sx | apply Fr.fc | apply Fr.al | apply Fr.fa | apply Sp.sc | apply Sp.al | apply Sp.sa)) (lkG K x10.name) ⟨_, rfl, ?_⟩)
          refine WA.one (i := 8) (by kernel_rfl) ?_
          refine WO.s rfl Wt.none (Hd.storeAll (n := 2) (by kernel_rfl) rfl rfl (by rfl) (by repeat (first | exact fun _ h => absurd h List.not_mem_nil | refine List.forall_mem_cons.2 ⟨by first | rfl | assumption, ?_⟩)) (by repeat (first | exact Fr.here | apply Fr.fc | apply Fr.al | apply Fr.fa)) (by rfl) ⟨rfl, ?_⟩)
          refine WA.done (by kernel_rfl) ?_
          exact DN.reachK (b9) (trivial) (Sx.put rfl ((by repeat (first | exact Sx.refl | refine Sx.skip rfl ?_)))) (Sp.all (by repeat (first | exact Sp.here | exact Sp.sn | exact Sp.s0 | exact Fr.here | apply Sp.s2 | apply Sp.sx | apply Fr.fc | apply Fr.al | apply Fr.fa | apply Sp.sc | apply Sp.al | apply Sp.sa)))
      · refine WO.h rfl Wt.none rfl (Hd.alloc (zs := [.int .i64 0, .int .i64 0]) (by kernel_rfl) fun b9 => ⟨_, rfl, ?_⟩)
        refine WA.two (i := 3) (j := 5) (by kernel_rfl) ?_ ?_
        · refine WO.h rfl Wt.none rfl (Hd.load1 (by kernel_rfl) rfl (by repeat (first | exact List.mem_cons_self | apply List.mem_cons_of_mem | apply List.mem_append_right)) (by rfl) ⟨_, rfl, ?_⟩)
          refine WA.one (i := 5) (by kernel_rfl) ?_
          refine WO.h rfl Wt.none rfl (Hd.load1 (by kernel_rfl) rfl (by repeat (first | exact List.mem_cons_self | apply List.mem_cons_of_mem | apply List.mem_append_right)) (by rfl) ⟨_, rfl, ?_⟩)
          refine WA.one (i := 6) (by kernel_rfl) ?_
          refine WO.h rfl Wt.none rfl (Hd.lookupG (k0 := kStr) (KT := 9) (ET := 59) (TD := .string) (n := x10.name) (z := .agg #[.int .i64 0, .int .i64 0]) (by kernel_rfl) Try.underlying9 rfl (by kernel_rfl) rfl rfl hK (by repeat (first | exact Sp.here | exact Sp.sn | exact Sp.s0 | exact Fr.here | apply Sp.s2 | apply Sp.sx | apply Fr.fc | apply Fr.al | apply Fr.fa | apply Sp.sc | apply Sp.al | apply Sp.sa)) (lkG K x10.name) ⟨_, rfl, ?_⟩)
          refine WA.one (i := 8) (by kernel_rfl) ?_
          refine WO.s rfl Wt.none (Hd.storeAll (n := 2) (by kernel_rfl) rfl rfl (by rfl) (by repeat (first | exact fun _ h => absurd h List.not_mem_nil | refine List.forall_mem_cons.2 ⟨by first | rfl | assumption, ?_⟩)) (by repeat (first | exact Fr.here | apply Fr.fc | apply Fr.al | apply Fr.fa)) (by rfl) ⟨rfl, ?_⟩)
          refine WA.done (by kernel_rfl) ?_
          exact DN.reachK (b9) (trivial) (Sx.put rfl ((by repeat (first | exact Sx.refl | refine Sx.skip rfl ?_)))) (Sp.all (by repeat (first | exact Sp.here | exact Sp.sn | exact Sp.s0 | exact Fr.here | apply Sp.s2 | apply Sp.sx | apply Fr.fc | apply Fr.al | apply Fr.fa | apply Sp.sc | apply Sp.al | apply Sp.sa)))
        · refine WO.h rfl Wt.none rfl (Hd.load1 (by kernel_rfl) rfl (by repeat (first | exact List.mem_cons_self | apply List.mem_cons_of_mem | apply List.mem_append_right)) (by rfl) ⟨_, rfl, ?_⟩)
          refine WA.one (i := 3) (by kernel_rfl) ?_
          refine WO.h rfl Wt.none rfl (Hd.load1 (by kernel_rfl) rfl (by repeat (first | exact List.mem_cons_self | apply List.mem_cons_of_mem | apply List.mem_append_right)) (by rfl) ⟨_, rfl, ?_⟩)
          refine WA.one (i := 6) (by kernel_rfl) ?_
          refine WO.h rfl Wt.none rfl (Hd.lookupG (k0 := kStr) (KT := 9) (ET := 59) (TD := .string) (n := x10.name) (z := .agg #[.int .i64 0, .int .i64 0]) (by kernel_rfl) Try.underlying9 rfl (by kernel_rfl) rfl rfl hK (by repeat (first | exact Sp.here | exact Sp.sn | exact Sp.s0 | exact Fr.here | apply Sp.s2 | apply Sp.sx | apply Fr.fc | apply Fr.al | apply Fr.fa | apply Sp.sc | apply Sp.al | apply Sp.sa)) (lkG K x10.name) ⟨_, rfl, ?_⟩)
          refine WA.one (i := 8) (by kernel_rfl) ?_
          refine WO.s rfl Wt.none (Hd.storeAll (n := 2) (by kernel_rfl) rfl rfl (by rfl) (by repeat (first | exact fun _ h => absurd h List.not_mem_nil | refine List.forall_mem_cons.2 ⟨by first | rfl | assumption, ?_⟩)) (by repeat (first | exact Fr.here | apply Fr.fc | apply Fr.al | apply Fr.fa)) (by rfl) ⟨rfl, ?_⟩)
          refine WA.done (by kernel_rfl) ?_
          exact DN.reachK (b9) (trivial) (Sx.put rfl ((by repeat (first | exact Sx.refl | refine Sx.skip rfl ?_)))) (Sp.all (by repeat (first | exact Sp.here | exact Sp.sn | exact Sp.s0 | exact Fr.here | apply Sp.s2 | apply Sp.sx | apply Fr.fc | apply Fr.al | apply Fr.fa | apply Sp.sc | apply Sp.al | apply Sp.sa)))
    · intro b9 _
      refine WC.seq ?_
      refine WC.seq ?_
      refine WC.region ?_
      refine WL.y rfl (Yd.move rfl) ?_
      refine WL.nil ?_
      refine DN.then_normal ?_
      refine WC.cond rfl (fun h35 => ?_) (fun h35 => ?_)
      · subst h35
        refine WC.region ?_
        refine WL.y rfl (Yd.fieldAddr (k := 1) (by kernel_rfl) rfl) ?_
        refine WL.h rfl (Hd.load1 (by kernel_rfl) rfl (by repeat (first | exact List.mem_cons_self | apply List.mem_cons_of_mem | apply List.mem_append_right)) (by rfl) ⟨_, rfl, ?_⟩)
        refine WL.y rfl (Yd.fieldAddr (k := 2) (by kernel_rfl) rfl) ?_
        refine WL.h rfl (Hd.load1 (by kernel_rfl) rfl (by repeat (first | exact List.mem_cons_self | apply List.mem_cons_of_mem | apply List.mem_append_right)) (by rfl) ⟨_, rfl, ?_⟩)
        refine WL.y rfl (Yd.add rfl rfl (by omega) (by omega)) ?_
        refine WL.y rfl (Yd.fieldAddr (k := 1) (by kernel_rfl) rfl) ?_
        refine WL.s (Hd.store1s (by kernel_rfl) rfl rfl (by rfl) (by repeat (first | exact Fr.here | apply Fr.fc | apply Fr.al | apply Fr.fa)) (by rfl) (by first | (simp only [List.set_cons_zero, List.set_cons_succ, Nat.zero_add, Nat.add_zero, Nat.reduceAdd]; rfl) | rfl) ⟨rfl, ?_⟩)
        refine WL.nil ?_
        refine DN.then_normal ?_
        refine WC.seq ?_
        refine WC.draw 8 (by kernel_rfl) rfl ?_
        refine WA.y (i := 0) (NoPanic.then (NoPanic.body)) rfl (by kernel_rfl) (by kernel_rfl) (by kernel_rfl) rfl (Yd.move rfl) ?_
        refine WA.y (i := 1) (NoPanic.then (NoPanic.body)) rfl (by kernel_rfl) (by kernel_rfl) (by kernel_rfl) rfl (Yd.notNil rfl) ?_
        refine WA.y (i := 2) (NoPanic.then (NoPanic.body)) rfl (by kernel_rfl) (by kernel_rfl) (by kernel_rfl) rfl (Yd.fieldAddr (k := 0) (by kernel_rfl) rfl) ?_
        refine WA.y (i := 4) (NoPanic.then (NoPanic.body)) rfl (by kernel_rfl) (by kernel_rfl) (by kernel_rfl) rfl (Yd.fieldAddr (k := 1) (by kernel_rfl) rfl) ?_
        refine WA.three (i := 3) (j := 5) (k := 6) (by kernel_rfl) ?_ ?_ ?_
        · refine WO.h rfl Wt.none rfl (Hd.load1 (by kernel_rfl) rfl (by repeat (first | exact List.mem_cons_self | apply List.mem_cons_of_mem | apply List.mem_append_right)) (by rfl) ⟨_, rfl, ?_⟩)
          refine WA.two (i := 5) (j := 6) (by kernel_rfl) ?_ ?_
          · refine WO.h rfl Wt.none rfl (Hd.load1 (by kernel_rfl) rfl (by repeat (first | exact List.mem_cons_self | apply List.mem_cons_of_mem | apply List.mem_append_right)) (by rfl) ⟨_, rfl, ?_⟩)
            refine WA.one (i := 6) (by kernel_rfl) ?_
            refine WO.h rfl Wt.none rfl (Hd.loadAll (n := 2) (by kernel_rfl) rfl (by repeat (first | exact List.mem_cons_self | apply List.mem_cons_of_mem | apply List.mem_append_right)) (by rfl) ⟨_, rfl, ?_⟩)
            refine WA.one (i := 7) (by kernel_rfl) ?_
            refine WO.s rfl Wt.none (Hd.mapSet (k0 := kStr) (KT := 9) (ET := 59) (TD := .string) (n := x10.name) (by kernel_rfl) Try.underlying9 rfl rfl rfl rfl hK (by rw [kvs_keys]; exact inv.knd) (by repeat (first | exact Sp.here | exact Sp.sn | exact Sp.s0 | exact Fr.here | apply Sp.s2 | apply Sp.sx | apply Fr.fc | apply Fr.al | apply Fr.fa | apply Sp.sc | apply Sp.al | apply Sp.sa)) fun C5 h5 => ⟨rfl, ?_⟩)
            refine WA.done (by kernel_rfl) ?_
            refine DN.then_normal ?_
            refine WC.seq ?_
            refine WC.region ?_
            refine WL.y rfl (Yd.assign rfl) ?_
            refine WL.nil ?_
            refine DN.then_normal ?_
            refine WC.ret ?_
            first | refine DN.fit (C := row p [.map (some b1), .map (some b2)] 57 :: (C5 ++ C4)) (by repeat (first | exact Sp.here | exact Sp.sn | exact Sp.s0 | exact Fr.here | apply Sp.s2 | apply Sp.sx | apply Fr.fc | apply Fr.al | apply Fr.fa | apply Sp.sc | apply Sp.al | apply Sp.sa)) ?_ | refine DN.fit (C := row p [.map (some b1), .map (some b2)] 57 :: (C1 ++ C2)) (by repeat (first | exact Sp.here | exact Sp.sn | exact Sp.s0 | exact Fr.here | apply Sp.s2 | apply Sp.sx | apply Fr.fc | apply Fr.al | apply Fr.fa | apply Sp.sc | apply Sp.al | apply Sp.sa)) ?_
            refine DN.ret1 Try.results34 rfl ?_
            first
              | (rw [hnone, delK_none hnone]
                 unfold leaveKs
                 rw [hnone]
                 exact ⟨rfl, hS⟩)
              | (unfold leaveKs
                 rw [hsome]
                 refine ⟨rfl, b1, b2, C5, C4, rfl, ?_, by rw [← delG_kvs]; exact h4⟩
                 first
                 | (have e : adj K x10.name 0 x10.n = putK Gd.name K ⟨x10.name, freeOf K x10.name, goneOf K x10.name + x10.n⟩ := by unfold adj; rw [Int.add_zero]
                    show MpG kStr b1 (kvs Gd.name encG (adj K x10.name 0 x10.n)) C5
                    rw [e, ← putG]; exact h5)
                 | (have e : adj K x10.name x10.n 0 = putK Gd.name K ⟨x10.name, freeOf K x10.name + x10.n, goneOf K x10.name⟩ := by unfold adj; rw [Int.add_zero]
                    show MpG kStr b1 (kvs Gd.name encG (adj K x10.name x10.n 0)) C5
                    rw [e, ← putG]; exact h5))
          · refine WO.h rfl Wt.none rfl (Hd.loadAll (n := 2) (by kernel_rfl) rfl (by repeat (first | exact List.mem_cons_self | apply List.mem_cons_of_mem | apply List.mem_append_right)) (by rfl) ⟨_, rfl, ?_⟩)
            refine WA.one (i := 5) (by kernel_rfl) ?_
            refine WO.h rfl Wt.none rfl (Hd.load1 (by kernel_rfl) rfl (by repeat (first | exact List.mem_cons_self | apply List.mem_cons_of_mem | apply List.mem_append_right)) (by rfl) ⟨_, rfl, ?_⟩)
            refine WA.one (i := 7) (by kernel_rfl) ?_
            refine WO.s rfl Wt.none (Hd.mapSet (k0 := kStr) (KT := 9) (ET := 59) (TD := .string) (n := x10.name) (by kernel_rfl) Try.underlying9 rfl rfl rfl rfl hK (by rw [kvs_keys]; exact inv.knd) (by repeat (first | exact Sp.here | exact Sp.sn | exact Sp.s0 | exact Fr.here | apply Sp.s2 | apply Sp.sx | apply Fr.fc | apply Fr.al | apply Fr.fa | apply Sp.sc | apply Sp.al | apply Sp.sa)) fun C5 h5 => ⟨rfl, ?_⟩)
            refine WA.done (by kernel_rfl) ?_
            refine DN.then_normal ?_
            refine WC.seq ?_
            refine WC.region ?_
            refine WL.y rfl (Yd.assign rfl) ?_
            refine WL.nil ?_
            refine DN.then_normal ?_
            refine WC.ret ?_
            first | refine DN.fit (C := row p [.map (some b1), .map (some b2)] 57 :: (C5 ++ C4)) (by repeat (first | exact Sp.here | exact Sp.sn | exact Sp.s0 | exact Fr.here | apply Sp.s2 | apply Sp.sx | apply Fr.fc | apply Fr.al | apply Fr.fa | apply Sp.sc | apply Sp.al | apply Sp.sa)) ?_ | refine DN.fit (C := row p [.map (some b1), .map (some b2)] 57 :: (C1 ++ C2)) (by repeat (first | exact Sp.here | exact Sp.sn | exact Sp.s0 | exact Fr.here | apply Sp.s2 | apply Sp.sx | apply Fr.fc | apply Fr.al | apply Fr.fa | apply Sp.sc | apply Sp.al | apply Sp.sa)) ?_
            refine DN.ret1 Try.results34 rfl ?_
            first
              | (rw [hnone, delK_none hnone]
                 unfold leaveKs
                 rw [hnone]
                 exact ⟨rfl, hS⟩)
              | (unfold leaveKs
                 rw [hsome]
                 refine ⟨rfl, b1, b2, C5, C4, rfl, ?_, by rw [← delG_kvs]; exact h4⟩
                 first
                 | (have e : adj K x10.name 0 x10.n = putK Gd.name K ⟨x10.name, freeOf K x10.name, goneOf K x10.name + x10.n⟩ := by unfold adj; rw [Int.add_zero]
                    show MpG kStr b1 (kvs Gd.name encG (adj K x10.name 0 x10.n)) C5
                    rw [e, ← putG]; exact h5)
                 | (have e : adj K x10.name x10.n 0 = putK Gd.name K ⟨x10.name, freeOf K x10.name + x10.n, goneOf K x10.name⟩ := by unfold adj; rw [Int.add_zero]
                    show MpG kStr b1 (kvs Gd.name encG (adj K x10.name x10.n 0)) C5
                    rw [e, ← putG]; exact h5))
        · refine WO.h rfl Wt.none rfl (Hd.load1 (by kernel_rfl) rfl (by repeat (first | exact List.mem_cons_self | apply List.mem_cons_of_mem | apply List.mem_append_right)) (by rfl) ⟨_, rfl, ?_⟩)
          refine WA.two (i := 3) (j := 6) (by kernel_rfl) ?_ ?_
          · refine WO.h rfl Wt.none rfl (Hd.load1 (by kernel_rfl) rfl (by repeat (first | exact List.mem_cons_self | apply List.mem_cons_of_mem | apply List.mem_append_right)) (by rfl) ⟨_, rfl, ?_⟩)
            refine WA.one (i := 6) (by kernel_rfl) ?_
            refine WO.h rfl Wt.none rfl (Hd.loadAll (n := 2) (by kernel_rfl) rfl (by repeat (first | exact List.mem_cons_self | apply List.mem_cons_of_mem | apply List.mem_append_right)) (by rfl) ⟨_, rfl, ?_⟩)
            refine WA.one (i := 7) (by kernel_rfl) ?_
            refine WO.s rfl Wt.none (Hd.mapSet (k0 := kStr) (KT := 9) (ET := 59) (TD := .string) (n := x10.name) (by kernel_rfl) Try.underlying9 rfl rfl rfl rfl hK (by rw [kvs_keys]; exact inv.knd) (by repeat (first | exact Sp.here | exact Sp.sn | exact Sp.s0 | exact Fr.here | apply Sp.s2 | apply Sp.sx | apply Fr.fc | apply Fr.al | apply Fr.fa | apply Sp.sc | apply Sp.al | apply Sp.sa)) fun C5 h5 => ⟨rfl, ?_⟩)
            refine WA.done (by kernel_rfl) ?_
            refine DN.then_normal ?_
            refine WC.seq ?_
            refine WC.region ?_
            refine WL.y rfl (Yd.assign rfl) ?_
            refine WL.nil ?_
            refine DN.then_normal ?_
            refine WC.ret ?_
            first | refine DN.fit (C := row p [.map (some b1), .map (some b2)] 57 :: (C5 ++ C4)) (by repeat (first | exact Sp.here | exact Sp.sn | exact Sp.s0 | exact Fr.here | apply Sp.s2 | apply Sp.sx | apply Fr.fc | apply Fr.al | apply Fr.fa | apply Sp.sc | apply Sp.al | apply Sp.sa)) ?_ | refine DN.fit (C := row p [.map (some b1), .map (some b2)] 57 :: (C1 ++ C2)) (by repeat (first | exact Sp.here | exact Sp.sn | exact Sp.s0 | exact Fr.here | apply Sp.s2 | apply Sp.sx | apply Fr.fc | apply Fr.al | apply Fr.fa | apply Sp.sc | apply Sp.al | apply Sp.sa)) ?_
            refine DN.ret1 Try.results34 rfl ?_
            first
              | (rw [hnone, delK_none hnone]
                 unfold leaveKs
                 rw [hnone]
                 exact ⟨rfl, hS⟩)
              | (unfold leaveKs
                 rw [hsome]
                 refine ⟨rfl, b1, b2, C5, C4, rfl, ?_, by rw [← delG_kvs]; exact h4⟩
                 first
                 | (have e : adj K x10.name 0 x10.n = putK Gd.name K ⟨x10.name, freeOf K x10.name, goneOf K x10.name + x10.n⟩ := by unfold adj; rw [Int.add_zero]
                    show MpG kStr b1 (kvs Gd.name encG (adj K x10.name 0 x10.n)) C5
                    rw [e, ← putG]; exact h5)
                 | (have e : adj K x10.name x10.n 0 = putK Gd.name K ⟨x10.name, freeOf K x10.name + x10.n, goneOf K x10.name⟩ := by unfold adj; rw [Int.add_zero]
                    show MpG kStr b1 (kvs Gd.name encG (adj K x10.name x10.n 0)) C5
                    rw [e, ← putG]; exact h5))
          · refine WO.h rfl Wt.none rfl (Hd.loadAll (n := 2) (by kernel_rfl) rfl (by repeat (first | exact List.mem_cons_self | apply List.mem_cons_of_mem | apply List.mem_append_right)) (by rfl) ⟨_, rfl, ?_⟩)
            refine WA.one (i := 3) (by kernel_rfl) ?_
            refine WO.h rfl Wt.none rfl (Hd.load1 (by kernel_rfl) rfl (by repeat (first | exact List.mem_cons_self | apply List.mem_cons_of_mem | apply List.mem_append_right)) (by rfl) ⟨_, rfl, ?_⟩)
            refine WA.one (i := 7) (by kernel_rfl) ?_
            refine WO.s rfl Wt.none (Hd.mapSet (k0 := kStr) (KT := 9) (ET := 59) (TD := .string) (n := x10.name) (by kernel_rfl) Try.underlying9 rfl rfl rfl rfl hK (by rw [kvs_keys]; exact inv.knd) (by repeat (first | exact Sp.here | exact Sp.sn | exact Sp.s0 | exact Fr.here | apply Sp.s2 | apply Sp.sx | apply Fr.fc | apply Fr.al | apply Fr.fa | apply Sp.sc | apply Sp.al | apply Sp.sa)) fun C5 h5 => ⟨rfl, ?_⟩)
            refine WA.done (by kernel_rfl) ?_
            refine DN.then_normal ?_
            refine WC.seq ?_
            refine WC.region ?_
            refine WL.y rfl (Yd.assign rfl) ?_
            refine WL.nil ?_
            refine DN.then_normal ?_
            refine WC.ret ?_
            first | refine DN.fit (C := row p [.map (some b1), .map (some b2)] 57 :: (C5 ++ C4)) (by repeat (first | exact Sp.here | exact Sp.sn | exact Sp.s0 | exact Fr.here | apply Sp.s2 | apply Sp.sx | apply Fr.fc | apply Fr.al | apply Fr.fa | apply Sp.sc | apply Sp.al | apply Sp.sa)) ?_ | refine DN.fit (C := row p [.map (some b1), .map (some b2)] 57 :: (C1 ++ C2)) (by repeat (first | exact Sp.here | exact Sp.sn | exact Sp.s0 | exact Fr.here | apply Sp.s2 | apply Sp.sx | apply Fr.fc | apply Fr.al | apply Fr.fa | apply Sp.sc | apply Sp.al | apply Sp.sa)) ?_
            refine DN.ret1 Try.results34 rfl ?_
            first
              | (rw [hnone, delK_none hnone]
                 unfold leaveKs
                 rw [hnone]
                 exact ⟨rfl, hS⟩)
              | (unfold leaveKs
                 rw [hsome]
                 refine ⟨rfl, b1, b2, C5, C4, rfl, ?_, by rw [← delG_kvs]; exact h4⟩
                 first
                 | (have e : adj K x10.name 0 x10.n = putK Gd.name K ⟨x10.name, freeOf K x10.name, goneOf K x10.name + x10.n⟩ := by unfold adj; rw [Int.add_zero]
                    show MpG kStr b1 (kvs Gd.name encG (adj K x10.name 0 x10.n)) C5
                    rw [e, ← putG]; exact h5)
                 | (have e : adj K x10.name x10.n 0 = putK Gd.name K ⟨x10.name, freeOf K x10.name + x10.n, goneOf K x10.name⟩ := by unfold adj; rw [Int.add_zero]
                    show MpG kStr b1 (kvs Gd.name encG (adj K x10.name x10.n 0)) C5
                    rw [e, ← putG]; exact h5))
        · refine WO.h rfl Wt.none rfl (Hd.loadAll (n := 2) (by kernel_rfl) rfl (by repeat (first | exact List.mem_cons_self | apply List.mem_cons_of_mem | apply List.mem_append_right)) (by rfl) ⟨_, rfl, ?_⟩)
          refine WA.two (i := 3) (j := 5) (by kernel_rfl) ?_ ?_
          · refine WO.h rfl Wt.none rfl (Hd.load1 (by kernel_rfl) rfl (by repeat (first | exact List.mem_cons_self | apply List.mem_cons_of_mem | apply List.mem_append_right)) (by rfl) ⟨_, rfl, ?_⟩)
            refine WA.one (i := 5) (by kernel_rfl) ?_
            refine WO.h rfl Wt.none rfl (Hd.load1 (by kernel_rfl) rfl (by repeat (first | exact List.mem_cons_self | apply List.mem_cons_of_mem | apply List.mem_append_right)) (by rfl) ⟨_, rfl, ?_⟩)
            refine WA.one (i := 7) (by kernel_rfl) ?_
            refine WO.s rfl Wt.none (Hd.mapSet (k0 := kStr) (KT := 9) (ET := 59) (TD := .string) (n := x10.name) (by kernel_rfl) Try.underlying9 rfl rfl rfl rfl hK (by rw [kvs_keys]; exact inv.knd) (by repeat (first | exact Sp.here | exact Sp.sn | exact Sp.s0 | exact Fr.here | apply Sp.s2 | apply Sp.sx | apply Fr.fc | apply Fr.al | apply Fr.fa | apply Sp.sc | apply Sp.al | apply Sp.sa)) fun C5 h5 => ⟨rfl, ?_⟩)
            refine WA.done (by kernel_rfl) ?_
            refine DN.then_normal ?_
            refine WC.seq ?_
            refine WC.region ?_
            refine WL.y rfl (Yd.assign rfl) ?_
            refine WL.nil ?_
            refine DN.then_normal ?_
            refine WC.ret ?_
            first | refine DN.fit (C := row p [.map (some b1), .map (some b2)] 57 :: (C5 ++ C4)) (by repeat (first | exact Sp.here | exact Sp.sn | exact Sp.s0 | exact Fr.here | apply Sp.s2 | apply Sp.sx | apply Fr.fc | apply Fr.al | apply Fr.fa | apply Sp.sc | apply Sp.al | apply Sp.sa)) ?_ | refine DN.fit (C := row p [.map (some b1), .map (some b2)] 57 :: (C1 ++ C2)) (by repeat (first | exact Sp.here | exact Sp.sn | exact Sp.s0 | exact Fr.here | apply Sp.s2 | apply Sp.sx | apply Fr.fc | apply Fr.al | apply Fr.fa | apply Sp.sc | apply Sp.al | apply Sp.sa)) ?_
            refine DN.ret1 Try.results34 rfl ?_
            first
              | (rw [hnone, delK_none hnone]
                 unfold leaveKs
                 rw [hnone]
                 exact ⟨rfl, hS⟩)
              | (unfold leaveKs
                 rw [hsome]
                 refine ⟨rfl, b1, b2, C5, C4, rfl, ?_, by rw [← delG_kvs]; exact h4⟩
                 first
                 | (have e : adj K x10.name 0 x10.n = putK Gd.name K ⟨x10.name, freeOf K x10.name, goneOf K x10.name + x10.n⟩ := by unfold adj; rw [Int.add_zero]
                    show MpG kStr b1 (kvs Gd.name encG (adj K x10.name 0 x10.n)) C5
                    rw [e, ← putG]; exact h5)
                 | (have e : adj K x10.name x10.n 0 = putK Gd.name K ⟨x10.name, freeOf K x10.name + x10.n, goneOf K x10.name⟩ := by unfold adj; rw [Int.add_zero]
                    show MpG kStr b1 (kvs Gd.name encG (adj K x10.name x10.n 0)) C5
                    rw [e, ← putG]; exact h5))
          · refine WO.h rfl Wt.none rfl (Hd.load1 (by kernel_rfl) rfl (by repeat (first | exact List.mem_cons_self | apply List.mem_cons_of_mem | apply List.mem_append_right)) (by rfl) ⟨_, rfl, ?_⟩)
            refine WA.one (i := 3) (by kernel_rfl) ?_
            refine WO.h rfl Wt.none rfl (Hd.load1 (by kernel_rfl) rfl (by repeat (first | exact List.mem_cons_self | apply List.mem_cons_of_mem | apply List.mem_append_right)) (by rfl) ⟨_, rfl, ?_⟩)
            refine WA.one (i := 7) (by kernel_rfl) ?_
            refine WO.s rfl Wt.none (Hd.mapSet (k0 := kStr) (KT := 9) (ET := 59) (TD := .string) (n := x10.name) (by kernel_rfl) Try.underlying9 rfl rfl rfl rfl hK (by rw [kvs_keys]; exact inv.knd) (by repeat (first | exact Sp.here | exact Sp.sn | exact Sp.s0 | exact Fr.here | apply Sp.s2 | apply Sp.sx | apply Fr.fc | apply Fr.al | apply Fr.fa | apply Sp.sc | apply Sp.al | apply Sp.sa)) fun C5 h5 => ⟨rfl, ?_⟩)
            refine WA.done (by kernel_rfl) ?_
            refine DN.then_normal ?_
            refine WC.seq ?_
            refine WC.region ?_
            refine WL.y rfl (Yd.assign rfl) ?_
            refine WL.nil ?_
            refine DN.then_normal ?_
            refine WC.ret ?_
            first | refine DN.fit (C := row p [.map (some b1), .map (some b2)] 57 :: (C5 ++ C4)) (by repeat (first | exact Sp.here | exact Sp.sn | exact Sp.s0 | exact Fr.here | apply Sp.s2 | apply Sp.sx | apply Fr.fc | apply Fr.al | apply Fr.fa | apply Sp.sc | apply Sp.al | apply Sp.sa)) ?_ | refine DN.fit (C := row p [.map (some b1), .map (some b2)] 57 :: (C1 ++ C2)) (by repeat (first | exact Sp.here | exact Sp.sn | exact Sp.s0 | exact Fr.here | apply Sp.s2 | apply Sp.sx | apply Fr.fc | apply Fr.al | apply Fr.fa | apply Sp.sc | apply Sp.al | apply Sp.sa)) ?_
            refine DN.ret1 Try.results34 rfl ?_
            first
              | (rw [hnone, delK_none hnone]
                 unfold leaveKs
                 rw [hnone]
                 exact ⟨rfl, hS⟩)
              | (unfold leaveKs
                 rw [hsome]
                 refine ⟨rfl, b1, b2, C5, C4, rfl, ?_, by rw [← delG_kvs]; exact h4⟩
                 first
                 | (have e : adj K x10.name 0 x10.n = putK Gd.name K ⟨x10.name, freeOf K x10.name, goneOf K x10.name + x10.n⟩ := by unfold adj; rw [Int.add_zero]
                    show MpG kStr b1 (kvs Gd.name encG (adj K x10.name 0 x10.n)) C5
                    rw [e, ← putG]; exact h5)
                 | (have e : adj K x10.name x10.n 0 = putK Gd.name K ⟨x10.name, freeOf K x10.name + x10.n, goneOf K x10.name⟩ := by unfold adj; rw [Int.add_zero]
                    show MpG kStr b1 (kvs Gd.name encG (adj K x10.name x10.n 0)) C5
                    rw [e, ← putG]; exact h5))
      · subst h35
        refine WC.region ?_
        refine WL.y rfl (Yd.fieldAddr (k := 0) (by kernel_rfl) rfl) ?_
        refine WL.h rfl (Hd.load1 (by kernel_rfl) rfl (by repeat (first | exact List.mem_cons_self | apply List.mem_cons_of_mem | apply List.mem_append_right)) (by rfl) ⟨_, rfl, ?_⟩)
        refine WL.y rfl (Yd.fieldAddr (k := 2) (by kernel_rfl) rfl) ?_
        refine WL.h rfl (Hd.load1 (by kernel_rfl) rfl (by repeat (first | exact List.mem_cons_self | apply List.mem_cons_of_mem | apply List.mem_append_right)) (by rfl) ⟨_, rfl, ?_⟩)
        refine WL.y rfl (Yd.add rfl rfl (by omega) (by omega)) ?_
        refine WL.y rfl (Yd.fieldAddr (k := 0) (by kernel_rfl) rfl) ?_
        refine WL.s (Hd.store1s (by kernel_rfl) rfl rfl (by rfl) (by repeat (first | exact Fr.here | apply Fr.fc | apply Fr.al | apply Fr.fa)) (by rfl) (by first | (simp only [List.set_cons_zero, List.set_cons_succ, Nat.zero_add, Nat.add_zero, Nat.reduceAdd]; rfl) | rfl) ⟨rfl, ?_⟩)
        refine WL.nil ?_
        refine DN.then_normal ?_
        refine WC.seq ?_
        refine WC.draw 8 (by kernel_rfl) rfl ?_
        refine WA.y (i := 0) (NoPanic.then (NoPanic.body)) rfl (by kernel_rfl) (by kernel_rfl) (by kernel_rfl) rfl (Yd.move rfl) ?_
        refine WA.y (i := 1) (NoPanic.then (NoPanic.body)) rfl (by kernel_rfl) (by kernel_rfl) (by kernel_rfl) rfl (Yd.notNil rfl) ?_
        refine WA.y (i := 2) (NoPanic.then (NoPanic.body)) rfl (by kernel_rfl) (by kernel_rfl) (by kernel_rfl) rfl (Yd.fieldAddr (k := 0) (by kernel_rfl) rfl) ?_
        refine WA.y (i := 4) (NoPanic.then (NoPanic.body)) rfl (by kernel_rfl) (by kernel_rfl) (by kernel_rfl) rfl (Yd.fieldAddr (k := 1) (by kernel_rfl) rfl) ?_
        refine WA.three (i := 3) (j := 5) (k := 6) (by kernel_rfl) ?_ ?_ ?_
        · refine WO.h rfl Wt.none rfl (Hd.load1 (by kernel_rfl) rfl (by repeat (first | exact List.mem_cons_self | apply List.mem_cons_of_mem | apply List.mem_append_right)) (by rfl) ⟨_, rfl, ?_⟩)
          refine WA.two (i := 5) (j := 6) (by kernel_rfl) ?_ ?_
          · refine WO.h rfl Wt.none rfl (Hd.load1 (by kernel_rfl) rfl (by repeat (first | exact List.mem_cons_self | apply List.mem_cons_of_mem | apply List.mem_append_right)) (by rfl) ⟨_, rfl, ?_⟩)
            refine WA.one (i := 6) (by kernel_rfl) ?_
            refine WO.h rfl Wt.none rfl (Hd.loadAll (n := 2) (by kernel_rfl) rfl (by repeat (first | exact List.mem_cons_self | apply List.mem_cons_of_mem | apply List.mem_append_right)) (by rfl) ⟨_, rfl, ?_⟩)
            refine WA.one (i := 7) (by kernel_rfl) ?_
            refine WO.s rfl Wt.none (Hd.mapSet (k0 := kStr) (KT := 9) (ET := 59) (TD := .string) (n := x10.name) (by kernel_rfl) Try.underlying9 rfl rfl rfl rfl hK (by rw [kvs_keys]; exact inv.knd) (by repeat (first | exact Sp.here | exact Sp.sn | exact Sp.s0 | exact Fr.here | apply Sp.s2 | apply Sp.sx | apply Fr.fc | apply Fr.al | apply Fr.fa | apply Sp.sc | apply Sp.al | apply Sp.sa)) fun C5 h5 => ⟨rfl, ?_⟩)
            refine WA.done (by kernel_rfl) ?_
            refine DN.then_normal ?_
            refine WC.seq ?_
            refine WC.region ?_
            refine WL.y rfl (Yd.assign rfl) ?_
            refine WL.nil ?_
            refine DN.then_normal ?_
            refine WC.ret ?_
            first | refine DN.fit (C := row p [.map (some b1), .map (some b2)] 57 :: (C5 ++ C4)) (by repeat (first | exact Sp.here | exact Sp.sn | exact Sp.s0 | exact Fr.here | apply Sp.s2 | apply Sp.sx | apply Fr.fc | apply Fr.al | apply Fr.fa | apply Sp.sc | apply Sp.al | apply Sp.sa)) ?_ | refine DN.fit (C := row p [.map (some b1), .map (some b2)] 57 :: (C1 ++ C2)) (by repeat (first | exact Sp.here | exact Sp.sn | exact Sp.s0 | exact Fr.here | apply Sp.s2 | apply Sp.sx | apply Fr.fc | apply Fr.al | apply Fr.fa | apply Sp.sc | apply Sp.al | apply Sp.sa)) ?_
            refine DN.ret1 Try.results34 rfl ?_
            first
              | (rw [hnone, delK_none hnone]
                 unfold leaveKs
                 rw [hnone]
                 exact ⟨rfl, hS⟩)
              | (unfold leaveKs
                 rw [hsome]
                 refine ⟨rfl, b1, b2, C5, C4, rfl, ?_, by rw [← delG_kvs]; exact h4⟩
                 first
                 | (have e : adj K x10.name 0 x10.n = putK Gd.name K ⟨x10.name, freeOf K x10.name, goneOf K x10.name + x10.n⟩ := by unfold adj; rw [Int.add_zero]
                    show MpG kStr b1 (kvs Gd.name encG (adj K x10.name 0 x10.n)) C5
                    rw [e, ← putG]; exact h5)
                 | (have e : adj K x10.name x10.n 0 = putK Gd.name K ⟨x10.name, freeOf K x10.name + x10.n, goneOf K x10.name⟩ := by unfold adj; rw [Int.add_zero]
                    show MpG kStr b1 (kvs Gd.name encG (adj K x10.name x10.n 0)) C5
                    rw [e, ← putG]; exact h5))
          · refine WO.h rfl Wt.none rfl (Hd.loadAll (n := 2) (by kernel_rfl) rfl (by repeat (first | exact List.mem_cons_self | apply List.mem_cons_of_mem | apply List.mem_append_right)) (by rfl) ⟨_, rfl, ?_⟩)
            refine WA.one (i := 5) (by kernel_rfl) ?_
            refine WO.h rfl Wt.none rfl (Hd.load1 (by kernel_rfl) rfl (by repeat (first | exact List.mem_cons_self | apply List.mem_cons_of_mem | apply List.mem_append_right)) (by rfl) ⟨_, rfl, ?_⟩)
            refine WA.one (i := 7) (by kernel_rfl) ?_
            refine WO.s rfl Wt.none (Hd.mapSet (k0 := kStr) (KT := 9) (ET := 59) (TD := .string) (n := x10.name) (by kernel_rfl) Try.underlying9 rfl rfl rfl rfl hK (by rw [kvs_keys]; exact inv.knd) (by repeat (first | exact Sp.here | exact Sp.sn | exact Sp.s0 | exact Fr.here | apply Sp.s2 | apply Sp.sx | apply Fr.fc | apply Fr.al | apply Fr.fa | apply Sp.sc | apply Sp.al | apply Sp.sa)) fun C5 h5 => ⟨rfl, ?_⟩)
            refine WA.done (by kernel_rfl) ?_
            refine DN.then_normal ?_
            refine WC.seq ?_
            refine WC.region ?_
            refine WL.y rfl (Yd.assign rfl) ?_
            refine WL.nil ?_
            refine DN.then_normal ?_
            refine WC.ret ?_
            first | refine DN.fit (C := row p [.map (some b1), .map (some b2)] 57 :: (C5 ++ C4)) (by repeat (first | exact Sp.here | exact Sp.sn | exact Sp.s0 | exact Fr.here | apply Sp.s2 | apply Sp.sx | apply Fr.fc | apply Fr.al | apply Fr.fa | apply Sp.sc | apply Sp.al | apply Sp.sa)) ?_ | refine DN.fit (C := row p [.map (some b1), .map (some b2)] 57 :: (C1 ++ C2)) (by repeat (first | exact Sp.here | exact Sp.sn | exact Sp.s0 | exact Fr.here | apply Sp.s2 | apply Sp.sx | apply Fr.fc | apply Fr.al | apply Fr.fa | apply Sp.sc | apply Sp.al | apply Sp.sa)) ?_
            refine DN.ret1 Try.results34 rfl ?_
            first
              | (rw [hnone, delK_none hnone]
                 unfold leaveKs
                 rw [hnone]
                 exact ⟨rfl, hS⟩)
              | (unfold leaveKs
                 rw [hsome]
                 refine ⟨rfl, b1, b2, C5, C4, rfl, ?_, by rw [← delG_kvs]; exact h4⟩
                 first
                 | (have e : adj K x10.name 0 x10.n = putK Gd.name K ⟨x10.name, freeOf K x10.name, goneOf K x10.name + x10.n⟩ := by unfold adj; rw [Int.add_zero]
                    show MpG kStr b1 (kvs Gd.name encG (adj K x10.name 0 x10.n)) C5
                    rw [e, ← putG]; exact h5)
                 | (have e : adj K x10.name x10.n 0 = putK Gd.name K ⟨x10.name, freeOf K x10.name + x10.n, goneOf K x10.name⟩ := by unfold adj; rw [Int.add_zero]
                    show MpG kStr b1 (kvs Gd.name encG (adj K x10.name x10.n 0)) C5
                    rw [e, ← putG]; exact h5))
        · refine WO.h rfl Wt.none rfl (Hd.load1 (by kernel_rfl) rfl (by repeat (first | exact List.mem_cons_self | apply List.mem_cons_of_mem | apply List.mem_append_right)) (by rfl) ⟨_, rfl, ?_⟩)
          refine WA.two (i := 3) (j := 6) (by kernel_rfl) ?_ ?_
          · refine WO.h rfl Wt.none rfl (Hd.load1 (by kernel_rfl) rfl (by repeat (first | exact List.mem_cons_self | apply List.mem_cons_of_mem | apply List.mem_append_right)) (by rfl) ⟨_, rfl, ?_⟩)
            refine WA.one (i := 6) (by kernel_rfl) ?_
            refine WO.h rfl Wt.none rfl (Hd.loadAll (n := 2) (by kernel_rfl) rfl (by repeat (first | exact List.mem_cons_self | apply List.mem_cons_of_mem | apply List.mem_append_right)) (by rfl) ⟨_, rfl, ?_⟩)
            refine WA.one (i := 7) (by kernel_rfl) ?_
            refine WO.s rfl Wt.none (Hd.mapSet (k0 := kStr) (KT := 9) (ET := 59) (TD := .string) (n := x10.name) (by kernel_rfl) Try.underlying9 rfl rfl rfl rfl hK (by rw [kvs_keys]; exact inv.knd) (by repeat (first | exact Sp.here | exact Sp.sn | exact Sp.s0 | exact Fr.here | apply Sp.s2 | apply Sp.sx | apply Fr.fc | apply Fr.al | apply Fr.fa | apply Sp.sc | apply Sp.al | apply Sp.sa)) fun C5 h5 => ⟨rfl, ?_⟩)
            refine WA.done (by kernel_rfl) ?_
            refine DN.then_normal ?_
            refine WC.seq ?_
            refine WC.region ?_
            refine WL.y rfl (Yd.assign rfl) ?_
            refine WL.nil ?_
            refine DN.then_normal ?_
            refine WC.ret ?_
            first | refine DN.fit (C := row p [.map (some b1), .map (some b2)] 57 :: (C5 ++ C4)) (by repeat (first | exact Sp.here | exact Sp.sn | exact Sp.s0 | exact Fr.here | apply Sp.s2 | apply Sp.sx | apply Fr.fc | apply Fr.al | apply Fr.fa | apply Sp.sc | apply Sp.al | apply Sp.sa)) ?_ | refine DN.fit (C := row p [.map (some b1), .map (some b2)] 57 :: (C1 ++ C2)) (by repeat (first | exact Sp.here | exact Sp.sn | exact Sp.s0 | exact Fr.here | apply Sp.s2 | apply Sp.sx | apply Fr.fc | apply Fr.al | apply Fr.fa | apply Sp.sc | apply Sp.al | apply Sp.sa)) ?_
            refine DN.ret1 Try.results34 rfl ?_
            first
              | (rw [hnone, delK_none hnone]
                 unfold leaveKs
                 rw [hnone]
                 exact ⟨rfl, hS⟩)
              | (unfold leaveKs
                 rw [hsome]
                 refine ⟨rfl, b1, b2, C5, C4, rfl, ?_, by rw [← delG_kvs]; exact h4⟩
                 first
                 | (have e : adj K x10.name 0 x10.n = putK Gd.name K ⟨x10.name, freeOf K x10.name, goneOf K x10.name + x10.n⟩ := by unfold adj; rw [Int.add_zero]
                    show MpG kStr b1 (kvs Gd.name encG (adj K x10.name 0 x10.n)) C5
                    rw [e, ← putG]; exact h5)
                 | (have e : adj K x10.name x10.n 0 = putK Gd.name K ⟨x10.name, freeOf K x10.name + x10.n, goneOf K x10.name⟩ := by unfold adj; rw [Int.add_zero]
                    show MpG kStr b1 (kvs Gd.name encG (adj K x10.name x10.n 0)) C5
                    rw [e, ← putG]; exact h5))
          · refine WO.h rfl Wt.none rfl (Hd.loadAll (n := 2) (by kernel_rfl) rfl (by repeat (first | exact List.mem_cons_self | apply List.mem_cons_of_mem | apply List.mem_append_right)) (by rfl) ⟨_, rfl, ?_⟩)
            refine WA.one (i := 3) (by kernel_rfl) ?_
            refine WO.h rfl Wt.none rfl (Hd.load1 (by kernel_rfl) rfl (by repeat (first | exact List.mem_cons_self | apply List.mem_cons_of_mem | apply List.mem_append_right)) (by rfl) ⟨_, rfl, ?_⟩)
            refine WA.one (i := 7) (by kernel_rfl) ?_
            refine WO.s rfl Wt.none (Hd.mapSet (k0 := kStr) (KT := 9) (ET := 59) (TD := .string) (n := x10.name) (by kernel_rfl) Try.underlying9 rfl rfl rfl rfl hK (by rw [kvs_keys]; exact inv.knd) (by repeat (first | exact Sp.here | exact Sp.sn | exact Sp.s0 | exact Fr.here | apply Sp.s2 | apply Sp.sx | apply Fr.fc | apply Fr.al | apply Fr.fa | apply Sp.sc | apply Sp.al | apply Sp.sa)) fun C5 h5 => ⟨rfl, ?_⟩)
            refine WA.done (by kernel_rfl) ?_
            refine DN.then_normal ?_
            refine WC.seq ?_
            refine WC.region ?_
            refine WL.y rfl (Yd.assign rfl) ?_
            refine WL.nil ?_
            refine DN.then_normal ?_
            refine WC.ret ?_
            first | refine DN.fit (C := row p [.map (some b1), .map (some b2)] 57 :: (C5 ++ C4)) (by repeat (first | exact Sp.here | exact Sp.sn | exact Sp.s0 | exact Fr.here | apply Sp.s2 | apply Sp.sx | apply Fr.fc | apply Fr.al | apply Fr.fa | apply Sp.sc | apply Sp.al | apply Sp.sa)) ?_ | refine DN.fit (C := row p [.map (some b1), .map (some b2)] 57 :: (C1 ++ C2)) (by repeat (first | exact Sp.here | exact Sp.sn | exact Sp.s0 | exact Fr.here | apply Sp.s2 | apply Sp.sx | apply Fr.fc | apply Fr.al | apply Fr.fa | apply Sp.sc | apply Sp.al | apply Sp.sa)) ?_
            refine DN.ret1 Try.results34 rfl ?_
            first
              | (rw [hnone, delK_none hnone]
                 unfold leaveKs
                 rw [hnone]
                 exact ⟨rfl, hS⟩)
              | (unfold leaveKs
                 rw [hsome]
                 refine ⟨rfl, b1, b2, C5, C4, rfl, ?_, by rw [← delG_kvs]; exact h4⟩
                 first
                 | (have e : adj K x10.name 0 x10.n = putK Gd.name K ⟨x10.name, freeOf K x10.name, goneOf K x10.name + x10.n⟩ := by unfold adj; rw [Int.add_zero]
                    show MpG kStr b1 (kvs Gd.name encG (adj K x10.name 0 x10.n)) C5
                    rw [e, ← putG]; exact h5)
                 | (have e : adj K x10.name x10.n 0 = putK Gd.name K ⟨x10.name, freeOf K x10.name + x10.n, goneOf K x10.name⟩ := by unfold adj; rw [Int.add_zero]
                    show MpG kStr b1 (kvs Gd.name encG (adj K x10.name x10.n 0)) C5
                    rw [e, ← putG]; exact h5))
        · refine WO.h rfl Wt.none rfl (Hd.loadAll (n := 2) (by kernel_rfl) rfl (by repeat (first | exact List.mem_cons_self | apply List.mem_cons_of_mem | apply List.mem_append_right)) (by rfl) ⟨_, rfl, ?_⟩)
          refine WA.two (i := 3) (j := 5) (by kernel_rfl) ?_ ?_
          · refine WO.h rfl Wt.none rfl (Hd.load1 (by kernel_rfl) rfl (by repeat (first | exact List.mem_cons_self | apply List.mem_cons_of_mem | apply List.mem_append_right)) (by rfl) ⟨_, rfl, ?_⟩)
            refine WA.one (i := 5) (by kernel_rfl) ?_
            refine WO.h rfl Wt.none rfl (Hd.load1 (by kernel_rfl) rfl (by repeat (first | exact List.mem_cons_self | apply List.mem_cons_of_mem | apply List.mem_append_right)) (by rfl) ⟨_, rfl, ?_⟩)
            refine WA.one (i := 7) (by kernel_rfl) ?_
            refine WO.s rfl Wt.none (Hd.mapSet (k0 := kStr) (KT := 9) (ET := 59) (TD := .string) (n := x10.name) (by kernel_rfl) Try.underlying9 rfl rfl rfl rfl hK (by rw [kvs_keys]; exact inv.knd) (by repeat (first | exact Sp.here | exact Sp.sn | exact Sp.s0 | exact Fr.here | apply Sp.s2 | apply Sp.sx | apply Fr.fc | apply Fr.al | apply Fr.fa | apply Sp.sc | apply Sp.al | apply Sp.sa)) fun C5 h5 => ⟨rfl, ?_⟩)
            refine WA.done (by kernel_rfl) ?_
            refine DN.then_normal ?_
            refine WC.seq ?_
            refine WC.region ?_
            refine WL.y rfl (Yd.assign rfl) ?_
            refine WL.nil ?_
            refine DN.then_normal ?_
            refine WC.ret ?_
            first | refine DN.fit (C := row p [.map (some b1), .map (some b2)] 57 :: (C5 ++ C4)) (by repeat (first | exact Sp.here | exact Sp.sn | exact Sp.s0 | exact Fr.here | apply Sp.s2 | apply Sp.sx | apply Fr.fc | apply Fr.al | apply Fr.fa | apply Sp.sc | apply Sp.al | apply Sp.sa)) ?_ | refine DN.fit (C := row p [.map (some b1), .map (some b2)] 57 :: (C1 ++ C2)) (by repeat (first | exact Sp.here | exact Sp.sn | exact Sp.s0 | exact Fr.here | apply Sp.s2 | apply Sp.sx | apply Fr.fc | apply Fr.al | apply Fr.fa | apply Sp.sc | apply Sp.al | apply Sp.sa)) ?_
            refine DN.ret1 Try.results34 rfl ?_
            first
              | (rw [hnone, delK_none hnone]
                 unfold leaveKs
                 rw [hnone]
                 exact ⟨rfl, hS⟩)
              | (unfold leaveKs
                 rw [hsome]
                 refine ⟨rfl, b1, b2, C5, C4, rfl, ?_, by rw [← delG_kvs]; exact h4⟩
                 first
                 | (have e : adj K x10.name 0 x10.n = putK Gd.name K ⟨x10.name, freeOf K x10.name, goneOf K x10.name + x10.n⟩ := by unfold adj; rw [Int.add_zero]
                    show MpG kStr b1 (kvs Gd.name encG (adj K x10.name 0 x10.n)) C5
                    rw [e, ← putG]; exact h5)
                 | (have e : adj K x10.name x10.n 0 = putK Gd.name K ⟨x10.name, freeOf K x10.name + x10.n, goneOf K x10.name⟩ := by unfold adj; rw [Int.add_zero]
                    show MpG kStr b1 (kvs Gd.name encG (adj K x10.name x10.n 0)) C5
                    rw [e, ← putG]; exact h5))
          · refine WO.h rfl Wt.none rfl (Hd.load1 (by kernel_rfl) rfl (by repeat (first | exact List.mem_cons_self | apply List.mem_cons_of_mem | apply List.mem_append_right)) (by rfl) ⟨_, rfl, ?_⟩)
            refine WA.one (i := 3) (by kernel_rfl) ?_
            refine WO.h rfl Wt.none rfl (Hd.load1 (by kernel_rfl) rfl (by repeat (first | exact List.mem_cons_self | apply List.mem_cons_of_mem | apply List.mem_append_right)) (by rfl) ⟨_, rfl, ?_⟩)
            refine WA.one (i := 7) (by kernel_rfl) ?_
            refine WO.s rfl Wt.none (Hd.mapSet (k0 := kStr) (KT := 9) (ET := 59) (TD := .string) (n := x10.name) (by kernel_rfl) Try.underlying9 rfl rfl rfl rfl hK (by rw [kvs_keys]; exact inv.knd) (by repeat (first | exact Sp.here | exact Sp.sn | exact Sp.s0 | exact Fr.here | apply Sp.s2 | apply Sp.sx | apply Fr.fc | apply Fr.al | apply Fr.fa | apply Sp.sc | apply Sp.al | apply Sp.sa)) fun C5 h5 => ⟨rfl, ?_⟩)
            refine WA.done (by kernel_rfl) ?_
            refine DN.then_normal ?_
            refine WC.seq ?_
            refine WC.region ?_
            refine WL.y rfl (Yd.assign rfl) ?_
            refine WL.nil ?_
            refine DN.then_normal ?_
            refine WC.ret ?_
            first | refine DN.fit (C := row p [.map (some b1), .map (some b2)] 57 :: (C5 ++ C4)) (by repeat (first | exact Sp.here | exact Sp.sn | exact Sp.s0 | exact Fr.here | apply Sp.s2 | apply Sp.sx | apply Fr.fc | apply Fr.al | apply Fr.fa | apply Sp.sc | apply Sp.al | apply Sp.sa)) ?_ | refine DN.fit (C := row p [.map (some b1), .map (some b2)] 57 :: (C1 ++ C2)) (by repeat (first | exact Sp.here | exact Sp.sn | exact Sp.s0 | exact Fr.here | apply Sp.s2 | apply Sp.sx | apply Fr.fc | apply Fr.al | apply Fr.fa | apply Sp.sc | apply Sp.al | apply Sp.sa)) ?_
            refine DN.ret1 Try.results34 rfl ?_
            first
              | (rw [hnone, delK_none hnone]
                 unfold leaveKs
                 rw [hnone]
                 exact ⟨rfl, hS⟩)
              | (unfold leaveKs
                 rw [hsome]
                 refine ⟨rfl, b1, b2, C5, C4, rfl, ?_, by rw [← delG_kvs]; exact h4⟩
                 first
                 | (have e : adj K x10.name 0 x10.n = putK Gd.name K ⟨x10.name, freeOf K x10.name, goneOf K x10.name + x10.n⟩ := by unfold adj; rw [Int.add_zero]
                    show MpG kStr b1 (kvs Gd.name encG (adj K x10.name 0 x10.n)) C5
                    rw [e, ← putG]; exact h5)
                 | (have e : adj K x10.name x10.n 0 = putK Gd.name K ⟨x10.name, freeOf K x10.name + x10.n, goneOf K x10.name⟩ := by unfold adj; rw [Int.add_zero]
                    show MpG kStr b1 (kvs Gd.name encG (adj K x10.name x10.n 0)) C5
                    rw [e, ← putG]; exact h5))

/-- (*drayage/stock.Stock).Free -/
theorem free_tells (p : Nat) (first K : List Gd) (L : List Ho) (C : List Ck) (h : StAt 57 p K L C) (inv : SInv first K L) (o : BitVec 32) : Tells Try.prog 25 [.pointer (some ⟨p, 0, none⟩), .int .u32 o.toNat] C fun r H' => r = .int .i64 (vd (findK Ho.o L o).isSome) ∧ StAt 57 p (leaveKs K L o false) (delK Ho.o L o) H' := by
  refine Tells.enter Try.func25 rfl Try.ntmps25 rfl ?_
  intro w0 R
  refine WC.seq ?_
  refine WC.region ?_
  refine WL.y rfl (Yd.assign rfl) ?_
  refine WL.nil ?_
  refine DN.then_normal ?_
  refine WC.seq ?_
  refine WC.region ?_
  refine WL.y rfl (Yd.move rfl) ?_
  refine WL.y rfl (Yd.move rfl) ?_
  refine WL.c rfl (Ent.func Try.call34 rfl) (leave_tells p first K L C h inv o false) (Sp.p (by repeat (first | exact Sp.here | exact Sp.sn | exact Sp.s0 | exact Fr.here | apply Sp.s2 | apply Sp.sx | apply Fr.fc | apply Fr.al | apply Fr.fa | apply Sp.sc | apply Sp.al | apply Sp.sa))) ?_
  rintro q C9 ⟨rfl, h9⟩
  refine WL.y rfl (Yd.assign rfl) ?_
  refine WL.nil ?_
  refine DN.then_normal ?_
  refine WC.ret ?_
  refine DN.ret1 Try.results25 rfl ?_
  exact ⟨rfl, by simpa using h9⟩

/-- (*drayage/stock.Stock).Ship -/
theorem ship_tells (p : Nat) (first K : List Gd) (L : List Ho) (C : List Ck) (h : StAt 57 p K L C) (inv : SInv first K L) (o : BitVec 32) : Tells Try.prog 26 [.pointer (some ⟨p, 0, none⟩), .int .u32 o.toNat] C fun r H' => r = .int .i64 (vd (findK Ho.o L o).isSome) ∧ StAt 57 p (leaveKs K L o true) (delK Ho.o L o) H' := by
  refine Tells.enter Try.func26 rfl Try.ntmps26 rfl ?_
  intro w0 R
  refine WC.seq ?_
  refine WC.region ?_
  refine WL.y rfl (Yd.assign rfl) ?_
  refine WL.nil ?_
  refine DN.then_normal ?_
  refine WC.seq ?_
  refine WC.region ?_
  refine WL.y rfl (Yd.move rfl) ?_
  refine WL.y rfl (Yd.move rfl) ?_
  refine WL.c rfl (Ent.func Try.call34 rfl) (leave_tells p first K L C h inv o true) (Sp.p (by repeat (first | exact Sp.here | exact Sp.sn | exact Sp.s0 | exact Fr.here | apply Sp.s2 | apply Sp.sx | apply Fr.fc | apply Fr.al | apply Fr.fa | apply Sp.sc | apply Sp.al | apply Sp.sa))) ?_
  rintro q C9 ⟨rfl, h9⟩
  refine WL.y rfl (Yd.assign rfl) ?_
  refine WL.nil ?_
  refine DN.then_normal ?_
  refine WC.ret ?_
  refine DN.ret1 Try.results26 rfl ?_
  exact ⟨rfl, by simpa using h9⟩

end Go.Proofs.Ytdbbkodjhmfjfaa
