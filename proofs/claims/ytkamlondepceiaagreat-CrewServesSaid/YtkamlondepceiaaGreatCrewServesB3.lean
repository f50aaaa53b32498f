/-
  Lemmas and walks that CrewServes stands on (part 3); no condition.
-/
import Derived.Orders
import Derived.Tactics
import Derived.Scope
import Derived.Below
import Derived.WalkKit
import Derived.KernelRfl
import Derived.Laws.RangeString
import Derived.Laws.StructEq
import Derived.Lib.AppendZerosOnto
import Derived.Laws.CopyRow
import Derived.Lib.Overlaps
import Derived.Laws.IdiomStrings
import Derived.Deep.Quiet
import Derived.Lib.Bytealg
import Derived.Shelf.SlSortCmp.NoneTotal
import Derived.ProofKit
import Derived.OpenShut
import Derived.ShutString
import Derived.ChangeOld
import Derived.Test.YtkamlondepceiaaGreatRows
import Derived.Test.YtkamlondepceiaaGreatCrewServesB2

set_option linter.unusedVariables false
set_option linter.unusedSimpArgs false
set_option maxHeartbeats 2000000
namespace Go.Proofs.YtkamlondepceiaaGreat
open Go.SL
theorem newWriter_tells : Tells Tryz.prog 41 [] [] fun r H' => ∃ b, r = .pointer (some ⟨b, 0, none⟩) ∧ H' = [row b [.slice none 0 0, .bool false] 159] := by
 refine Tells.enter Tryz.func41 rfl Tryz.ntmps41 rfl ?_
 intro w0 R
 refine sr_ (a_ rfl rfl (ntsr_ (WL.y rfl (Yd.buildL (pl := [(0, 1), (1, 1)]) (zs := [.slice none 0 0, .bool false]) (parts := []) (vs := []) (cells := [.slice none 0 0, .bool false]) kr_ kr_ rfl rfl) ?_)))
 refine WL.h rfl (Hd.boxA rfl fun b => ⟨_, rfl, ?_⟩)
 exact a_ rfl rfl (nt_ (WC.ret (DN.ret1 Tryz.results41 rfl (⟨b, rfl, rfl⟩))))
theorem put_tells (bw : Nat) (v : Value) (l : List (BitVec 8)) (C : List Ck) (n : BitVec 64) (size : Nat) (hs : size ≤ 8) (ho : Ob 5 v l C) (hl : l.length ≤ 1000000) : Tells Tryz.prog 76 [.pointer (some ⟨bw, 0, none⟩), .int .u64 n.toNat, .int .i64 size] (row bw [v, .bool false] 159 :: C) fun r H' => r = .pointer (some ⟨bw, 0, none⟩) ∧ ∃ v' C', Ob 5 v' (l ++ beW n size) C' ∧ H' = row bw [v', .bool false] 159 :: C' := by
 refine Tells.enter Tryz.func76 rfl Tryz.ntmps76 rfl ?_
 intro w0 R
 refine sr_ (a_ rfl rfl (nt_ (WC.seq (sr_ (m_ rfl rfl (WL.y rfl (Yd.eqlNil Tryz.underlying90 rfl rfl) (WL.renamed (t := 9) (v := .bool false) rfl (congrArg Value.bool (rfl)) (nt_ (WC.no rfl (WC.skip (ts_ (sr_ (m_ rfl rfl ?_)))))))))))))
 refine m_ rfl rfl (nt_ (WC.block (WC.loopS (fun z : Nat × Value × List Ck => z.1 ≤ size ∧ Ob 5 z.2.1 (l ++ (beW n size).take z.1) z.2.2) (fun z : Nat × Value × List Ck => [(11, .int .i64 (z.1 : Int))]) (fun z : Nat × Value × List Ck => row bw [z.2.1, .bool false] 159 :: z.2.2) (fun z : Nat × Value × List Ck => size - z.1) (⟨0, v, C⟩) (show 0 ≤ size ∧ Ob 5 v (l ++ (beW n size).take 0) C from ⟨Nat.zero_le _, by simpa using ho⟩) (Sx.put rfl (sx_)) sp_ ?_)))
 rintro ⟨i, u, Cu⟩ hI
 replace hI : i ≤ size ∧ Ob 5 u (l ++ (beW n size).take i) Cu := hI
 obtain ⟨hi, hu⟩ := hI
 change WC _ _ _ _ _ _ ([(11, .int .i64 (i : Int))] ++ _) (row bw [u, .bool false] 159 :: Cu)
 obtain ⟨uo, uc, rfl, huc⟩ := hu.form
 refine sr_ (WL.y rfl (Yd.lss rfl rfl) (nt_ (WC.seq (WC.ite rfl (fun h12 => ?_) (fun h12 => ?_)))))
 have hlt : i < size := by omega
 have hL : (l ++ (beW n size).take i).length ≤ 1000008 := by simp only [List.length_append, List.length_take]; omega
 refine WC.skip (ts_ (WC.block (sr_ (m_ rfl rfl (a_ rfl rfl (nt_ (WC.draw 18 kr_ rfl ?_)))))))
 refine WAG.start (N := 18) rfl (wy_ 0 [] rfl (Yd.move rfl) kr_ ?_)
 refine wy_ 1 [] rfl (Yd.move rfl) kr_ ?_
 refine wy_ 2 [1] rfl (Yd.notNil rfl) kr_ ?_
 refine wy_ 3 [2] rfl (Yd.fieldAddr (k := 0) kr_ rfl) kr_ ?_
 refine wq_ (wf_ (i := 4) [3] rfl (QAt.rd Wt.none (Rd.load1 kr_ rfl mem_ (by rfl))) kr_) kr_ ?_
 refine wy_ 5 [] rfl (Yd.move rfl) kr_ ?_
 refine wy_ 6 [] rfl (Yd.move rfl) kr_ ?_
 refine wy_ 7 [6] rfl (Yd.sub rfl rfl (by omega) (by omega)) kr_ ?_
 refine wy_ 8 [] rfl (Yd.move rfl) kr_ ?_
 refine wy_ 9 [8, 7] rfl (Yd.sub rfl rfl (by omega) (by omega)) kr_ ?_
 refine wy_ 10 [9] rfl (Yd.mul rfl rfl (by omega) (by omega)) kr_ ?_
 refine WAG.ren (v := .int .i64 ((8 * (size - 1 - i) : Nat) : Int)) (congrArg (Value.int .i64) (by omega)) ?_
 refine wy_ 11 [10, 5] rfl (Yd.shr64 _ (8 * (size - 1 - i)) rfl rfl rfl rfl) kr_ ?_
 refine wy_ 12 [11] rfl (Yd.conv64_8 _ kr_ kr_ rfl rfl) kr_ ?_
 refine ws_ [(13, [12])] kr_ (all_c ?_ (all_n))
 refine so_ (j := 13) [_] rfl (SO.h rfl Wt.none rfl (Hd.build1 (e := 5) (z := .int .u8 0) kr_ kr_ kr_ rfl rfl fun rb => ⟨_, rfl, ?_⟩))
 refine wk_ [_, _, _, _, _, _, _, _, _, _, _, _] (_ :: ([_] ++ _)) rfl rfl (all_c (wf_ [3] rfl (QAt.rd Wt.none (Rd.load1 kr_ rfl mem_ (by rfl))) kr_) all_n) ?_
 refine ws_ [(14, [4])] kr_ (all_c ?_ (all_n))
 refine so_ (j := 14) [_] rfl ?_
 refine SO.h rfl Wt.none rfl (Hd.appendBs (e := 5) (zs := [.int .u8 0]) kr_ kr_ rfl rfl rfl hu sp_ (Bs.block (bs := [(n >>> (8 * (size - 1 - i))).setWidth 8]) rfl (by simp) mem_) (by simp only [List.length_cons, List.length_nil]; omega) fun u2 C2 hu2 => ⟨_, rfl, ?_⟩)
 refine wk_ [_, _, _, _, _, _, _, _, _, _, _] (_ :: ([_] ++ _)) rfl rfl all_n (wy_ 15 [11, 10, 9, 8, 7, 6, 5, 3, 2, 1, 0] rfl (Yd.notNil rfl) kr_ ?_)
 refine wy_ 16 [15, 11, 10, 9, 8, 7, 6, 5, 3, 2, 1, 0] rfl (Yd.fieldAddr (k := 0) kr_ rfl) kr_ ?_
 refine ws_ [(17, [16, 11, 10, 9, 8, 7, 6, 5, 3, 2, 1, 0])] kr_ (all_c ?_ (all_n))
 refine so_ (j := 17) [_, _, _, _, _, _, _, _, _, _, _, _] rfl (SO.s rfl Wt.none (Hd.store1s kr_ rfl rfl hu2.one_cell fr_ (by rfl) rfl ⟨rfl, ?_⟩))
 refine wk_ [_] (([_, _, _, _, _, _, _, _, _, _, _, _] ++ _)) rfl rfl all_n (wd_ [_] rfl kr_ ?_)
 refine DN.block_normal (DN.then_normal (WC.region (WL.y rfl (Yd.add rfl rfl (by omega) (by omega)) ?_)))
 refine m_ rfl rfl (WL.nil ?_)
 exact DN.againS (⟨i + 1, u2, C2⟩) (show (i + 1) ≤ size ∧ Ob 5 u2 (l ++ (beW n size).take (i + 1)) C2 from ⟨by omega, by rw [beW_next n size i hlt, ← List.append_assoc]; exact hu2⟩) (show size - (i + 1) < size - i by omega) (Sx.put rfl (sx_)) sp_
 have hie : i = size := by omega
 subst hie
 refine WC.exit (DN.then_exit (DN.then_exit (DN.block_exit (ts_ (WC.region (m_ rfl rfl (a_ rfl rfl (nt_ (WC.ret (DN.ret1 Tryz.results76 rfl (⟨rfl, _, Cu, ?_, rfl⟩)))))))))))
 rw [List.take_of_length_le (by rw [beW_length]; omega)] at hu ⊢
 exact hu
theorem wU8_tells (bw : Nat) (v : Value) (l : List (BitVec 8)) (C : List Ck) (n : BitVec 8) (ho : Ob 5 v l C) (hl : l.length ≤ 1000000) : Tells Tryz.prog 42 [.pointer (some ⟨bw, 0, none⟩), .int .u8 n.toNat] (row bw [v, .bool false] 159 :: C) fun r H' => r = .pointer (some ⟨bw, 0, none⟩) ∧ ∃ v' C', Ob 5 v' (l ++ [n]) C' ∧ H' = row bw [v', .bool false] 159 :: C' := by
 refine Tells.enter Tryz.func42 rfl Tryz.ntmps42 rfl ?_
 intro w0 R
 refine sr_ (a_ rfl rfl (ntsr_ (m_ rfl rfl (m_ rfl rfl (WL.y rfl (Yd.conv8_64 _ kr_ kr_ rfl rfl) ?_)))))
 refine WL.ca rfl (Ent.func Tryz.call76 rfl) (put_tells bw v l C (n.setWidth 64) 1 (by omega) ho hl) ?_
 rintro x H1 ⟨rfl, v', C', ho', rfl⟩
 refine a_ rfl rfl (nt_ (WC.ret (DN.ret1 Tryz.results42 rfl ?_)))
 exact ⟨rfl, v', C', by rw [beW_one] at ho'; exact ho', rfl⟩
theorem wU32_tells (bw : Nat) (v : Value) (l : List (BitVec 8)) (C : List Ck) (n : BitVec 32) (ho : Ob 5 v l C) (hl : l.length ≤ 1000000) : Tells Tryz.prog 43 [.pointer (some ⟨bw, 0, none⟩), .int .u32 n.toNat] (row bw [v, .bool false] 159 :: C) fun r H' => r = .pointer (some ⟨bw, 0, none⟩) ∧ ∃ v' C', Ob 5 v' (l ++ beW (n.setWidth 64) 4) C' ∧ H' = row bw [v', .bool false] 159 :: C' := by
 refine Tells.enter Tryz.func43 rfl Tryz.ntmps43 rfl ?_
 intro w0 R
 refine sr_ (a_ rfl rfl (ntsr_ (m_ rfl rfl (m_ rfl rfl (WL.y rfl (Yd.conv32_64 _ kr_ kr_ rfl rfl) ?_)))))
 refine WL.ca rfl (Ent.func Tryz.call76 rfl) (put_tells bw v l C (n.setWidth 64) 4 (by omega) ho hl) ?_
 rintro x H1 ⟨rfl, v', C', ho', rfl⟩
 exact a_ rfl rfl (nt_ (WC.ret (DN.ret1 Tryz.results43 rfl (⟨rfl, v', C', ho', rfl⟩))))
theorem wText_tells (bw : Nat) (v : Value) (l : List (BitVec 8)) (C : List Ck) (H : List Ck) (vs : Value) (s : List (BitVec 8)) (hs : Bs vs s H) (hsl : s.length ≤ 255) (ho : Ob 5 v l C) (hl : l.length ≤ 900000) : Tells Tryz.prog 44 [.pointer (some ⟨bw, 0, none⟩), vs] (row bw [v, .bool false] 159 :: (C ++ H)) fun r H' => r = .pointer (some ⟨bw, 0, none⟩) ∧ ∃ v' C', Ob 5 v' (l ++ tb s) C' ∧ H' = row bw [v', .bool false] 159 :: (C' ++ H) := by
 refine Tells.enter Tryz.func44 rfl Tryz.ntmps44 rfl ?_
 intro w0 R
 obtain ⟨so, sc, rfl, hsc⟩ := hs.form
 refine sr_ (a_ rfl rfl (nt_ (WC.seq (WC.block (sr_ (m_ rfl rfl (WL.y rfl (Yd.eqlNil Tryz.underlying90 rfl rfl) (WL.renamed (t := 7) (v := .bool false) rfl (congrArg Value.bool (rfl)) (a_ rfl rfl (nt_ (WC.no rfl (sr_ (m_ rfl rfl ?_)))))))))))))
 refine WL.y rfl (Yd.len (e := 5) kr_ rfl) ?_
 refine WL.y rfl (Yd.gtr rfl rfl) (WL.renamed (t := 11) (v := .bool false) rfl (congrArg Value.bool (decide_eq_false (by omega))) ?_)
 refine a_ rfl rfl (nt_ (WC.no rfl (WC.skip (DN.block_normal (ts_ (WC.region (m_ rfl rfl (m_ rfl rfl (WL.y rfl (Yd.len (e := 5) kr_ rfl) ?_)))))))))
 refine WL.y rfl (Yd.to8 _ kr_ kr_ rfl rfl) ?_
 refine WL.c rfl (Ent.func Tryz.call42 rfl) (wU8_tells bw v l C (BitVec.ofInt 8 (s.length : Int)) ho (by omega)) (Sp.p sp_) ?_
 rintro x H1 ⟨rfl, v1, C1, ho1, rfl⟩
 obtain ⟨o1, c1, rfl, hc1⟩ := ho1.form
 refine ntsr_ (m_ rfl rfl (m_ rfl rfl (n_ rfl rfl (f_ 0 kr_ rfl rfl ?_))))
 refine d_ kr_ rfl mem_ (by rfl) rfl ?_
 refine m_ rfl rfl ?_
 refine WL.h rfl (Hd.appendBs (e := 5) (zs := [.int .u8 0]) kr_ kr_ rfl rfl rfl ho1 sp_ (hs.mono gr_) (by simp only [List.length_append, List.length_cons, List.length_nil]; omega) fun v2 C2 ho2 => ⟨_, rfl, ?_⟩)
 obtain ⟨o2, c2, rfl, hc2⟩ := ho2.form
 refine n_ rfl rfl (f_ 0 kr_ rfl rfl ?_)
 refine WL.s (Hd.store1s kr_ rfl rfl (by rfl) fr_ (by rfl) (by first | (simp only [List.set_cons_zero, List.set_cons_succ, Nat.zero_add, Nat.add_zero, Nat.reduceAdd]; rfl) | rfl) ⟨rfl, ?_⟩)
 refine ntsr_ (m_ rfl rfl (a_ rfl rfl (nt_ (WC.ret (DN.fit (C := row bw [.slice o2 ((l ++ [BitVec.ofInt 8 (s.length : Int)]) ++ s).length c2, .bool false] 159 :: (C2 ++ H)) sp_ ?_)))))
 refine DN.ret1 Tryz.results44 rfl ?_
 exact ⟨rfl, _, C2, by rw [List.append_assoc] at ho2; exact ho2, by rw [List.append_assoc]⟩
theorem wDone_tells (bw : Nat) (v : Value) (l : List (BitVec 8)) (C : List Ck) (ho : Ob 5 v l C) (hl : l.length ≤ 1000000) : Tells Tryz.prog 45 [.pointer (some ⟨bw, 0, none⟩)] (row bw [v, .bool false] 159 :: C) fun r H' => ∃ v' C', r = .tuple #[v', .int .i64 0] ∧ Ob 5 v' l C' ∧ H' = C' := by
 refine Tells.enter Tryz.func45 rfl Tryz.ntmps45 rfl ?_
 intro w0 R
 obtain ⟨vo, vc, rfl, hvc⟩ := ho.form
 refine sr_ (a_ rfl rfl (a_ rfl rfl (nt_ (WC.seq (WC.block (sr_ (m_ rfl rfl (WL.y rfl (Yd.eqlNil Tryz.underlying90 rfl rfl) (WL.renamed (t := 6) (v := .bool false) rfl (congrArg Value.bool (rfl)) (a_ rfl rfl (nt_ (WC.no rfl (sr_ ?_)))))))))))))
 refine m_ rfl rfl (n_ rfl rfl (f_ 1 kr_ rfl rfl ?_))
 refine d_ kr_ rfl mem_ (by rfl) rfl ?_
 refine WL.renamed (t := 11) (v := .bool false) rfl (congrArg Value.bool (rfl)) (a_ rfl rfl (nt_ (WC.no rfl (WC.skip (DN.block_normal (ts_ (WC.region (WL.h rfl (Hd.buildBytes (e := 5) [] kr_ kr_ kr_ rfl rfl kr_ fun b12 => ⟨_, rfl, ?_⟩)))))))))
 refine m_ rfl rfl (n_ rfl rfl (f_ 0 kr_ rfl rfl ?_))
 refine d_ kr_ rfl mem_ (by rfl) rfl ?_
 refine WL.h rfl (Hd.appendBs (e := 5) (zs := [.int .u8 0]) kr_ kr_ rfl rfl rfl (Ob.block b12 [] (by simp)) sp_ (ho.bs.mono gr_) (by simp; omega) fun v' C' ho' => ⟨_, rfl, ?_⟩)
 refine a_ rfl rfl (a_ rfl rfl (nt_ (WC.ret (DN.fit (C := C') sp_ ?_))))
 exact DN.ret2 Tryz.results45 rfl rfl (⟨v', C', rfl, by simpa using ho', rfl⟩)
theorem newReader_tells (v : Value) (bs : List (BitVec 8)) (H : List Ck) (hv : Bs v bs H) (hl : bs.length ≤ 1000000) : Tells Tryz.prog 47 [v] H fun r H' => ∃ b v' C', r = .pointer (some ⟨b, 0, none⟩) ∧ Bs v' bs C' ∧ H' = row b [v', .bool false] 163 :: (C' ++ H) := by
 refine Tells.enter Tryz.func47 rfl Tryz.ntmps47 rfl ?_
 intro w0 R
 refine sr_ (a_ rfl rfl (ntsr_ (WL.h rfl (Hd.buildBytes (e := 5) [] kr_ kr_ kr_ rfl rfl kr_ fun b3 => ⟨_, rfl, ?_⟩))))
 refine m_ rfl rfl ?_
 refine WL.h rfl (Hd.appendBs (e := 5) (zs := [.int .u8 0]) kr_ kr_ rfl rfl rfl (Ob.block b3 [] (by simp)) sp_ (hv.mono gr_) (by simp; omega) fun v' C' ho' => ⟨_, rfl, ?_⟩)
 rw [List.nil_append] at ho'
 obtain ⟨vo, vc, rfl, hvc⟩ := ho'.form
 refine WL.y rfl (Yd.buildL (pl := [(0, 1), (1, 1)]) (zs := [.slice none 0 0, .bool false]) (parts := [(0, .tmp 5)]) (vs := [(0, _)]) (cells := [_, .bool false]) kr_ kr_ rfl rfl) ?_
 refine WL.h rfl (Hd.boxA rfl fun b => ⟨_, rfl, ?_⟩)
 refine a_ rfl rfl (nt_ (WC.ret (DN.fit (C := row b [.slice vo bs.length vc, .bool false] 163 :: (C' ++ H)) sp_ ?_)))
 exact DN.ret1 Tryz.results47 rfl (⟨b, _, C', rfl, ho'.bs, rfl⟩)
theorem take_tells (br : Nat) (u : Value) (bs : List (BitVec 8)) (sh : Bool) (C : List Ck) (k : Nat) (hu : Bs u bs C) (hl : bs.length ≤ 1000000) (hk : k ≤ 1000) : Tells Tryz.prog 79 [.pointer (some ⟨br, 0, none⟩), .int .i64 k] (row br [u, .bool sh] 163 :: C) fun r H' => ∃ u', Bs r (rdGot bs sh k) C ∧ Bs u' (rdRest bs sh k) C ∧ H' = row br [u', .bool (rdShort bs sh k)] 163 :: C := by
 refine Tells.enter Tryz.func79 rfl Tryz.ntmps79 rfl ?_
 intro w0 R
 obtain ⟨uo, uc, rfl, huc⟩ := hu.form
 refine sr_ (a_ rfl rfl (nt_ (WC.seq (sr_ (m_ rfl rfl (WL.y rfl (Yd.eqlNil Tryz.underlying100 rfl rfl) (WL.renamed (t := 7) (v := .bool false) rfl (congrArg Value.bool (rfl)) (nt_ (WC.no rfl (WC.skip (ts_ (sr_ (m_ rfl rfl ?_)))))))))))))
 refine m_ rfl rfl (n_ rfl rfl (f_ 1 kr_ rfl rfl ?_))
 refine d_ kr_ rfl mem_ (by rfl) rfl ?_
 refine m_ rfl rfl (WL.part (t := 13) rfl (fun hg13 => ?_) (fun hg13 => ?_))
 iterate 7 refine gn_ 13 rfl rfl rfl rfl ?_
 refine WL.y rfl (Yd.pickT rfl rfl) ?_
 refine WL.renamed (t := 21) (v := .bool (rdShort bs sh k)) rfl (congrArg Value.bool (by subst hg13; simp [rdShort])) ?_
 refine n_ rfl rfl (f_ 1 kr_ rfl rfl ?_)
 refine WL.s (Hd.store1s kr_ rfl rfl (by rfl) fr_ (by rfl) (by first | (simp only [List.set_cons_zero, List.set_cons_succ, Nat.zero_add, Nat.add_zero, Nat.reduceAdd]; rfl) | rfl) ⟨rfl, ?_⟩)
 refine ntsr_ (m_ rfl rfl (n_ rfl rfl (f_ 1 kr_ rfl rfl ?_)))
 refine d_ kr_ rfl mem_ (by rfl) rfl ?_
 refine nt_ (WC.cond rfl (fun h27 => ?_) (fun h27 => ?_))
 have hgot : rdGot bs sh k = [] := by simp [rdGot, h27]
 have hrest : rdRest bs sh k = bs := by simp [rdRest, h27]
 refine sr_ (a_ rfl rfl (nt_ (WC.ret (DN.then_ret (DN.ret1 Tryz.results79 rfl ?_)))))
 exact ⟨_, by rw [hgot]; exact .inl ⟨_, _, rfl, rfl, rfl⟩, by rw [hrest]; exact hu, rfl⟩
 have hgot : rdGot bs sh k = bs.take k := by simp [rdGot, h27]
 have hrest : rdRest bs sh k = bs.drop k := by simp [rdRest, h27]
 have hkl : k ≤ bs.length := by simp [rdShort] at h27; omega
 refine WC.skip (ts_ (WC.region (m_ rfl rfl (n_ rfl rfl (f_ 0 kr_ rfl rfl ?_)))))
 refine d_ kr_ rfl mem_ (by rfl) rfl ?_
 refine m_ rfl rfl (WL.y rfl (Yd.sliceTo (e := 5) (s := 1) (j := k) kr_ kr_ rfl rfl rfl (by omega)) ?_)
 refine a_ rfl rfl (ntsr_ (m_ rfl rfl (m_ rfl rfl (n_ rfl rfl (f_ 0 kr_ rfl rfl ?_)))))
 refine d_ kr_ rfl mem_ (by rfl) rfl ?_
 refine m_ rfl rfl (WL.y rfl (Yd.slice (e := 5) (s := 1) (i := k) (j := bs.length) kr_ kr_ rfl ⟨_, _, rfl, rfl⟩ rfl hkl (by omega)) ?_)
 refine n_ rfl rfl (f_ 0 kr_ rfl rfl ?_)
 refine WL.s (Hd.store1s kr_ rfl rfl (by rfl) fr_ (by rfl) (by first | (simp only [List.set_cons_zero, List.set_cons_succ, Nat.zero_add, Nat.add_zero, Nat.reduceAdd]; rfl) | rfl) ⟨rfl, ?_⟩)
 refine ntsr_ (m_ rfl rfl (a_ rfl rfl (nt_ (WC.ret (DN.ret1 Tryz.results79 rfl ?_)))))
 exact ⟨_, by rw [hgot]; exact hu.upto hkl, by rw [hrest]; have := hu.sub (i := k) (j := bs.length) hkl (Nat.le_refl _); rwa [List.take_of_length_le (by simp)] at this, rfl⟩
 refine gy_ 13 rfl rfl rfl (Yd.move rfl) (gy_ 13 rfl rfl rfl (Yd.notNil rfl) (gy_ 13 rfl rfl rfl (Yd.fieldAddr (k := 0) kr_ rfl) ?_))
 refine WL.gh (dj := 13) rfl rfl rfl (Hd.load1 kr_ rfl mem_ (by rfl) ⟨_, rfl, ?_⟩)
 refine gy_ 13 rfl rfl rfl (Yd.len (e := 5) kr_ rfl) ?_
 refine gy_ 13 rfl rfl rfl (Yd.move rfl) (gy_ 13 rfl rfl rfl (Yd.lss rfl rfl) (WL.y rfl (Yd.pickF rfl rfl) ?_))
 refine WL.renamed (t := 21) (v := .bool (rdShort bs sh k)) rfl (congrArg Value.bool (by subst hg13; simp [rdShort])) ?_
 refine n_ rfl rfl (f_ 1 kr_ rfl rfl ?_)
 refine WL.s (Hd.store1s kr_ rfl rfl (by rfl) fr_ (by rfl) (by first | (simp only [List.set_cons_zero, List.set_cons_succ, Nat.zero_add, Nat.add_zero, Nat.reduceAdd]; rfl) | rfl) ⟨rfl, ?_⟩)
 refine ntsr_ (m_ rfl rfl (n_ rfl rfl (f_ 1 kr_ rfl rfl ?_)))
 refine d_ kr_ rfl mem_ (by rfl) rfl ?_
 refine nt_ (WC.cond rfl (fun h27 => ?_) (fun h27 => ?_))
 have hgot : rdGot bs sh k = [] := by simp [rdGot, h27]
 have hrest : rdRest bs sh k = bs := by simp [rdRest, h27]
 refine sr_ (a_ rfl rfl (nt_ (WC.ret (DN.then_ret (DN.ret1 Tryz.results79 rfl ?_)))))
 exact ⟨_, by rw [hgot]; exact .inl ⟨_, _, rfl, rfl, rfl⟩, by rw [hrest]; exact hu, rfl⟩
 have hgot : rdGot bs sh k = bs.take k := by simp [rdGot, h27]
 have hrest : rdRest bs sh k = bs.drop k := by simp [rdRest, h27]
 have hkl : k ≤ bs.length := by simp [rdShort] at h27; omega
 refine WC.skip (ts_ (WC.region (m_ rfl rfl (n_ rfl rfl (f_ 0 kr_ rfl rfl ?_)))))
 refine d_ kr_ rfl mem_ (by rfl) rfl ?_
 refine m_ rfl rfl (WL.y rfl (Yd.sliceTo (e := 5) (s := 1) (j := k) kr_ kr_ rfl rfl rfl (by omega)) ?_)
 refine a_ rfl rfl (ntsr_ (m_ rfl rfl (m_ rfl rfl (n_ rfl rfl (f_ 0 kr_ rfl rfl ?_)))))
 refine d_ kr_ rfl mem_ (by rfl) rfl ?_
 refine m_ rfl rfl (WL.y rfl (Yd.slice (e := 5) (s := 1) (i := k) (j := bs.length) kr_ kr_ rfl ⟨_, _, rfl, rfl⟩ rfl hkl (by omega)) ?_)
 refine n_ rfl rfl (f_ 0 kr_ rfl rfl ?_)
 refine WL.s (Hd.store1s kr_ rfl rfl (by rfl) fr_ (by rfl) (by first | (simp only [List.set_cons_zero, List.set_cons_succ, Nat.zero_add, Nat.add_zero, Nat.reduceAdd]; rfl) | rfl) ⟨rfl, ?_⟩)
 refine ntsr_ (m_ rfl rfl (a_ rfl rfl (nt_ (WC.ret (DN.ret1 Tryz.results79 rfl ?_)))))
 exact ⟨_, by rw [hgot]; exact hu.upto hkl, by rw [hrest]; have := hu.sub (i := k) (j := bs.length) hkl (Nat.le_refl _); rwa [List.take_of_length_le (by simp)] at this, rfl⟩
theorem number_tells (br : Nat) (u : Value) (bs : List (BitVec 8)) (sh : Bool) (C : List Ck) (k : Nat) (hu : Bs u bs C) (hl : bs.length ≤ 1000000) (hk : k ≤ 8) : Tells Tryz.prog 78 [.pointer (some ⟨br, 0, none⟩), .int .i64 k] (row br [u, .bool sh] 163 :: C) fun r H' => ∃ u', r = .int .u64 (beN (rdGot bs sh k)).toNat ∧ Bs u' (rdRest bs sh k) C ∧ H' = row br [u', .bool (rdShort bs sh k)] 163 :: C := by
 refine Tells.enter Tryz.func78 rfl Tryz.ntmps78 rfl ?_
 intro w0 R
 refine sr_ (WL.y rfl (Yd.assign (v := .int .u64 ((0#64).toNat : Int)) rfl) (ntsr_ (WL.y rfl (Yd.assign (v := .int .u64 ((0#64).toNat : Int)) rfl) (nt_ (WC.seq (sr_ (m_ rfl rfl (m_ rfl rfl (WL.ca rfl (Ent.func Tryz.call79 rfl) (take_tells br u bs sh C k hu hl (by omega)) ?_)))))))))
 rintro x H1 ⟨u', hx, hu', rfl⟩
 obtain ⟨got, hgot⟩ : ∃ got, got = rdGot bs sh k := ⟨_, rfl⟩
 rw [← hgot] at hx
 rw [← hgot]
 have hgl : got.length ≤ 8 := by have := rdGot_len bs sh k; rw [hgot]; omega
 obtain ⟨xo, xc, rfl, hxc⟩ := hx.form
 refine WL.y rfl (Yd.len (e := 5) kr_ rfl) ?_
 refine m_ rfl rfl (nt_ (WC.block (WC.loopS (fun z : Nat => z ≤ got.length) (fun z : Nat => [(5, .int .u64 (beN (got.take z)).toNat), (12, .int .i64 (z : Int))]) (fun z : Nat => row br [u', .bool (rdShort bs sh k)] 163 :: C) (fun z : Nat => got.length - z) (0) (show 0 ≤ got.length from Nat.zero_le _) (Sx.put rfl (Sx.put rfl (sx_))) sp_ ?_)))
 rintro i hI
 replace hI : i ≤ got.length := hI
 obtain hi := hI
 change WC _ _ _ _ _ _ ([(5, .int .u64 (beN (got.take i)).toNat), (12, .int .i64 (i : Int))] ++ _) (row br [u', .bool (rdShort bs sh k)] 163 :: C)
 refine sr_ (WL.y rfl (Yd.lss rfl rfl) (nt_ (WC.seq (WC.ite rfl (fun h13 => ?_) (fun h13 => ?_)))))
 have hlt : i < got.length := by omega
 refine WC.skip (ts_ (WC.block (sr_ (WL.elem (e := 5) kr_ kr_ kr_ rfl rfl (rfl) (hx.mono gr_) (bc_get hlt) (hlt) rfl rfl ?_))))
 intro _
 refine a_ rfl rfl (ntr_ (m_ rfl rfl (WL.y rfl (Yd.shl64 _ 8 rfl rfl rfl rfl) (m_ rfl rfl (WL.y rfl (Yd.conv8_64 _ kr_ kr_ rfl rfl) ?_)))))
 refine WL.y rfl (Yd.or64 _ _ rfl rfl rfl rfl) (a_ rfl rfl (WL.nil (DN.block_normal (DN.then_normal (WC.region (WL.y rfl (Yd.add rfl rfl (by omega) (by omega)) ?_))))))
 refine m_ rfl rfl (WL.nil ?_)
 rw [← beN_next got i hlt]
 exact DN.againS (i + 1) (by show i + 1 ≤ got.length; omega) (by show got.length - (i + 1) < got.length - i; omega) ((Sx.put rfl (Sx.put rfl (sx_)))) sp_
 have hie : i = got.length := by omega
 subst hie
 rw [List.take_length]
 exact WC.exit (DN.then_exit (DN.then_exit (DN.block_exit (ts_ (WC.region (m_ rfl rfl (a_ rfl rfl (nt_ (WC.ret (DN.ret1 Tryz.results78 rfl (⟨u', rfl, hu', rfl⟩)))))))))))
theorem rU8_tells (br : Nat) (u : Value) (bs : List (BitVec 8)) (sh : Bool) (C : List Ck) (hu : Bs u bs C) (hl : bs.length ≤ 1000000) : Tells Tryz.prog 48 [.pointer (some ⟨br, 0, none⟩)] (row br [u, .bool sh] 163 :: C) fun r H' => ∃ u', r = .int .u8 ((beN (rdGot bs sh 1)).setWidth 8).toNat ∧ Bs u' (rdRest bs sh 1) C ∧ H' = row br [u', .bool (rdShort bs sh 1)] 163 :: C := by
 refine Tells.enter Tryz.func48 rfl Tryz.ntmps48 rfl ?_
 intro w0 R
 refine sr_ (WL.y rfl (Yd.assign (v := .int .u8 ((0#8).toNat : Int)) rfl) (ntsr_ (m_ rfl rfl (WL.ca rfl (Ent.func Tryz.call78 rfl) (number_tells br u bs sh C 1 hu hl (by omega)) ?_))))
 rintro x H1 ⟨u', rfl, hu', rfl⟩
 refine WL.y rfl (Yd.conv64_8 _ kr_ kr_ rfl rfl) ?_
 exact a_ rfl rfl (nt_ (WC.ret (DN.ret1 Tryz.results48 rfl (⟨u', rfl, hu', rfl⟩))))
theorem rU32_tells (br : Nat) (u : Value) (bs : List (BitVec 8)) (sh : Bool) (C : List Ck) (hu : Bs u bs C) (hl : bs.length ≤ 1000000) : Tells Tryz.prog 49 [.pointer (some ⟨br, 0, none⟩)] (row br [u, .bool sh] 163 :: C) fun r H' => ∃ u', r = .int .u32 ((beN (rdGot bs sh 4)).setWidth 32).toNat ∧ Bs u' (rdRest bs sh 4) C ∧ H' = row br [u', .bool (rdShort bs sh 4)] 163 :: C := by
 refine Tells.enter Tryz.func49 rfl Tryz.ntmps49 rfl ?_
 intro w0 R
 refine sr_ (WL.y rfl (Yd.assign (v := .int .u32 ((0#32).toNat : Int)) rfl) (ntsr_ (m_ rfl rfl (WL.ca rfl (Ent.func Tryz.call78 rfl) (number_tells br u bs sh C 4 hu hl (by omega)) ?_))))
 rintro x H1 ⟨u', rfl, hu', rfl⟩
 refine WL.y rfl (Yd.conv64_32 _ kr_ kr_ rfl rfl) ?_
 exact a_ rfl rfl (nt_ (WC.ret (DN.ret1 Tryz.results49 rfl (⟨u', rfl, hu', rfl⟩))))
theorem rText_tells (br : Nat) (u : Value) (bs : List (BitVec 8)) (sh : Bool) (C : List Ck) (hu : Bs u bs C) (hl : bs.length ≤ 1000000) : Tells Tryz.prog 50 [.pointer (some ⟨br, 0, none⟩)] (row br [u, .bool sh] 163 :: C) fun r H' => ∃ u' A, Ob 5 r (txGot bs sh) A ∧ Bs u' (rdRest bs sh (txN bs)) C ∧ H' = A ++ (row br [u', .bool (rdShort bs sh (txN bs))] 163 :: C) := by
 refine Tells.enter Tryz.func50 rfl Tryz.ntmps50 rfl ?_
 intro w0 R
 obtain ⟨uo, uc, rfl, huc⟩ := hu.form
 refine sr_ (a_ rfl rfl (nt_ (WC.seq (sr_ (m_ rfl rfl (WL.y rfl (Yd.eqlNil Tryz.underlying100 rfl rfl) (WL.renamed (t := 6) (v := .bool false) rfl (congrArg Value.bool (rfl)) (nt_ (WC.no rfl (WC.skip (ts_ (WC.region (a_ rfl rfl ?_)))))))))))))
 refine nt_ (WC.cutK (fun _z : Unit => True) (fun _z : Unit => [(3, .int .i64 (txN bs : Int))]) (fun _z : Unit => row br [.slice uo bs.length uc, .bool sh] 163 :: C) ?_ ?_)
 refine sr_ (m_ rfl rfl (n_ rfl rfl (f_ 0 kr_ rfl rfl ?_)))
 refine d_ kr_ rfl mem_ (by rfl) rfl ?_
 refine WL.y rfl (Yd.len (e := 5) kr_ rfl) ?_
 refine WL.y rfl (Yd.gtr rfl rfl) (nt_ (WC.ite rfl (fun h12 => ?_) (fun h12 => ?_)))
 refine WC.region (m_ rfl rfl (m_ rfl rfl (n_ rfl rfl (f_ 0 kr_ rfl rfl ?_))))
 refine d_ kr_ rfl mem_ (by rfl) rfl ?_
 refine WL.elem (e := 5) kr_ kr_ kr_ rfl rfl (by rfl) (hu.mono gr_) (show (bc bs)[0]? = some (.int .u8 (bs.headD 0#8).toNat) by cases bs with | nil => simp at h12 | cons x t => rfl) (by omega) rfl rfl ?_
 intro _
 refine WL.y rfl (Yd.int8 _ kr_ kr_ rfl rfl) ?_
 refine WL.y rfl (Yd.add rfl rfl (by omega) (by omega)) ?_
 refine a_ rfl rfl (WL.nil ?_)
 rw [show (1 : Int) + ((bs.headD 0#8).toNat : Int) = ((txN bs : Nat) : Int) by unfold txN; omega]
 exact DN.reachK (()) (trivial) (Sx.put rfl (sx_)) (Sp.all sp_)
 refine WC.skip ?_
 have hb0 : bs = [] := List.eq_nil_of_length_eq_zero (by omega)
 have hn1 : txN bs = 1 := by rw [hb0]; rfl
 rw [hn1]
 exact DN.reachK (()) (trivial) (Sx.put rfl (sx_)) (Sp.all sp_)
 intro _ _
 have htx := txN_le bs
 refine sr_ (m_ rfl rfl (m_ rfl rfl (WL.ca rfl (Ent.func Tryz.call79 rfl) (take_tells br _ bs sh C (txN bs) hu hl (by omega)) ?_)))
 rintro x H1 ⟨u', hx, hu', rfl⟩
 obtain ⟨got, hgot⟩ : ∃ got, got = rdGot bs sh (txN bs) := ⟨_, rfl⟩
 rw [← hgot] at hx
 have htg : txGot bs sh = got.drop 1 := by rw [hgot]; rfl
 have hgl : got.length ≤ 256 := by have := rdGot_len bs sh (txN bs); rw [hgot]; omega
 obtain ⟨xo, xc, rfl, hxc⟩ := hx.form
 refine a_ rfl rfl (nt_ (WC.seq (sr_ (m_ rfl rfl (WL.y rfl (Yd.len (e := 5) kr_ rfl) ?_)))))
 refine WL.y rfl (Yd.eql rfl rfl) (nt_ (WC.ite rfl (fun h27 => ?_) (fun h27 => ?_)))
 have hg0 : got = [] := List.eq_nil_of_length_eq_zero (by omega)
 refine sr_ (a_ rfl rfl (nt_ (WC.ret (DN.then_ret (DN.fit (C := row br [u', .bool (rdShort bs sh (txN bs))] 163 :: C) sp_ ?_)))))
 refine DN.ret1 Tryz.results50 rfl ?_
 exact ⟨u', [], by rw [htg, hg0]; exact Ob.nil _, hu', rfl⟩
 refine WC.skip (ts_ (WC.region (WL.h rfl (Hd.buildBytes (e := 5) [] kr_ kr_ kr_ rfl rfl kr_ fun b28 => ⟨_, rfl, ?_⟩))))
 refine m_ rfl rfl (WL.y rfl (Yd.slice (e := 5) (s := 1) (i := 1) (j := got.length) kr_ kr_ rfl ⟨_, _, rfl, rfl⟩ rfl (by omega) (by omega)) ?_)
 refine WL.h rfl (Hd.appendBs (e := 5) (zs := [.int .u8 0]) (b := got.drop 1) kr_ kr_ rfl rfl rfl (Ob.block b28 [] (by simp)) sp_ (by have := hx.sub (i := 1) (j := got.length) (by omega) (Nat.le_refl _); rw [List.take_of_length_le (by simp)] at this; exact this.mono gr_) (by simp; omega) fun v' A ho' => ⟨_, rfl, ?_⟩)
 refine a_ rfl rfl (nt_ (WC.ret (DN.fit (C := A ++ (row br [u', .bool (rdShort bs sh (txN bs))] 163 :: C)) sp_ ?_)))
 refine DN.ret1 Tryz.results50 rfl ?_
 exact ⟨u', A, by rw [htg]; simpa using ho', hu', rfl⟩
theorem rDone_tells (br : Nat) (u : Value) (bs : List (BitVec 8)) (sh : Bool) (C : List Ck) (hu : Bs u bs C) : Reads Tryz.prog 51 [.pointer (some ⟨br, 0, none⟩)] (row br [u, .bool sh] 163 :: C) (.int .i64 (if sh then 10 else if 0 < bs.length then 11 else 0)) := by
 refine Tells.enter Tryz.func51 rfl Tryz.ntmps51 rfl ?_
 intro w0 R
 obtain ⟨uo, uc, rfl, huc⟩ := hu.form
 refine sr_ (a_ rfl rfl (nt_ (WC.seq (WC.block (sr_ (m_ rfl rfl (WL.y rfl (Yd.eqlNil Tryz.underlying100 rfl rfl) (WL.renamed (t := 5) (v := .bool false) rfl (congrArg Value.bool (rfl)) (a_ rfl rfl (nt_ (WC.no rfl (sr_ (m_ rfl rfl ?_)))))))))))))
 refine n_ rfl rfl (f_ 1 kr_ rfl rfl ?_)
 refine d_ kr_ rfl mem_ (by rfl) rfl ?_
 refine a_ rfl rfl (nt_ (WC.cond rfl (fun h6 => ?_) (fun h6 => ?_)))
 subst h6
 exact sr_ (a_ rfl rfl (nt_ (WC.ret (DN.block_ret (DN.then_ret (DN.ret1 Tryz.results51 rfl (⟨rfl, rfl⟩)))))))
 subst h6
 refine sr_ (m_ rfl rfl (n_ rfl rfl (f_ 0 kr_ rfl rfl ?_)))
 refine d_ kr_ rfl mem_ (by rfl) rfl ?_
 refine WL.y rfl (Yd.len (e := 5) kr_ rfl) ?_
 refine WL.y rfl (Yd.gtr rfl rfl) (a_ rfl rfl (nt_ (WC.ite rfl (fun h11 => ?_) (fun h11 => ?_))))
 exact sr_ (a_ rfl rfl (nt_ (WC.ret (DN.block_ret (DN.then_ret (DN.ret1 Tryz.results51 rfl (⟨by rw [if_neg (by decide), if_pos (by omega)], rfl⟩)))))))
 exact WC.skip (DN.block_normal (ts_ (WC.region (a_ rfl rfl (nt_ (WC.ret (DN.ret1 Tryz.results51 rfl (⟨by rw [if_neg (by decide), if_neg (by omega)], rfl⟩))))))))
end Go.Proofs.YtkamlondepceiaaGreat

set_option linter.unusedVariables false
set_option linter.unusedSimpArgs false
set_option maxHeartbeats 4000000
namespace Go.Proofs.YtkamlondepceiaaGreat
open Go.SL
theorem same_no {α : Type} {xs ys : List α} (h : xs.length ≠ ys.length) : ¬ xs = ys := fun e => h (by rw [e])
theorem same_yes {α : Type} {xs ys : List α} (hl : xs.length = ys.length) (h : ∀ (j : Nat) (h1 : j < xs.length) (h2 : j < ys.length), xs[j] = ys[j]) : xs = ys := List.ext_getElem hl h
def g2c (g : Gd) : ByteArray × Int := (g.name, g.free)
theorem same_gd (x y : Gd) : cellsEq [1, 0] (cellsG x) (cellsG y) = some (decide (g2c x = g2c y)) := by
  cases x with | mk a b c =>
  cases y with | mk a' b' c' =>
  simp only [cellsEq, cellEq, cellsG, if_true, Option.bind_some, Option.map_some, Option.some.injEq, g2c, Prod.mk.injEq]
  rw [Bool.eq_iff_iff]
  simp only [Bool.and_eq_true, decide_eq_true_eq, Bool.and_true]
theorem same_auc (x y : Au) : cellsEq [1, 0, 0] (cellsU x) (cellsU y) = some (decide (x = y)) := by
  cases x with | mk a b c =>
  cases y with | mk a' b' c' =>
  simp only [cellsEq, cellEq, cellsU, if_true, Option.bind_some, Option.map_some, Option.some.injEq, Au.mk.injEq]
  rw [Bool.eq_iff_iff]
  simp only [Bool.and_eq_true, decide_eq_true_eq, Bool.and_true]
theorem same_ef (x y : Ef) : cellsEq [0, 0, 2] (efc x) (efc y) = some (decide (x = y)) := by
  cases x with | mk a b c =>
  cases y with | mk a' b' c' =>
  simp only [cellsEq, cellEq, efc, if_true, Option.bind_some, Option.map_some, Option.some.injEq, Ef.mk.injEq]
  rw [Bool.eq_iff_iff]
  simp only [Bool.and_eq_true, decide_eq_true_eq, Bool.and_true, beq_iff_eq]
  constructor
  · rintro ⟨h1, rfl, rfl⟩
    exact ⟨BitVec.eq_of_toNat_eq (by exact_mod_cast h1), rfl, rfl⟩
  rintro ⟨rfl, rfl, rfl⟩
  exact ⟨rfl, rfl, rfl⟩
theorem sameGoods_reads (u v : Value) (xs ys : List Gd) (H : List Ck) (hu : Rs u xs.length (xs.flatMap cellsG) H) (hv : Rs v ys.length (ys.flatMap cellsG) H) (hx : xs.length ≤ 100000000) (hy : ys.length ≤ 100000000) : Reads Tryz.prog 27 [u, v] H (.bool (decide (xs.map g2c = ys.map g2c))) := by
 refine Tells.enter Tryz.func27 rfl Tryz.ntmps27 rfl ?_
 intro w0 R
 obtain ⟨uo, uc, rfl, _⟩ := hu.form
 obtain ⟨vo, vc, rfl, _⟩ := hv.form
 refine sr_ (a_ rfl rfl (nt_ (WC.seq (sr_ (m_ rfl rfl (WL.y rfl (Yd.len (e := 73) kr_ rfl) ?_))))))
 refine m_ rfl rfl (WL.y rfl (Yd.len (e := 73) kr_ rfl) ?_)
 refine WL.y rfl (Yd.neq rfl rfl) (nt_ (WC.cond rfl (fun h10 => ?_) (fun h10 => ?_)))
 have hln : xs.length ≠ ys.length := by simp only [decide_eq_true_eq] at h10; omega
 refine sr_ (a_ rfl rfl (nt_ (WC.ret (DN.then_ret (DN.fit (C := H) sp_ ?_)))))
 refine DN.ret1 Tryz.results27 rfl ?_
 rotate_left
 have hln : xs.length = ys.length := by simp only [decide_eq_false_iff_not] at h10; omega
 refine WC.skip (ts_ (sr_ (a_ rfl rfl (nt_ (WC.block (WC.loopS (fun z : Nat => z ≤ xs.length ∧ ∀ (j : Nat) (h1 : j < xs.length) (h2 : j < ys.length), j < z → g2c xs[j] = g2c ys[j]) (fun z : Nat => [(5, .int .i64 (z : Int))]) (fun z : Nat => H) (fun z : Nat => xs.length - z) (0) (show 0 ≤ xs.length ∧ ∀ (j : Nat) (h1 : j < xs.length) (h2 : j < ys.length), j < 0 → g2c xs[j] = g2c ys[j] from ⟨by omega, fun _ _ _ _ => by omega⟩) (Sx.put rfl (sx_)) sp_ ?_))))))
 rintro i hI
 replace hI : i ≤ xs.length ∧ ∀ (j : Nat) (h1 : j < xs.length) (h2 : j < ys.length), j < i → g2c xs[j] = g2c ys[j] := hI
 obtain ⟨hi, hsame⟩ := hI
 change WC _ _ _ _ _ _ ([(5, .int .i64 (i : Int))] ++ _) (H)
 refine WC.seq (sr_ (m_ rfl rfl (m_ rfl rfl (WL.y rfl (Yd.len (e := 73) kr_ rfl) ?_))))
 refine WL.y rfl (Yd.lss rfl rfl) (nt_ (WC.ite rfl (fun h14 => ?_) (fun h14 => ?_)))
 have hlt : i < xs.length := by omega
 obtain ⟨ub, uf, us, uT, ufr, uex, rfl, _, hum, hus⟩ := hu.lies (by omega)
 obtain ⟨vb, vf, vs, vT, vfr, vex, rfl, _, hvm, hvs⟩ := hv.lies (by omega)
 refine WC.skip (ts_ (WC.block (WC.seq (WC.draw 9 kr_ rfl ?_))))
 refine WAG.start (N := 9) rfl (wy_ 0 [] rfl (Yd.move rfl) kr_ ?_)
 refine wy_ 1 [] rfl (Yd.move rfl) kr_ ?_
 refine wy_ 2 [1, 0] rfl (Yd.indexAddr (e := 73) (s := 2) kr_ kr_ rfl rfl (by omega) (by omega)) kr_ ?_
 refine wq_ (wf_ (i := 3) [2] rfl (QAt.rd Wt.none (Rd.loadA (n := 2) (b := ub) (o := uf + (i : Int).toNat * 2) (cs := us) (vs := cellsG xs[i]) kr_ rfl hum (cellsG_len _) (rs_cell hus (by rw [flat_len cellsG 2 cellsG_len]; omega) (flat_row cellsG 2 cellsG_len xs i (by omega))))) kr_) kr_ ?_
 refine wy_ 4 [] rfl (Yd.move rfl) kr_ ?_
 refine wy_ 5 [] rfl (Yd.move rfl) kr_ ?_
 refine wy_ 6 [5, 4] rfl (Yd.indexAddr (e := 73) (s := 2) kr_ kr_ rfl rfl (by omega) (by omega)) kr_ ?_
 refine wq_ (wf_ (i := 7) [6] rfl (QAt.rd Wt.none (Rd.loadA (n := 2) (b := vb) (o := vf + (i : Int).toNat * 2) (cs := vs) (vs := cellsG ys[i]) kr_ rfl hvm (cellsG_len _) (rs_cell hvs (by rw [flat_len cellsG 2 cellsG_len]; omega) (flat_row cellsG 2 cellsG_len ys i (by omega))))) kr_) kr_ ?_
 refine wy_ 8 [7, 3] rfl (Yd.neqSt [1, 0] kr_ rfl rfl (same_gd _ _)) kr_ ?_
 refine wd_ [_, _, _, _, _, _, _, _, _] rfl kr_ ?_
 refine DN.then_normal (WC.cond rfl (fun h25 => ?_) (fun h25 => ?_))
 have hne : ¬ g2c xs[i] = g2c ys[i] := by simpa using h25
 refine sr_ (a_ rfl rfl (nt_ (WC.ret (DN.block_ret (DN.then_ret (DN.then_ret (DN.block_ret (DN.then_ret (DN.fit (C := H) sp_ ?_)))))))))
 refine DN.ret1 Tryz.results27 rfl ?_
 rotate_left
 have heq : g2c xs[i] = g2c ys[i] := by simpa using h25
 refine WC.skip (DN.block_normal (DN.then_normal (WC.region (m_ rfl rfl (WL.y rfl (Yd.add rfl rfl (by omega) (by omega)) ?_)))))
 refine a_ rfl rfl (WL.nil ?_)
 exact DN.againS (i + 1) (show (i + 1) ≤ xs.length ∧ ∀ (j : Nat) (h1 : j < xs.length) (h2 : j < ys.length), j < (i + 1) → g2c xs[j] = g2c ys[j] from ⟨by omega, fun j h1 h2 hj => by
   rcases Nat.lt_or_ge j i with h | h
   · exact hsame j h1 h2 h
   obtain rfl : j = i := by omega
   exact heq⟩) (show xs.length - (i + 1) < xs.length - i by omega) (Sx.put rfl (sx_)) sp_
 obtain rfl : i = xs.length := by omega
 refine WC.exit (DN.then_exit (DN.then_exit (DN.block_exit (ts_ (WC.region (a_ rfl rfl (nt_ (WC.ret (DN.fit (C := H) sp_ ?_)))))))))
 refine DN.ret1 Tryz.results27 rfl ?_
 rotate_left
 all_goals
  first
    | exact ⟨by rw [decide_eq_false (same_no (xs := xs.map g2c) (ys := ys.map g2c) (by simpa using hln))], rfl⟩
    | exact ⟨by rw [decide_eq_true (same_yes (xs := xs.map g2c) (ys := ys.map g2c) (by simpa using hln) fun j h1 h2 => by simpa using hsame j (by simpa using h1) (by simpa using h2) (by simpa using h1))], rfl⟩
    | exact ⟨by rw [decide_eq_false (fun e => hne (by have e2 := congrArg (fun l => l[i]?) e; simpa [hlt, show i < ys.length by omega] using e2))], rfl⟩
theorem sameAccs_reads (u v : Value) (xs ys : List Au) (H : List Ck) (hu : Rs u xs.length (xs.flatMap cellsU) H) (hv : Rs v ys.length (ys.flatMap cellsU) H) (hx : xs.length ≤ 100000000) (hy : ys.length ≤ 100000000) : Reads Tryz.prog 28 [u, v] H (.bool (decide (xs = ys))) := by
 refine Tells.enter Tryz.func28 rfl Tryz.ntmps28 rfl ?_
 intro w0 R
 obtain ⟨uo, uc, rfl, _⟩ := hu.form
 obtain ⟨vo, vc, rfl, _⟩ := hv.form
 refine sr_ (a_ rfl rfl (nt_ (WC.seq (sr_ (m_ rfl rfl (WL.y rfl (Yd.len (e := 71) kr_ rfl) ?_))))))
 refine m_ rfl rfl (WL.y rfl (Yd.len (e := 71) kr_ rfl) ?_)
 refine WL.y rfl (Yd.neq rfl rfl) (nt_ (WC.cond rfl (fun h10 => ?_) (fun h10 => ?_)))
 have hln : xs.length ≠ ys.length := by simp only [decide_eq_true_eq] at h10; omega
 refine sr_ (a_ rfl rfl (nt_ (WC.ret (DN.then_ret (DN.fit (C := H) sp_ ?_)))))
 refine DN.ret1 Tryz.results28 rfl ?_
 rotate_left
 have hln : xs.length = ys.length := by simp only [decide_eq_false_iff_not] at h10; omega
 refine WC.skip (ts_ (sr_ (a_ rfl rfl (nt_ (WC.block (WC.loopS (fun z : Nat => z ≤ xs.length ∧ ∀ (j : Nat) (h1 : j < xs.length) (h2 : j < ys.length), j < z → xs[j] = ys[j]) (fun z : Nat => [(5, .int .i64 (z : Int))]) (fun z : Nat => H) (fun z : Nat => xs.length - z) (0) (show 0 ≤ xs.length ∧ ∀ (j : Nat) (h1 : j < xs.length) (h2 : j < ys.length), j < 0 → xs[j] = ys[j] from ⟨by omega, fun _ _ _ _ => by omega⟩) (Sx.put rfl (sx_)) sp_ ?_))))))
 rintro i hI
 replace hI : i ≤ xs.length ∧ ∀ (j : Nat) (h1 : j < xs.length) (h2 : j < ys.length), j < i → xs[j] = ys[j] := hI
 obtain ⟨hi, hsame⟩ := hI
 change WC _ _ _ _ _ _ ([(5, .int .i64 (i : Int))] ++ _) (H)
 refine WC.seq (sr_ (m_ rfl rfl (m_ rfl rfl (WL.y rfl (Yd.len (e := 71) kr_ rfl) ?_))))
 refine WL.y rfl (Yd.lss rfl rfl) (nt_ (WC.ite rfl (fun h14 => ?_) (fun h14 => ?_)))
 have hlt : i < xs.length := by omega
 obtain ⟨ub, uf, us, uT, ufr, uex, rfl, _, hum, hus⟩ := hu.lies (by omega)
 obtain ⟨vb, vf, vs, vT, vfr, vex, rfl, _, hvm, hvs⟩ := hv.lies (by omega)
 refine WC.skip (ts_ (WC.block (WC.seq (WC.draw 9 kr_ rfl ?_))))
 refine WAG.start (N := 9) rfl (wy_ 0 [] rfl (Yd.move rfl) kr_ ?_)
 refine wy_ 1 [] rfl (Yd.move rfl) kr_ ?_
 refine wy_ 2 [1, 0] rfl (Yd.indexAddr (e := 71) (s := 3) kr_ kr_ rfl rfl (by omega) (by omega)) kr_ ?_
 refine wq_ (wf_ (i := 3) [2] rfl (QAt.rd Wt.none (Rd.loadA (n := 3) (b := ub) (o := uf + (i : Int).toNat * 3) (cs := us) (vs := cellsU xs[i]) kr_ rfl hum (cellsU_len _) (rs_cell hus (by rw [flat_len cellsU 3 cellsU_len]; omega) (flat_row cellsU 3 cellsU_len xs i (by omega))))) kr_) kr_ ?_
 refine wy_ 4 [] rfl (Yd.move rfl) kr_ ?_
 refine wy_ 5 [] rfl (Yd.move rfl) kr_ ?_
 refine wy_ 6 [5, 4] rfl (Yd.indexAddr (e := 71) (s := 3) kr_ kr_ rfl rfl (by omega) (by omega)) kr_ ?_
 refine wq_ (wf_ (i := 7) [6] rfl (QAt.rd Wt.none (Rd.loadA (n := 3) (b := vb) (o := vf + (i : Int).toNat * 3) (cs := vs) (vs := cellsU ys[i]) kr_ rfl hvm (cellsU_len _) (rs_cell hvs (by rw [flat_len cellsU 3 cellsU_len]; omega) (flat_row cellsU 3 cellsU_len ys i (by omega))))) kr_) kr_ ?_
 refine wy_ 8 [7, 3] rfl (Yd.neqSt [1, 0, 0] kr_ rfl rfl (same_auc _ _)) kr_ ?_
 refine wd_ [_, _, _, _, _, _, _, _, _] rfl kr_ ?_
 refine DN.then_normal (WC.cond rfl (fun h25 => ?_) (fun h25 => ?_))
 have hne : ¬ xs[i] = ys[i] := by simpa using h25
 refine sr_ (a_ rfl rfl (nt_ (WC.ret (DN.block_ret (DN.then_ret (DN.then_ret (DN.block_ret (DN.then_ret (DN.fit (C := H) sp_ ?_)))))))))
 refine DN.ret1 Tryz.results28 rfl ?_
 rotate_left
 have heq : xs[i] = ys[i] := by simpa using h25
 refine WC.skip (DN.block_normal (DN.then_normal (WC.region (m_ rfl rfl (WL.y rfl (Yd.add rfl rfl (by omega) (by omega)) ?_)))))
 refine a_ rfl rfl (WL.nil ?_)
 exact DN.againS (i + 1) (show (i + 1) ≤ xs.length ∧ ∀ (j : Nat) (h1 : j < xs.length) (h2 : j < ys.length), j < (i + 1) → xs[j] = ys[j] from ⟨by omega, fun j h1 h2 hj => by
   rcases Nat.lt_or_ge j i with h | h
   · exact hsame j h1 h2 h
   obtain rfl : j = i := by omega
   exact heq⟩) (show xs.length - (i + 1) < xs.length - i by omega) (Sx.put rfl (sx_)) sp_
 obtain rfl : i = xs.length := by omega
 refine WC.exit (DN.then_exit (DN.then_exit (DN.block_exit (ts_ (WC.region (a_ rfl rfl (nt_ (WC.ret (DN.fit (C := H) sp_ ?_)))))))))
 refine DN.ret1 Tryz.results28 rfl ?_
 rotate_left
 all_goals
  first
    | exact ⟨by rw [decide_eq_false (same_no (xs := xs) (ys := ys) (by simpa using hln))], rfl⟩
    | exact ⟨by rw [decide_eq_true (same_yes (xs := xs) (ys := ys) (by simpa using hln) fun j h1 h2 => by simpa using hsame j (by simpa using h1) (by simpa using h2) (by simpa using h1))], rfl⟩
    | exact ⟨by rw [decide_eq_false (fun e => hne (by have e2 := congrArg (fun l => l[i]?) e; simpa [hlt, show i < ys.length by omega] using e2))], rfl⟩
theorem sameEffs_reads (u v : Value) (xs ys : List Ef) (H : List Ck) (hu : Rs u xs.length (xs.flatMap efc) H) (hv : Rs v ys.length (ys.flatMap efc) H) (hx : xs.length ≤ 100000000) (hy : ys.length ≤ 100000000) : Reads Tryz.prog 29 [u, v] H (.bool (decide (xs = ys))) := by
 refine Tells.enter Tryz.func29 rfl Tryz.ntmps29 rfl ?_
 intro w0 R
 obtain ⟨uo, uc, rfl, _⟩ := hu.form
 obtain ⟨vo, vc, rfl, _⟩ := hv.form
 refine sr_ (a_ rfl rfl (nt_ (WC.seq (sr_ (m_ rfl rfl (WL.y rfl (Yd.len (e := 111) kr_ rfl) ?_))))))
 refine m_ rfl rfl (WL.y rfl (Yd.len (e := 111) kr_ rfl) ?_)
 refine WL.y rfl (Yd.neq rfl rfl) (nt_ (WC.cond rfl (fun h10 => ?_) (fun h10 => ?_)))
 have hln : xs.length ≠ ys.length := by simp only [decide_eq_true_eq] at h10; omega
 refine sr_ (a_ rfl rfl (nt_ (WC.ret (DN.then_ret (DN.fit (C := H) sp_ ?_)))))
 refine DN.ret1 Tryz.results29 rfl ?_
 rotate_left
 have hln : xs.length = ys.length := by simp only [decide_eq_false_iff_not] at h10; omega
 refine WC.skip (ts_ (sr_ (a_ rfl rfl (nt_ (WC.block (WC.loopS (fun z : Nat => z ≤ xs.length ∧ ∀ (j : Nat) (h1 : j < xs.length) (h2 : j < ys.length), j < z → xs[j] = ys[j]) (fun z : Nat => [(5, .int .i64 (z : Int))]) (fun z : Nat => H) (fun z : Nat => xs.length - z) (0) (show 0 ≤ xs.length ∧ ∀ (j : Nat) (h1 : j < xs.length) (h2 : j < ys.length), j < 0 → xs[j] = ys[j] from ⟨by omega, fun _ _ _ _ => by omega⟩) (Sx.put rfl (sx_)) sp_ ?_))))))
 rintro i hI
 replace hI : i ≤ xs.length ∧ ∀ (j : Nat) (h1 : j < xs.length) (h2 : j < ys.length), j < i → xs[j] = ys[j] := hI
 obtain ⟨hi, hsame⟩ := hI
 change WC _ _ _ _ _ _ ([(5, .int .i64 (i : Int))] ++ _) (H)
 refine WC.seq (sr_ (m_ rfl rfl (m_ rfl rfl (WL.y rfl (Yd.len (e := 111) kr_ rfl) ?_))))
 refine WL.y rfl (Yd.lss rfl rfl) (nt_ (WC.ite rfl (fun h14 => ?_) (fun h14 => ?_)))
 have hlt : i < xs.length := by omega
 obtain ⟨ub, uf, us, uT, ufr, uex, rfl, _, hum, hus⟩ := hu.lies (by omega)
 obtain ⟨vb, vf, vs, vT, vfr, vex, rfl, _, hvm, hvs⟩ := hv.lies (by omega)
 refine WC.skip (ts_ (WC.block (WC.seq (WC.draw 9 kr_ rfl ?_))))
 refine WAG.start (N := 9) rfl (wy_ 0 [] rfl (Yd.move rfl) kr_ ?_)
 refine wy_ 1 [] rfl (Yd.move rfl) kr_ ?_
 refine wy_ 2 [1, 0] rfl (Yd.indexAddr (e := 111) (s := 3) kr_ kr_ rfl rfl (by omega) (by omega)) kr_ ?_
 refine wq_ (wf_ (i := 3) [2] rfl (QAt.rd Wt.none (Rd.loadA (n := 3) (b := ub) (o := uf + (i : Int).toNat * 3) (cs := us) (vs := efc xs[i]) kr_ rfl hum (efc_len _) (rs_cell hus (by rw [flat_len efc 3 efc_len]; omega) (flat_row efc 3 efc_len xs i (by omega))))) kr_) kr_ ?_
 refine wy_ 4 [] rfl (Yd.move rfl) kr_ ?_
 refine wy_ 5 [] rfl (Yd.move rfl) kr_ ?_
 refine wy_ 6 [5, 4] rfl (Yd.indexAddr (e := 111) (s := 3) kr_ kr_ rfl rfl (by omega) (by omega)) kr_ ?_
 refine wq_ (wf_ (i := 7) [6] rfl (QAt.rd Wt.none (Rd.loadA (n := 3) (b := vb) (o := vf + (i : Int).toNat * 3) (cs := vs) (vs := efc ys[i]) kr_ rfl hvm (efc_len _) (rs_cell hvs (by rw [flat_len efc 3 efc_len]; omega) (flat_row efc 3 efc_len ys i (by omega))))) kr_) kr_ ?_
 refine wy_ 8 [7, 3] rfl (Yd.neqSt [0, 0, 2] kr_ rfl rfl (same_ef _ _)) kr_ ?_
 refine wd_ [_, _, _, _, _, _, _, _, _] rfl kr_ ?_
 refine DN.then_normal (WC.cond rfl (fun h25 => ?_) (fun h25 => ?_))
 have hne : ¬ xs[i] = ys[i] := by simpa using h25
 refine sr_ (a_ rfl rfl (nt_ (WC.ret (DN.block_ret (DN.then_ret (DN.then_ret (DN.block_ret (DN.then_ret (DN.fit (C := H) sp_ ?_)))))))))
 refine DN.ret1 Tryz.results29 rfl ?_
 rotate_left
 have heq : xs[i] = ys[i] := by simpa using h25
 refine WC.skip (DN.block_normal (DN.then_normal (WC.region (m_ rfl rfl (WL.y rfl (Yd.add rfl rfl (by omega) (by omega)) ?_)))))
 refine a_ rfl rfl (WL.nil ?_)
 exact DN.againS (i + 1) (show (i + 1) ≤ xs.length ∧ ∀ (j : Nat) (h1 : j < xs.length) (h2 : j < ys.length), j < (i + 1) → xs[j] = ys[j] from ⟨by omega, fun j h1 h2 hj => by
   rcases Nat.lt_or_ge j i with h | h
   · exact hsame j h1 h2 h
   obtain rfl : j = i := by omega
   exact heq⟩) (show xs.length - (i + 1) < xs.length - i by omega) (Sx.put rfl (sx_)) sp_
 obtain rfl : i = xs.length := by omega
 refine WC.exit (DN.then_exit (DN.then_exit (DN.block_exit (ts_ (WC.region (a_ rfl rfl (nt_ (WC.ret (DN.fit (C := H) sp_ ?_)))))))))
 refine DN.ret1 Tryz.results29 rfl ?_
 rotate_left
 all_goals
  first
    | exact ⟨by rw [decide_eq_false (same_no (xs := xs) (ys := ys) (by simpa using hln))], rfl⟩
    | exact ⟨by rw [decide_eq_true (same_yes (xs := xs) (ys := ys) (by simpa using hln) fun j h1 h2 => by simpa using hsame j (by simpa using h1) (by simpa using h2) (by simpa using h1))], rfl⟩
    | exact ⟨by rw [decide_eq_false (fun e => hne (by have e2 := congrArg (fun l => l[i]?) e; simpa [hlt, show i < ys.length by omega] using e2))], rfl⟩
end Go.Proofs.YtkamlondepceiaaGreat

set_option linter.unusedVariables false
set_option linter.unusedSimpArgs false
namespace Go.Proofs.YtkamlondepceiaaGreat
open Go.SL
abbrev B8 := BitVec 8
theorem copy_spec (v : Value) (bs : List B8) (H : List Ck) (hv : Bs v bs H) (hl : bs.length ≤ 1000000) : Tells Tryz.prog 40 [v] H fun r H' => ∃ C, Ob 5 r bs C ∧ H' = C ++ H := by
 refine Tells.enter Tryz.func40 rfl Tryz.ntmps40 rfl ?_
 intro w0 R
 refine sr_ (a_ rfl rfl (ntsr_ (a_ rfl rfl (ntsr_ (m_ rfl rfl (m_ rfl rfl ?_))))))
 refine WL.h rfl (Hd.appendB (e := 5) (zs := [.int .u8 0]) (C := []) (D := H) kr_ kr_ rfl rfl rfl (Ob.nil _) hv (by simp; omega) (List.Perm.refl _) fun r C hC _ => ⟨_, rfl, ?_⟩)
 exact a_ rfl rfl (nt_ (WC.ret (DN.ret1 Tryz.results40 rfl (⟨C, by simpa using hC, rfl⟩))))
theorem lent_spec (v : Value) (bs : List B8) (H : List Ck) (hv : Bs v bs H) (hl : bs.length ≤ 1000000) : Tells Tryz.prog 10 [v] H fun r H' => ∃ ao cap C, r = .slice ao bs.length cap ∧ Ob 5 (.slice ao (bs.length + 2) cap) (bs ++ [91#8, 92#8]) C ∧ H' = C ++ H := by
 refine Tells.enter Tryz.func10 rfl Tryz.ntmps10 rfl ?_
 intro w0 R
 obtain ⟨vo, vc, rfl, hvc⟩ := Bs.form hv
 refine sr_ (a_ rfl rfl (ntsr_ (m_ rfl rfl (WL.ca rfl (Ent.func Tryz.call40 rfl) (copy_spec _ bs H hv hl) ?_))))
 rintro x H1 ⟨C, hC, rfl⟩
 refine a_ rfl rfl (ntsr_ (m_ rfl rfl (WL.h rfl (Hd.buildBytes (e := 5) [91#8, 92#8] kr_ kr_ kr_ rfl rfl kr_ fun b => ⟨_, rfl, ?_⟩))))
 refine WL.h rfl (Hd.appendB (e := 5) (zs := [.int .u8 0]) (C := C) (D := row b (bc [91#8, 92#8]) 5 :: H) kr_ kr_ rfl rfl rfl hC (Bs.block (bs := [91#8, 92#8]) rfl (by decide) (List.mem_append_right _ List.mem_cons_self)) (by simp; omega) List.perm_middle.symm fun r C2 hC2 _ => ⟨_, rfl, ?_⟩)
 refine a_ rfl rfl (ntsr_ ?_)
 obtain ⟨ro, rc, rfl, hrc⟩ := Ob.form hC2
 rw [List.length_append] at hrc
 simp only [List.length_append] at hC2 ⊢
 refine m_ rfl rfl (m_ rfl rfl (WL.y rfl (Yd.len (e := 5) kr_ rfl) ?_))
 refine WL.y rfl (Yd.sliceTo (e := 5) (s := 1) (j := bs.length) kr_ kr_ rfl rfl rfl (by omega)) ?_
 exact a_ rfl rfl (nt_ (WC.ret (DN.forget (C2 ++ H) (List.Sublist.append (List.Sublist.refl _) (List.sublist_cons_self _ _)) (DN.ret1 Tryz.results10 rfl (⟨_, _, C2, rfl, hC2, rfl⟩)))))
theorem whole_reads (ao : Option Addr) (cap : Nat) (v : Value) (bs : List B8) (H : List Ck) (hx : Bs (.slice ao (bs.length + 2) cap) (bs ++ [91#8, 92#8]) H) (hv : Bs v bs H) (hl : bs.length ≤ 1000000) : Reads Tryz.prog 15 [.slice ao bs.length cap, v] H (.bool true) := by
 refine Tells.enter Tryz.func15 rfl Tryz.ntmps15 rfl ?_
 intro w0 R
 obtain ⟨vo, vc, rfl, hvc⟩ := Bs.form hv
 have hcap : bs.length + 2 ≤ cap := by
   obtain ⟨_, _, h1, h2⟩ := Bs.form hx
   simp at h1 h2; omega
 refine sr_ (a_ rfl rfl (nt_ (WC.seq (sr_ (m_ rfl rfl (WL.y rfl (Yd.len (e := 5) kr_ rfl) ?_))))))
 refine m_ rfl rfl (WL.y rfl (Yd.len (e := 5) kr_ rfl) ?_)
 refine WL.y rfl (Yd.neq rfl rfl) (WL.renamed (t := 10) (v := .bool false) rfl (congrArg Value.bool (by simp)) ?_)
 refine nt_ (WC.no rfl (WC.skip (ts_ (WC.region (m_ rfl rfl (m_ rfl rfl (WL.y rfl (Yd.len (e := 5) kr_ rfl) ?_)))))))
 refine WL.y rfl (Yd.add rfl rfl (by omega) (by omega)) ?_
 refine WL.y rfl (Yd.sliceTo (e := 5) (s := 1) (j := bs.length + 2) kr_ kr_ rfl rfl (by omega) hcap) ?_
 refine a_ rfl rfl (ntsr_ (m_ rfl rfl (m_ rfl rfl (WL.y rfl (Yd.len (e := 5) kr_ rfl) ?_))))
 refine WL.elem (e := 5) kr_ kr_ kr_ rfl rfl (rfl) (hx) (show (bc (bs ++ [91#8, 92#8]))[bs.length]? = some (.int .u8 (91#8).toNat) by simp [bc]) (by omega) rfl rfl ?_
 intro _
 refine WL.y rfl (Yd.eql8 _ (91#8) rfl rfl rfl rfl) (WL.renamed (t := 21) (v := .bool true) rfl (congrArg Value.bool (decide_eq_true rfl)) (m_ rfl rfl (gy_ 22 rfl rfl rfl (Yd.move rfl) (gy_ 22 rfl rfl rfl (Yd.move rfl) (gy_ 22 rfl rfl rfl (Yd.len (e := 5) kr_ rfl) ?_)))))
 refine gy_ 22 rfl rfl rfl (Yd.add rfl rfl (by omega) (by omega)) ?_
 refine WL.elemN (e := 5) (dj := 22) kr_ kr_ kr_ rfl rfl (by omega) (hx) (show (bc (bs ++ [91#8, 92#8]))[bs.length + 1]? = some (.int .u8 (92#8).toNat) by simp [bc]) (by omega) rfl rfl rfl rfl rfl ?_
 intro _
 refine gy_ 22 rfl rfl rfl (Yd.eql8 _ (92#8) rfl rfl rfl rfl) (WL.renamed (t := 29) (v := .bool true) rfl (congrArg Value.bool (decide_eq_true rfl)) (WL.y rfl (Yd.pickT rfl rfl) (m_ rfl rfl (gy_ 31 rfl rfl rfl (Yd.move rfl) ?_))))
 refine WL.gh (dj := 31) rfl rfl rfl (Hd.toStr (e := 5) (bs := bs) kr_ kr_ Tryz.underlying9 rfl (by have := Bs.upto (j := bs.length) hx (by omega); simpa using this) ⟨_, rfl, ?_⟩)
 refine gy_ 31 rfl rfl rfl (Yd.move rfl) (WL.gh (dj := 31) rfl rfl rfl (Hd.toStr (e := 5) (bs := bs) kr_ kr_ Tryz.underlying9 rfl hv ⟨_, rfl, ?_⟩))
 exact gy_ 31 rfl rfl rfl (Yd.eqlS rfl rfl) (WL.renamed (t := 36) (v := .bool true) rfl (congrArg Value.bool (decide_eq_true rfl)) (WL.y rfl (Yd.pickT rfl rfl) (a_ rfl rfl (nt_ (WC.ret (DN.ret1 Tryz.results15 rfl (⟨rfl, rfl⟩)))))))
end Go.Proofs.YtkamlondepceiaaGreat

set_option linter.unusedVariables false
set_option linter.unusedSimpArgs false
set_option maxHeartbeats 4000000
namespace Go.Proofs.YtkamlondepceiaaGreat
open Go.SL
theorem rnum_tells (n : BitVec 64) (size : Nat) (hs : size ≤ 8) (H : List Ck) : Tells Tryz.prog 116 [.int .u64 n.toNat, .int .i64 size] H fun r H' => ∃ C, Ob 5 r (beW n size) C ∧ H' = C ++ H := by
 refine Tells.enter Tryz.func116 rfl Tryz.ntmps116 rfl ?_
 intro w0 R
 refine sr_ (a_ rfl rfl (ntsr_ (a_ rfl rfl (nt_ (WC.seq (sr_ (a_ rfl rfl (nt_ (WC.block (WC.loopS (fun z : Nat × Value × List Ck => z.1 ≤ size ∧ Ob 5 z.2.1 (loW n z.1) z.2.2) (fun z : Nat × Value × List Ck => [(0, .int .u64 (n >>> (8 * z.1)).toNat), (5, z.2.1), (6, .int .i64 (z.1 : Int))]) (fun z : Nat × Value × List Ck => z.2.2 ++ H) (fun z : Nat × Value × List Ck => size - z.1) (⟨0, .slice none 0 0, []⟩) (show 0 ≤ size ∧ Ob 5 (.slice none 0 0) (loW n 0) [] from ⟨Nat.zero_le _, Ob.nil _⟩) (Sx.put rfl (Sx.put rfl (Sx.put rfl (sx_)))) sp_ ?_))))))))))
 rintro ⟨i, u, C⟩ hI
 replace hI : i ≤ size ∧ Ob 5 u (loW n i) C := hI
 obtain ⟨hi, hu⟩ := hI
 change WC _ _ _ _ _ _ ([(0, .int .u64 (n >>> (8 * i)).toNat), (5, u), (6, .int .i64 (i : Int))] ++ _) (C ++ H)
 obtain ⟨uo, uc, rfl, huc⟩ := hu.form
 rw [loW_len] at huc
 refine WC.seq (sr_ (m_ rfl rfl (m_ rfl rfl (WL.y rfl (Yd.lss rfl rfl) (nt_ (WC.ite rfl (fun h11 => ?_) (fun h11 => ?_)))))))
 have hlt : i < size := by omega
 refine WC.skip (ts_ (WC.block (sr_ (m_ rfl rfl (m_ rfl rfl (WL.y rfl (Yd.rem64 _ (256#64) rfl rfl rfl rfl (by decide)) ?_))))))
 refine WL.y rfl (Yd.conv64_8 _ kr_ kr_ rfl rfl) ?_
 refine WL.renamed (t := 17) (v := .int .u8 ((n >>> (8 * i)).setWidth 8).toNat) rfl (congrArg (fun q : BitVec 8 => Value.int .u8 q.toNat) (low_rem _)) ?_
 refine WL.h rfl (Hd.build1 (e := 5) (z := .int .u8 0) kr_ kr_ kr_ rfl rfl fun b18 => ⟨_, rfl, ?_⟩)
 refine WL.h rfl (Hd.appendBs (e := 5) (zs := [.int .u8 0]) kr_ kr_ rfl rfl rfl hu sp_ (Bs.block (bs := [(n >>> (8 * i)).setWidth 8]) rfl (by simp) mem_) (by rw [loW_len]; simp only [List.length_cons, List.length_nil]; omega) fun v1 C1 ho1 => ⟨_, rfl, ?_⟩)
 refine a_ rfl rfl (ntr_ (m_ rfl rfl (WL.y rfl (Yd.quo64 _ (256#64) rfl rfl rfl rfl (by decide)) ?_)))
 refine WL.renamed (t := 21) (v := .int .u64 (n >>> (8 * (i + 1))).toNat) rfl (congrArg (fun q : BitVec 64 => Value.int .u64 q.toNat) (low_quo n i)) ?_
 refine a_ rfl rfl (WL.nil (DN.block_normal (DN.then_normal (WC.region (m_ rfl rfl (WL.y rfl (Yd.add rfl rfl (by omega) (by omega)) ?_))))))
 refine a_ rfl rfl (WL.nil ?_)
 exact DN.againS (⟨i + 1, v1, C1⟩) (show (i + 1) ≤ size ∧ Ob 5 v1 (loW n (i + 1)) C1 from ⟨by omega, by rw [loW_next]; exact ho1⟩) (show size - (i + 1) < size - i by omega) (Sx.put rfl (Sx.put rfl (Sx.put rfl (sx_)))) sp_
 obtain rfl : size = i := by omega
 refine WC.exit (DN.then_exit (DN.then_exit (DN.block_exit (ts_ (WC.region (a_ rfl rfl (nt_ (WC.seq (sr_ (m_ rfl rfl (WL.y rfl (Yd.sub rfl rfl (by omega) (by omega)) ?_)))))))))))
 refine WL.renamed (t := 23) (v := .int .i64 ((size : Int) - 1 - ((0 : Nat) : Int))) rfl (congrArg (Value.int .i64) (by omega)) ?_
 refine a_ rfl rfl (nt_ (WC.block (WC.loopS (fun z : Nat × Value × List Ck => z.1 ≤ size ∧ Ob 5 z.2.1 ((beW n size).take z.1) z.2.2) (fun z : Nat × Value × List Ck => [(7, z.2.1), (8, .int .i64 ((size : Int) - 1 - z.1))]) (fun z : Nat × Value × List Ck => z.2.2 ++ (C ++ H)) (fun z : Nat × Value × List Ck => size - z.1) (⟨0, .slice none 0 0, []⟩) (show 0 ≤ size ∧ Ob 5 (.slice none 0 0) ((beW n size).take 0) [] from ⟨Nat.zero_le _, Ob.nil _⟩) (Sx.put rfl (Sx.put rfl (sx_))) sp_ ?_)))
 rintro ⟨j, w, D⟩ hI
 replace hI : j ≤ size ∧ Ob 5 w ((beW n size).take j) D := hI
 obtain ⟨hj, hw⟩ := hI
 change WC _ _ _ _ _ _ ([(7, w), (8, .int .i64 ((size : Int) - 1 - j))] ++ _) (D ++ (C ++ H))
 refine WC.seq (sr_ (m_ rfl rfl (WL.y rfl (Yd.geq rfl rfl) (nt_ (WC.ite rfl (fun h25 => ?_) (fun h25 => ?_))))))
 have hlt2 : j < size := by omega
 have hll : ((beW n size).take j).length ≤ 8 := by rw [List.length_take]; omega
 refine WC.skip (ts_ (WC.block (WC.region ?_)))
 iterate 3 refine m_ rfl rfl ?_
 refine WL.elem (e := 5) kr_ kr_ kr_ rfl rfl (by omega) (hu.bs.mono gr_) (bc_at (loW_get (n := n) (show size - 1 - j < size by omega))) (by rw [loW_len]; omega) rfl rfl ?_
 intro _
 refine WL.h rfl (Hd.build1 (e := 5) (z := .int .u8 0) kr_ kr_ kr_ rfl rfl fun b33 => ⟨_, rfl, ?_⟩)
 refine WL.h rfl (Hd.appendBs (e := 5) (zs := [.int .u8 0]) kr_ kr_ rfl rfl rfl hw sp_ (Bs.block (bs := [(n >>> (8 * (size - 1 - j))).setWidth 8]) rfl (by simp) mem_) (by simp only [List.length_cons, List.length_nil]; omega) fun v2 C2 ho2 => ⟨_, rfl, ?_⟩)
 refine a_ rfl rfl (WL.nil (DN.block_normal (DN.then_normal (WC.region (m_ rfl rfl (WL.y rfl (Yd.sub rfl rfl (by omega) (by omega)) ?_))))))
 refine a_ rfl rfl (WL.nil ?_)
 rw [show (size : Int) - 1 - (j : Int) - 1 = (size : Int) - 1 - ((j + 1 : Nat) : Int) by omega]
 exact DN.againS (j + 1, v2, C2) ⟨by show j + 1 ≤ size; omega, by rw [beW_next n size j hlt2]; exact ho2⟩ (by show size - (j + 1) < size - j; omega) ((Sx.put rfl (Sx.put rfl (sx_)))) sp_
 obtain rfl : size = j := by omega
 rw [List.take_of_length_le (by rw [beW_length]; omega)] at hw
 refine WC.exit (DN.then_exit (DN.then_exit (DN.block_exit (ts_ (WC.region (m_ rfl rfl (a_ rfl rfl (nt_ (WC.ret (DN.fit (C := D ++ H) sp_ ?_))))))))))
 exact DN.ret1 Tryz.results116 rfl (⟨D, hw, rfl⟩)
theorem rof_reads (v : Value) (b : List (BitVec 8)) (H : List Ck) (hv : Bs v b H) (hl : b.length ≤ 1000000) : Reads Tryz.prog 81 [v] H (.int .u64 (beN b).toNat) := by
 refine Tells.enter Tryz.func81 rfl Tryz.ntmps81 rfl ?_
 intro w0 R
 obtain ⟨vo, vc, rfl, hvc⟩ := hv.form
 refine sr_ (WL.y rfl (Yd.assign (v := .int .u64 ((0#64).toNat : Int)) rfl) (ntsr_ (WL.y rfl (Yd.assign (v := .int .u64 ((0#64).toNat : Int)) rfl) (nt_ (WC.seq (sr_ (a_ rfl rfl (nt_ (WC.block (WC.loopS (fun z : Nat => z ≤ b.length) (fun z : Nat => [(3, .int .u64 (beN (b.take z)).toNat), (4, .int .i64 (z : Int))]) (fun z : Nat => H) (fun z : Nat => b.length - z) (0) (show 0 ≤ b.length from Nat.zero_le _) (Sx.put rfl (Sx.put rfl (sx_))) sp_ ?_))))))))))
 rintro i hI
 replace hI : i ≤ b.length := hI
 obtain hi := hI
 change WC _ _ _ _ _ _ ([(3, .int .u64 (beN (b.take i)).toNat), (4, .int .i64 (i : Int))] ++ _) (H)
 refine WC.seq (sr_ (m_ rfl rfl (m_ rfl rfl (WL.y rfl (Yd.len (e := 5) kr_ rfl) ?_))))
 refine WL.y rfl (Yd.lss rfl rfl) (nt_ (WC.ite rfl (fun h8 => ?_) (fun h8 => ?_)))
 have hlt : i < b.length := by omega
 refine WC.skip (ts_ (WC.block (WC.region (m_ rfl rfl (WL.y rfl (Yd.mul64 _ (256#64) rfl rfl rfl rfl) (m_ rfl rfl (m_ rfl rfl (WL.elem (e := 5) kr_ kr_ kr_ rfl rfl (rfl) (hv) (bc_get hlt) (hlt) rfl rfl ?_))))))))
 intro _
 refine WL.y rfl (Yd.conv8_64 _ kr_ kr_ rfl rfl) ?_
 refine WL.y rfl (Yd.add64 _ _ rfl rfl rfl rfl) (a_ rfl rfl (WL.nil (DN.block_normal (DN.then_normal (WC.region (m_ rfl rfl (WL.y rfl (Yd.add rfl rfl (by omega) (by omega)) ?_)))))))
 refine a_ rfl rfl (WL.nil ?_)
 rw [of_step, ← beN_next b i hlt]
 exact DN.againS (i + 1) (by show i + 1 ≤ b.length; omega) (by show b.length - (i + 1) < b.length - i; omega) ((Sx.put rfl (Sx.put rfl (sx_)))) sp_
 have hie : i = b.length := by omega
 subst hie
 rw [List.take_length]
 exact WC.exit (DN.then_exit (DN.then_exit (DN.block_exit (ts_ (WC.region (m_ rfl rfl (a_ rfl rfl (nt_ (WC.ret (DN.ret1 Tryz.results81 rfl (⟨rfl, rfl⟩)))))))))))
theorem rone_tells (f : Fld) (vt : Value) (H : List Ck) (hvt : Bs vt f.text H) (hl : f.text.length ≤ 1000000) (hs : f.size ≤ 8) : Tells Tryz.prog 77 [.agg (fdc f vt).toArray] H fun r H' => ∃ w A, r = .tuple #[w, .int .i64 (oneF f).2] ∧ Ob 5 w (oneF f).1 A ∧ H' = A ++ H := by
 refine Tells.enter Tryz.func77 rfl Tryz.ntmps77 rfl ?_
 intro w0 R
 obtain ⟨to_, tc, rfl, htc⟩ := hvt.form
 refine sr_ (WL.h rfl (Hd.boxA rfl fun b1 => ⟨_, rfl, ?_⟩))
 refine a_ rfl rfl (a_ rfl rfl (nt_ (WC.seq (sr_ (f_ 0 kr_ rfl rfl ?_)))))
 refine d_ kr_ rfl mem_ (by rfl) rfl ?_
 refine nt_ (WC.block (sr_ (WL.y rfl (Yd.eql rfl rfl) (a_ rfl rfl (nt_ (WC.ite rfl (fun h7 => ?_) (fun h7 => ?_)))))))
 have hs0 : f.size = 0 := by omega
 refine WC.seq (sr_ (f_ 1 kr_ rfl rfl ?_))
 refine d_ kr_ rfl mem_ (by rfl) rfl ?_
 refine WL.y rfl (Yd.neq64 _ (0#64) rfl rfl rfl rfl) (nt_ (WC.ite rfl (fun h11 => ?_) (fun h11 => ?_)))
 refine sr_ (a_ rfl rfl (a_ rfl rfl (nt_ (WC.ret (DN.then_ret (DN.block_ret (DN.then_ret ?_)))))))
 first | refine DN.fit (C := C1 ++ H) sp_ ?_ | refine DN.fit (C := H) sp_ ?_
 refine DN.ret2 Tryz.results77 rfl rfl ?_
 rotate_left
 refine WC.skip (ts_ (sr_ (f_ 2 kr_ rfl rfl ?_)))
 refine d_ kr_ rfl mem_ (by rfl) rfl ?_
 refine WL.y rfl (Yd.len (e := 5) kr_ rfl) ?_
 refine WL.y rfl (Yd.gtr rfl rfl) (nt_ (WC.ite rfl (fun h15 => ?_) (fun h15 => ?_)))
 refine sr_ (a_ rfl rfl (a_ rfl rfl (nt_ (WC.ret (DN.then_ret (DN.block_ret (DN.then_ret ?_)))))))
 first | refine DN.fit (C := C1 ++ H) sp_ ?_ | refine DN.fit (C := H) sp_ ?_
 refine DN.ret2 Tryz.results77 rfl rfl ?_
 rotate_left
 refine WC.skip (ts_ (WC.region (f_ 2 kr_ rfl rfl ?_)))
 refine d_ kr_ rfl mem_ (by rfl) rfl ?_
 refine WL.y rfl (Yd.len (e := 5) kr_ rfl) ?_
 refine WL.y rfl (Yd.to8 _ kr_ kr_ rfl rfl) ?_
 refine WL.h rfl (Hd.build1 (e := 5) (z := .int .u8 0) kr_ kr_ kr_ rfl rfl fun b20 => ⟨_, rfl, ?_⟩)
 refine a_ rfl rfl (ntsr_ (m_ rfl rfl (f_ 2 kr_ rfl rfl ?_)))
 refine d_ kr_ rfl mem_ (by rfl) rfl ?_
 refine WL.h rfl (Hd.appendBs (e := 5) (zs := [.int .u8 0]) kr_ kr_ rfl rfl rfl (Ob.block (T := 5) b20 [BitVec.ofInt 8 (f.text.length : Int)] (by simp only [maxLen, List.length_cons, List.length_nil]; omega)) sp_ (hvt.mono gr_) (by simp only [List.length_cons, List.length_nil]; omega) fun v1 C1 ho1 => ⟨_, rfl, ?_⟩)
 refine a_ rfl rfl (a_ rfl rfl (nt_ (WC.ret (DN.block_ret (DN.then_ret ?_)))))
 first | refine DN.fit (C := C1 ++ H) sp_ ?_ | refine DN.fit (C := H) sp_ ?_
 refine DN.ret2 Tryz.results77 rfl rfl ?_
 rotate_left
 have hs0 : ¬ f.size = 0 := by omega
 refine WC.cutK (fun z : Bool => z = decide (f.size = 1 ∨ f.size = 2 ∨ f.size = 4)) (fun z : Bool => [(25, .bool z)]) (fun z : Bool => row b1 (fdc f (.slice to_ f.text.length tc)) 98 :: H) ?_ ?_
 refine sr_ (WL.y rfl (Yd.eql rfl rfl) (a_ rfl rfl (nt_ ?_)))
 first | refine WC.ite rfl (fun h25 => ?_) (fun h25 => ?_) | refine WC.cond rfl (fun h25 => ?_) (fun h25 => ?_)
 refine WC.skip ?_
 exact DN.reachK (_) (by rw [Bool.eq_iff_iff]; simp only [decide_eq_true_eq, eq_self, true_iff, Bool.false_eq_true, false_iff]; omega) (Sx.put rfl (sx_)) (Sp.all sp_)
 refine sr_ ?_
 skip
 refine WL.y rfl (Yd.eql rfl rfl) (a_ rfl rfl (nt_ ?_))
 first | refine WC.ite rfl (fun h25 => ?_) (fun h25 => ?_) | refine WC.cond rfl (fun h25 => ?_) (fun h25 => ?_)
 refine WC.skip ?_
 exact DN.reachK (_) (by rw [Bool.eq_iff_iff]; simp only [decide_eq_true_eq, eq_self, true_iff, Bool.false_eq_true, false_iff]; omega) (Sx.put rfl (sx_)) (Sp.all sp_)
 refine WC.region (WL.y rfl (Yd.eql rfl rfl) (a_ rfl rfl (WL.nil ?_)))
 exact DN.reachK (_) (by rw [Bool.eq_iff_iff]; simp only [decide_eq_true_eq, eq_self, true_iff, Bool.false_eq_true, false_iff]; omega) (Sx.put rfl (sx_)) (Sp.all sp_)
 intro z25 hz25
 first | refine WC.ite rfl (fun h25 => ?_) (fun h25 => ?_) | refine WC.cond rfl (fun h25 => ?_) (fun h25 => ?_)
 refine WC.seq (sr_ (f_ 2 kr_ rfl rfl ?_))
 refine d_ kr_ rfl mem_ (by rfl) rfl ?_
 refine WL.y rfl (Yd.len (e := 5) kr_ rfl) ?_
 refine WL.y rfl (Yd.neq rfl rfl) (m_ rfl rfl (WL.partP (t := 33) rfl (fun hg33 => ?_) (fun hg33 => ?_)))
 iterate 8 refine gn_ 33 rfl rfl rfl rfl ?_
 refine WL.y rfl (Yd.pickT rfl rfl) (nt_ (WC.yes rfl (sr_ (a_ rfl rfl (a_ rfl rfl (nt_ (WC.ret (DN.then_ret (DN.block_ret (DN.then_ret ?_))))))))))
 first | refine DN.fit (C := C1 ++ H) sp_ ?_ | refine DN.fit (C := H) sp_ ?_
 refine DN.ret2 Tryz.results77 rfl rfl ?_
 rotate_left
 refine gy_ 33 rfl rfl rfl (Yd.fieldAddr (k := 1) kr_ rfl) ?_
 refine WL.gh (dj := 33) rfl rfl rfl (Hd.load1 kr_ rfl mem_ (by rfl) ⟨_, rfl, ?_⟩)
 refine gy_ 33 rfl rfl rfl (Yd.fieldAddr (k := 0) kr_ rfl) ?_
 refine WL.gh (dj := 33) rfl rfl rfl (Hd.load1 kr_ rfl mem_ (by rfl) ⟨_, rfl, ?_⟩)
 refine gy_ 33 rfl rfl rfl (Yd.mul rfl rfl (by omega) (by omega)) ?_
 refine gy_ 33 rfl rfl rfl (Yd.to64 _ kr_ kr_ rfl rfl) ?_
 refine gy_ 33 rfl rfl rfl (Yd.shl64 (1#64) _ rfl rfl rfl rfl) (gy_ 33 rfl rfl rfl (Yd.geq rfl rfl) (WL.y rfl (Yd.pickF rfl rfl) (nt_ (WC.ite rfl (fun h42 => ?_) (fun h42 => ?_)))))
 refine sr_ (a_ rfl rfl (a_ rfl rfl (nt_ (WC.ret (DN.then_ret (DN.block_ret (DN.then_ret ?_)))))))
 first | refine DN.fit (C := C1 ++ H) sp_ ?_ | refine DN.fit (C := H) sp_ ?_
 refine DN.ret2 Tryz.results77 rfl rfl ?_
 rotate_left
 refine WC.skip (ts_ (WC.region (f_ 1 kr_ rfl rfl ?_)))
 refine d_ kr_ rfl mem_ (by rfl) rfl ?_
 refine f_ 0 kr_ rfl rfl ?_
 refine d_ kr_ rfl mem_ (by rfl) rfl ?_
 refine WL.c rfl (Ent.func Tryz.call116 rfl) (rnum_tells f.n f.size hs H) (Sp.p sp_) ?_
 rintro x1 H1 ⟨C1, hC1, rfl⟩
 refine a_ rfl rfl (a_ rfl rfl (nt_ (WC.ret (DN.block_ret (DN.then_ret ?_)))))
 first | refine DN.fit (C := C1 ++ H) sp_ ?_ | refine DN.fit (C := H) sp_ ?_
 refine DN.ret2 Tryz.results77 rfl rfl ?_
 rotate_left
 refine sr_ (WL.y rfl (Yd.eql rfl rfl) (a_ rfl rfl (nt_ (WC.ite rfl (fun h48 => ?_) (fun h48 => ?_)))))
 have hs8 : f.size = 8 := by omega
 refine WC.seq (sr_ (f_ 2 kr_ rfl rfl ?_))
 refine d_ kr_ rfl mem_ (by rfl) rfl ?_
 refine WL.y rfl (Yd.len (e := 5) kr_ rfl) ?_
 refine WL.y rfl (Yd.neq rfl rfl) (nt_ (WC.ite rfl (fun h53 => ?_) (fun h53 => ?_)))
 refine sr_ (a_ rfl rfl (a_ rfl rfl (nt_ (WC.ret (DN.then_ret (DN.block_ret (DN.then_ret ?_)))))))
 first | refine DN.fit (C := C1 ++ H) sp_ ?_ | refine DN.fit (C := H) sp_ ?_
 refine DN.ret2 Tryz.results77 rfl rfl ?_
 rotate_left
 refine WC.skip (ts_ (WC.region (f_ 1 kr_ rfl rfl ?_)))
 refine d_ kr_ rfl mem_ (by rfl) rfl ?_
 refine WL.c rfl (Ent.func Tryz.call116 rfl) (rnum_tells f.n 8 (by omega) H) (Sp.p sp_) ?_
 rintro x1 H1 ⟨C1, hC1, rfl⟩
 refine a_ rfl rfl (a_ rfl rfl (nt_ (WC.ret (DN.block_ret (DN.then_ret ?_)))))
 first | refine DN.fit (C := C1 ++ H) sp_ ?_ | refine DN.fit (C := H) sp_ ?_
 refine DN.ret2 Tryz.results77 rfl rfl ?_
 rotate_left
 have hs8 : ¬ f.size = 8 := by omega
 refine WC.skip (DN.block_normal (ts_ (WC.region (a_ rfl rfl (a_ rfl rfl (nt_ (WC.ret ?_)))))))
 first | refine DN.fit (C := C1 ++ H) sp_ ?_ | refine DN.fit (C := H) sp_ ?_
 refine DN.ret2 Tryz.results77 rfl rfl ?_
 rotate_left
 all_goals
  first
  | (rw [oneF_0a hs0 h11]; exact ⟨_, [], rfl, Ob.nil _, rfl⟩)
  | (rw [oneF_0b hs0 h11 (by omega)]; exact ⟨_, [], rfl, Ob.nil _, rfl⟩)
  | (rw [oneF_0c hs0 h11 (by omega)]; exact ⟨_, C1, rfl, ho1, rfl⟩)
  | (rw [oneF_1b hs0 (of_decide_eq_true (hz25.symm.trans h25)) (one_ok hg33 h42)]; exact ⟨_, C1, rfl, hC1, rfl⟩)
  | (rw [oneF_1a hs0 (of_decide_eq_true (hz25.symm.trans h25)) (.inl (by omega))]; exact ⟨_, [], rfl, Ob.nil _, rfl⟩)
  | (rw [oneF_1a hs0 (of_decide_eq_true (hz25.symm.trans h25)) (.inr (Int.ofNat_le.1 h42))]; exact ⟨_, [], rfl, Ob.nil _, rfl⟩)
  | (rw [oneF_8a hs0 (of_decide_eq_false (hz25.symm.trans h25)) hs8 (by omega)]; exact ⟨_, [], rfl, Ob.nil _, rfl⟩)
  | (rw [oneF_8b hs0 (of_decide_eq_false (hz25.symm.trans h25)) hs8 (by omega)]; exact ⟨_, C1, rfl, hC1, rfl⟩)
  | (rw [oneF_no hs0 (of_decide_eq_false (hz25.symm.trans h25)) hs8]; exact ⟨_, [], rfl, Ob.nil _, rfl⟩)
theorem rput_tells (v : Value) (cs : List Value) (fs : List Fld) (H : List Ck) (hr : Rs v fs.length cs H) (hk : FVs H cs fs) (hl : fs.length ≤ 3000) (hb : ∀ f ∈ fs, f.text.length ≤ 1000000 ∧ f.size ≤ 8) : Tells Tryz.prog 46 [v] H fun r H' => ∃ w A, r = .tuple #[w, .int .i64 (putL fs []).2] ∧ Ob 5 w (putL fs []).1 A ∧ H' = A ++ H := by
 refine Tells.enter Tryz.func46 rfl Tryz.ntmps46 rfl ?_
 intro w0 R
 obtain ⟨ao, c, rfl, hc⟩ := hr.form
 have hcl := hk.len
 refine sr_ (a_ rfl rfl (a_ rfl rfl (ntsr_ (a_ rfl rfl (nt_ (WC.seq (sr_ (a_ rfl rfl (nt_ (WC.block (WC.loopS (fun z : Nat × List (BitVec 8) × Value × List Ck => z.1 ≤ fs.length ∧ z.2.1.length ≤ z.1 * 256 ∧ putL fs [] = putL (fs.drop z.1) z.2.1 ∧ Ob 5 z.2.2.1 z.2.1 z.2.2.2) (fun z : Nat × List (BitVec 8) × Value × List Ck => [(4, z.2.2.1), (5, .int .i64 (z.1 : Int))]) (fun z : Nat × List (BitVec 8) × Value × List Ck => z.2.2.2 ++ H) (fun z : Nat × List (BitVec 8) × Value × List Ck => fs.length - z.1) (⟨0, [], .slice none 0 0, []⟩) (show 0 ≤ fs.length ∧ [].length ≤ 0 * 256 ∧ putL fs [] = putL (fs.drop 0) [] ∧ Ob 5 (.slice none 0 0) [] [] from ⟨Nat.zero_le _, Nat.le_refl _, rfl, Ob.nil _⟩) (Sx.put rfl (Sx.put rfl (sx_))) sp_ ?_)))))))))))
 rintro ⟨i, o, w, A⟩ hI
 replace hI : i ≤ fs.length ∧ o.length ≤ i * 256 ∧ putL fs [] = putL (fs.drop i) o ∧ Ob 5 w o A := hI
 obtain ⟨hi, hol, hput, hA⟩ := hI
 change WC _ _ _ _ _ _ ([(4, w), (5, .int .i64 (i : Int))] ++ _) (A ++ H)
 refine WC.seq (sr_ (m_ rfl rfl (m_ rfl rfl (WL.y rfl (Yd.len (e := 98) kr_ rfl) ?_))))
 refine WL.y rfl (Yd.lss rfl rfl) (nt_ (WC.ite rfl (fun h11 => ?_) (fun h11 => ?_)))
 have hlt : i < fs.length := by omega
 obtain ⟨vt, hg, hvt⟩ := hk.at i hlt
 have hcons := List.drop_eq_getElem_cons hlt
 have hbi := hb _ (List.getElem_mem hlt)
 have hol1 := oneF_len fs[i]
 refine WC.skip (ts_ (WC.block (sr_ (m_ rfl rfl (m_ rfl rfl (WL.elemA (e := 98) (s := 3) kr_ kr_ kr_ rfl rfl (rfl) (hr.mono gr_) (hg) (by rfl) (by omega) (hlt) rfl rfl ?_))))))
 intro p17
 refine WL.c rfl (Ent.func Tryz.call77 rfl) (rone_tells fs[i] vt H hvt hbi.1 hbi.2) (Sp.p sp_) ?_
 rintro x1 H1 ⟨w1, A1, rfl, hA1, rfl⟩
 refine m_ rfl rfl (x_ rfl rfl rfl (x_ rfl rfl rfl (a_ rfl rfl (a_ rfl rfl (nt_ (WC.seq (sr_ (m_ rfl rfl (WL.y rfl (Yd.neq rfl rfl) (nt_ (WC.ite rfl (fun h23 => ?_) (fun h23 => ?_))))))))))))
 refine sr_ (m_ rfl rfl (a_ rfl rfl (a_ rfl rfl (nt_ (WC.ret (DN.then_ret (DN.block_ret (DN.then_ret (DN.then_ret (DN.block_ret (DN.then_ret (DN.fit (C := H) sp_ ?_))))))))))))
 refine DN.ret2 Tryz.results46 rfl rfl ?_
 rw [hput, hcons, putL_err h23]
 exact ⟨_, [], rfl, Ob.nil _, rfl⟩
 refine WC.skip (DN.then_normal (WC.region (m_ rfl rfl (m_ rfl rfl (WL.h rfl (Hd.appendBs (e := 5) (zs := [.int .u8 0]) kr_ kr_ rfl rfl rfl hA sp_ (hA1.bs.mono gr_) (by omega) fun v2 C2 ho2 => ⟨_, rfl, ?_⟩))))))
 refine a_ rfl rfl (WL.nil (DN.block_normal (DN.then_normal (WC.region (m_ rfl rfl (WL.y rfl (Yd.add rfl rfl (by omega) (by omega)) ?_))))))
 refine a_ rfl rfl (WL.nil ?_)
 exact DN.againS (⟨i + 1, o ++ (oneF fs[i]).1, v2, C2⟩) (show (i + 1) ≤ fs.length ∧ (o ++ (oneF fs[i]).1).length ≤ (i + 1) * 256 ∧ putL fs [] = putL (fs.drop (i + 1)) (o ++ (oneF fs[i]).1) ∧ Ob 5 v2 (o ++ (oneF fs[i]).1) C2 from ⟨by omega, by rw [List.length_append]; omega, by rw [hput, hcons, putL_ok h23], ho2⟩) (show fs.length - (i + 1) < fs.length - i by omega) (Sx.put rfl (Sx.put rfl (sx_))) sp_
 obtain rfl : fs.length = i := by omega
 rw [List.drop_length] at hput
 refine WC.exit (DN.then_exit (DN.then_exit (DN.block_exit (ts_ (WC.region (m_ rfl rfl (a_ rfl rfl (a_ rfl rfl (nt_ (WC.ret (DN.fit (C := A ++ H) sp_ ?_)))))))))))
 refine DN.ret2 Tryz.results46 rfl rfl ?_
 rw [hput]
 exact ⟨_, A, rfl, hA, rfl⟩
theorem rtake_tells (p : Nat) (v : Value) (b : List (BitVec 8)) (a : Nat) (sh : Bool) (H : List Ck) (hv : Bs v b H) (hl : b.length ≤ 1000000) (ha : a ≤ b.length) (k : Nat) (hk : k ≤ 1000) : Tells Tryz.prog 80 [.pointer (some ⟨p, 0, none⟩), .int .i64 k] (row p [v, .int .i64 (a : Nat), .bool sh] 107 :: H) fun r H' => ∃ w A a', r = .tuple #[w, .bool (!(rdShort (b.drop a) sh k))] ∧ Ob 5 w (rdGot (b.drop a) sh k) A ∧ a' ≤ b.length ∧ b.drop a' = rdRest (b.drop a) sh k ∧ H' = A ++ (row p [v, .int .i64 (a' : Nat), .bool (rdShort (b.drop a) sh k)] 107 :: H) := by
 refine Tells.enter Tryz.func80 rfl Tryz.ntmps80 rfl ?_
 intro w0 R
 obtain ⟨bo, bc_, rfl, hbc⟩ := hv.form
 have hdl : (b.drop a).length = b.length - a := List.length_drop
 refine sr_ (a_ rfl rfl (a_ rfl rfl (nt_ (WC.seq (WC.cutK (fun z : Bool => z = rdShort (b.drop a) sh k) (fun z : Bool => [(24, .bool z)]) (fun z : Bool => row p [.slice bo b.length bc_, .int .i64 (a : Nat), .bool sh] 107 :: H) ?_ ?_)))))
 refine WC.draw 18 kr_ rfl ?_
 refine WAG.start (N := 18) rfl (wy_ 0 [] rfl (Yd.move rfl) kr_ ?_)
 refine wy_ 1 [0] rfl (Yd.notNil rfl) kr_ ?_
 refine wy_ 2 [1] rfl (Yd.fieldAddr (k := 2) kr_ rfl) kr_ ?_
 refine wq_ (wf_ (i := 3) [2] rfl (QAt.rd Wt.none (Rd.load1 kr_ rfl mem_ (by rfl))) kr_) kr_ ?_
 refine wy_ 4 [3] rfl (Yd.move rfl) kr_ ?_
 refine WAG.part (fun hg11 => ?_) (fun hg11 => ?_)
 refine wn_ 5 [4] 11 rfl rfl kr_ ?_
 refine wn_ 6 [5, 4] 11 rfl rfl kr_ ?_
 refine wn_ 7 [6, 4] 11 rfl rfl kr_ ?_
 refine wn_ 8 [7, 4] 11 rfl rfl kr_ ?_
 refine wn_ 9 [8, 4] 11 rfl rfl kr_ ?_
 refine wn_ 10 [4] 11 rfl rfl kr_ ?_
 refine wn_ 11 [10, 4] 11 rfl rfl kr_ ?_
 refine wn_ 12 [11, 4] 11 rfl rfl kr_ ?_
 refine wn_ 13 [12, 4] 11 rfl rfl kr_ ?_
 refine wn_ 14 [13, 9, 4] 11 rfl rfl kr_ ?_
 refine wn_ 15 [4] 11 rfl rfl kr_ ?_
 refine wn_ 16 [15, 14, 4] 11 rfl rfl kr_ ?_
 refine wy_ 17 [16, 4] rfl (Yd.pickT rfl rfl) kr_ ?_
 refine wd_ [_, _, _, _, _, _, _, _, _, _, _, _, _, _, _, _, _, _] rfl kr_ ?_
 exact DN.reachK (_) (by unfold rdShort; rw [hg11]; rfl) (Sx.put rfl (sx_)) (Sp.all sp_)
 refine wg_ 5 [4] 11 rfl rfl (Yd.move rfl) kr_ ?_
 refine wg_ 6 [5, 4] 11 rfl rfl (Yd.notNil rfl) kr_ ?_
 refine wg_ 7 [6, 4] 11 rfl rfl (Yd.fieldAddr (k := 0) kr_ rfl) kr_ ?_
 refine wq_ (wf_ (i := 8) [7, 4] rfl (QAt.rd (Wt.yes (dj := 11) rfl rfl) (Rd.load1 kr_ rfl mem_ (by rfl))) kr_) kr_ ?_
 refine wg_ 9 [8, 4] 11 rfl rfl (Yd.len (e := 5) kr_ rfl) kr_ ?_
 refine wg_ 10 [4] 11 rfl rfl (Yd.move rfl) kr_ ?_
 refine wg_ 11 [10, 4] 11 rfl rfl (Yd.notNil rfl) kr_ ?_
 refine wg_ 12 [11, 4] 11 rfl rfl (Yd.fieldAddr (k := 1) kr_ rfl) kr_ ?_
 refine wq_ (wf_ (i := 13) [12, 4] rfl (QAt.rd (Wt.yes (dj := 11) rfl rfl) (Rd.load1 kr_ rfl mem_ (by rfl))) kr_) kr_ ?_
 refine wg_ 14 [13, 9, 4] 11 rfl rfl (Yd.sub rfl rfl (by omega) (by omega)) kr_ ?_
 refine wg_ 15 [4] 11 rfl rfl (Yd.move rfl) kr_ ?_
 refine wg_ 16 [15, 14, 4] 11 rfl rfl (Yd.lss rfl rfl) kr_ ?_
 refine wy_ 17 [16, 4] rfl (Yd.pickF rfl rfl) kr_ ?_
 refine wd_ [_, _, _, _, _, _, _, _, _, _, _, _, _, _, _, _, _, _] rfl kr_ ?_
 exact DN.reachK (_) (by unfold rdShort; rw [hg11, hdl, Bool.false_or, Bool.eq_iff_iff, decide_eq_true_eq, decide_eq_true_eq]; omega) (Sx.put rfl (sx_)) (Sp.all sp_)
 intro z hz
 refine WC.cond rfl (fun h24 => ?_) (fun h24 => ?_)
 have hs1 : rdShort (b.drop a) sh k = true := hz.symm.trans h24
 refine sr_ (m_ rfl rfl (n_ rfl rfl (f_ 2 kr_ rfl rfl ?_)))
 refine WL.s (Hd.store1s kr_ rfl rfl (by rfl) fr_ (by rfl) (by first | (simp only [List.set_cons_zero, List.set_cons_succ, Nat.zero_add, Nat.add_zero, Nat.reduceAdd]; rfl) | rfl) ⟨rfl, ?_⟩)
 refine ntsr_ (a_ rfl rfl (a_ rfl rfl (nt_ (WC.ret (DN.then_ret (DN.ret2 Tryz.results80 rfl rfl ?_))))))
 rw [hs1]
 exact ⟨_, [], a, rfl, by unfold rdGot; rw [hs1]; exact Ob.nil _, ha, by unfold rdRest; rw [hs1]; rfl, rfl⟩
 have hs0 : rdShort (b.drop a) sh k = false := hz.symm.trans h24
 have hs2 : sh = false ∧ a + k ≤ b.length := by
   have h9 := hs0
   unfold rdShort at h9
   rw [Bool.or_eq_false_iff, decide_eq_false_iff_not, hdl] at h9
   exact ⟨h9.1, by omega⟩
 have hcut : Bs (.slice (if bc_ = a then bo else bo.map (·.add (a * 1))) (a + k - a) (bc_ - a)) ((b.drop a).take k) H := by
   have h9 := hv.sub (i := a) (j := a + k) (by omega) hs2.2
   rw [show (b.drop a).take (a + k - a) = (b.drop a).take k by congr 1; omega] at h9
   exact h9
 have hcn : ((b.drop a).take k).length = k := by rw [List.length_take]; omega
 refine WC.skip (ts_ (WC.draw 16 kr_ rfl ?_))
 refine WAG.start (N := 16) rfl (wy_ 0 [] rfl (Yd.move rfl) kr_ ?_)
 refine wy_ 1 [0] rfl (Yd.notNil rfl) kr_ ?_
 refine wy_ 2 [1] rfl (Yd.fieldAddr (k := 0) kr_ rfl) kr_ ?_
 refine wq_ (wf_ (i := 3) [2] rfl (QAt.rd Wt.none (Rd.load1 kr_ rfl mem_ (by rfl))) kr_) kr_ ?_
 refine wy_ 4 [] rfl (Yd.move rfl) kr_ ?_
 refine wy_ 5 [4] rfl (Yd.notNil rfl) kr_ ?_
 refine wy_ 6 [5] rfl (Yd.fieldAddr (k := 1) kr_ rfl) kr_ ?_
 refine wq_ (wf_ (i := 7) [6] rfl (QAt.rd Wt.none (Rd.load1 kr_ rfl mem_ (by rfl))) kr_) kr_ ?_
 refine wy_ 8 [] rfl (Yd.move rfl) kr_ ?_
 refine wy_ 9 [8] rfl (Yd.notNil rfl) kr_ ?_
 refine wy_ 10 [9] rfl (Yd.fieldAddr (k := 1) kr_ rfl) kr_ ?_
 refine wq_ (wf_ (i := 11) [10] rfl (QAt.rd Wt.none (Rd.load1 kr_ rfl mem_ (by rfl))) kr_) kr_ ?_
 refine wy_ 12 [] rfl (Yd.move rfl) kr_ ?_
 refine wy_ 13 [12, 11] rfl (Yd.add rfl rfl (by omega) (by omega)) kr_ ?_
 refine wy_ 14 [13, 7, 3] rfl (Yd.slice (e := 5) (s := 1) (i := a) (j := a + k) kr_ kr_ rfl ⟨_, _, rfl, rfl⟩ ⟨_, _, rfl, by omega⟩ (by omega) (by omega)) kr_ ?_
 refine wy_ 15 [14, 13, 12, 11, 10, 9, 8, 7, 6, 5, 4, 3, 2, 1, 0] rfl (Yd.assign rfl) kr_ ?_
 refine wd_ [_, _, _, _, _, _, _, _, _, _, _, _, _, _, _, _] rfl kr_ ?_
 refine ts_ (WC.region (m_ rfl rfl (m_ rfl rfl (n_ rfl rfl (f_ 1 kr_ rfl rfl ?_)))))
 refine d_ kr_ rfl mem_ (by rfl) rfl ?_
 refine m_ rfl rfl (WL.y rfl (Yd.add rfl rfl (by omega) (by omega)) ?_)
 refine n_ rfl rfl (f_ 1 kr_ rfl rfl ?_)
 refine WL.s (Hd.store1s kr_ rfl rfl (by rfl) fr_ (by rfl) (by first | (simp only [List.set_cons_zero, List.set_cons_succ, Nat.zero_add, Nat.add_zero, Nat.reduceAdd]; rfl) | rfl) ⟨rfl, ?_⟩)
 refine ntsr_ (m_ rfl rfl (WL.c rfl (Ent.func Tryz.call40 rfl) (copy_spec _ ((b.drop a).take k) H hcut (by omega)) (Sp.p sp_) ?_))
 rintro x1 H1 ⟨C1, hC1, rfl⟩
 refine a_ rfl rfl (a_ rfl rfl (nt_ (WC.ret (DN.fit (C := C1 ++ (row p [.slice bo b.length bc_, .int .i64 ((a : Int) + k), .bool sh] 107 :: H)) sp_ ?_))))
 refine DN.ret2 Tryz.results80 rfl rfl ?_
 rw [hs0]
 exact ⟨_, C1, a + k, rfl, by unfold rdGot; rw [hs0]; exact hC1, hs2.2, by unfold rdRest; rw [hs0, if_neg (by decide), List.drop_drop], by rw [hs2.1]; rfl⟩
theorem rnum2_tells (p : Nat) (v : Value) (b : List (BitVec 8)) (a : Nat) (sh : Bool) (H : List Ck) (hv : Bs v b H) (hl : b.length ≤ 1000000) (ha : a ≤ b.length) (k : Nat) (hk : k ≤ 8) : Tells Tryz.prog 52 [.pointer (some ⟨p, 0, none⟩), .int .i64 k] (row p [v, .int .i64 (a : Nat), .bool sh] 107 :: H) fun r H' => ∃ a', r = .int .u64 (beN (rdGot (b.drop a) sh k)).toNat ∧ a' ≤ b.length ∧ b.drop a' = rdRest (b.drop a) sh k ∧ H' = row p [v, .int .i64 (a' : Nat), .bool (rdShort (b.drop a) sh k)] 107 :: H := by
 refine Tells.enter Tryz.func52 rfl Tryz.ntmps52 rfl ?_
 intro w0 R
 refine sr_ (WL.y rfl (Yd.assign (v := .int .u64 ((0#64).toNat : Int)) rfl) (ntsr_ (m_ rfl rfl (m_ rfl rfl (WL.c rfl (Ent.func Tryz.call80 rfl) (rtake_tells p v b a sh H hv hl ha k (by omega)) (Sp.p sp_) ?_)))))
 rintro x1 H1 ⟨w, A, a', rfl, hA, ha', hrest, rfl⟩
 obtain ⟨wo, wc, rfl, _⟩ := hA.form
 refine m_ rfl rfl (x_ rfl rfl rfl (x_ rfl rfl rfl (a_ rfl rfl (a_ rfl rfl (ntsr_ (m_ rfl rfl ?_))))))
 refine WL.r rfl (Ent.func Tryz.call81 rfl) (rof_reads _ (rdGot (b.drop a) sh k) _ (hA.bs.mono gr_) (by have := rdGot_len (b.drop a) sh k; omega)) ?_
 refine a_ rfl rfl (nt_ (WC.ret (DN.fit (C := row p [v, .int .i64 (a' : Nat), .bool (rdShort (b.drop a) sh k)] 107 :: H) sp_ ?_)))
 exact DN.ret1 Tryz.results52 rfl (⟨a', rfl, ha', hrest, rfl⟩)
theorem rtext2_tells (p : Nat) (v : Value) (b : List (BitVec 8)) (a : Nat) (sh : Bool) (H : List Ck) (hv : Bs v b H) (hl : b.length ≤ 1000000) (ha : a ≤ b.length) : Tells Tryz.prog 53 [.pointer (some ⟨p, 0, none⟩)] (row p [v, .int .i64 (a : Nat), .bool sh] 107 :: H) fun r H' => ∃ A a', Bs r (txGot (b.drop a) sh) A ∧ a' ≤ b.length ∧ b.drop a' = rdRest (b.drop a) sh (txN (b.drop a)) ∧ H' = A ++ (row p [v, .int .i64 (a' : Nat), .bool (rdShort (b.drop a) sh (txN (b.drop a)))] 107 :: H) := by
 refine Tells.enter Tryz.func53 rfl Tryz.ntmps53 rfl ?_
 intro w0 R
 obtain ⟨bo, bc_, rfl, hbc⟩ := hv.form
 have htx := txN_le (b.drop a)
 refine sr_ (a_ rfl rfl (ntsr_ (a_ rfl rfl (nt_ (WC.cutK (fun _z : Unit => True) (fun _z : Unit => [(3, .int .i64 (((b.drop a).headD 0#8).toNat : Int))]) (fun _z : Unit => row p [.slice bo b.length bc_, .int .i64 (a : Nat), .bool sh] 107 :: H) ?_ ?_)))))
 refine WC.seq (WC.draw 10 kr_ rfl ?_)
 refine WAG.start (N := 10) rfl (wy_ 0 [] rfl (Yd.move rfl) kr_ ?_)
 refine wy_ 1 [0] rfl (Yd.notNil rfl) kr_ ?_
 refine wy_ 2 [1] rfl (Yd.fieldAddr (k := 1) kr_ rfl) kr_ ?_
 refine wq_ (wf_ (i := 3) [2] rfl (QAt.rd Wt.none (Rd.load1 kr_ rfl mem_ (by rfl))) kr_) kr_ ?_
 refine wy_ 4 [] rfl (Yd.move rfl) kr_ ?_
 refine wy_ 5 [4] rfl (Yd.notNil rfl) kr_ ?_
 refine wy_ 6 [5] rfl (Yd.fieldAddr (k := 0) kr_ rfl) kr_ ?_
 refine wq_ (wf_ (i := 7) [6] rfl (QAt.rd Wt.none (Rd.load1 kr_ rfl mem_ (by rfl))) kr_) kr_ ?_
 refine wy_ 8 [7] rfl (Yd.len (e := 5) kr_ rfl) kr_ ?_
 refine wy_ 9 [8, 3] rfl (Yd.lss rfl rfl) kr_ ?_
 refine wd_ [_, _, _, _, _, _, _, _, _, _] rfl kr_ ?_
 refine DN.then_normal (WC.ite rfl (fun h15 => ?_) (fun h15 => ?_))
 refine WC.draw 12 kr_ rfl ?_
 refine WAG.start (N := 12) rfl (wy_ 0 [] rfl (Yd.move rfl) kr_ ?_)
 refine wy_ 1 [0] rfl (Yd.notNil rfl) kr_ ?_
 refine wy_ 2 [1] rfl (Yd.fieldAddr (k := 0) kr_ rfl) kr_ ?_
 refine wq_ (wf_ (i := 3) [2] rfl (QAt.rd Wt.none (Rd.load1 kr_ rfl mem_ (by rfl))) kr_) kr_ ?_
 refine wy_ 4 [] rfl (Yd.move rfl) kr_ ?_
 refine wy_ 5 [4] rfl (Yd.notNil rfl) kr_ ?_
 refine wy_ 6 [5] rfl (Yd.fieldAddr (k := 1) kr_ rfl) kr_ ?_
 refine wq_ (wf_ (i := 7) [6] rfl (QAt.rd Wt.none (Rd.load1 kr_ rfl mem_ (by rfl))) kr_) kr_ ?_
 have hlt : a < b.length := by omega
 have hhd : (b.drop a).headD 0#8 = b[a] := by rw [List.drop_eq_getElem_cons hlt]; rfl
 obtain ⟨lb, lf, lcs, lT, lfr, lex, elo, _, hlm, hlcs⟩ := Rs.lies hv (by omega)
 rw [hhd]
 refine wy_ 8 [7, 3] rfl (Yd.indexAddr (e := 5) (s := 1) (b := lb) (o := lf) (n := b.length) (c := bc_) kr_ kr_ (congrArg (fun q => some (Value.slice q b.length bc_)) elo) rfl (by omega) (by omega)) kr_ ?_
 refine wq_ (wf_ (i := 9) [8] rfl (QAt.rd Wt.none (Rd.load1 (v := .int .u8 b[a].toNat) (b := lb) (o := lf + (a : Int).toNat * 1) (cs := lcs) kr_ rfl (Gr.get2 gr_ hlm) (rs_cell1 hlcs (bc_get hlt)))) kr_) kr_ ?_
 refine wy_ 10 [9] rfl (Yd.int8 _ kr_ kr_ rfl rfl) kr_ ?_
 refine ws_ [(11, [10, 9, 8, 7, 6, 5, 4, 3, 2, 1, 0])] kr_ (all_c ?_ (all_n))
 refine so_ (j := 11) [_, _, _, _, _, _, _, _, _, _, _] rfl (SO.y rfl Wt.none rfl (Yd.assign rfl) (wk_ [] (_ :: ([_, _, _, _, _, _, _, _, _, _, _] ++ _)) rfl rfl all_n (wd_ [] rfl kr_ ?_)))
 exact DN.reachK (()) (trivial) (Sx.put rfl (sx_)) (Sp.all sp_)
 refine WC.skip ?_
 rw [show ((b.drop a).headD 0#8) = 0#8 by rw [List.drop_of_length_le (by omega)]; rfl]
 exact DN.reachK (()) (trivial) (Sx.put rfl (sx_)) (Sp.all sp_)
 intro _ _
 refine sr_ (m_ rfl rfl (m_ rfl rfl (WL.y rfl (Yd.add rfl rfl (by omega) (by omega)) ?_)))
 refine WL.renamed (t := 30) (v := .int .i64 ((txN (b.drop a) : Nat) : Int)) rfl (congrArg (Value.int .i64) (by unfold txN; omega)) ?_
 refine WL.c rfl (Ent.func Tryz.call80 rfl) (rtake_tells p _ b a sh H hv hl ha (txN (b.drop a)) (by omega)) (Sp.p sp_) ?_
 rintro x1 H1 ⟨w, A, a', rfl, hA, ha', hrest, rfl⟩
 obtain ⟨got, hgot⟩ : ∃ got, got = rdGot (b.drop a) sh (txN (b.drop a)) := ⟨_, rfl⟩
 rw [← hgot] at hA
 have htg : txGot (b.drop a) sh = got.drop 1 := by rw [hgot]; rfl
 obtain ⟨wo, wc, rfl, hwc⟩ := hA.form
 refine m_ rfl rfl (x_ rfl rfl rfl (x_ rfl rfl rfl (a_ rfl rfl (a_ rfl rfl (nt_ (WC.seq (sr_ (m_ rfl rfl (WL.y rfl (Yd.notB rfl) (nt_ (WC.cond rfl (fun h35 => ?_) (fun h35 => ?_))))))))))))
 have hs1 : rdShort (b.drop a) sh (txN (b.drop a)) = true := by simpa using h35
 have hg0 : got = [] := by rw [hgot]; unfold rdGot; rw [hs1]; rfl
 refine sr_ (a_ rfl rfl (nt_ (WC.ret (DN.then_ret (DN.fit (C := row p [.slice bo b.length bc_, .int .i64 (a' : Nat), .bool (rdShort (b.drop a) sh (txN (b.drop a)))] 107 :: H) sp_ ?_)))))
 refine DN.ret1 Tryz.results53 rfl ?_
 exact ⟨[], a', by rw [htg, hg0]; exact .inl ⟨_, _, rfl, rfl, rfl⟩, ha', hrest, rfl⟩
 have hs0 : rdShort (b.drop a) sh (txN (b.drop a)) = false := by simpa using h35
 have hgl : 1 ≤ got.length := by
   have h9 := hs0
   unfold rdShort at h9
   rw [Bool.or_eq_false_iff, decide_eq_false_iff_not] at h9
   rw [hgot]; unfold rdGot; rw [hs0, if_neg (by decide), List.length_take]
   have : 1 ≤ txN (b.drop a) := by unfold txN; omega
   omega
 refine WC.skip (ts_ (WC.region (m_ rfl rfl (WL.y rfl (Yd.slice (e := 5) (s := 1) (i := 1) (j := got.length) kr_ kr_ rfl ⟨_, _, rfl, rfl⟩ rfl (by omega) (by omega)) ?_))))
 refine a_ rfl rfl (nt_ (WC.ret (DN.fit (C := A ++ (row p [.slice bo b.length bc_, .int .i64 (a' : Nat), .bool (rdShort (b.drop a) sh (txN (b.drop a)))] 107 :: H)) sp_ ?_)))
 refine DN.ret1 Tryz.results53 rfl ?_
 exact ⟨A, a', by rw [htg]; have := hA.bs.sub (i := 1) (j := got.length) hgl (Nat.le_refl _); rw [List.take_of_length_le (by simp)] at this; exact this, ha', hrest, rfl⟩
end Go.Proofs.YtkamlondepceiaaGreat

set_option linter.unusedVariables false
set_option linter.unusedSimpArgs false
set_option maxHeartbeats 4000000
namespace Go.Proofs.YtkamlondepceiaaGreat
open Go.SL
theorem rencode_tells (w : Wk) (v : Value) (H : List Ck) (hv : Bs v w.name H) (hl : w.name.length ≤ 1000000) : Tells Tryz.prog 12 [.agg (wkc w v).toArray] H fun r H' => ∃ x A, r = .tuple #[x, .int .i64 (encE w)] ∧ Ob 5 x (ewkB w) A ∧ H' = A ++ H := by
 refine Tells.enter Tryz.func12 rfl Tryz.ntmps12 rfl ?_
 intro w0 R
 obtain ⟨no, nc, rfl, hnc⟩ := hv.form
 refine sr_ (WL.h rfl (Hd.boxA rfl fun b1 => ⟨_, rfl, ?_⟩))
 refine a_ rfl rfl (a_ rfl rfl (nt_ (WC.seq (WC.cutK (fun z : Bool => z = !decide (wkGood w)) (fun z : Bool => [(27, .bool z)]) (fun z : Bool => row b1 (wkc w (.slice no w.name.length nc)) 24 :: H) ?_ ?_))))
 refine WC.region (f_ 0 kr_ rfl rfl ?_)
 refine d_ kr_ rfl mem_ (by rfl) rfl ?_
 refine WL.y rfl (Yd.lss rfl rfl) (m_ rfl rfl (WL.partP (t := 7) rfl (fun hg7 => ?_) (fun hg7 => ?_)))
 iterate 3 refine gn_ 7 rfl rfl rfl rfl ?_
 refine WL.y rfl (Yd.pickT rfl rfl) (m_ rfl rfl ?_)
 iterate 3 refine gn_ 12 rfl rfl rfl rfl ?_
 refine WL.y rfl (Yd.pickT rfl rfl) (m_ rfl rfl ?_)
 iterate 3 refine gn_ 17 rfl rfl rfl rfl ?_
 refine WL.y rfl (Yd.pickT rfl rfl) (m_ rfl rfl ?_)
 iterate 4 refine gn_ 22 rfl rfl rfl rfl ?_
 refine WL.y rfl (Yd.pickT rfl rfl) (WL.nil ?_)
 exact DN.reachK (_) (wk_z (by unfold wkGood; simp only [decide_eq_true_eq, eq_self, true_iff, Bool.false_eq_true, false_iff]; omega)) (Sx.put rfl (sx_)) (Sp.all sp_)
 refine gy_ 7 rfl rfl rfl (Yd.fieldAddr (k := 0) kr_ rfl) ?_
 refine WL.gh (dj := 7) rfl rfl rfl (Hd.load1 kr_ rfl mem_ (by rfl) ⟨_, rfl, ?_⟩)
 refine gy_ 7 rfl rfl rfl (Yd.gtr rfl rfl) (WL.y rfl (Yd.pickF rfl rfl) (m_ rfl rfl (WL.partP (t := 12) rfl (fun hg12 => ?_) (fun hg12 => ?_))))
 iterate 3 refine gn_ 12 rfl rfl rfl rfl ?_
 refine WL.y rfl (Yd.pickT rfl rfl) (m_ rfl rfl ?_)
 iterate 3 refine gn_ 17 rfl rfl rfl rfl ?_
 refine WL.y rfl (Yd.pickT rfl rfl) (m_ rfl rfl ?_)
 iterate 4 refine gn_ 22 rfl rfl rfl rfl ?_
 refine WL.y rfl (Yd.pickT rfl rfl) (WL.nil ?_)
 exact DN.reachK (_) (wk_z (by unfold wkGood; simp only [decide_eq_true_eq, eq_self, true_iff, Bool.false_eq_true, false_iff]; omega)) (Sx.put rfl (sx_)) (Sp.all sp_)
 refine gy_ 12 rfl rfl rfl (Yd.fieldAddr (k := 1) kr_ rfl) ?_
 refine WL.gh (dj := 12) rfl rfl rfl (Hd.load1 kr_ rfl mem_ (by rfl) ⟨_, rfl, ?_⟩)
 refine gy_ 12 rfl rfl rfl (Yd.lss rfl rfl) (WL.y rfl (Yd.pickF rfl rfl) (m_ rfl rfl (WL.partP (t := 17) rfl (fun hg17 => ?_) (fun hg17 => ?_))))
 iterate 3 refine gn_ 17 rfl rfl rfl rfl ?_
 refine WL.y rfl (Yd.pickT rfl rfl) (m_ rfl rfl ?_)
 iterate 4 refine gn_ 22 rfl rfl rfl rfl ?_
 refine WL.y rfl (Yd.pickT rfl rfl) (WL.nil ?_)
 exact DN.reachK (_) (wk_z (by unfold wkGood; simp only [decide_eq_true_eq, eq_self, true_iff, Bool.false_eq_true, false_iff]; omega)) (Sx.put rfl (sx_)) (Sp.all sp_)
 refine gy_ 17 rfl rfl rfl (Yd.fieldAddr (k := 1) kr_ rfl) ?_
 refine WL.gh (dj := 17) rfl rfl rfl (Hd.load1 kr_ rfl mem_ (by rfl) ⟨_, rfl, ?_⟩)
 refine gy_ 17 rfl rfl rfl (Yd.gtr rfl rfl) (WL.y rfl (Yd.pickF rfl rfl) (m_ rfl rfl (WL.partP (t := 22) rfl (fun hg22 => ?_) (fun hg22 => ?_))))
 iterate 4 refine gn_ 22 rfl rfl rfl rfl ?_
 refine WL.y rfl (Yd.pickT rfl rfl) (WL.nil ?_)
 exact DN.reachK (_) (wk_z (by unfold wkGood; simp only [decide_eq_true_eq, eq_self, true_iff, Bool.false_eq_true, false_iff]; omega)) (Sx.put rfl (sx_)) (Sp.all sp_)
 refine gy_ 22 rfl rfl rfl (Yd.fieldAddr (k := 2) kr_ rfl) ?_
 refine WL.gh (dj := 22) rfl rfl rfl (Hd.load1 kr_ rfl mem_ (by rfl) ⟨_, rfl, ?_⟩)
 refine gy_ 22 rfl rfl rfl (Yd.len (e := 5) kr_ rfl) ?_
 refine gy_ 22 rfl rfl rfl (Yd.gtr rfl rfl) (WL.y rfl (Yd.pickF rfl rfl) (WL.nil ?_))
 exact DN.reachK (_) (wk_z (by unfold wkGood; simp only [decide_eq_true_eq, eq_self, true_iff, Bool.false_eq_true, false_iff]; omega)) (Sx.put rfl (sx_)) (Sp.all sp_)
 intro z hz
 refine WC.cond rfl (fun h27 => ?_) (fun h27 => ?_)
 have hb : ¬ wkGood w := by rw [hz] at h27; simpa using h27
 refine sr_ (a_ rfl rfl (a_ rfl rfl (nt_ (WC.ret (DN.then_ret (DN.fit (C := H) sp_ ?_))))))
 refine DN.ret2 Tryz.results12 rfl rfl ?_
 rw [(enc_bad hb).1, (enc_bad hb).2]
 exact ⟨_, [], rfl, Ob.nil _, rfl⟩
 have hg : wkGood w := by rw [hz] at h27; simpa using h27
 have hF : FVs H ((fdc ⟨1, BitVec.ofInt 64 w.what, []⟩ (.slice none 0 0)) ++ (fdc ⟨4, BitVec.ofInt 64 w.n, []⟩ (.slice none 0 0)) ++ (fdc ⟨0, 0#64, w.name⟩ (.slice no w.name.length nc))) (fsW w) := FVs.cons (f := ⟨1, BitVec.ofInt 64 w.what, []⟩) (.inl ⟨_, _, rfl, rfl, rfl⟩) (FVs.cons (f := ⟨4, BitVec.ofInt 64 w.n, []⟩) (.inl ⟨_, _, rfl, rfl, rfl⟩) (FVs.cons (f := ⟨0, 0#64, w.name⟩) hv .nil))
 refine WC.skip (ts_ (WC.region (f_ 0 kr_ rfl rfl ?_)))
 refine d_ kr_ rfl mem_ (by rfl) rfl ?_
 refine WL.y rfl (Yd.to64 _ kr_ kr_ rfl rfl) ?_
 refine WL.y rfl (Yd.buildL (pl := [(0, 1), (1, 1), (2, 1)]) (zs := [.int .i64 0, .int .u64 0, .slice none 0 0]) (parts := [(0, .const (.int .i64 1)), (1, .tmp 30)]) (vs := [(0, _), (1, _)]) (cells := [_, _, .slice none 0 0]) kr_ kr_ rfl rfl) ?_
 refine f_ 1 kr_ rfl rfl ?_
 refine d_ kr_ rfl mem_ (by rfl) rfl ?_
 refine WL.y rfl (Yd.to64 _ kr_ kr_ rfl rfl) ?_
 refine WL.y rfl (Yd.buildL (pl := [(0, 1), (1, 1), (2, 1)]) (zs := [.int .i64 0, .int .u64 0, .slice none 0 0]) (parts := [(0, .const (.int .i64 4)), (1, .tmp 34)]) (vs := [(0, _), (1, _)]) (cells := [_, _, .slice none 0 0]) kr_ kr_ rfl rfl) ?_
 refine f_ 2 kr_ rfl rfl ?_
 refine d_ kr_ rfl mem_ (by rfl) rfl ?_
 refine WL.y rfl (Yd.buildL (pl := [(0, 1), (1, 1), (2, 1)]) (zs := [.int .i64 0, .int .u64 0, .slice none 0 0]) (parts := [(2, .tmp 37)]) (vs := [(2, _)]) (cells := [.int .i64 0, .int .u64 0, _]) kr_ kr_ rfl rfl) ?_
 refine WL.h rfl (Hd.buildSlice (e := 98) (sz := 3) (zs := [.int .i64 0, .int .u64 0, .slice none 0 0]) (parts := [(0, .tmp 31), (1, .tmp 35), (2, .tmp 38)]) (vs := [(0, .agg (fdc ⟨1, BitVec.ofInt 64 w.what, []⟩ (.slice none 0 0)).toArray), (1, .agg (fdc ⟨4, BitVec.ofInt 64 w.n, []⟩ (.slice none 0 0)).toArray), (2, .agg (fdc ⟨0, 0#64, w.name⟩ (.slice no w.name.length nc)).toArray)]) (cells := (fdc ⟨1, BitVec.ofInt 64 w.what, []⟩ (.slice none 0 0)) ++ (fdc ⟨4, BitVec.ofInt 64 w.n, []⟩ (.slice none 0 0)) ++ (fdc ⟨0, 0#64, w.name⟩ (.slice no w.name.length nc))) kr_ kr_ kr_ rfl kr_ kr_ fun b39 => ⟨_, rfl, ?_⟩)
 refine WL.c rfl (Ent.func Tryz.call46 rfl) (rput_tells _ ((fdc ⟨1, BitVec.ofInt 64 w.what, []⟩ (.slice none 0 0)) ++ (fdc ⟨4, BitVec.ofInt 64 w.n, []⟩ (.slice none 0 0)) ++ (fdc ⟨0, 0#64, w.name⟩ (.slice no w.name.length nc))) (fsW w) (row b39 ((fdc ⟨1, BitVec.ofInt 64 w.what, []⟩ (.slice none 0 0)) ++ (fdc ⟨4, BitVec.ofInt 64 w.n, []⟩ (.slice none 0 0)) ++ (fdc ⟨0, 0#64, w.name⟩ (.slice no w.name.length nc))) 98 :: H) (.inr ⟨b39, 0, 3, _, 98, (0, 0), true, rfl, Nat.le_refl _, List.mem_cons_self, rfl⟩) (hF.mono gr_) (by show 3 ≤ 3000; omega) (wfs_small w hl)) (Sp.p sp_) ?_
 rintro x1 H1 ⟨x2, A, rfl, hA, rfl⟩
 rw [putL_W hg] at hA ⊢
 refine x_ rfl rfl rfl (x_ rfl rfl rfl (a_ rfl rfl (a_ rfl rfl (nt_ (WC.ret (DN.fit (C := A ++ H) sp_ ?_))))))
 refine DN.ret2 Tryz.results12 rfl rfl ?_
 rw [(enc_good hg).1, (enc_good hg).2]
 exact ⟨_, A, rfl, hA, rfl⟩
theorem rdecode_tells (v : Value) (b : List (BitVec 8)) (H : List Ck) (hv : Bs v b H) (hl : b.length ≤ 900000) : Tells Tryz.prog 14 [v] H fun r H' => ∃ x A, r = .tuple #[.agg (wkc (decW b) x).toArray, .int .i64 (decE b)] ∧ Bs x (decW b).name A ∧ H' = A ++ H := by
 refine Tells.enter Tryz.func14 rfl Tryz.ntmps14 rfl ?_
 intro w0 R
 obtain ⟨bo, bc9, rfl, hbc⟩ := hv.form
 have hq0 : b.drop 0 = (rW b).bs := rfl
 refine sr_ (WL.h rfl (Hd.alloc (zs := [.int .i64 0, .int .i64 0, .slice none 0 0]) kr_ fun b2 => ⟨_, rfl, ?_⟩))
 refine a_ rfl rfl (ntsr_ (m_ rfl rfl (WL.y rfl (Yd.buildL (pl := [(0, 1), (1, 1), (2, 1)]) (zs := [.slice none 0 0, .int .i64 0, .bool false]) (parts := [(0, .tmp 8)]) (vs := [(0, _)]) (cells := [_, .int .i64 0, .bool false]) kr_ kr_ rfl rfl) ?_)))
 refine WL.h rfl (Hd.boxA rfl fun p => ⟨_, rfl, ?_⟩)
 refine a_ rfl rfl (ntsr_ (m_ rfl rfl (WL.c rfl (Ent.func Tryz.call52 rfl) (rnum2_tells p (.slice bo b.length bc9) b 0 (rW b).sh H hv (by omega) (Nat.zero_le _) 1 (by omega)) (Sp.p sp_) ?_)))
 rintro x1 H1 ⟨a1, rfl, ha1, hd1, rfl⟩
 rw [hq0] at hd1 ⊢
 change b.drop a1 = ((rW b).on 1).bs at hd1
 refine WL.renamed (t := 12) (v := .int .u64 (((rW b).u8.toNat : Nat) : Int)) rfl (congrArg (fun q : Nat => Value.int .u64 (q : Int)) (Rst.u8_nat2 (rW b))) ?_
 refine WL.y rfl (Yd.toInt kr_ kr_ rfl (by omega) (by omega)) ?_
 refine WL.y rfl (Yd.buildL (pl := [(0, 1), (1, 1), (2, 1)]) (zs := [.int .i64 0, .int .i64 0, .slice none 0 0]) (parts := [(0, .tmp 13)]) (vs := [(0, _)]) (cells := [_, .int .i64 0, .slice none 0 0]) kr_ kr_ rfl rfl) ?_
 refine WL.h rfl (Hd.alloc (zs := [.int .i64 0, .int .i64 0, .slice none 0 0]) kr_ fun b5 => ⟨_, rfl, ?_⟩)
 refine WL.s (Hd.storeAll (n := 3) kr_ rfl rfl (by rfl) one_ fr_ (by rfl) ⟨rfl, ?_⟩)
 refine ntsr_ (m_ rfl rfl (WL.c rfl (Ent.func Tryz.call52 rfl) (rnum2_tells p (.slice bo b.length bc9) b a1 ((rW b).on 1).sh H hv (by omega) ha1 4 (by omega)) (Sp.p sp_) ?_))
 rintro x2 H2 ⟨a2, rfl, ha2, hd2, rfl⟩
 rw [hd1] at hd2 ⊢
 change b.drop a2 = (((rW b).on 1).on 4).bs at hd2
 refine WL.renamed (t := 16) (v := .int .u64 ((((rW b).on 1).u32.toNat : Nat) : Int)) rfl (congrArg (fun q : Nat => Value.int .u64 (q : Int)) (Rst.u32_nat ((rW b).on 1))) ?_
 refine WL.y rfl (Yd.toInt kr_ kr_ rfl (by omega) (by omega)) ?_
 refine f_ 1 kr_ rfl rfl ?_
 refine WL.s (Hd.store1s kr_ rfl rfl (by rfl) fr_ (by rfl) (by first | (simp only [List.set_cons_zero, List.set_cons_succ, Nat.zero_add, Nat.add_zero, Nat.reduceAdd]; rfl) | rfl) ⟨rfl, ?_⟩)
 refine ntsr_ (m_ rfl rfl (WL.c rfl (Ent.func Tryz.call53 rfl) (rtext2_tells p (.slice bo b.length bc9) b a2 (((rW b).on 1).on 4).sh H hv (by omega) ha2) (Sp.p sp_) ?_))
 rintro x3 H3 ⟨A3, a3, hA3, ha3, hd3, rfl⟩
 rw [hd2] at hA3 hd3 ⊢
 obtain ⟨o3, c3, rfl, _⟩ := hA3.form
 refine f_ 2 kr_ rfl rfl ?_
 refine WL.s (Hd.store1s kr_ rfl rfl (by rfl) fr_ (by rfl) (by first | (simp only [List.set_cons_zero, List.set_cons_succ, Nat.zero_add, Nat.add_zero, Nat.reduceAdd]; rfl) | rfl) ⟨rfl, ?_⟩)
 refine ntsr_ (WL.h rfl (Hd.loadAll (n := 3) kr_ rfl mem_ (by rfl) ⟨_, rfl, ?_⟩))
 refine WL.c rfl (Ent.func Tryz.call12 rfl) (rencode_tells (wkOf b) (.slice o3 (wkOf b).name.length c3) A3 hA3 (Nat.le_trans (txGot_len _ _) (by decide))) (Sp.p sp_) ?_
 rintro x4 H4 ⟨x5, A5, rfl, hA5, rfl⟩
 obtain ⟨o5, c5, rfl, _⟩ := hA5.form
 refine m_ rfl rfl (x_ rfl rfl rfl (x_ rfl rfl rfl (a_ rfl rfl (a_ rfl rfl (nt_ (WC.seq (WC.cutK (fun z : Bool => z = decide (decBad b)) (fun z : Bool => [(35, .bool z)]) (fun z : Bool => row b5 (wkc (wkOf b) (.slice o3 (wkOf b).name.length c3)) 24 :: (A3 ++ (row b2 [.int .i64 0, .int .i64 0, .slice none 0 0] 24 :: H))) ?_ ?_)))))))
 refine WC.region (m_ rfl rfl (WL.y rfl (Yd.neq rfl rfl) (m_ rfl rfl (WL.partP (t := 29) rfl (fun hg29 => ?_) (fun hg29 => ?_)))))
 iterate 5 refine gn_ 29 rfl rfl rfl rfl ?_
 exact WL.y rfl (Yd.pickT rfl rfl) (WL.nil (DN.reachS (_) (by first | exact wrg_a hg29 | exact wrg_b hg29) (Sx.put rfl (sx_)) sp_))
 refine gy_ 29 rfl rfl rfl (Yd.move rfl) (WL.gh (dj := 29) rfl rfl rfl (Hd.toStr (e := 5) (bs := ewkB (wkOf b)) kr_ kr_ Tryz.underlying9 rfl (hA5.bs.mono gr_) ⟨_, rfl, ?_⟩))
 refine gy_ 29 rfl rfl rfl (Yd.move rfl) (WL.gh (dj := 29) rfl rfl rfl (Hd.toStr (e := 5) (bs := b) kr_ kr_ Tryz.underlying9 rfl (hv.mono gr_) ⟨_, rfl, ?_⟩))
 exact gy_ 29 rfl rfl rfl (Yd.neqS rfl rfl) (WL.y rfl (Yd.pickF rfl rfl) (WL.nil (DN.reachS (_) (by first | exact wrg_a hg29 | exact wrg_b hg29) (Sx.put rfl (sx_)) sp_)))
 intro z9 hz9
 refine WC.cond rfl (fun h35 => ?_) (fun h35 => ?_)
 have hb : decBad b := of_decide_eq_true (hz9.symm.trans h35)
 refine sr_ (WL.y rfl (Yd.buildL (pl := [(0, 1), (1, 1), (2, 1)]) (zs := [.int .i64 0, .int .i64 0, .slice none 0 0]) (parts := []) (vs := []) (cells := [.int .i64 0, .int .i64 0, .slice none 0 0]) kr_ kr_ rfl rfl) ?_)
 refine WL.s (Hd.storeAll (n := 3) kr_ rfl rfl (by rfl) one_ fr_ (by rfl) ⟨rfl, ?_⟩)
 refine a_ rfl rfl (nt_ (WC.ret (DN.then_ret (DN.retCT (s := 3) H Tryz.results14 kr_ rfl rfl mem_ (by rfl) sp_ ?_))))
 rw [show decW b = Wk.z from if_pos hb, show decE b = 120 from if_pos hb]
 exact ⟨_, [], rfl, .inl ⟨_, _, rfl, rfl, rfl⟩, rfl⟩
 have hb : ¬ decBad b := of_decide_eq_false (hz9.symm.trans h35)
 refine WC.skip (ts_ (WC.region (WL.h rfl (Hd.loadAll (n := 3) kr_ rfl mem_ (by rfl) ⟨_, rfl, ?_⟩))))
 refine WL.s (Hd.storeAll (n := 3) kr_ rfl rfl (by rfl) one_ fr_ (by rfl) ⟨rfl, ?_⟩)
 refine a_ rfl rfl (nt_ (WC.ret (DN.retCT (s := 3) (A3 ++ H) Tryz.results14 kr_ rfl rfl mem_ (by rfl) sp_ ?_)))
 rw [show decW b = wkOf b from if_neg hb, show decE b = 0 from if_neg hb]
 exact ⟨_, A3, rfl, hA3, rfl⟩
end Go.Proofs.YtkamlondepceiaaGreat

set_option linter.unusedVariables false
set_option linter.unusedSimpArgs false
set_option maxHeartbeats 4000000
namespace Go.Proofs.YtkamlondepceiaaGreat
open Go.SL
theorem step_tells (ep o : BitVec 32) (st : Int) (u : Bool) (w : Wk) (v : Value) (H : List Ck) (hv : Bs v w.name H) (hl : w.name.length ≤ 1000000) : Tells Tryz.prog 39 [.int .u32 ep.toNat, .int .u32 o.toNat, .int .i64 st, .bool u, .agg (wkc w v).toArray] H fun r H' => ∃ x A, r = .agg (ntc (stepW ep o st u (ewkB w)) (.slice none 0 0) x).toArray ∧ Ob 5 x (ewkB w) A ∧ H' = A ++ H := by
 refine Tells.enter Tryz.func39 rfl Tryz.ntmps39 rfl ?_
 intro w0 R
 obtain ⟨no, nc, rfl, hnc⟩ := hv.form
 refine sr_ (WL.h rfl (Hd.boxA rfl fun b9 => ⟨_, rfl, ?_⟩))
 refine WL.h rfl (Hd.alloc (zs := [.int .i64 0, .int .u32 0, .int .u32 0, .int .u64 0, .int .u64 0, .int .u32 0, .int .i64 0, .bool false, .int .i64 0, .slice none 0 0, .slice none 0 0]) kr_ fun b10 => ⟨_, rfl, ?_⟩)
 refine ntsr_ (WL.h rfl (Hd.loadAll (n := 3) kr_ rfl mem_ (by rfl) ⟨_, rfl, ?_⟩))
 refine WL.c rfl (Ent.func Tryz.call12 rfl) (rencode_tells w _ H hv hl) (Sp.p sp_) ?_
 rintro x0 H9 ⟨x, A, rfl, hA, rfl⟩
 obtain ⟨xo, xc, rfl, _⟩ := hA.form
 refine m_ rfl rfl (x_ rfl rfl rfl (x_ rfl rfl rfl (a_ rfl rfl (a_ rfl rfl (ntsr_ ?_)))))
 iterate 5 refine m_ rfl rfl ?_
 refine WL.y rfl (Yd.buildL (pl := [(0, 1), (1, 1), (2, 1), (3, 1), (4, 1), (5, 1), (6, 1), (7, 1), (8, 1), (9, 1), (10, 1)]) (zs := [.int .i64 0, .int .u32 0, .int .u32 0, .int .u64 0, .int .u64 0, .int .u32 0, .int .i64 0, .bool false, .int .i64 0, .slice none 0 0, .slice none 0 0]) (parts := [(0, .const (.int .i64 7)), (1, .tmp 18), (5, .tmp 19), (6, .tmp 20), (7, .tmp 21), (10, .tmp 22)]) (vs := [(0, _), (1, _), (5, _), (6, _), (7, _), (10, _)]) (cells := [_, _, .int .u32 0, .int .u64 0, .int .u64 0, _, _, _, .int .i64 0, .slice none 0 0, _]) kr_ kr_ rfl rfl) ?_
 refine WL.s (Hd.storeAll (n := 11) kr_ rfl rfl (by rfl) one_ fr_ (by rfl) ⟨rfl, ?_⟩)
 refine nt_ (WC.ret (DN.retCS (s := 11) (A ++ H) Tryz.results39 kr_ rfl mem_ (by rfl) sp_ ?_))
 exact ⟨_, A, rfl, hA, rfl⟩
end Go.Proofs.YtkamlondepceiaaGreat

set_option linter.unusedVariables false
set_option linter.unusedSimpArgs false
set_option maxHeartbeats 4000000
namespace Go.Proofs.YtkamlondepceiaaGreat
open Go.SL
theorem note_tells (a : As) (vn vd : Value) (H : List Ck) (hn : Bs vn a.w.name H) (hd : Bs vd a.data H) (hl : a.w.name.length ≤ 1000000) : Tells Tryz.prog 20 [.agg (asc a vn vd).toArray] H fun r H' => ∃ x A, r = .agg (ntc (noteA a) (.slice none 0 0) x).toArray ∧ Bs x (noteA a).data (A ++ H) ∧ H' = A ++ H := by
 refine Tells.enter Tryz.func20 rfl Tryz.ntmps20 rfl ?_
 intro w0 R
 obtain ⟨no, nc, rfl, hnc⟩ := hn.form
 obtain ⟨do_, dc, rfl, hdc⟩ := hd.form
 refine sr_ (WL.h rfl (Hd.boxA rfl fun b1 => ⟨_, rfl, ?_⟩))
 refine WL.h rfl (Hd.alloc (zs := [.int .i64 0, .int .u32 0, .int .u32 0, .int .u64 0, .int .u64 0, .int .u32 0, .int .i64 0, .bool false, .int .i64 0, .slice none 0 0, .slice none 0 0]) kr_ fun b2 => ⟨_, rfl, ?_⟩)
 refine ntsr_ (f_ 0 kr_ rfl rfl ?_)
 refine d_ kr_ rfl mem_ (by rfl) rfl ?_
 refine f_ 1 kr_ rfl rfl ?_
 refine d_ kr_ rfl mem_ (by rfl) rfl ?_
 refine f_ 2 kr_ rfl rfl ?_
 refine d_ kr_ rfl mem_ (by rfl) rfl ?_
 refine f_ 3 kr_ rfl rfl ?_
 refine d_ kr_ rfl mem_ (by rfl) rfl ?_
 refine f_ 4 kr_ rfl rfl ?_
 refine WL.h rfl (Hd.loadA (n := 3) (vs := [_, _, _]) kr_ rfl mem_ (by rfl) (by rfl) ⟨_, rfl, ?_⟩)
 refine WL.c rfl (Ent.func Tryz.call39 rfl) (step_tells a.ep a.o a.st a.u a.w _ H hn hl) (Sp.p sp_) ?_
 rintro x0 H9 ⟨x, A, rfl, hA, rfl⟩
 obtain ⟨xo, xc, rfl, _⟩ := hA.form
 refine WL.h rfl (Hd.alloc (zs := [.int .i64 0, .int .u32 0, .int .u32 0, .int .u64 0, .int .u64 0, .int .u32 0, .int .i64 0, .bool false, .int .i64 0, .slice none 0 0, .slice none 0 0]) kr_ fun b3 => ⟨_, rfl, ?_⟩)
 refine WL.s (Hd.storeAll (n := 11) kr_ rfl rfl (by rfl) one_ fr_ (by rfl) ⟨rfl, ?_⟩)
 refine nt_ (WC.seq (sr_ (f_ 7 kr_ rfl rfl ?_)))
 refine d_ kr_ rfl mem_ (by rfl) rfl ?_
 refine WL.y rfl (Yd.len (e := 5) kr_ rfl) ?_
 refine WL.y rfl (Yd.gtr rfl rfl) (nt_ (WC.ite rfl (fun h18 => ?_) (fun h18 => ?_)))
 have hp : 0 < a.data.length := by omega
 refine WC.region (f_ 7 kr_ rfl rfl ?_)
 refine d_ kr_ rfl mem_ (by rfl) rfl ?_
 refine f_ 10 kr_ rfl rfl ?_
 refine WL.s (Hd.store1s kr_ rfl rfl (by rfl) fr_ (by rfl) (by first | (simp only [List.set_cons_zero, List.set_cons_succ, Nat.zero_add, Nat.add_zero, Nat.reduceAdd]; rfl) | rfl) ⟨rfl, ?_⟩)
 refine ntsr_ (WL.h rfl (Hd.loadAll (n := 11) kr_ rfl mem_ (by rfl) ⟨_, rfl, ?_⟩))
 refine WL.s (Hd.storeAll (n := 11) kr_ rfl rfl (by rfl) one_ fr_ (by rfl) ⟨rfl, ?_⟩)
 refine nt_ (WC.ret (DN.retCS (s := 11) H Tryz.results20 kr_ rfl mem_ (by rfl) sp_ ?_))
 refine ⟨.slice do_ a.data.length dc, [], ?_, ?_, rfl⟩
 · unfold noteA; rw [if_pos hp]; try rfl
 · unfold noteA; rw [if_pos hp]; exact hd
 have hp : ¬ 0 < a.data.length := by omega
 refine WC.skip (ts_ (WC.region (WL.h rfl (Hd.loadAll (n := 11) kr_ rfl mem_ (by rfl) ⟨_, rfl, ?_⟩))))
 refine WL.s (Hd.storeAll (n := 11) kr_ rfl rfl (by rfl) one_ fr_ (by rfl) ⟨rfl, ?_⟩)
 refine nt_ (WC.ret (DN.retCS (s := 11) (A ++ H) Tryz.results20 kr_ rfl mem_ (by rfl) sp_ ?_))
 refine ⟨.slice xo (ewkB a.w).length xc, A, ?_, ?_, rfl⟩
 · unfold noteA; rw [if_neg hp]; try rfl
 unfold noteA; rw [if_neg hp]; exact hA.bs.mono gr_
end Go.Proofs.YtkamlondepceiaaGreat

set_option linter.unusedVariables false
set_option linter.unusedSimpArgs false
set_option maxHeartbeats 4000000
namespace Go.Proofs.YtkamlondepceiaaGreat
open Go.SL
theorem encode_tells (w : Wk) (v : Value) (H : List Ck) (hv : Bs v w.name H) (hl : w.name.length ≤ 1000000) : Tells Tryz.prog 11 [.agg (wkc w v).toArray] H fun r H' => ∃ x A, r = .tuple #[x, .int .i64 (encE w)] ∧ Ob 5 x (ewkB w) A ∧ H' = A ++ H := by
 refine Tells.enter Tryz.func11 rfl Tryz.ntmps11 rfl ?_
 intro w0 R
 obtain ⟨no, nc, rfl, hnc⟩ := hv.form
 refine sr_ (WL.h rfl (Hd.boxA rfl fun b1 => ⟨_, rfl, ?_⟩))
 refine a_ rfl rfl (a_ rfl rfl (nt_ (WC.seq (WC.cutK (fun z : Bool => z = !decide (wkGood w)) (fun z : Bool => [(27, .bool z)]) (fun z : Bool => row b1 (wkc w (.slice no w.name.length nc)) 24 :: H) ?_ ?_))))
 refine WC.region (f_ 0 kr_ rfl rfl ?_)
 refine d_ kr_ rfl mem_ (by rfl) rfl ?_
 refine WL.y rfl (Yd.lss rfl rfl) (m_ rfl rfl (WL.partP (t := 7) rfl (fun hg7 => ?_) (fun hg7 => ?_)))
 iterate 3 refine gn_ 7 rfl rfl rfl rfl ?_
 refine WL.y rfl (Yd.pickT rfl rfl) (m_ rfl rfl ?_)
 iterate 3 refine gn_ 12 rfl rfl rfl rfl ?_
 refine WL.y rfl (Yd.pickT rfl rfl) (m_ rfl rfl ?_)
 iterate 3 refine gn_ 17 rfl rfl rfl rfl ?_
 refine WL.y rfl (Yd.pickT rfl rfl) (m_ rfl rfl ?_)
 iterate 4 refine gn_ 22 rfl rfl rfl rfl ?_
 refine WL.y rfl (Yd.pickT rfl rfl) (WL.nil ?_)
 exact DN.reachK (_) (wk_z (by unfold wkGood; simp only [decide_eq_true_eq, eq_self, true_iff, Bool.false_eq_true, false_iff]; omega)) (Sx.put rfl (sx_)) (Sp.all sp_)
 refine gy_ 7 rfl rfl rfl (Yd.fieldAddr (k := 0) kr_ rfl) ?_
 refine WL.gh (dj := 7) rfl rfl rfl (Hd.load1 kr_ rfl mem_ (by rfl) ⟨_, rfl, ?_⟩)
 refine gy_ 7 rfl rfl rfl (Yd.gtr rfl rfl) (WL.y rfl (Yd.pickF rfl rfl) (m_ rfl rfl (WL.partP (t := 12) rfl (fun hg12 => ?_) (fun hg12 => ?_))))
 iterate 3 refine gn_ 12 rfl rfl rfl rfl ?_
 refine WL.y rfl (Yd.pickT rfl rfl) (m_ rfl rfl ?_)
 iterate 3 refine gn_ 17 rfl rfl rfl rfl ?_
 refine WL.y rfl (Yd.pickT rfl rfl) (m_ rfl rfl ?_)
 iterate 4 refine gn_ 22 rfl rfl rfl rfl ?_
 refine WL.y rfl (Yd.pickT rfl rfl) (WL.nil ?_)
 exact DN.reachK (_) (wk_z (by unfold wkGood; simp only [decide_eq_true_eq, eq_self, true_iff, Bool.false_eq_true, false_iff]; omega)) (Sx.put rfl (sx_)) (Sp.all sp_)
 refine gy_ 12 rfl rfl rfl (Yd.fieldAddr (k := 1) kr_ rfl) ?_
 refine WL.gh (dj := 12) rfl rfl rfl (Hd.load1 kr_ rfl mem_ (by rfl) ⟨_, rfl, ?_⟩)
 refine gy_ 12 rfl rfl rfl (Yd.lss rfl rfl) (WL.y rfl (Yd.pickF rfl rfl) (m_ rfl rfl (WL.partP (t := 17) rfl (fun hg17 => ?_) (fun hg17 => ?_))))
 iterate 3 refine gn_ 17 rfl rfl rfl rfl ?_
 refine WL.y rfl (Yd.pickT rfl rfl) (m_ rfl rfl ?_)
 iterate 4 refine gn_ 22 rfl rfl rfl rfl ?_
 refine WL.y rfl (Yd.pickT rfl rfl) (WL.nil ?_)
 exact DN.reachK (_) (wk_z (by unfold wkGood; simp only [decide_eq_true_eq, eq_self, true_iff, Bool.false_eq_true, false_iff]; omega)) (Sx.put rfl (sx_)) (Sp.all sp_)
 refine gy_ 17 rfl rfl rfl (Yd.fieldAddr (k := 1) kr_ rfl) ?_
 refine WL.gh (dj := 17) rfl rfl rfl (Hd.load1 kr_ rfl mem_ (by rfl) ⟨_, rfl, ?_⟩)
 refine gy_ 17 rfl rfl rfl (Yd.gtr rfl rfl) (WL.y rfl (Yd.pickF rfl rfl) (m_ rfl rfl (WL.partP (t := 22) rfl (fun hg22 => ?_) (fun hg22 => ?_))))
 iterate 4 refine gn_ 22 rfl rfl rfl rfl ?_
 refine WL.y rfl (Yd.pickT rfl rfl) (WL.nil ?_)
 exact DN.reachK (_) (wk_z (by unfold wkGood; simp only [decide_eq_true_eq, eq_self, true_iff, Bool.false_eq_true, false_iff]; omega)) (Sx.put rfl (sx_)) (Sp.all sp_)
 refine gy_ 22 rfl rfl rfl (Yd.fieldAddr (k := 2) kr_ rfl) ?_
 refine WL.gh (dj := 22) rfl rfl rfl (Hd.load1 kr_ rfl mem_ (by rfl) ⟨_, rfl, ?_⟩)
 refine gy_ 22 rfl rfl rfl (Yd.len (e := 5) kr_ rfl) ?_
 refine gy_ 22 rfl rfl rfl (Yd.gtr rfl rfl) (WL.y rfl (Yd.pickF rfl rfl) (WL.nil ?_))
 exact DN.reachK (_) (wk_z (by unfold wkGood; simp only [decide_eq_true_eq, eq_self, true_iff, Bool.false_eq_true, false_iff]; omega)) (Sx.put rfl (sx_)) (Sp.all sp_)
 intro z hz
 refine WC.cond rfl (fun h27 => ?_) (fun h27 => ?_)
 have hb : ¬ wkGood w := by rw [hz] at h27; simpa using h27
 refine sr_ (a_ rfl rfl (a_ rfl rfl (nt_ (WC.ret (DN.then_ret (DN.fit (C := H) sp_ ?_))))))
 refine DN.ret2 Tryz.results11 rfl rfl ?_
 rw [(enc_bad hb).1, (enc_bad hb).2]
 exact ⟨_, [], rfl, Ob.nil _, rfl⟩
 have hg : wkGood w := by rw [hz] at h27; simpa using h27
 have hn32 := hg.2.2.2.2
 refine WC.skip (ts_ (WC.draw 17 kr_ rfl ?_))
 refine WAG.start (N := 17) rfl (wy_ 1 [] rfl (Yd.fieldAddr (k := 0) kr_ rfl) kr_ ?_)
 refine wq_ (wf_ (i := 2) [1] rfl (QAt.rd Wt.none (Rd.load1 kr_ rfl mem_ (by rfl))) kr_) kr_ ?_
 refine wy_ 3 [2] rfl (Yd.to8 _ kr_ kr_ rfl rfl) kr_ ?_
 refine wy_ 5 [] rfl (Yd.fieldAddr (k := 1) kr_ rfl) kr_ ?_
 refine wq_ (wf_ (i := 6) [5] rfl (QAt.rd Wt.none (Rd.load1 kr_ rfl mem_ (by rfl))) kr_) kr_ ?_
 refine wy_ 7 [6] rfl (Yd.to32 _ kr_ kr_ rfl rfl) kr_ ?_
 refine wy_ 9 [] rfl (Yd.fieldAddr (k := 2) kr_ rfl) kr_ ?_
 refine wq_ (wf_ (i := 10) [9] rfl (QAt.rd Wt.none (Rd.load1 kr_ rfl mem_ (by rfl))) kr_) kr_ ?_
 refine ws_ [(0, [])] kr_ (all_c ?_ (all_n))
 refine so_ (j := 0) [] rfl (SO.c rfl Wt.none rfl (Ent.func Tryz.call41 rfl) (newWriter_tells) (Sp.p sp_) ?_)
 rintro x0 H0 ⟨bw, rfl, rfl⟩
 refine wk_ [_, _, _, _, _, _, _, _] (_ :: ([] ++ _)) rfl rfl (all_c (wf_ [9] rfl (QAt.rd Wt.none (Rd.load1 kr_ rfl mem_ (by rfl))) kr_) (all_c (wf_ [5] rfl (QAt.rd Wt.none (Rd.load1 kr_ rfl mem_ (by rfl))) kr_) (all_c (wf_ [1] rfl (QAt.rd Wt.none (Rd.load1 kr_ rfl mem_ (by rfl))) kr_) all_n))) ?_
 refine ws_ [(4, [3])] kr_ (all_c ?_ (all_n))
 refine so_ (j := 4) [_] rfl (SO.c rfl Wt.none rfl (Ent.func Tryz.call42 rfl) (wU8_tells bw (.slice none 0 0) [] [] (BitVec.ofInt 8 w.what) (Ob.nil _) (by simp)) (Sp.p sp_) ?_)
 rintro x1 H1 ⟨rfl, v1, C1, ho1, rfl⟩
 refine wk_ [_, _, _, _, _, _, _] (_ :: ([_] ++ _)) rfl rfl (all_c (wf_ [9] rfl (QAt.rd Wt.none (Rd.load1 kr_ rfl mem_ (by rfl))) kr_) (all_c (wf_ [5] rfl (QAt.rd Wt.none (Rd.load1 kr_ rfl mem_ (by rfl))) kr_) (all_c (wf_ [1] rfl (QAt.rd Wt.none (Rd.load1 kr_ rfl mem_ (by rfl))) kr_) all_n))) ?_
 refine ws_ [(8, [7])] kr_ (all_c ?_ (all_n))
 refine so_ (j := 8) [_] rfl (SO.c rfl Wt.none rfl (Ent.func Tryz.call43 rfl) (wU32_tells bw v1 ([] ++ [BitVec.ofInt 8 w.what]) C1 (BitVec.ofInt 32 w.n) ho1 (by simp)) (Sp.p sp_) ?_)
 rintro x2 H2 ⟨rfl, v2, C2, ho2, rfl⟩
 refine wk_ [_, _, _, _, _, _] (_ :: ([_] ++ _)) rfl rfl (all_c (wf_ [9] rfl (QAt.rd Wt.none (Rd.load1 kr_ rfl mem_ (by rfl))) kr_) (all_c (wf_ [5] rfl (QAt.rd Wt.none (Rd.load1 kr_ rfl mem_ (by rfl))) kr_) (all_c (wf_ [1] rfl (QAt.rd Wt.none (Rd.load1 kr_ rfl mem_ (by rfl))) kr_) all_n))) ?_
 refine ws_ [(11, [10])] kr_ (all_c ?_ (all_n))
 refine so_ (j := 11) [_] rfl (SO.c rfl Wt.none rfl (Ent.func Tryz.call44 rfl) (wText_tells bw v2 (([] ++ [BitVec.ofInt 8 w.what]) ++ beW ((BitVec.ofInt 32 w.n).setWidth 64) 4) C2 H _ w.name hv (by omega) ho2 (by simp [beW_length])) (Sp.p sp_) ?_)
 rintro x3 H3 ⟨rfl, v3, C3, ho3, rfl⟩
 refine wk_ [_, _, _, _, _] (_ :: ([_] ++ _)) rfl rfl (all_c (wf_ [5] rfl (QAt.rd Wt.none (Rd.load1 kr_ rfl mem_ (by rfl))) kr_) (all_c (wf_ [1] rfl (QAt.rd Wt.none (Rd.load1 kr_ rfl mem_ (by rfl))) kr_) all_n)) ?_
 refine ws_ [(12, [])] kr_ (all_c ?_ (all_n))
 refine so_ (j := 12) [] rfl ?_
 refine SO.c rfl Wt.none rfl (Ent.func Tryz.call45 rfl) (wDone_tells bw v3 ((([] ++ [BitVec.ofInt 8 w.what]) ++ beW ((BitVec.ofInt 32 w.n).setWidth 64) 4) ++ tb w.name) C3 ho3 (by simp only [List.length_append, List.length_cons, List.length_nil, beW_length, tb]; omega)) (Sp.p sp_) ?_
 rintro x9 H9 ⟨v9, C9, rfl, ho9, hH9⟩
 rw [hH9]
 clear hH9 H9
 refine wk_ [_, _, _, _, _] (_ :: ([] ++ _)) rfl rfl (all_c (wf_ [5] rfl (QAt.rd Wt.none (Rd.load1 kr_ rfl mem_ (by rfl))) kr_) (all_c (wf_ [1] rfl (QAt.rd Wt.none (Rd.load1 kr_ rfl mem_ (by rfl))) kr_) all_n)) ?_
 refine wy_ 13 [] rfl (Yd.extract rfl rfl) kr_ ?_
 refine wy_ 14 [] rfl (Yd.extract rfl rfl) kr_ ?_
 refine ws_ [(15, [14, 13, 9, 6, 5, 2, 1])] kr_ (all_c ?_ (all_n))
 refine so_ (j := 15) [_, _, _, _, _, _, _] rfl (SO.y rfl Wt.none rfl (Yd.assign rfl) (wk_ [] (_ :: ([_, _, _, _, _, _, _] ++ _)) rfl rfl all_n (ws_ [(16, [])] kr_ (all_c ?_ (all_n)))))
 refine so_ (j := 16) [] rfl (SO.y rfl Wt.none rfl (Yd.assign rfl) (wk_ [] (_ :: ([] ++ _)) rfl rfl all_n (wd_ [] rfl kr_ ?_)))
 refine DN.then_normal (WC.ret (DN.fit (C := C9 ++ H) sp_ ?_))
 refine DN.ret2 Tryz.results11 rfl rfl ?_
 rw [(enc_good hg).1, (enc_good hg).2]
 exact ⟨v9, C9, rfl, by have e9 : wkB w = ((([] ++ [BitVec.ofInt 8 w.what]) ++ beW ((BitVec.ofInt 32 w.n).setWidth 64) 4) ++ tb w.name) := (by unfold wkB; simp only [List.append_assoc, List.nil_append]); rw [e9]; exact ho9, rfl⟩
theorem decode_tells (v : Value) (b : List (BitVec 8)) (H : List Ck) (hv : Bs v b H) (hl : b.length ≤ 900000) : Tells Tryz.prog 13 [v] H fun r H' => ∃ x A, r = .tuple #[.agg (wkc (decW b) x).toArray, .int .i64 (decE b)] ∧ Ob 5 x (decW b).name A ∧ H' = A ++ H := by
 refine Tells.enter Tryz.func13 rfl Tryz.ntmps13 rfl ?_
 intro w0 R
 have hq0 : (rW b).bs.length ≤ 1000000 := by show b.length ≤ _; omega
 have hq1 := Nat.le_trans ((rW b).on_len 1) hq0
 have hq2 := Nat.le_trans (((rW b).on 1).on_len 4) hq1
 refine sr_ (WL.h rfl (Hd.alloc (zs := [.int .i64 0, .int .i64 0, .slice none 0 0]) kr_ fun b2 => ⟨_, rfl, ?_⟩))
 refine a_ rfl rfl (ntsr_ (m_ rfl rfl (WL.c rfl (Ent.func Tryz.call47 rfl) (newReader_tells _ b H hv (by omega)) (Sp.p sp_) ?_)))
 rintro x0 H0 ⟨br, u0, CR, rfl, hu0, rfl⟩
 refine a_ rfl rfl (ntsr_ (m_ rfl rfl (WL.c rfl (Ent.func Tryz.call48 rfl) (rU8_tells br u0 (rW b).bs (rW b).sh CR hu0 hq0) (Sp.p sp_) ?_)))
 rintro x1 H1 ⟨u1, rfl, hu1, rfl⟩
 refine WL.y rfl (Yd.int8 _ kr_ kr_ rfl rfl) ?_
 refine m_ rfl rfl (WL.c rfl (Ent.func Tryz.call49 rfl) (rU32_tells br u1 ((rW b).on 1).bs ((rW b).on 1).sh CR hu1 hq1) (Sp.p sp_) ?_)
 rintro x2 H2 ⟨u2, rfl, hu2, rfl⟩
 refine WL.y rfl (Yd.int32 _ kr_ kr_ rfl rfl) ?_
 refine WL.y rfl (Yd.buildL (pl := [(0, 1), (1, 1), (2, 1)]) (zs := [.int .i64 0, .int .i64 0, .slice none 0 0]) (parts := [(0, .tmp 12), (1, .tmp 15)]) (vs := [(0, _), (1, _)]) (cells := [_, _, .slice none 0 0]) kr_ kr_ rfl rfl) ?_
 refine WL.h rfl (Hd.alloc (zs := [.int .i64 0, .int .i64 0, .slice none 0 0]) kr_ fun b5 => ⟨_, rfl, ?_⟩)
 refine WL.s (Hd.storeAll (n := 3) kr_ rfl rfl (by rfl) one_ fr_ (by rfl) ⟨rfl, ?_⟩)
 refine ntsr_ (m_ rfl rfl (WL.c rfl (Ent.func Tryz.call50 rfl) (rText_tells br u2 (((rW b).on 1).on 4).bs (((rW b).on 1).on 4).sh CR hu2 hq2) (Sp.p sp_) ?_))
 rintro x3 H3 ⟨u3, A3, hA3, hu3, rfl⟩
 obtain ⟨o3, c3, rfl, _⟩ := hA3.form
 refine f_ 2 kr_ rfl rfl ?_
 refine WL.s (Hd.store1s kr_ rfl rfl (by rfl) fr_ (by rfl) (by first | (simp only [List.set_cons_zero, List.set_cons_succ, Nat.zero_add, Nat.add_zero, Nat.reduceAdd]; rfl) | rfl) ⟨rfl, ?_⟩)
 refine nt_ (WC.seq (sr_ (WL.h rfl (Hd.loadAll (n := 3) kr_ rfl mem_ (by rfl) ⟨_, rfl, ?_⟩))))
 refine WL.c rfl (Ent.func Tryz.call11 rfl) (encode_tells (wkOf b) (.slice o3 (wkOf b).name.length c3) A3 hA3.bs (Nat.le_trans (txGot_len _ _) (by decide))) (Sp.p sp_) ?_
 rintro x4 H4 ⟨x5, A5, rfl, hA5, rfl⟩
 obtain ⟨o5, c5, rfl, _⟩ := hA5.form
 refine m_ rfl rfl (x_ rfl rfl rfl (x_ rfl rfl rfl (a_ rfl rfl (a_ rfl rfl (nt_ (WC.cutK (fun z : Bool => z = decide (decBad b)) (fun z : Bool => [(31, .bool z)]) (fun z : Bool => row b5 (wkc (wkOf b) (.slice o3 (wkOf b).name.length c3)) 24 :: (A3 ++ (row b2 [.int .i64 0, .int .i64 0, .slice none 0 0] 24 :: H))) ?_ ?_))))))
 refine WC.region (m_ rfl rfl (WL.rf rfl (Ent.func Tryz.call51 rfl) (rDone_tells br u3 (endW b).bs (endW b).sh CR hu3) sp_ ?_))
 refine WL.y rfl (Yd.neq rfl rfl) (m_ rfl rfl (WL.partP (t := 28) rfl (fun hg28 => ?_) (fun hg28 => ?_)))
 exact gn_ 28 rfl rfl rfl rfl (gn_ 28 rfl rfl rfl rfl (WL.y rfl (Yd.pickT rfl rfl) (WL.nil (DN.reachS (_) (by first | exact wbad_a hg28 | exact wbad_b hg28) (Sx.put rfl (sx_)) sp_))))
 exact gy_ 28 rfl rfl rfl (Yd.move rfl) (gy_ 28 rfl rfl rfl (Yd.neq rfl rfl) (WL.y rfl (Yd.pickF rfl rfl) (WL.nil (DN.reachS (_) (by first | exact wbad_a hg28 | exact wbad_b hg28) (Sx.put rfl (sx_)) sp_))))
 intro z9 hz9
 refine WC.cond rfl (fun h31 => ?_) (fun h31 => ?_)
 have hb : decBad b := of_decide_eq_true (hz9.symm.trans h31)
 refine sr_ (WL.y rfl (Yd.buildL (pl := [(0, 1), (1, 1), (2, 1)]) (zs := [.int .i64 0, .int .i64 0, .slice none 0 0]) (parts := []) (vs := []) (cells := [.int .i64 0, .int .i64 0, .slice none 0 0]) kr_ kr_ rfl rfl) ?_)
 refine WL.s (Hd.storeAll (n := 3) kr_ rfl rfl (by rfl) one_ fr_ (by rfl) ⟨rfl, ?_⟩)
 refine a_ rfl rfl (nt_ (WC.ret (DN.then_ret (DN.retCT (s := 3) H Tryz.results13 kr_ rfl rfl mem_ (by rfl) sp_ ?_))))
 rw [show decW b = Wk.z from if_pos hb, show decE b = 120 from if_pos hb]
 exact ⟨_, [], rfl, Ob.nil _, rfl⟩
 have hb : ¬ decBad b := of_decide_eq_false (hz9.symm.trans h31)
 refine WC.skip (ts_ (WC.region (WL.h rfl (Hd.loadAll (n := 3) kr_ rfl mem_ (by rfl) ⟨_, rfl, ?_⟩))))
 refine WL.s (Hd.storeAll (n := 3) kr_ rfl rfl (by rfl) one_ fr_ (by rfl) ⟨rfl, ?_⟩)
 refine a_ rfl rfl (nt_ (WC.ret (DN.retCT (s := 3) (A3 ++ H) Tryz.results13 kr_ rfl rfl mem_ (by rfl) sp_ ?_)))
 rw [show decW b = wkOf b from if_neg hb, show decE b = 0 from if_neg hb]
 exact ⟨_, A3, rfl, hA3, rfl⟩
end Go.Proofs.YtkamlondepceiaaGreat

set_option linter.unusedVariables false
set_option linter.unusedSimpArgs false
set_option maxHeartbeats 4000000
namespace Go.Proofs.YtkamlondepceiaaGreat.St
open Go.SL
theorem hold_tells (p : Nat) (first K : List Gd) (L : List Ho) (C : List Ck) (h : StAt 189 p K L C) (inv : SInv first K L) (o : BitVec 32) (nm : ByteArray) (n : Int) : Tells Tryz.prog 87 [.pointer (some ⟨p, 0, none⟩), .int .u32 o.toNat, .string nm, .int .i64 n] C fun r H' => r = .int .i64 (vd (holdB K L o nm n)) ∧ StAt 189 p (holdKs K L o nm n) (holdLs K L o nm n) H' := by
 refine Tells.enter Tryz.func87 rfl Tryz.ntmps87 rfl ?_
 intro w0 R
 have hS := h
 obtain ⟨b1, b2, C1, C2, rfl, hK, hL⟩ := h
 have hmid := inv.mid nm
 obtain ⟨x10, hx10⟩ : ∃ x, x = (findK Ho.o L o).getD zeroH := ⟨_, rfl⟩
 refine sr_ (a_ rfl rfl (nt_ (WC.seq (sr_ (m_ rfl rfl (WL.y rfl (Yd.eqlNil Tryz.underlying113 rfl rfl) (WL.renamed (t := 13) (v := .bool false) rfl (congrArg Value.bool (rfl)) (m_ rfl rfl (gy_ 14 rfl rfl rfl (Yd.move rfl) (gy_ 14 rfl rfl rfl (Yd.eql32 _ (0#32) rfl rfl rfl rfl) (WL.y rfl (Yd.pickF rfl rfl) (m_ rfl rfl (WL.partP (t := 18) rfl (fun hg18 => ?_) (fun hg18 => ?_))))))))))))))
 refine gn_ 18 rfl rfl rfl rfl (gn_ 18 rfl rfl rfl rfl (WL.y rfl (Yd.pickT rfl rfl) (nt_ (WC.yes rfl (sr_ (a_ rfl rfl (nt_ (WC.ret (DN.then_ret ?_)))))))))
 first | refine DN.fit (C := row p [.map (some b1), .map (some b2)] 189 :: (C3 ++ C4)) sp_ ?_ | refine DN.fit (C := row p [.map (some b1), .map (some b2)] 189 :: (C1 ++ C2)) sp_ ?_
 refine DN.ret1 Tryz.results87 rfl ?_
 rotate_left
 refine gy_ 18 rfl rfl rfl (Yd.move rfl) (gy_ 18 rfl rfl rfl (Yd.lss rfl rfl) (WL.y rfl (Yd.pickF rfl rfl) (nt_ (WC.ite rfl (fun h21 => ?_) (fun h21 => ?_)))))
 refine sr_ (a_ rfl rfl (nt_ (WC.ret (DN.then_ret ?_))))
 first | refine DN.fit (C := row p [.map (some b1), .map (some b2)] 189 :: (C3 ++ C4)) sp_ ?_ | refine DN.fit (C := row p [.map (some b1), .map (some b2)] 189 :: (C1 ++ C2)) sp_ ?_
 refine DN.ret1 Tryz.results87 rfl ?_
 rotate_left
 refine WC.skip (ts_ (WC.region (m_ rfl rfl (n_ rfl rfl (f_ 0 kr_ rfl rfl ?_)))))
 refine d_ kr_ rfl mem_ (by rfl) rfl ?_
 refine m_ rfl rfl (WL.h rfl (Hd.lookupG (k0 := kStr) (KT := 9) (ET := 191) (TD := .string) (n := nm) (z := .agg #[.int .i64 0, .int .i64 0]) kr_ Tryz.underlying9 rfl kr_ rfl rfl hK sp_ (lkG K nm) ⟨_, rfl, ?_⟩))
 refine WL.h rfl (Hd.alloc (zs := [.int .i64 0, .int .i64 0]) kr_ fun b9 => ⟨_, rfl, ?_⟩)
 refine WL.s (Hd.storeAll (n := 2) kr_ rfl rfl (by rfl) one_ fr_ (by rfl) ⟨rfl, ?_⟩)
 refine nt_ (WC.seq (sr_ (m_ rfl rfl (n_ rfl rfl (f_ 1 kr_ rfl rfl ?_)))))
 refine d_ kr_ rfl mem_ (by rfl) rfl ?_
 refine m_ rfl rfl (WL.h rfl (Hd.lookupG (k0 := kU32) (KT := 49) (ET := 215) (TD := .int .u32) (n := o) (z := .agg #[.int .u32 0, .string ⟨#[]⟩, .int .i64 0]) kr_ Tryz.underlying49 ⟨_, rfl⟩ kr_ rfl rfl hL sp_ (lkH2 L o) ⟨_, rfl, ?_⟩))
 refine m_ rfl rfl ?_
 rw [← hx10]
 refine x_ rfl rfl rfl (x_ rfl rfl rfl (WL.h rfl (Hd.alloc (zs := [.int .u32 0, .string ⟨#[]⟩, .int .i64 0]) kr_ fun b10 => ⟨_, rfl, ?_⟩)))
 refine WL.s (Hd.storeAll (n := 3) kr_ rfl rfl (by rfl) one_ fr_ (by rfl) ⟨rfl, ?_⟩)
 refine a_ rfl rfl (ntsr_ (m_ rfl rfl (m_ rfl rfl (WL.part (t := 38) rfl (fun hg38 => ?_) (fun hg38 => ?_)))))
 iterate 4 refine gn_ 38 rfl rfl rfl rfl ?_
 refine WL.y rfl (Yd.pickT rfl rfl) (nt_ (WC.yes rfl (sr_ (a_ rfl rfl (nt_ (WC.ret (DN.then_ret ?_)))))))
 first | refine DN.fit (C := row p [.map (some b1), .map (some b2)] 189 :: (C3 ++ C4)) sp_ ?_ | refine DN.fit (C := row p [.map (some b1), .map (some b2)] 189 :: (C1 ++ C2)) sp_ ?_
 refine DN.ret1 Tryz.results87 rfl ?_
 rotate_left
 refine gy_ 38 rfl rfl rfl (Yd.fieldAddr (k := 0) kr_ rfl) ?_
 refine WL.gh (dj := 38) rfl rfl rfl (Hd.load1 kr_ rfl mem_ (by rfl) ⟨_, rfl, ?_⟩)
 refine gy_ 38 rfl rfl rfl (Yd.move rfl) (gy_ 38 rfl rfl rfl (Yd.lss rfl rfl) (WL.y rfl (Yd.pickF rfl rfl) (nt_ (WC.ite rfl (fun h43 => ?_) (fun h43 => ?_)))))
 refine sr_ (a_ rfl rfl (nt_ (WC.ret (DN.then_ret ?_))))
 first | refine DN.fit (C := row p [.map (some b1), .map (some b2)] 189 :: (C3 ++ C4)) sp_ ?_ | refine DN.fit (C := row p [.map (some b1), .map (some b2)] 189 :: (C1 ++ C2)) sp_ ?_
 refine DN.ret1 Tryz.results87 rfl ?_
 rotate_left
 refine WC.skip (ts_ (WC.region (f_ 0 kr_ rfl rfl ?_)))
 refine d_ kr_ rfl mem_ (by rfl) rfl ?_
 refine m_ rfl rfl (WL.y rfl (Yd.sub rfl rfl (by omega) (by omega)) ?_)
 refine f_ 0 kr_ rfl rfl ?_
 refine WL.s (Hd.store1s kr_ rfl rfl (by rfl) fr_ (by rfl) (by first | (simp only [List.set_cons_zero, List.set_cons_succ, Nat.zero_add, Nat.add_zero, Nat.reduceAdd]; rfl) | rfl) ⟨rfl, ?_⟩)
 refine nt_ (WC.seq (WC.draw 7 kr_ rfl ?_))
 refine WAG.start (N := 7) rfl (wy_ 0 [] rfl (Yd.move rfl) kr_ ?_)
 refine wy_ 1 [0] rfl (Yd.notNil rfl) kr_ ?_
 refine wy_ 2 [1] rfl (Yd.fieldAddr (k := 0) kr_ rfl) kr_ ?_
 refine wq_ (wf_ (i := 3) [2] rfl (QAt.rd Wt.none (Rd.load1 kr_ rfl mem_ (by rfl))) kr_) kr_ ?_
 refine wy_ 4 [] rfl (Yd.move rfl) kr_ ?_
 refine wq_ (wf_ (i := 5) [] rfl (QAt.rd Wt.none (Rd.loadAll (n := 2) kr_ rfl mem_ (by rfl))) kr_) kr_ ?_
 refine ws_ [(6, [5, 4, 3, 2, 1, 0])] kr_ (all_c ?_ (all_n))
 refine so_ (j := 6) [_, _, _, _, _, _] rfl ?_
 refine SO.s rfl Wt.none (Hd.mapSet (k0 := kStr) (KT := 9) (ET := 191) (TD := .string) (n := nm) (v := .agg #[.int .i64 (freeOf K nm - n), .int .i64 (goneOf K nm)]) kr_ Tryz.underlying9 rfl rfl rfl rfl hK (by rw [kvs_keys]; exact inv.knd) sp_ fun C3 h3 => ⟨rfl, ?_⟩)
 refine wk_ [] (([_, _, _, _, _, _] ++ _)) rfl rfl all_n (wd_ [] rfl kr_ ?_)
 refine ts_ (WC.region (m_ rfl rfl (n_ rfl rfl (f_ 1 kr_ rfl rfl ?_))))
 refine d_ kr_ rfl mem_ (by rfl) rfl ?_
 iterate 4 refine m_ rfl rfl ?_
 refine WL.y rfl (Yd.buildL (pl := [(0, 1), (1, 1), (2, 1)]) (zs := [.int .u32 0, .string ⟨#[]⟩, .int .i64 0]) (parts := [(0, .tmp 60), (1, .tmp 61), (2, .tmp 62)]) (vs := [(0, _), (1, _), (2, _)]) (cells := [_, _, _]) kr_ kr_ rfl rfl) ?_
 refine WL.s (Hd.mapSet (k0 := kU32) (KT := 49) (ET := 215) (TD := .int .u32) (n := o) (v := .agg #[.int .u32 o.toNat, .string nm, .int .i64 n]) kr_ Tryz.underlying49 ⟨_, rfl⟩ rfl rfl rfl hL (by rw [kvs_keys]; exact inv.keys) sp_ fun C4 h4 => ⟨rfl, ?_⟩)
 refine ntsr_ (a_ rfl rfl (nt_ (WC.ret ?_)))
 first | refine DN.fit (C := row p [.map (some b1), .map (some b2)] 189 :: (C3 ++ C4)) sp_ ?_ | refine DN.fit (C := row p [.map (some b1), .map (some b2)] 189 :: (C1 ++ C2)) sp_ ?_
 refine DN.ret1 Tryz.results87 rfl ?_
 rotate_left
 all_goals
  first
    | (have hb : holdB K L o nm n = true := by
         unfold holdB
         simp only [Bool.and_eq_true, decide_eq_true_eq, Bool.not_eq_true']
         exact ⟨hg18, by omega, hg38, by omega⟩
       have hf : findK Ho.o L o = none := by simpa using hg38
       unfold holdKs holdLs
       rw [hb]
       simp only [if_true]
       refine ⟨rfl, b1, b2, C3, C4, rfl, ?_, ?_⟩
       · have e : adj K nm (-n) 0 = putK Gd.name K ⟨nm, freeOf K nm - n, goneOf K nm⟩ := by unfold adj; rw [Int.add_zero]; rfl
         rw [e, ← putG]; exact h3
       rw [← putH L o nm n hf]; exact h4)
    | (have hb : holdB K L o nm n = false := by
         unfold holdB
         rw [Bool.eq_false_iff]
         simp only [ne_eq, Bool.and_eq_true, decide_eq_true_eq, Bool.not_eq_true']
         rintro ⟨e1, e2, e3, e4⟩
         first
         | omega
         | exact e1 hg18
         | exact Bool.noConfusion (e3.symm.trans hg38)
       unfold holdKs holdLs
       rw [hb]
       simp only [Bool.false_eq_true, if_false]
       exact ⟨rfl, hS⟩)
theorem leave_tells (p : Nat) (first K : List Gd) (L : List Ho) (C : List Ck) (h : StAt 189 p K L C) (inv : SInv first K L) (o : BitVec 32) (gone : Bool) : Tells Tryz.prog 124 [.pointer (some ⟨p, 0, none⟩), .int .u32 o.toNat, .bool gone] C fun r H' => r = .int .i64 (vd (findK Ho.o L o).isSome) ∧ StAt 189 p (leaveKs K L o gone) (delK Ho.o L o) H' := by
 refine Tells.enter Tryz.func124 rfl Tryz.ntmps124 rfl ?_
 intro w0 R
 have hS := h
 obtain ⟨b1, b2, C1, C2, rfl, hK, hL⟩ := h
 obtain ⟨x10, hx10⟩ : ∃ x, x = (findK Ho.o L o).getD zeroH := ⟨_, rfl⟩
 refine sr_ (a_ rfl rfl (nt_ (WC.seq (sr_ (m_ rfl rfl (WL.y rfl (Yd.eqlNil Tryz.underlying113 rfl rfl) (WL.renamed (t := 11) (v := .bool false) rfl (congrArg Value.bool (rfl)) (nt_ (WC.no rfl (WC.skip (ts_ (WC.region (m_ rfl rfl ?_)))))))))))))
 refine n_ rfl rfl (f_ 1 kr_ rfl rfl ?_)
 refine d_ kr_ rfl mem_ (by rfl) rfl ?_
 refine m_ rfl rfl (WL.h rfl (Hd.lookupG (k0 := kU32) (KT := 49) (ET := 215) (TD := .int .u32) (n := o) (z := .agg #[.int .u32 0, .string ⟨#[]⟩, .int .i64 0]) kr_ Tryz.underlying49 ⟨_, rfl⟩ kr_ rfl rfl hL sp_ (lkH2 L o) ⟨_, rfl, ?_⟩))
 refine m_ rfl rfl ?_
 rw [← hx10]
 refine x_ rfl rfl rfl (x_ rfl rfl rfl (WL.h rfl (Hd.alloc (zs := [.int .u32 0, .string ⟨#[]⟩, .int .i64 0]) kr_ fun b7 => ⟨_, rfl, ?_⟩)))
 refine WL.s (Hd.storeAll (n := 3) kr_ rfl rfl (by rfl) one_ fr_ (by rfl) ⟨rfl, ?_⟩)
 refine a_ rfl rfl (nt_ (WC.seq (sr_ (m_ rfl rfl (WL.y rfl (Yd.notB rfl) (nt_ (WC.cond rfl (fun h22 => ?_) (fun h22 => ?_))))))))
 have hnone : findK Ho.o L o = none := by simpa using h22
 refine sr_ (a_ rfl rfl (nt_ (WC.ret (DN.then_ret ?_))))
 first | refine DN.fit (C := row p [.map (some b1), .map (some b2)] 189 :: (C5 ++ C4)) sp_ ?_ | refine DN.fit (C := row p [.map (some b1), .map (some b2)] 189 :: (C1 ++ C2)) sp_ ?_
 refine DN.ret1 Tryz.results124 rfl ?_
 rotate_left
 have hsome : findK Ho.o L o = some x10 := by
   have h1 : (findK Ho.o L o).isSome = true := by simpa using h22
   obtain ⟨x, hx⟩ := Option.isSome_iff_exists.1 h1
   rw [hx] at hx10 ⊢
   exact congrArg some hx10.symm
 have hxin := (findK_mem hsome).1
 have hxn := inv.nle hxin
 have hmid := inv.mid x10.name
 refine WC.skip (ts_ (WC.region (m_ rfl rfl (n_ rfl rfl (f_ 1 kr_ rfl rfl ?_)))))
 refine d_ kr_ rfl mem_ (by rfl) rfl ?_
 refine m_ rfl rfl ?_
 refine WL.h0 (Hd.deleteG (k0 := kU32) (KT := 49) (ET := 215) (TD := .int .u32) (n := o) kr_ Tryz.underlying49 ⟨_, rfl⟩ rfl rfl rfl hL (by rw [kvs_keys]; exact inv.keys) sp_ fun C4 h4 => ⟨_, rfl, ?_⟩)
 refine nt_ (WC.cutK (fun z : Nat => True) (fun z : Nat => [(9, .pointer (some ⟨z, 0, none⟩))]) (fun z : Nat => row z [.int .i64 (freeOf K x10.name), .int .i64 (goneOf K x10.name)] 191 :: (row b7 (cellsH x10) 215 :: (row p [.map (some b1), .map (some b2)] 189 :: (C1 ++ C4)))) ?_ ?_)
 refine WC.draw 9 kr_ rfl ?_
 refine WAG.start (N := 9) rfl (wy_ 0 [] rfl (Yd.move rfl) kr_ ?_)
 refine wy_ 1 [0] rfl (Yd.notNil rfl) kr_ ?_
 refine wy_ 2 [1] rfl (Yd.fieldAddr (k := 0) kr_ rfl) kr_ ?_
 refine wq_ (wf_ (i := 3) [2] rfl (QAt.rd Wt.none (Rd.load1 kr_ rfl mem_ (by rfl))) kr_) kr_ ?_
 refine wy_ 4 [] rfl (Yd.fieldAddr (k := 1) kr_ rfl) kr_ ?_
 refine wq_ (wf_ (i := 5) [4] rfl (QAt.rd Wt.none (Rd.load1 kr_ rfl mem_ (by rfl))) kr_) kr_ ?_
 refine ws_ [(6, [5, 3]), (7, [])] kr_ (all_c ?_ (all_c ?_ (all_n)))
 refine so_ (j := 6) [_, _] rfl (SO.h rfl Wt.none rfl (Hd.lookupG (k0 := kStr) (KT := 9) (ET := 191) (TD := .string) (n := x10.name) (z := .agg #[.int .i64 0, .int .i64 0]) kr_ Tryz.underlying9 rfl kr_ rfl rfl hK sp_ (lkG K x10.name) ⟨_, rfl, ?_⟩))
 refine wk_ [_, _, _, _] (_ :: ([_, _] ++ _)) rfl rfl all_n (ws_ [(7, [])] kr_ (all_c ?_ (all_n)))
 refine so_ (j := 7) [] rfl (SO.h rfl Wt.none rfl (Hd.alloc (zs := [.int .i64 0, .int .i64 0]) kr_ fun b9 => ⟨_, rfl, ?_⟩))
 refine wk_ [_, _, _, _] (_ :: ([] ++ _)) rfl rfl all_n (ws_ [(8, [4, 2, 1, 0])] kr_ (all_c ?_ (all_n)))
 refine so_ (j := 8) [_, _, _, _] rfl (SO.s rfl Wt.none (Hd.storeAll (n := 2) kr_ rfl rfl (by rfl) one_ fr_ (by rfl) ⟨rfl, ?_⟩))
 refine wk_ [] (([_, _, _, _] ++ _)) rfl rfl all_n (wd_ [] rfl kr_ ?_)
 exact DN.reachK (b9) (trivial) (Sx.put rfl (sx_)) (Sp.all sp_)
 refine so_ (j := 7) [] rfl (SO.h rfl Wt.none rfl (Hd.alloc (zs := [.int .i64 0, .int .i64 0]) kr_ fun b9 => ⟨_, rfl, ?_⟩))
 refine wk_ [_, _, _, _, _, _] (_ :: ([] ++ _)) rfl rfl (all_c (wf_ [4] rfl (QAt.rd Wt.none (Rd.load1 kr_ rfl mem_ (by rfl))) kr_) (all_c (wf_ [2] rfl (QAt.rd Wt.none (Rd.load1 kr_ rfl mem_ (by rfl))) kr_) all_n)) ?_
 refine ws_ [(6, [5, 3])] kr_ (all_c ?_ (all_n))
 refine so_ (j := 6) [_, _] rfl (SO.h rfl Wt.none rfl (Hd.lookupG (k0 := kStr) (KT := 9) (ET := 191) (TD := .string) (n := x10.name) (z := .agg #[.int .i64 0, .int .i64 0]) kr_ Tryz.underlying9 rfl kr_ rfl rfl hK sp_ (lkG K x10.name) ⟨_, rfl, ?_⟩))
 refine wk_ [_, _, _, _] (_ :: ([_, _] ++ _)) rfl rfl all_n (ws_ [(8, [4, 2, 1, 0])] kr_ (all_c ?_ (all_n)))
 refine so_ (j := 8) [_, _, _, _] rfl (SO.s rfl Wt.none (Hd.storeAll (n := 2) kr_ rfl rfl (by rfl) one_ fr_ (by rfl) ⟨rfl, ?_⟩))
 refine wk_ [] (([_, _, _, _] ++ _)) rfl rfl all_n (wd_ [] rfl kr_ ?_)
 exact DN.reachK (b9) (trivial) (Sx.put rfl (sx_)) (Sp.all sp_)
 intro b9 _
 refine WC.seq (sr_ (m_ rfl rfl (nt_ (WC.cond rfl (fun h35 => ?_) (fun h35 => ?_)))))
 subst h35
 refine WC.region (f_ 1 kr_ rfl rfl ?_)
 refine d_ kr_ rfl mem_ (by rfl) rfl ?_
 refine f_ 2 kr_ rfl rfl ?_
 refine d_ kr_ rfl mem_ (by rfl) rfl ?_
 refine WL.y rfl (Yd.add rfl rfl (by omega) (by omega)) ?_
 refine f_ 1 kr_ rfl rfl ?_
 refine WL.s (Hd.store1s kr_ rfl rfl (by rfl) fr_ (by rfl) (by first | (simp only [List.set_cons_zero, List.set_cons_succ, Nat.zero_add, Nat.add_zero, Nat.reduceAdd]; rfl) | rfl) ⟨rfl, ?_⟩)
 refine nt_ (WC.seq (WC.draw 8 kr_ rfl ?_))
 refine WAG.start (N := 8) rfl (wy_ 0 [] rfl (Yd.move rfl) kr_ ?_)
 refine wy_ 1 [0] rfl (Yd.notNil rfl) kr_ ?_
 refine wy_ 2 [1] rfl (Yd.fieldAddr (k := 0) kr_ rfl) kr_ ?_
 refine wq_ (wf_ (i := 3) [2] rfl (QAt.rd Wt.none (Rd.load1 kr_ rfl mem_ (by rfl))) kr_) kr_ ?_
 refine wy_ 4 [] rfl (Yd.fieldAddr (k := 1) kr_ rfl) kr_ ?_
 refine wq_ (wf_ (i := 5) [4] rfl (QAt.rd Wt.none (Rd.load1 kr_ rfl mem_ (by rfl))) kr_) kr_ ?_
 refine wq_ (wf_ (i := 6) [] rfl (QAt.rd Wt.none (Rd.loadAll (n := 2) kr_ rfl mem_ (by rfl))) kr_) kr_ ?_
 refine ws_ [(7, [6, 5, 4, 3, 2, 1, 0])] kr_ (all_c ?_ (all_n))
 refine so_ (j := 7) [_, _, _, _, _, _, _] rfl ?_
 refine SO.s rfl Wt.none (Hd.mapSet (k0 := kStr) (KT := 9) (ET := 191) (TD := .string) (n := x10.name) kr_ Tryz.underlying9 rfl rfl rfl rfl hK (by rw [kvs_keys]; exact inv.knd) sp_ fun C5 h5 => ⟨rfl, ?_⟩)
 refine wk_ [] (([_, _, _, _, _, _, _] ++ _)) rfl rfl all_n (wd_ [] rfl kr_ ?_)
 refine ts_ (WC.region (a_ rfl rfl (nt_ (WC.ret ?_))))
 first | refine DN.fit (C := row p [.map (some b1), .map (some b2)] 189 :: (C5 ++ C4)) sp_ ?_ | refine DN.fit (C := row p [.map (some b1), .map (some b2)] 189 :: (C1 ++ C2)) sp_ ?_
 refine DN.ret1 Tryz.results124 rfl ?_
 rotate_left
 subst h35
 refine WC.region (f_ 0 kr_ rfl rfl ?_)
 refine d_ kr_ rfl mem_ (by rfl) rfl ?_
 refine f_ 2 kr_ rfl rfl ?_
 refine d_ kr_ rfl mem_ (by rfl) rfl ?_
 refine WL.y rfl (Yd.add rfl rfl (by omega) (by omega)) ?_
 refine f_ 0 kr_ rfl rfl ?_
 refine WL.s (Hd.store1s kr_ rfl rfl (by rfl) fr_ (by rfl) (by first | (simp only [List.set_cons_zero, List.set_cons_succ, Nat.zero_add, Nat.add_zero, Nat.reduceAdd]; rfl) | rfl) ⟨rfl, ?_⟩)
 refine nt_ (WC.seq (WC.draw 8 kr_ rfl ?_))
 refine WAG.start (N := 8) rfl (wy_ 0 [] rfl (Yd.move rfl) kr_ ?_)
 refine wy_ 1 [0] rfl (Yd.notNil rfl) kr_ ?_
 refine wy_ 2 [1] rfl (Yd.fieldAddr (k := 0) kr_ rfl) kr_ ?_
 refine wq_ (wf_ (i := 3) [2] rfl (QAt.rd Wt.none (Rd.load1 kr_ rfl mem_ (by rfl))) kr_) kr_ ?_
 refine wy_ 4 [] rfl (Yd.fieldAddr (k := 1) kr_ rfl) kr_ ?_
 refine wq_ (wf_ (i := 5) [4] rfl (QAt.rd Wt.none (Rd.load1 kr_ rfl mem_ (by rfl))) kr_) kr_ ?_
 refine wq_ (wf_ (i := 6) [] rfl (QAt.rd Wt.none (Rd.loadAll (n := 2) kr_ rfl mem_ (by rfl))) kr_) kr_ ?_
 refine ws_ [(7, [6, 5, 4, 3, 2, 1, 0])] kr_ (all_c ?_ (all_n))
 refine so_ (j := 7) [_, _, _, _, _, _, _] rfl ?_
 refine SO.s rfl Wt.none (Hd.mapSet (k0 := kStr) (KT := 9) (ET := 191) (TD := .string) (n := x10.name) kr_ Tryz.underlying9 rfl rfl rfl rfl hK (by rw [kvs_keys]; exact inv.knd) sp_ fun C5 h5 => ⟨rfl, ?_⟩)
 refine wk_ [] (([_, _, _, _, _, _, _] ++ _)) rfl rfl all_n (wd_ [] rfl kr_ ?_)
 refine ts_ (WC.region (a_ rfl rfl (nt_ (WC.ret ?_))))
 first | refine DN.fit (C := row p [.map (some b1), .map (some b2)] 189 :: (C5 ++ C4)) sp_ ?_ | refine DN.fit (C := row p [.map (some b1), .map (some b2)] 189 :: (C1 ++ C2)) sp_ ?_
 refine DN.ret1 Tryz.results124 rfl ?_
 rotate_left
 all_goals
  first
    | (rw [hnone, delK_none hnone]
       unfold leaveKs
       rw [hnone]
       exact ⟨rfl, hS⟩)
    | (unfold leaveKs
       rw [hsome]
       refine ⟨rfl, b1, b2, C5, C4, rfl, ?_, by rw [← delG_kvs]; exact h4⟩
       first
       | (have e : adj K x10.name 0 x10.n = putK Gd.name K ⟨x10.name, freeOf K x10.name, goneOf K x10.name + x10.n⟩ := by unfold adj; rw [Int.add_zero]
          show MpG kStr b1 (kvs Gd.name encG (adj K x10.name 0 x10.n)) C5
          rw [e, ← putG]; exact h5)
       | (have e : adj K x10.name x10.n 0 = putK Gd.name K ⟨x10.name, freeOf K x10.name + x10.n, goneOf K x10.name⟩ := by unfold adj; rw [Int.add_zero]
          show MpG kStr b1 (kvs Gd.name encG (adj K x10.name x10.n 0)) C5
          rw [e, ← putG]; exact h5))
theorem free_tells (p : Nat) (first K : List Gd) (L : List Ho) (C : List Ck) (h : StAt 189 p K L C) (inv : SInv first K L) (o : BitVec 32) : Tells Tryz.prog 120 [.pointer (some ⟨p, 0, none⟩), .int .u32 o.toNat] C fun r H' => r = .int .i64 (vd (findK Ho.o L o).isSome) ∧ StAt 189 p (leaveKs K L o false) (delK Ho.o L o) H' := by
 refine Tells.enter Tryz.func120 rfl Tryz.ntmps120 rfl ?_
 intro w0 R
 refine sr_ (a_ rfl rfl (ntsr_ (m_ rfl rfl (m_ rfl rfl (WL.c rfl (Ent.func Tryz.call124 rfl) (leave_tells p first K L C h inv o false) (Sp.p sp_) ?_)))))
 rintro q C9 ⟨rfl, h9⟩
 exact a_ rfl rfl (nt_ (WC.ret (DN.ret1 Tryz.results120 rfl (⟨rfl, by simpa using h9⟩))))
theorem ship_tells (p : Nat) (first K : List Gd) (L : List Ho) (C : List Ck) (h : StAt 189 p K L C) (inv : SInv first K L) (o : BitVec 32) : Tells Tryz.prog 88 [.pointer (some ⟨p, 0, none⟩), .int .u32 o.toNat] C fun r H' => r = .int .i64 (vd (findK Ho.o L o).isSome) ∧ StAt 189 p (leaveKs K L o true) (delK Ho.o L o) H' := by
 refine Tells.enter Tryz.func88 rfl Tryz.ntmps88 rfl ?_
 intro w0 R
 refine sr_ (a_ rfl rfl (ntsr_ (m_ rfl rfl (m_ rfl rfl (WL.c rfl (Ent.func Tryz.call124 rfl) (leave_tells p first K L C h inv o true) (Sp.p sp_) ?_)))))
 rintro q C9 ⟨rfl, h9⟩
 exact a_ rfl rfl (nt_ (WC.ret (DN.ret1 Tryz.results88 rfl (⟨rfl, by simpa using h9⟩))))
end Go.Proofs.YtkamlondepceiaaGreat.St

set_option linter.unusedVariables false
set_option linter.unusedSimpArgs false
set_option maxHeartbeats 4000000
namespace Go.Proofs.YtkamlondepceiaaGreat.Pu
open Go.SL
theorem turn_mid {first K : List Au} {L : List Py} (inv : PInv first K L) {x : Py} (hx : x ∈ L) {s t dm dh : Int} (hok : turnOk s t dm dh) : -1000000000 ≤ dm * x.n ∧ dm * x.n ≤ 1000000000 ∧ -1000000000 ≤ dh * x.n ∧ dh * x.n ≤ 1000000000 ∧ 0 ≤ (acc K x.name).held ∧ (acc K x.name).held ≤ (acc K x.name).money ∧ (acc K x.name).money ≤ 1000000000 := by
  have h1 := inv.pays x hx
  have h2 := inv.mid x.name
  unfold heldU moneyOf at h2
  rcases hok with ⟨_, _, rfl, rfl⟩ | ⟨_, _, rfl, rfl⟩ | ⟨_, _, rfl, rfl⟩ <;> omega
theorem auth_tells (p : Nat) (first K : List Au) (L : List Py) (C : List Ck) (h : PsAt 198 p K L C) (inv : PInv first K L) (o : BitVec 32) (nm : ByteArray) (n : Int) : Tells Tryz.prog 89 [.pointer (some ⟨p, 0, none⟩), .int .u32 o.toNat, .string nm, .int .i64 n] C fun r H' => r = .int .i64 (vdP (authB K L o nm n)) ∧ PsAt 198 p (authKs K L o nm n) (authLs K L o nm n) H' := by
 refine Tells.enter Tryz.func89 rfl Tryz.ntmps89 rfl ?_
 intro w0 R
 have hS := h
 obtain ⟨b1, b2, C1, C2, rfl, hK, hL⟩ := h
 have hmid := inv.mid nm
 unfold heldU moneyOf at hmid
 obtain ⟨x10, hx10⟩ : ∃ x, x = (findK Py.o L o).getD zeroP := ⟨_, rfl⟩
 refine sr_ (a_ rfl rfl (nt_ (WC.seq (sr_ (m_ rfl rfl (WL.y rfl (Yd.eqlNil Tryz.underlying114 rfl rfl) (WL.renamed (t := 13) (v := .bool false) rfl (congrArg Value.bool (rfl)) (m_ rfl rfl (gy_ 14 rfl rfl rfl (Yd.move rfl) (gy_ 14 rfl rfl rfl (Yd.eql32 _ (0#32) rfl rfl rfl rfl) (WL.y rfl (Yd.pickF rfl rfl) (m_ rfl rfl (WL.partP (t := 18) rfl (fun hg18 => ?_) (fun hg18 => ?_))))))))))))))
 refine gn_ 18 rfl rfl rfl rfl (gn_ 18 rfl rfl rfl rfl (WL.y rfl (Yd.pickT rfl rfl) (nt_ (WC.yes rfl (sr_ (a_ rfl rfl (nt_ (WC.ret (DN.then_ret ?_)))))))))
 first | refine DN.fit (C := row p [.map (some b1), .map (some b2)] 198 :: (C3 ++ C4)) sp_ ?_ | refine DN.fit (C := row p [.map (some b1), .map (some b2)] 198 :: (C1 ++ C2)) sp_ ?_
 refine DN.ret1 Tryz.results89 rfl ?_
 rotate_left
 refine gy_ 18 rfl rfl rfl (Yd.move rfl) (gy_ 18 rfl rfl rfl (Yd.lss rfl rfl) (WL.y rfl (Yd.pickF rfl rfl) (nt_ (WC.ite rfl (fun h21 => ?_) (fun h21 => ?_)))))
 refine sr_ (a_ rfl rfl (nt_ (WC.ret (DN.then_ret ?_))))
 first | refine DN.fit (C := row p [.map (some b1), .map (some b2)] 198 :: (C3 ++ C4)) sp_ ?_ | refine DN.fit (C := row p [.map (some b1), .map (some b2)] 198 :: (C1 ++ C2)) sp_ ?_
 refine DN.ret1 Tryz.results89 rfl ?_
 rotate_left
 refine WC.skip (ts_ (WC.region (m_ rfl rfl (n_ rfl rfl (f_ 0 kr_ rfl rfl ?_)))))
 refine d_ kr_ rfl mem_ (by rfl) rfl ?_
 refine m_ rfl rfl (WL.h rfl (Hd.lookupG (k0 := kStr) (KT := 9) (ET := 71) (TD := .string) (n := nm) (z := .agg #[.string ⟨#[]⟩, .int .i64 0, .int .i64 0]) kr_ Tryz.underlying9 rfl kr_ rfl rfl hK sp_ (lkU K nm) ⟨_, rfl, ?_⟩))
 refine WL.h rfl (Hd.alloc (zs := [.string ⟨#[]⟩, .int .i64 0, .int .i64 0]) kr_ fun b9 => ⟨_, rfl, ?_⟩)
 refine WL.s (Hd.storeAll (n := 3) kr_ rfl rfl (by rfl) one_ fr_ (by rfl) ⟨rfl, ?_⟩)
 refine nt_ (WC.seq (sr_ (m_ rfl rfl (n_ rfl rfl (f_ 1 kr_ rfl rfl ?_)))))
 refine d_ kr_ rfl mem_ (by rfl) rfl ?_
 refine m_ rfl rfl (WL.h rfl (Hd.lookupG (k0 := kU32) (KT := 49) (ET := 217) (TD := .int .u32) (n := o) (z := .agg #[.int .u32 0, .string ⟨#[]⟩, .int .i64 0, .int .i64 0]) kr_ Tryz.underlying49 ⟨_, rfl⟩ kr_ rfl rfl hL sp_ (lkP2 L o) ⟨_, rfl, ?_⟩))
 refine m_ rfl rfl ?_
 rw [← hx10]
 refine x_ rfl rfl rfl (x_ rfl rfl rfl (WL.h rfl (Hd.alloc (zs := [.int .u32 0, .string ⟨#[]⟩, .int .i64 0, .int .i64 0]) kr_ fun b10 => ⟨_, rfl, ?_⟩)))
 refine WL.s (Hd.storeAll (n := 4) kr_ rfl rfl (by rfl) one_ fr_ (by rfl) ⟨rfl, ?_⟩)
 refine a_ rfl rfl (ntsr_ (m_ rfl rfl (m_ rfl rfl (WL.part (t := 38) rfl (fun hg38 => ?_) (fun hg38 => ?_)))))
 iterate 7 refine gn_ 38 rfl rfl rfl rfl ?_
 refine WL.y rfl (Yd.pickT rfl rfl) (nt_ (WC.yes rfl (sr_ (a_ rfl rfl (nt_ (WC.ret (DN.then_ret ?_)))))))
 first | refine DN.fit (C := row p [.map (some b1), .map (some b2)] 198 :: (C3 ++ C4)) sp_ ?_ | refine DN.fit (C := row p [.map (some b1), .map (some b2)] 198 :: (C1 ++ C2)) sp_ ?_
 refine DN.ret1 Tryz.results89 rfl ?_
 rotate_left
 refine gy_ 38 rfl rfl rfl (Yd.fieldAddr (k := 1) kr_ rfl) ?_
 refine WL.gh (dj := 38) rfl rfl rfl (Hd.load1 kr_ rfl mem_ (by rfl) ⟨_, rfl, ?_⟩)
 refine gy_ 38 rfl rfl rfl (Yd.fieldAddr (k := 2) kr_ rfl) ?_
 refine WL.gh (dj := 38) rfl rfl rfl (Hd.load1 kr_ rfl mem_ (by rfl) ⟨_, rfl, ?_⟩)
 refine gy_ 38 rfl rfl rfl (Yd.sub rfl rfl (by omega) (by omega)) ?_
 refine gy_ 38 rfl rfl rfl (Yd.move rfl) (gy_ 38 rfl rfl rfl (Yd.lss rfl rfl) (WL.y rfl (Yd.pickF rfl rfl) (nt_ (WC.ite rfl (fun h46 => ?_) (fun h46 => ?_)))))
 refine sr_ (a_ rfl rfl (nt_ (WC.ret (DN.then_ret ?_))))
 first | refine DN.fit (C := row p [.map (some b1), .map (some b2)] 198 :: (C3 ++ C4)) sp_ ?_ | refine DN.fit (C := row p [.map (some b1), .map (some b2)] 198 :: (C1 ++ C2)) sp_ ?_
 refine DN.ret1 Tryz.results89 rfl ?_
 rotate_left
 refine WC.skip (ts_ (WC.region (f_ 2 kr_ rfl rfl ?_)))
 refine d_ kr_ rfl mem_ (by rfl) rfl ?_
 refine m_ rfl rfl (WL.y rfl (Yd.add rfl rfl (by omega) (by omega)) ?_)
 refine f_ 2 kr_ rfl rfl ?_
 refine WL.s (Hd.store1s kr_ rfl rfl (by rfl) fr_ (by rfl) (by first | (simp only [List.set_cons_zero, List.set_cons_succ, Nat.zero_add, Nat.add_zero, Nat.reduceAdd]; rfl) | rfl) ⟨rfl, ?_⟩)
 refine nt_ (WC.seq (WC.draw 7 kr_ rfl ?_))
 refine WAG.start (N := 7) rfl (wy_ 0 [] rfl (Yd.move rfl) kr_ ?_)
 refine wy_ 1 [0] rfl (Yd.notNil rfl) kr_ ?_
 refine wy_ 2 [1] rfl (Yd.fieldAddr (k := 0) kr_ rfl) kr_ ?_
 refine wq_ (wf_ (i := 3) [2] rfl (QAt.rd Wt.none (Rd.load1 kr_ rfl mem_ (by rfl))) kr_) kr_ ?_
 refine wy_ 4 [] rfl (Yd.move rfl) kr_ ?_
 refine wq_ (wf_ (i := 5) [] rfl (QAt.rd Wt.none (Rd.loadAll (n := 3) kr_ rfl mem_ (by rfl))) kr_) kr_ ?_
 refine ws_ [(6, [5, 4, 3, 2, 1, 0])] kr_ (all_c ?_ (all_n))
 refine so_ (j := 6) [_, _, _, _, _, _] rfl ?_
 refine SO.s rfl Wt.none (Hd.mapSet (k0 := kStr) (KT := 9) (ET := 71) (TD := .string) (n := nm) (v := .agg #[.string (acc K nm).name, .int .i64 (acc K nm).money, .int .i64 ((acc K nm).held + n)]) kr_ Tryz.underlying9 rfl rfl rfl rfl hK (by rw [kvs_keys]; exact inv.knd) sp_ fun C3 h3 => ⟨rfl, ?_⟩)
 refine wk_ [] (([_, _, _, _, _, _] ++ _)) rfl rfl all_n (wd_ [] rfl kr_ ?_)
 refine ts_ (WC.region (m_ rfl rfl (n_ rfl rfl (f_ 1 kr_ rfl rfl ?_))))
 refine d_ kr_ rfl mem_ (by rfl) rfl ?_
 iterate 4 refine m_ rfl rfl ?_
 refine WL.y rfl (Yd.buildL (pl := [(0, 1), (1, 1), (2, 1), (3, 1)]) (zs := [.int .u32 0, .string ⟨#[]⟩, .int .i64 0, .int .i64 0]) (parts := [(0, .tmp 63), (1, .tmp 64), (2, .tmp 65), (3, .const (.int .i64 1))]) (vs := [(0, _), (1, _), (2, _), (3, _)]) (cells := [_, _, _, _]) kr_ kr_ rfl rfl) ?_
 refine WL.s (Hd.mapSet (k0 := kU32) (KT := 49) (ET := 217) (TD := .int .u32) (n := o) (v := .agg #[.int .u32 o.toNat, .string nm, .int .i64 n, .int .i64 1]) kr_ Tryz.underlying49 ⟨_, rfl⟩ rfl rfl rfl hL (by rw [kvs_keys]; exact inv.keys) sp_ fun C4 h4 => ⟨rfl, ?_⟩)
 refine ntsr_ (a_ rfl rfl (nt_ (WC.ret ?_)))
 first | refine DN.fit (C := row p [.map (some b1), .map (some b2)] 198 :: (C3 ++ C4)) sp_ ?_ | refine DN.fit (C := row p [.map (some b1), .map (some b2)] 198 :: (C1 ++ C2)) sp_ ?_
 refine DN.ret1 Tryz.results89 rfl ?_
 rotate_left
 all_goals
  first
    | (have hb : authB K L o nm n = true := by
         unfold authB moneyOf heldU
         simp only [Bool.and_eq_true, decide_eq_true_eq, Bool.not_eq_true']
         exact ⟨hg18, by omega, hg38, by omega⟩
       have hin := (authB_parts hb).2.2.2.2
       have hf : findK Py.o L o = none := by simpa using hg38
       rw [(auth_yes hb).1, (auth_yes hb).2, hb]
       refine ⟨rfl, b1, b2, C3, C4, rfl, ?_, ?_⟩
       · have e : adjU K nm 0 n = putK Au.name K ⟨(acc K nm).name, (acc K nm).money, (acc K nm).held + n⟩ := by unfold adjU moneyOf heldU; rw [Int.add_zero, acc_in hin]
         rw [e, ← putU K ⟨(acc K nm).name, (acc K nm).money, (acc K nm).held + n⟩ nm (acc_in hin).symm]; exact h3
       rw [← putP_new (x := ⟨o, nm, n, 1⟩) hf, ← putP L ⟨o, nm, n, 1⟩ o rfl]; exact h4)
    | (have hb : authB K L o nm n = false := by
         unfold authB moneyOf heldU
         rw [Bool.eq_false_iff]
         simp only [ne_eq, Bool.and_eq_true, decide_eq_true_eq, Bool.not_eq_true']
         rintro ⟨e1, e2, e3, e4⟩
         first
         | omega
         | exact e1 hg18
         | exact Bool.noConfusion (e3.symm.trans hg38)
       rw [(auth_no hb).1, (auth_no hb).2, hb]
       exact ⟨rfl, hS⟩)
theorem turn_tells (p : Nat) (first K : List Au) (L : List Py) (C : List Ck) (h : PsAt 198 p K L C) (inv : PInv first K L) (o : BitVec 32) (s t dm dh : Int) (hok : turnOk s t dm dh) : Tells Tryz.prog 125 [.pointer (some ⟨p, 0, none⟩), .int .u32 o.toNat, .int .i64 s, .int .i64 t, .int .i64 dm, .int .i64 dh] C fun r H' => r = .int .i64 (vdP (turnB L o s)) ∧ PsAt 198 p (turnKs K L o s dm dh) (turnLs L o s t) H' := by
 refine Tells.enter Tryz.func125 rfl Tryz.ntmps125 rfl ?_
 intro w0 R
 have hS := h
 obtain ⟨b1, b2, C1, C2, rfl, hK, hL⟩ := h
 obtain ⟨x10, hx10⟩ : ∃ x, x = (findK Py.o L o).getD zeroP := ⟨_, rfl⟩
 refine sr_ (a_ rfl rfl (nt_ (WC.seq (sr_ (m_ rfl rfl (WL.y rfl (Yd.eqlNil Tryz.underlying114 rfl rfl) (WL.renamed (t := 17) (v := .bool false) rfl (congrArg Value.bool (rfl)) (nt_ (WC.no rfl (WC.skip (ts_ (WC.region (m_ rfl rfl ?_)))))))))))))
 refine n_ rfl rfl (f_ 1 kr_ rfl rfl ?_)
 refine d_ kr_ rfl mem_ (by rfl) rfl ?_
 refine m_ rfl rfl (WL.h rfl (Hd.lookupG (k0 := kU32) (KT := 49) (ET := 217) (TD := .int .u32) (n := o) (z := .agg #[.int .u32 0, .string ⟨#[]⟩, .int .i64 0, .int .i64 0]) kr_ Tryz.underlying49 ⟨_, rfl⟩ kr_ rfl rfl hL sp_ (lkP2 L o) ⟨_, rfl, ?_⟩))
 refine m_ rfl rfl ?_
 rw [← hx10]
 refine x_ rfl rfl rfl (x_ rfl rfl rfl (WL.h rfl (Hd.alloc (zs := [.int .u32 0, .string ⟨#[]⟩, .int .i64 0, .int .i64 0]) kr_ fun b13 => ⟨_, rfl, ?_⟩)))
 refine WL.s (Hd.storeAll (n := 4) kr_ rfl rfl (by rfl) one_ fr_ (by rfl) ⟨rfl, ?_⟩)
 refine a_ rfl rfl (nt_ (WC.seq (sr_ (m_ rfl rfl (WL.y rfl (Yd.notB rfl) (m_ rfl rfl (WL.part (t := 29) rfl (fun hg29 => ?_) (fun hg29 => ?_))))))))
 iterate 4 refine gn_ 29 rfl rfl rfl rfl ?_
 refine WL.y rfl (Yd.pickT rfl rfl) (nt_ (WC.yes rfl (sr_ (a_ rfl rfl (nt_ (WC.ret (DN.then_ret ?_)))))))
 first | refine DN.fit (C := row p [.map (some b1), .map (some b2)] 198 :: (C1 ++ C2)) sp_ ?_ | skip
 refine DN.ret1 Tryz.results125 rfl ?_
 rotate_left
 refine gy_ 29 rfl rfl rfl (Yd.fieldAddr (k := 3) kr_ rfl) ?_
 refine WL.gh (dj := 29) rfl rfl rfl (Hd.load1 kr_ rfl mem_ (by rfl) ⟨_, rfl, ?_⟩)
 refine gy_ 29 rfl rfl rfl (Yd.move rfl) (gy_ 29 rfl rfl rfl (Yd.neq rfl rfl) (WL.y rfl (Yd.pickF rfl rfl) (nt_ (WC.ite rfl (fun h34 => ?_) (fun h34 => ?_)))))
 refine sr_ (a_ rfl rfl (nt_ (WC.ret (DN.then_ret ?_))))
 first | refine DN.fit (C := row p [.map (some b1), .map (some b2)] 198 :: (C1 ++ C2)) sp_ ?_ | skip
 refine DN.ret1 Tryz.results125 rfl ?_
 rotate_left
 have hsome : findK Py.o L o = some x10 := by
   have h1 : (findK Py.o L o).isSome = true := by simpa using hg29
   obtain ⟨x, hx⟩ := Option.isSome_iff_exists.1 h1
   rw [hx] at hx10 ⊢
   exact congrArg some hx10.symm
 have hst : x10.st = s := Classical.byContradiction h34
 have hxin := (findK_mem hsome).1
 have hxo := (findK_mem hsome).2
 have hmid := turn_mid inv hxin hok
 have hin : x10.name ∈ K.map Au.name := by rw [inv.names]; exact (inv.pays x10 hxin).2.2.2.1
 have hgu : getG (kvs Au.name encU K) x10.name = some (encU (acc K x10.name)) := by
   rw [getG_kvs]
   obtain ⟨y, hy⟩ := Option.isSome_iff_exists.1 (find_namesU hin)
   unfold acc
   rw [hy]
   rfl
 have hgp : getG (kvs Py.o encP L) o = some (encP x10) := by rw [getG_kvs, hsome]; rfl
 have hb : turnB L o s = true := by unfold turnB; rw [hsome]; simpa using hst
 have eK : turnKs K L o s dm dh = adjU K x10.name (dm * x10.n) (dh * x10.n) := by unfold turnKs; rw [hsome]; exact if_pos hst
 have eL : turnLs L o s t = putK Py.o L ⟨x10.o, x10.name, x10.n, t⟩ := by unfold turnLs; rw [hsome]; exact if_pos hst
 refine WC.skip (DN.then_normal (WC.cutK (fun z : Nat => True) (fun z : Nat => [(15, .pointer (some ⟨z, 0, none⟩))]) (fun z : Nat => row z (cellsU (acc K x10.name)) 71 :: (row b13 (cellsP x10) 217 :: (row p [.map (some b1), .map (some b2)] 198 :: (C1 ++ C2)))) ?_ ?_))
 refine WC.draw 9 kr_ rfl ?_
 refine WAG.start (N := 9) rfl (wy_ 0 [] rfl (Yd.move rfl) kr_ ?_)
 refine wy_ 1 [0] rfl (Yd.notNil rfl) kr_ ?_
 refine wy_ 2 [1] rfl (Yd.fieldAddr (k := 0) kr_ rfl) kr_ ?_
 refine wq_ (wf_ (i := 3) [2] rfl (QAt.rd Wt.none (Rd.load1 kr_ rfl mem_ (by rfl))) kr_) kr_ ?_
 refine wy_ 4 [] rfl (Yd.fieldAddr (k := 1) kr_ rfl) kr_ ?_
 refine wq_ (wf_ (i := 5) [4] rfl (QAt.rd Wt.none (Rd.load1 kr_ rfl mem_ (by rfl))) kr_) kr_ ?_
 refine ws_ [(6, [5, 3]), (7, [])] kr_ (all_c ?_ (all_c ?_ (all_n)))
 refine so_ (j := 6) [_, _] rfl (SO.h rfl Wt.none rfl (Hd.lookupG (k0 := kStr) (KT := 9) (ET := 71) (TD := .string) (n := x10.name) (z := .agg #[.string ⟨#[]⟩, .int .i64 0, .int .i64 0]) kr_ Tryz.underlying9 rfl kr_ rfl rfl hK sp_ (lkU K x10.name) ⟨_, rfl, ?_⟩))
 refine wk_ [_, _, _, _] (_ :: ([_, _] ++ _)) rfl rfl all_n (ws_ [(7, [])] kr_ (all_c ?_ (all_n)))
 refine so_ (j := 7) [] rfl (SO.h rfl Wt.none rfl (Hd.alloc (zs := [.string ⟨#[]⟩, .int .i64 0, .int .i64 0]) kr_ fun b15 => ⟨_, rfl, ?_⟩))
 refine wk_ [_, _, _, _] (_ :: ([] ++ _)) rfl rfl all_n (ws_ [(8, [4, 2, 1, 0])] kr_ (all_c ?_ (all_n)))
 refine so_ (j := 8) [_, _, _, _] rfl (SO.s rfl Wt.none (Hd.storeAll (n := 3) kr_ rfl rfl (by rfl) one_ fr_ (by rfl) ⟨rfl, ?_⟩))
 refine wk_ [] (([_, _, _, _] ++ _)) rfl rfl all_n (wd_ [] rfl kr_ ?_)
 exact DN.reachK (b15) (trivial) (Sx.put rfl (sx_)) (Sp.all sp_)
 refine so_ (j := 7) [] rfl (SO.h rfl Wt.none rfl (Hd.alloc (zs := [.string ⟨#[]⟩, .int .i64 0, .int .i64 0]) kr_ fun b15 => ⟨_, rfl, ?_⟩))
 refine wk_ [_, _, _, _, _, _] (_ :: ([] ++ _)) rfl rfl (all_c (wf_ [4] rfl (QAt.rd Wt.none (Rd.load1 kr_ rfl mem_ (by rfl))) kr_) (all_c (wf_ [2] rfl (QAt.rd Wt.none (Rd.load1 kr_ rfl mem_ (by rfl))) kr_) all_n)) ?_
 refine ws_ [(6, [5, 3])] kr_ (all_c ?_ (all_n))
 refine so_ (j := 6) [_, _] rfl (SO.h rfl Wt.none rfl (Hd.lookupG (k0 := kStr) (KT := 9) (ET := 71) (TD := .string) (n := x10.name) (z := .agg #[.string ⟨#[]⟩, .int .i64 0, .int .i64 0]) kr_ Tryz.underlying9 rfl kr_ rfl rfl hK sp_ (lkU K x10.name) ⟨_, rfl, ?_⟩))
 refine wk_ [_, _, _, _] (_ :: ([_, _] ++ _)) rfl rfl all_n (ws_ [(8, [4, 2, 1, 0])] kr_ (all_c ?_ (all_n)))
 refine so_ (j := 8) [_, _, _, _] rfl (SO.s rfl Wt.none (Hd.storeAll (n := 3) kr_ rfl rfl (by rfl) one_ fr_ (by rfl) ⟨rfl, ?_⟩))
 refine wk_ [] (([_, _, _, _] ++ _)) rfl rfl all_n (wd_ [] rfl kr_ ?_)
 exact DN.reachK (b15) (trivial) (Sx.put rfl (sx_)) (Sp.all sp_)
 intro b15 _
 refine sr_ (f_ 1 kr_ rfl rfl ?_)
 refine d_ kr_ rfl mem_ (by rfl) rfl ?_
 refine m_ rfl rfl (f_ 2 kr_ rfl rfl ?_)
 refine d_ kr_ rfl mem_ (by rfl) rfl ?_
 refine WL.y rfl (Yd.mul rfl rfl (by omega) (by omega)) ?_
 refine WL.y rfl (Yd.add rfl rfl (by omega) (by omega)) ?_
 refine f_ 1 kr_ rfl rfl ?_
 refine WL.s (Hd.store1s kr_ rfl rfl (by rfl) fr_ (by rfl) (by first | (simp only [List.set_cons_zero, List.set_cons_succ, Nat.zero_add, Nat.add_zero, Nat.reduceAdd]; rfl) | rfl) ⟨rfl, ?_⟩)
 refine ntsr_ (f_ 2 kr_ rfl rfl ?_)
 refine d_ kr_ rfl mem_ (by rfl) rfl ?_
 refine m_ rfl rfl (f_ 2 kr_ rfl rfl ?_)
 refine d_ kr_ rfl mem_ (by rfl) rfl ?_
 refine WL.y rfl (Yd.mul rfl rfl (by omega) (by omega)) ?_
 refine WL.y rfl (Yd.add rfl rfl (by omega) (by omega)) ?_
 refine f_ 2 kr_ rfl rfl ?_
 refine WL.s (Hd.store1s kr_ rfl rfl (by rfl) fr_ (by rfl) (by first | (simp only [List.set_cons_zero, List.set_cons_succ, Nat.zero_add, Nat.add_zero, Nat.reduceAdd]; rfl) | rfl) ⟨rfl, ?_⟩)
 refine ntsr_ (m_ rfl rfl (f_ 3 kr_ rfl rfl ?_))
 refine WL.s (Hd.store1s kr_ rfl rfl (by rfl) fr_ (by rfl) (by first | (simp only [List.set_cons_zero, List.set_cons_succ, Nat.zero_add, Nat.add_zero, Nat.reduceAdd]; rfl) | rfl) ⟨rfl, ?_⟩)
 refine nt_ (WC.cutK (fun z : List Ck => PsAt 198 p (turnKs K L o s dm dh) (turnLs L o s t) z) (fun z : List Ck => []) (fun z : List Ck => z) ?_ ?_)
 refine WC.draw 19 kr_ rfl ?_
 refine WAG.start (N := 19) rfl (wy_ 0 [] rfl (Yd.move rfl) kr_ ?_)
 refine wy_ 1 [0] rfl (Yd.notNil rfl) kr_ ?_
 refine wy_ 2 [1] rfl (Yd.fieldAddr (k := 0) kr_ rfl) kr_ ?_
 refine wq_ (wf_ (i := 3) [2] rfl (QAt.rd Wt.none (Rd.load1 kr_ rfl mem_ (by rfl))) kr_) kr_ ?_
 refine wy_ 4 [] rfl (Yd.fieldAddr (k := 1) kr_ rfl) kr_ ?_
 refine wq_ (wf_ (i := 5) [4] rfl (QAt.rd Wt.none (Rd.load1 kr_ rfl mem_ (by rfl))) kr_) kr_ ?_
 refine wy_ 6 [] rfl (Yd.move rfl) kr_ ?_
 refine wy_ 7 [6] rfl (Yd.notNil rfl) kr_ ?_
 refine wy_ 8 [7] rfl (Yd.fieldAddr (k := 1) kr_ rfl) kr_ ?_
 refine wq_ (wf_ (i := 9) [8] rfl (QAt.rd Wt.none (Rd.load1 kr_ rfl mem_ (by rfl))) kr_) kr_ ?_
 refine wy_ 10 [] rfl (Yd.move rfl) kr_ ?_
 refine wq_ (wf_ (i := 11) [] rfl (QAt.rd Wt.none (Rd.loadAll (n := 3) kr_ rfl mem_ (by rfl))) kr_) kr_ ?_
 refine wq_ (wf_ (i := 12) [] rfl (QAt.rd Wt.none (Rd.loadAll (n := 4) kr_ rfl mem_ (by rfl))) kr_) kr_ ?_
 refine ws_ [(13, [9, 5, 3])] kr_ (all_c ?_ (all_n))
 refine so_ (j := 13) [_, _, _] rfl (SO.h rfl Wt.none rfl (Hd.mapEntry (k0 := kStr) (KT := 9) (ET := 71) (TD := .string) (n := x10.name) kr_ Tryz.underlying9 rfl rfl rfl hK hgu sp_ fun bo1 D1 hE1 => ⟨_, rfl, ?_⟩))
 refine wk_ [_, _, _, _, _, _, _, _, _, _] (_ :: ([_, _, _] ++ _)) rfl rfl (all_c (wf_ [] rfl (QAt.rd Wt.none (Rd.loadAll (n := 4) kr_ rfl mem_ (by rfl))) kr_) (all_c (wf_ [] rfl (QAt.rd Wt.none (Rd.loadAll (n := 3) kr_ rfl mem_ (by rfl))) kr_) all_n)) ?_
 refine wy_ 14 [] rfl (Yd.extract rfl rfl) kr_ ?_
 refine ws_ [(15, [14, 11, 4, 2, 1, 0])] kr_ (all_c ?_ (all_n))
 refine so_ (j := 15) [_, _, _, _, _, _] rfl ?_
 refine SO.s rfl Wt.none (Hd.entryStore (k0 := kStr) rfl rfl rfl hE1 (by rw [kvs_keys]; exact inv.knd) sp_ fun C5 h5 => ⟨rfl, ?_⟩)
 refine wk_ [_, _, _, _, _] (([_, _, _, _, _, _] ++ _)) rfl rfl (all_c (wf_ [] rfl (QAt.rd Wt.none (Rd.loadAll (n := 4) kr_ rfl mem_ (by rfl))) kr_) all_n) ?_
 refine ws_ [(16, [10])] kr_ (all_c ?_ (all_n))
 refine so_ (j := 16) [_] rfl (SO.h rfl Wt.none rfl (Hd.mapEntry (k0 := kU32) (KT := 49) (ET := 217) (TD := .int .u32) (n := o) kr_ Tryz.underlying49 ⟨_, rfl⟩ rfl rfl hL hgp sp_ fun bo2 D2 hE2 => ⟨_, rfl, ?_⟩))
 refine wk_ [_, _, _, _] (_ :: ([_] ++ _)) rfl rfl (all_c (wf_ [] rfl (QAt.rd Wt.none (Rd.loadAll (n := 4) kr_ rfl mem_ (by rfl))) kr_) all_n) ?_
 refine wy_ 17 [] rfl (Yd.extract rfl rfl) kr_ ?_
 refine ws_ [(18, [17, 12, 8, 7, 6])] kr_ (all_c ?_ (all_n))
 refine so_ (j := 18) [_, _, _, _, _] rfl ?_
 refine SO.s rfl Wt.none (Hd.entryStore (k0 := kU32) rfl rfl rfl hE2 (by rw [kvs_keys]; exact inv.keys) sp_ fun C6 h6 => ⟨rfl, ?_⟩)
 refine wk_ [] (([_, _, _, _, _] ++ _)) rfl rfl all_n (wd_ [] rfl kr_ ?_)
 refine DN.fit (C := row p [.map (some b1), .map (some b2)] 198 :: (C5 ++ C6)) sp_ ?_
 exact DN.reachK (row p [.map (some b1), .map (some b2)] 198 :: (C5 ++ C6)) (by
   refine ⟨b1, b2, C5, C6, rfl, ?_, ?_⟩
   · have e : adjU K x10.name (dm * x10.n) (dh * x10.n) = putK Au.name K ⟨(acc K x10.name).name, (acc K x10.name).money + dm * x10.n, (acc K x10.name).held + dh * x10.n⟩ := by unfold adjU moneyOf heldU; rw [acc_in hin]
     rw [eK, e, ← putU K ⟨(acc K x10.name).name, (acc K x10.name).money + dm * x10.n, (acc K x10.name).held + dh * x10.n⟩ x10.name (acc_in hin).symm]; exact h5
   rw [eL, ← putP L ⟨x10.o, x10.name, x10.n, t⟩ o hxo.symm]; exact h6) (sx_) (Sp.all sp_)
 intro z hz
 refine sr_ (a_ rfl rfl (nt_ (WC.ret ?_)))
 first | refine DN.fit (C := row p [.map (some b1), .map (some b2)] 198 :: (C1 ++ C2)) sp_ ?_ | skip
 refine DN.ret1 Tryz.results125 rfl ?_
 rotate_left
 all_goals
  first
    | (rw [hb]; exact ⟨rfl, hz⟩)
    | (have hb : turnB L o s = false := by
         unfold turnB
         cases hf : findK Py.o L o with
         | none => rfl
         | some x =>
           rw [hf] at hx10 hg29
           simp only [Option.getD_some] at hx10
           subst hx10
           first
           | (simp at hg29; done)
           | exact decide_eq_false h34
       rw [hb, (turn_no t dm dh hb).1, (turn_no (K := K) t dm dh hb).2]
       exact ⟨rfl, hS⟩)
theorem capture_tells (p : Nat) (first K : List Au) (L : List Py) (C : List Ck) (h : PsAt 198 p K L C) (inv : PInv first K L) (o : BitVec 32) : Tells Tryz.prog 90 [.pointer (some ⟨p, 0, none⟩), .int .u32 o.toNat] C fun r H' => r = .int .i64 (vdP (turnB L o 1)) ∧ PsAt 198 p (turnKs K L o 1 (-1) (-1)) (turnLs L o 1 2) H' := by
 refine Tells.enter Tryz.func90 rfl Tryz.ntmps90 rfl ?_
 intro w0 R
 refine sr_ (a_ rfl rfl (ntsr_ (m_ rfl rfl (m_ rfl rfl ?_))))
 refine WL.c rfl (Ent.func Tryz.call125 rfl) (turn_tells p first K L C h inv o 1 2 (-1) (-1) (by unfold turnOk; decide)) (Sp.p sp_) ?_
 rintro q C9 ⟨rfl, h9⟩
 exact a_ rfl rfl (nt_ (WC.ret (DN.ret1 Tryz.results90 rfl (⟨rfl, by simpa using h9⟩))))
theorem void_tells (p : Nat) (first K : List Au) (L : List Py) (C : List Ck) (h : PsAt 198 p K L C) (inv : PInv first K L) (o : BitVec 32) : Tells Tryz.prog 121 [.pointer (some ⟨p, 0, none⟩), .int .u32 o.toNat] C fun r H' => r = .int .i64 (vdP (turnB L o 1)) ∧ PsAt 198 p (turnKs K L o 1 0 (-1)) (turnLs L o 1 3) H' := by
 refine Tells.enter Tryz.func121 rfl Tryz.ntmps121 rfl ?_
 intro w0 R
 refine sr_ (a_ rfl rfl (ntsr_ (m_ rfl rfl (m_ rfl rfl ?_))))
 refine WL.c rfl (Ent.func Tryz.call125 rfl) (turn_tells p first K L C h inv o 1 3 0 (-1) (by unfold turnOk; decide)) (Sp.p sp_) ?_
 rintro q C9 ⟨rfl, h9⟩
 exact a_ rfl rfl (nt_ (WC.ret (DN.ret1 Tryz.results121 rfl (⟨rfl, by simpa using h9⟩))))
theorem refund_tells (p : Nat) (first K : List Au) (L : List Py) (C : List Ck) (h : PsAt 198 p K L C) (inv : PInv first K L) (o : BitVec 32) : Tells Tryz.prog 122 [.pointer (some ⟨p, 0, none⟩), .int .u32 o.toNat] C fun r H' => r = .int .i64 (vdP (turnB L o 2)) ∧ PsAt 198 p (turnKs K L o 2 1 0) (turnLs L o 2 3) H' := by
 refine Tells.enter Tryz.func122 rfl Tryz.ntmps122 rfl ?_
 intro w0 R
 refine sr_ (a_ rfl rfl (ntsr_ (m_ rfl rfl (m_ rfl rfl ?_))))
 refine WL.c rfl (Ent.func Tryz.call125 rfl) (turn_tells p first K L C h inv o 2 3 1 0 (by unfold turnOk; decide)) (Sp.p sp_) ?_
 rintro q C9 ⟨rfl, h9⟩
 exact a_ rfl rfl (nt_ (WC.ret (DN.ret1 Tryz.results122 rfl (⟨rfl, by simpa using h9⟩))))
end Go.Proofs.YtkamlondepceiaaGreat.Pu

set_option linter.unusedVariables false
set_option linter.unusedSimpArgs false
set_option maxHeartbeats 2000000
namespace Go.Proofs.YtkamlondepceiaaGreat.Do
open Go.SL
def badRoom (n : Int) : Bool := decide (n < 0) || decide (1000000 < n)
theorem findIdx_yes (rs : List Int) (i : Nat) (hi : i < rs.length) (h : badRoom (rs.getD i 0) = true) (hno : ∀ j, j < i → badRoom (rs.getD j 0) = false) : rs.findIdx? badRoom = some i := by
  rw [List.findIdx?_eq_some_iff_getElem]
  refine ⟨hi, by simpa [List.getD, hi] using h, fun j hj => ?_⟩
  have := hno j hj
  have hj2 : j < rs.length := by omega
  simpa [List.getD, hj2] using this
theorem findIdx_no (rs : List Int) (hno : ∀ j, j < rs.length → badRoom (rs.getD j 0) = false) : rs.findIdx? badRoom = none := by
  rw [List.findIdx?_eq_none_iff]
  intro x hx
  obtain ⟨j, hj, rfl⟩ := List.getElem_of_mem hx
  have := hno j hj
  simpa [List.getD, hj] using this
theorem badRoom_reads (n : Int) (H : List Ck) : Reads Tryz.prog 103 [.int .i64 n] H (.bool (badRoom n)) := by
 refine Tells.enter Tryz.func103 rfl Tryz.ntmps103 rfl ?_
 intro w0 R
 refine sr_ (a_ rfl rfl (ntsr_ (m_ rfl rfl (WL.y rfl (Yd.lss rfl rfl) (m_ rfl rfl (WL.partP (t := 5) rfl (fun hg5 => ?_) (fun hg5 => ?_)))))))
 exact gn_ 5 rfl rfl rfl rfl (gn_ 5 rfl rfl rfl rfl (WL.y rfl (Yd.pickT rfl rfl) (a_ rfl rfl (nt_ (WC.ret (DN.ret1 Tryz.results103 rfl (⟨by simp [badRoom, hg5], rfl⟩)))))))
 exact gy_ 5 rfl rfl rfl (Yd.move rfl) (gy_ 5 rfl rfl rfl (Yd.gtr rfl rfl) (WL.y rfl (Yd.pickF rfl rfl) (a_ rfl rfl (nt_ (WC.ret (DN.ret1 Tryz.results103 rfl (⟨by simp [badRoom, hg5], rfl⟩)))))))
theorem index_reads (v : Value) (rs : List Int) (H : List Ck) (hv : Rs v rs.length (ic rs) H) (hl : rs.length ≤ 9223372036854775807) : Reads Tryz.prog 134 [v, .func (.func 103) #[] #[]] H (.int .i64 (match rs.findIdx? badRoom with | some i => (i : Int) | none => -1)) := by
 refine Tells.enter Tryz.func134 rfl Tryz.ntmps134 rfl ?_
 intro w0 R
 obtain ⟨vo, vc, rfl, hvc⟩ := hv.form
 refine sr_ (a_ rfl rfl (nt_ (WC.seq (sr_ (m_ rfl rfl (WL.y rfl (Yd.len (e := 3) kr_ rfl) ?_))))))
 refine m_ rfl rfl (nt_ (WC.block (WC.loop (fun i : Nat => i ≤ rs.length ∧ ∀ j, j < i → badRoom (rs.getD j 0) = false) (fun i => [(0, .slice vo rs.length vc), (1, .func (.func 103) #[] #[]), (7, .int .i64 rs.length), (8, .int .i64 i)]) (fun _ => H) (fun i => rs.length - i) 0 ⟨Nat.zero_le _, fun j h => by omega⟩ ⟨rfl, rfl, rfl, rfl, trivial⟩ (List.Perm.refl _) ?_)))
 rintro i ⟨hi, hno⟩
 refine sr_ (WL.y rfl (Yd.lss rfl rfl) (nt_ (WC.seq (WC.ite rfl (fun h9 => ?_) (fun h9 => ?_)))))
 have hlt : i < rs.length := by omega
 refine WC.skip (ts_ (WC.block (sr_ (m_ rfl rfl (a_ rfl rfl (ntsr_ ?_))))))
 iterate 3 refine m_ rfl rfl ?_
 refine WL.elem (e := 3) kr_ kr_ kr_ rfl rfl (rfl) (hv) (ic_getD hlt) (hlt) rfl rfl ?_
 intro _
 refine WL.r rfl (Ent.val Tryz.call103 rfl rfl) (badRoom_reads _ _) (nt_ (WC.cond rfl (fun h16 => ?_) (fun h16 => ?_)))
 exact sr_ (m_ rfl rfl (a_ rfl rfl (nt_ (WC.ret (DN.block_ret (DN.then_ret (DN.then_ret (DN.block_ret (DN.then_ret (DN.ret1 Tryz.results134 rfl (⟨by rw [findIdx_yes rs i hlt h16 hno], rfl⟩)))))))))))
 refine WC.skip (DN.block_normal (DN.then_normal (WC.region (WL.y rfl (Yd.add rfl rfl (by omega) (by omega)) ?_))))
 refine m_ rfl rfl (WL.nil ?_)
 exact DN.again (i + 1) ⟨by omega, fun j hj => by by_cases e : j = i; (subst e; exact h16); exact hno j (by omega)⟩ (by omega) ⟨rfl, rfl, rfl, rfl, trivial⟩ (List.Perm.refl _)
 exact WC.exit (DN.then_exit (DN.then_exit (DN.block_exit (ts_ (WC.region (a_ rfl rfl (nt_ (WC.ret (DN.ret1 Tryz.results134 rfl (⟨by rw [findIdx_no rs (fun j hj => hno j (by omega))], rfl⟩))))))))))
theorem contains_reads (v : Value) (rs : List Int) (H : List Ck) (hv : Rs v rs.length (ic rs) H) (hl : rs.length ≤ 9223372036854775807) : Reads Tryz.prog 102 [v, .func (.func 103) #[] #[]] H (.bool (rs.findIdx? badRoom).isSome) := by
 refine Tells.enter Tryz.func102 rfl Tryz.ntmps102 rfl ?_
 intro w0 R
 refine sr_ (a_ rfl rfl (ntsr_ (m_ rfl rfl (m_ rfl rfl (WL.r rfl (Ent.func Tryz.call134 rfl) (index_reads _ rs _ hv hl) (WL.y rfl (Yd.geq rfl rfl) ?_))))))
 refine WL.renamed (t := 8) (v := .bool (rs.findIdx? badRoom).isSome) rfl (congrArg Value.bool (by cases rs.findIdx? badRoom <;> simp)) ?_
 exact a_ rfl rfl (nt_ (WC.ret (DN.ret1 Tryz.results102 rfl (⟨rfl, rfl⟩))))
theorem clone_tells (v : Value) (rs : List Int) (H : List Ck) (hv : Rs v rs.length (ic rs) H) (hl : rs.length ≤ 1000000) : Tells Tryz.prog 104 [v] H fun r H' => ∃ C, Own r rs.length (ic rs) 3 1 C ∧ H' = C ++ H := by
 refine Tells.enter Tryz.func104 rfl Tryz.ntmps104 rfl ?_
 intro w0 R
 obtain ⟨vo, vc, rfl, hvc⟩ := hv.form
 have hnil : vo = none → rs = [] := by
   rintro rfl
   rcases hv with ⟨_, _, e, h0, _⟩ | ⟨b, o, cap, cs, T, fr, ex, e, _⟩
   · exact List.eq_nil_of_length_eq_zero h0
   cases e
 refine sr_ (a_ rfl rfl (nt_ (WC.seq (sr_ (m_ rfl rfl (WL.y rfl (Yd.eqlNilS Tryz.underlying45 rfl rfl) (nt_ (WC.cond rfl (fun h4 => ?_) (fun h4 => ?_)))))))))
 refine sr_ (a_ rfl rfl (nt_ (WC.ret (DN.then_ret (DN.ret1 Tryz.results104 rfl ?_)))))
 have e0 : rs = [] := hnil (by simpa using h4)
 subst e0
 exact ⟨[], Own.nil _ _, rfl⟩
 refine WC.skip (ts_ (WC.region (WL.h rfl (Hd.buildSlice (e := 3) (sz := 1) (zs := [.int .i64 0]) (parts := []) (vs := []) (cells := []) kr_ kr_ kr_ rfl kr_ kr_ fun rb => ⟨_, rfl, ?_⟩))))
 refine m_ rfl rfl ?_
 refine WL.h rfl (Hd.append (e := 3) (sz := 1) (bytes := 8) (zs := [.int .i64 0]) (n := 0) (xs := []) (C := [row rb [] 3]) (D := H) (m := rs.length) (news := ic rs) kr_ kr_ rfl (by omega) rfl rfl (.inr ⟨rb, 0, [], rfl, Nat.le_refl _, by simp only [maxLen]; omega, rfl, rfl, rfl⟩) (hv.mono fun y hy => by simp [hy]) (by rw [ic_length]; omega) (ic_one _) (by simp only [maxLen]; omega) (by omega) (List.Perm.refl _) fun v2 C2 h2 _ => ⟨_, rfl, ?_⟩)
 exact a_ rfl rfl (nt_ (WC.ret (DN.ret1 Tryz.results104 rfl (⟨C2, by simpa using h2, rfl⟩))))
theorem new_tells (v : Value) (rs : List Int) (H : List Ck) (hv : Rs v rs.length (ic rs) H) (hl : rs.length ≤ 9223372036854775807) : Tells Tryz.prog 65 [v] H fun r H' => if (rs.findIdx? badRoom).isSome = false ∧ rs.length ≤ 60 then ∃ p C, r = .tuple #[.pointer (some ⟨p, 0, none⟩), .int .i64 0] ∧ DockAt 203 3 p rs [] C ∧ H' = C ++ H else r = .tuple #[.pointer none, .int .i64 2] ∧ H' = H := by
 refine Tells.enter Tryz.func65 rfl Tryz.ntmps65 rfl ?_
 intro w0 R
 obtain ⟨vo, vc, rfl, hvc⟩ := hv.form
 refine sr_ (a_ rfl rfl (a_ rfl rfl (ntsr_ (m_ rfl rfl (WL.r rfl (Ent.func Tryz.call102 rfl) (contains_reads _ rs _ hv hl) (a_ rfl rfl (nt_ (WC.seq (sr_ (m_ rfl rfl (m_ rfl rfl (WL.part (t := 8) rfl (fun hg8 => ?_) (fun hg8 => ?_)))))))))))))
 iterate 3 refine gn_ 8 rfl rfl rfl rfl ?_
 refine WL.y rfl (Yd.pickT rfl rfl) (nt_ (WC.yes rfl (sr_ (a_ rfl rfl (a_ rfl rfl (nt_ (WC.ret (DN.then_ret (DN.ret2 Tryz.results65 rfl rfl ?_)))))))))
 rw [if_neg (by rw [hg8]; simp)]
 exact ⟨rfl, rfl⟩
 refine gy_ 8 rfl rfl rfl (Yd.move rfl) (gy_ 8 rfl rfl rfl (Yd.len (e := 3) kr_ rfl) ?_)
 refine gy_ 8 rfl rfl rfl (Yd.gtr rfl rfl) (WL.y rfl (Yd.pickF rfl rfl) (nt_ (WC.ite rfl (fun h12 => ?_) (fun h12 => ?_))))
 refine sr_ (a_ rfl rfl (a_ rfl rfl (nt_ (WC.ret (DN.then_ret (DN.ret2 Tryz.results65 rfl rfl ?_))))))
 rw [if_neg (by omega)]
 exact ⟨rfl, rfl⟩
 refine WC.skip (ts_ (WC.region (m_ rfl rfl (WL.ca rfl (Ent.func Tryz.call104 rfl) (clone_tells _ rs _ hv (by omega)) ?_))))
 rintro x H1 ⟨Cr, hr, rfl⟩
 obtain ⟨xo, xc, rfl, hxc⟩ := hr.form
 refine WL.h rfl (Hd.makeMap (kd := .u32) fun bm Cm hCm => ⟨_, rfl, ?_⟩)
 refine WL.y rfl (Yd.build (pl := [(0, 1), (1, 1)]) (zs := [.slice none 0 0, .map none]) (parts := [(0, .tmp 14), (1, .tmp 15)]) (vs := [(0, .slice xo rs.length xc), (1, .map (some bm))]) (cells := [.slice xo rs.length xc, .map (some bm)]) kr_ kr_ rfl rfl) ?_
 refine WL.h rfl (Hd.box rfl fun p => ⟨_, rfl, ?_⟩)
 refine a_ rfl rfl (a_ rfl rfl (nt_ (WC.ret ?_)))
 refine DN.blocks ((row p [.slice xo rs.length xc, .map (some bm)] 203 :: (Cr ++ Cm)) ++ H) (show (row p [.slice xo rs.length xc, .map (some bm)] 203 :: (Cm ++ (Cr ++ H))).Perm ((row p [.slice xo rs.length xc, .map (some bm)] 203 :: (Cr ++ Cm)) ++ H) from (by classical exact List.perm_iff_count.2 fun q => by simp only [List.count_append, List.count_cons, List.count_nil]; omega)) ?_
 refine DN.ret2 Tryz.results65 rfl rfl ?_
 rw [if_pos ⟨hg8, by omega⟩]
 exact ⟨p, _, rfl, ⟨_, Cr, bm, Cm, rfl, hr, hCm, by simp⟩, rfl⟩
theorem room_reads (p : Nat) (rs : List Int) (L : List Bk) (C : List Ck) (h : DockAt 203 3 p rs L C) (day : Int) : Reads Tryz.prog 62 [.pointer (some ⟨p, 0, none⟩), .int .i64 day] C (.int .i64 (roomOf rs day)) := by
 refine Tells.enter Tryz.func62 rfl Tryz.ntmps62 rfl ?_
 intro w0 R
 obtain ⟨vr, Cr, bm, Cm, rfl, hvr, hm, hnd⟩ := h
 obtain ⟨xo, xc, rfl, hxc⟩ := hvr.form
 refine sr_ (a_ rfl rfl (nt_ (WC.seq (sr_ (m_ rfl rfl (WL.y rfl (Yd.eqlNil Tryz.underlying112 rfl rfl) (WL.renamed (t := 6) (v := .bool false) rfl (congrArg Value.bool (rfl)) (m_ rfl rfl (gy_ 7 rfl rfl rfl (Yd.move rfl) (gy_ 7 rfl rfl rfl (Yd.lss rfl rfl) (WL.y rfl (Yd.pickF rfl rfl) (m_ rfl rfl (WL.partP (t := 11) rfl (fun hg11 => ?_) (fun hg11 => ?_))))))))))))))
 iterate 7 refine gn_ 11 rfl rfl rfl rfl ?_
 exact WL.y rfl (Yd.pickT rfl rfl) (nt_ (WC.yes rfl (sr_ (a_ rfl rfl (nt_ (WC.ret (DN.then_ret (DN.ret1 Tryz.results62 rfl (⟨by rw [roomOf, if_neg (by omega)], rfl⟩)))))))))
 refine gy_ 11 rfl rfl rfl (Yd.move rfl) (gy_ 11 rfl rfl rfl (Yd.move rfl) (gy_ 11 rfl rfl rfl (Yd.notNil rfl) (gy_ 11 rfl rfl rfl (Yd.fieldAddr (k := 0) kr_ rfl) ?_)))
 refine WL.gh (dj := 11) rfl rfl rfl (Hd.load1 (v := .slice xo rs.length xc) (b := p) (cs := [.slice xo rs.length xc, .map (some bm)]) kr_ rfl List.mem_cons_self rfl ⟨_, rfl, ?_⟩)
 refine gy_ 11 rfl rfl rfl (Yd.len (e := 3) kr_ rfl) ?_
 refine gy_ 11 rfl rfl rfl (Yd.geq rfl rfl) (WL.y rfl (Yd.pickF rfl rfl) (nt_ (WC.ite rfl (fun h19 => ?_) (fun h19 => ?_))))
 exact sr_ (a_ rfl rfl (nt_ (WC.ret (DN.then_ret (DN.ret1 Tryz.results62 rfl (⟨by rw [roomOf, if_neg (by omega)], rfl⟩))))))
 obtain ⟨k, rfl⟩ : ∃ k : Nat, day = k := ⟨day.toNat, by omega⟩
 have hk : k < rs.length := by omega
 refine WC.skip (ts_ (WC.region (m_ rfl rfl (n_ rfl rfl (f_ 0 kr_ rfl rfl ?_)))))
 refine WL.h rfl (Hd.load1 (v := .slice xo rs.length xc) (b := p) (cs := [.slice xo rs.length xc, .map (some bm)]) kr_ rfl List.mem_cons_self rfl ⟨_, rfl, ?_⟩)
 refine m_ rfl rfl (WL.elem (e := 3) kr_ kr_ kr_ rfl rfl (rfl) (hvr.rs.mono fun y hy => by simp [hy]) (ic_getD hk) (hk) rfl rfl ?_)
 intro _
 refine a_ rfl rfl (nt_ (WC.ret (DN.ret1 Tryz.results62 rfl ?_)))
 exact ⟨by rw [roomOf, if_pos (by omega)]; rfl, rfl⟩
theorem book_tells (p : Nat) (rs : List Int) (L : List Bk) (C : List Ck) (h : DockAt 203 3 p rs L C) (hok : RoomsOk rs) (hl : rs.length ≤ 1000000) (o : BitVec 32) (from_ n : Int) : Tells Tryz.prog 91 [.pointer (some ⟨p, 0, none⟩), .int .u32 o.toNat, .int .i64 from_, .int .i64 n] C fun r H' => match bookOf rs L o from_ n with | none => r = .tuple #[.int .i64 0, .int .i64 2] ∧ H' = C | some d => r = .tuple #[.int .i64 d, .int .i64 1] ∧ DockAt 203 3 p (rs.set d (rs.getD d 0 - n)) (L ++ [⟨o, d, n⟩]) H' := by
 refine Tells.enter Tryz.func91 rfl Tryz.ntmps91 rfl ?_
 intro w0 R
 obtain ⟨vr, Cr, bm, Cm, rfl, hvr, hm, hnd⟩ := h
 obtain ⟨xo, xc, rfl, hxc⟩ := hvr.form
 refine sr_ (a_ rfl rfl (a_ rfl rfl (nt_ (WC.seq (sr_ (m_ rfl rfl (WL.y rfl (Yd.eqlNil Tryz.underlying112 rfl rfl) (WL.renamed (t := 15) (v := .bool false) rfl (congrArg Value.bool (rfl)) (m_ rfl rfl (gy_ 16 rfl rfl rfl (Yd.move rfl) (gy_ 16 rfl rfl rfl (Yd.eql32 _ (0#32) rfl rfl rfl rfl) (WL.y rfl (Yd.pickF rfl rfl) (m_ rfl rfl ?_)))))))))))))
 refine WL.partP (t := 20) rfl (fun hg20 => ?_) (fun hg20 => ?_)
 refine gn_ 20 rfl rfl rfl rfl (gn_ 20 rfl rfl rfl rfl (WL.y rfl (Yd.pickT rfl rfl) (m_ rfl rfl (gn_ 24 rfl rfl rfl rfl (gn_ 24 rfl rfl rfl rfl (WL.y rfl (Yd.pickT rfl rfl) (nt_ (WC.yes rfl (sr_ (a_ rfl rfl (a_ rfl rfl (nt_ (WC.ret ?_)))))))))))))
 refine DN.then_ret (DN.ret2 Tryz.results91 rfl rfl ?_)
 have hb : bookOf rs L o from_ n = none := by rw [bookOf, if_pos (.inl hg20)]
 rw [hb]
 exact ⟨rfl, rfl⟩
 refine gy_ 20 rfl rfl rfl (Yd.move rfl) (gy_ 20 rfl rfl rfl (Yd.lss rfl rfl) (WL.y rfl (Yd.pickF rfl rfl) (m_ rfl rfl (WL.partP (t := 24) rfl (fun hg24 => ?_) (fun hg24 => ?_)))))
 refine gn_ 24 rfl rfl rfl rfl (gn_ 24 rfl rfl rfl rfl (WL.y rfl (Yd.pickT rfl rfl) (nt_ (WC.yes rfl (sr_ (a_ rfl rfl (a_ rfl rfl (nt_ (WC.ret (DN.then_ret (DN.ret2 Tryz.results91 rfl rfl ?_)))))))))))
 have hb : bookOf rs L o from_ n = none := by rw [bookOf, if_pos (.inr (.inl hg24))]
 rw [hb]
 exact ⟨rfl, rfl⟩
 refine gy_ 24 rfl rfl rfl (Yd.move rfl) (gy_ 24 rfl rfl rfl (Yd.lss rfl rfl) (WL.y rfl (Yd.pickF rfl rfl) (nt_ (WC.ite rfl (fun h27 => ?_) (fun h27 => ?_)))))
 refine sr_ (a_ rfl rfl (a_ rfl rfl (nt_ (WC.ret (DN.then_ret (DN.ret2 Tryz.results91 rfl rfl ?_))))))
 have hb : bookOf rs L o from_ n = none := by rw [bookOf, if_pos (.inr (.inr (.inl h27)))]
 rw [hb]
 exact ⟨rfl, rfl⟩
 refine WC.skip (ts_ (sr_ (m_ rfl rfl (n_ rfl rfl (f_ 1 kr_ rfl rfl ?_)))))
 refine WL.h rfl (Hd.load1 (v := .map (some bm)) (b := p) (cs := [.slice xo rs.length xc, .map (some bm)]) kr_ rfl (by first | exact List.mem_cons_self | exact List.mem_cons_of_mem _ List.mem_cons_self) rfl ⟨_, rfl, ?_⟩)
 refine m_ rfl rfl ?_
 refine WL.h rfl (Hd.lookup2 (KT := 49) (ET := 157) (kt := .u32) (z := .agg #[.int .u32 0, .int .i64 0, .int .i64 0]) (C := Cm) (D := row p [.slice xo rs.length xc, .map (some bm)] 203 :: Cr) kr_ kr_ kr_ rfl rfl hm (by classical exact List.perm_iff_count.2 fun q => by simp only [List.count_append, List.count_cons, List.count_nil]; omega) ⟨_, rfl, ?_⟩)
 refine m_ rfl rfl ?_
 rw [getD_val, isSome_val]
 obtain ⟨e10, he10⟩ : ∃ e, e = (findB L o).getD ⟨0#32, 0, 0⟩ := ⟨_, rfl⟩
 rw [← he10]
 refine x_ rfl rfl rfl (x_ rfl rfl rfl (WL.h rfl (Hd.alloc (zs := [.int .u32 0, .int .i64 0, .int .i64 0]) kr_ fun b10 => ⟨_, rfl, ?_⟩)))
 refine WL.s (Hd.storeN (n := 3) (b := b10) (cs := [.int .u32 0, .int .i64 0, .int .i64 0]) (T' := 157) (v := e10.val) (D := row p [.slice xo rs.length xc, .map (some bm)] 203 :: (Cr ++ Cm)) kr_ rfl rfl rfl (by simp [Bk.val, Value.cells, Value.oneCell']) (List.Perm.refl _) (by simp) ⟨rfl, ?_⟩)
 refine a_ rfl rfl (ntsr_ (m_ rfl rfl (nt_ (WC.cond rfl (fun h37 => ?_) (fun h37 => ?_)))))
 refine sr_ (a_ rfl rfl (a_ rfl rfl (nt_ (WC.ret (DN.then_ret (DN.forget (row p [.slice xo rs.length xc, .map (some bm)] 203 :: (Cr ++ Cm)) (List.sublist_cons_self _ _) (DN.ret2 Tryz.results91 rfl rfl ?_)))))))
 have hb : bookOf rs L o from_ n = none := by rw [bookOf, if_pos (.inr (.inr (.inr h37)))]
 rw [hb]
 exact ⟨rfl, rfl⟩
 have hnone : findB L o = none := by simpa using h37
 have hfresh : getM (bks L) (o.toNat : Int) = none := by rw [getM_bks, hnone]; rfl
 refine WC.skip (ts_ (sr_ (m_ rfl rfl (n_ rfl rfl (f_ 0 kr_ rfl rfl ?_)))))
 refine WL.h rfl (Hd.load1 (v := .slice xo rs.length xc) (b := p) (cs := [.slice xo rs.length xc, .map (some bm)]) kr_ rfl (by first | exact List.mem_cons_self | exact List.mem_cons_of_mem _ List.mem_cons_self) rfl ⟨_, rfl, ?_⟩)
 refine WL.y rfl (Yd.len (e := 3) kr_ rfl) ?_
 refine m_ rfl rfl (nt_ (WC.block (WC.loop (fun i : Nat => i ≤ rs.length ∧ ∀ j, j < i → ¬ (from_ ≤ (j : Int) ∧ n ≤ rs.getD j 0)) (fun i => [(0, .pointer (some ⟨p, 0, none⟩)), (1, .int .u32 o.toNat), (2, .int .i64 from_), (3, .int .i64 n), (41, .slice xo rs.length xc), (42, .int .i64 rs.length), (43, .int .i64 i)]) (fun _ => row b10 (splice [.int .u32 0, .int .i64 0, .int .i64 0] 0 e10.val.cells.toList) 157 :: row p [.slice xo rs.length xc, .map (some bm)] 203 :: (Cr ++ Cm)) (fun i => rs.length - i) 0 ⟨Nat.zero_le _, fun j h => by omega⟩ ⟨rfl, rfl, rfl, rfl, rfl, rfl, rfl, trivial⟩ (List.Perm.refl _) ?_)))
 rintro i ⟨hi, hno⟩
 refine sr_ (WL.y rfl (Yd.lss rfl rfl) (nt_ (WC.seq (WC.ite rfl (fun h44 => ?_) (fun h44 => ?_)))))
 have hlt : i < rs.length := by omega
 have hri := hok i
 refine WC.skip (ts_ (WC.block (sr_ (m_ rfl rfl (WL.elem (e := 3) kr_ kr_ kr_ rfl rfl (rfl) (hvr.rs.mono fun y hy => by simp [hy]) (ic_getD hlt) (hlt) rfl rfl ?_)))))
 intro _
 refine a_ rfl rfl (a_ rfl rfl (ntsr_ (m_ rfl rfl (m_ rfl rfl (WL.y rfl (Yd.geq rfl rfl) (m_ rfl rfl (WL.partP (t := 51) rfl (fun hg51 => ?_) (fun hg51 => ?_))))))))
 refine gy_ 51 rfl rfl rfl (Yd.move rfl) (gy_ 51 rfl rfl rfl (Yd.move rfl) (gy_ 51 rfl rfl rfl (Yd.geq rfl rfl) (WL.y rfl (Yd.pickT rfl rfl) (nt_ (WC.ite rfl (fun h55 => ?_) (fun h55 => ?_))))))
 rcases hvr with ⟨_, h0, _⟩ | ⟨br, cap, extra, he, hc1, hc2, hx1, hx2, hCr⟩
 · omega
 simp only [Value.slice.injEq] at he
 obtain ⟨rfl, _, rfl⟩ := he
 subst hCr
 obtain ⟨Q, hQ⟩ : ∃ Q, Q = [row b10 (splice [.int .u32 0, .int .i64 0, .int .i64 0] 0 e10.val.cells.toList) 157, row p [.slice (some ⟨br, 0, none⟩) rs.length xc, .map (some bm)] 203] := ⟨_, rfl⟩
 have hday : dayOf rs from_ n = some i := dayOf_yes rs from_ n i hlt (by omega) (by omega) hno
 refine sr_ (m_ rfl rfl (n_ rfl rfl (f_ 0 kr_ rfl rfl ?_)))
 refine WL.h rfl (Hd.load1 (v := .slice (some ⟨br, 0, none⟩) rs.length xc) (b := p) (cs := [.slice (some ⟨br, 0, none⟩) rs.length xc, .map (some bm)]) kr_ rfl (by first | exact List.mem_cons_self | exact List.mem_cons_of_mem _ List.mem_cons_self) rfl ⟨_, rfl, ?_⟩)
 refine m_ rfl rfl ?_
 refine WL.elem (e := 3) kr_ kr_ kr_ rfl rfl (rfl) (((show Own (.slice (some ⟨br, 0, none⟩) rs.length xc) rs.length (ic rs) 3 1 [row br (ic rs ++ extra) 3] from .inr ⟨br, xc, extra, rfl, hc1, hc2, hx1, hx2, rfl⟩).rs.mono fun y hy => by rw [List.mem_singleton.1 hy]; simp)) (ic_getD hlt) (hlt) rfl rfl ?_
 intro _
 refine m_ rfl rfl (WL.y rfl (Yd.sub rfl rfl (by omega) (by omega)) ?_)
 refine WL.y rfl (Yd.indexAddr (e := 3) (s := 1) kr_ kr_ rfl rfl (by omega) (by omega)) ?_
 refine WL.s (Hd.store1 (b := br) (cs := ic rs ++ extra) (T' := 3) (D := Q ++ Cm) kr_ rfl rfl rfl (by rw [hQ]; exact (by classical exact List.perm_iff_count.2 fun q => by simp only [List.count_append, List.count_cons, List.count_nil]; omega)) (by simp [ic_length]; omega) ⟨rfl, ?_⟩)
 refine ntsr_ (m_ rfl rfl (n_ rfl rfl (f_ 1 kr_ rfl rfl ?_)))
 refine WL.h rfl (Hd.load1 (v := .map (some bm)) (b := p) (cs := [.slice (some ⟨br, 0, none⟩) rs.length xc, .map (some bm)]) kr_ rfl (List.mem_cons_of_mem _ (List.mem_append_left _ (by rw [hQ]; exact List.mem_cons_of_mem _ List.mem_cons_self))) rfl ⟨_, rfl, ?_⟩)
 iterate 4 refine m_ rfl rfl ?_
 refine WL.y rfl (Yd.build (pl := [(0, 1), (1, 1), (2, 1)]) (zs := [.int .u32 0, .int .i64 0, .int .i64 0]) (parts := [(0, .tmp 71), (1, .tmp 72), (2, .tmp 73)]) (vs := [(0, .int .u32 o.toNat), (1, .int .i64 i), (2, .int .i64 n)]) (cells := [.int .u32 o.toNat, .int .i64 i, .int .i64 n]) kr_ kr_ rfl rfl) ?_
 refine WL.s (Hd.mapNew (KT := 49) (ET := 157) (kt := .u32) (C := Cm) (D := row br ((ic rs ++ extra).set (0 + (i : Int).toNat * 1) (.int .i64 (rs.getD i 0 - n))) 3 :: Q) kr_ kr_ rfl rfl rfl hm hfresh (by classical exact List.perm_iff_count.2 fun q => by simp only [List.count_append, List.count_cons, List.count_nil]; omega) fun Cm2 hm2 => ⟨rfl, ?_⟩)
 refine ntsr_ (m_ rfl rfl (a_ rfl rfl (a_ rfl rfl (nt_ (WC.ret (DN.block_ret (DN.then_ret (DN.then_ret (DN.block_ret (DN.then_ret ?_))))))))))
 refine DN.blocks (row b10 (splice [.int .u32 0, .int .i64 0, .int .i64 0] 0 e10.val.cells.toList) 157 :: (row p [.slice (some ⟨br, 0, none⟩) rs.length xc, .map (some bm)] 203 :: ([row br (ic (rs.set i (rs.getD i 0 - n)) ++ extra) 3] ++ Cm2))) (by rw [hQ, show 0 + (i : Int).toNat * 1 = i by omega, set_front _ _ _ _ (by rw [ic_length]; omega), ic_set]; exact (by classical exact List.perm_iff_count.2 fun q => by simp only [List.count_append, List.count_cons, List.count_nil]; omega)) ?_
 refine DN.forget _ (List.sublist_cons_self _ _) (DN.ret2 Tryz.results91 rfl rfl ?_)
 have hb : bookOf rs L o from_ n = some i := by rw [bookOf, if_neg (by rintro (h | h | h | h); exact hg20 h; omega; omega; rw [hnone] at h; cases h)]; exact hday
 rw [hb]
 refine ⟨rfl, _, [row br (ic (rs.set i (rs.getD i 0 - n)) ++ extra) 3], bm, Cm2, rfl, .inr ⟨br, xc, extra, by simp, by simpa using hc1, hc2, by simp [ic_length], by simpa using hx2, rfl⟩, ?_, nodup_snoc hnd hnone⟩
 rw [← bks_snoc]
 exact hm2
 refine WC.skip (DN.block_normal (DN.then_normal (WC.region (WL.y rfl (Yd.add rfl rfl (by omega) (by omega)) ?_))))
 refine m_ rfl rfl (WL.nil ?_)
 exact DN.again (i + 1) ⟨by omega, fun j hj => by by_cases e : j = i; (subst e; omega); exact hno j (by omega)⟩ (by omega) ⟨rfl, rfl, rfl, rfl, rfl, rfl, rfl, trivial⟩ (List.Perm.refl _)
 iterate 3 refine gn_ 51 rfl rfl rfl rfl ?_
 refine WL.y rfl (Yd.pickF rfl rfl) (nt_ (WC.no rfl (WC.skip (DN.block_normal (DN.then_normal (WC.region (WL.y rfl (Yd.add rfl rfl (by omega) (by omega)) ?_)))))))
 refine m_ rfl rfl (WL.nil ?_)
 exact DN.again (i + 1) ⟨by omega, fun j hj => by by_cases e : j = i; (subst e; omega); exact hno j (by omega)⟩ (by omega) ⟨rfl, rfl, rfl, rfl, rfl, rfl, rfl, trivial⟩ (List.Perm.refl _)
 refine WC.exit (DN.then_exit (DN.then_exit (DN.block_exit (ts_ (WC.region (a_ rfl rfl (a_ rfl rfl (nt_ (WC.ret (DN.forget (row p [.slice xo rs.length xc, .map (some bm)] 203 :: (Cr ++ Cm)) (List.sublist_cons_self _ _) (DN.ret2 Tryz.results91 rfl rfl ?_)))))))))))
 have hb : bookOf rs L o from_ n = none := by rw [bookOf, if_neg (by rintro (h | h | h | h); exact hg20 h; omega; omega; rw [hnone] at h; cases h)]; exact dayOf_no rs from_ n (fun j hj => hno j (by omega))
 rw [hb]
 exact ⟨rfl, rfl⟩
theorem cancel_tells (p : Nat) (rs : List Int) (L : List Bk) (C : List Ck) (h : DockAt 203 3 p rs L C) (o : BitVec 32) (hb : ∀ b, findB L o = some b → b.day < rs.length ∧ -9223372036854775808 ≤ rs.getD b.day 0 + b.n ∧ rs.getD b.day 0 + b.n ≤ 9223372036854775807) : Tells Tryz.prog 123 [.pointer (some ⟨p, 0, none⟩), .int .u32 o.toNat] C fun r H' => match findB L o with | none => r = .int .i64 2 ∧ H' = C | some b => r = .int .i64 1 ∧ DockAt 203 3 p (rs.set b.day (rs.getD b.day 0 + b.n)) (delB L o) H' := by
 refine Tells.enter Tryz.func123 rfl Tryz.ntmps123 rfl ?_
 intro w0 R
 obtain ⟨vr, Cr, bm, Cm, rfl, hvr, hm, hnd⟩ := h
 obtain ⟨xo, xc, rfl, hxc⟩ := hvr.form
 refine sr_ (a_ rfl rfl (nt_ (WC.seq (sr_ (m_ rfl rfl (WL.y rfl (Yd.eqlNil Tryz.underlying112 rfl rfl) (WL.renamed (t := 8) (v := .bool false) rfl (congrArg Value.bool (rfl)) (nt_ (WC.no rfl (WC.skip (ts_ (WC.region (m_ rfl rfl ?_)))))))))))))
 refine n_ rfl rfl (f_ 1 kr_ rfl rfl ?_)
 refine WL.h rfl (Hd.load1 (v := .map (some bm)) (b := p) (cs := [.slice xo rs.length xc, .map (some bm)]) kr_ rfl (by first | exact List.mem_cons_self | exact List.mem_cons_of_mem _ List.mem_cons_self) rfl ⟨_, rfl, ?_⟩)
 refine m_ rfl rfl ?_
 refine WL.h rfl (Hd.lookup2 (KT := 49) (ET := 157) (kt := .u32) (z := .agg #[.int .u32 0, .int .i64 0, .int .i64 0]) (C := Cm) (D := row p [.slice xo rs.length xc, .map (some bm)] 203 :: Cr) kr_ kr_ kr_ rfl rfl hm (by classical exact List.perm_iff_count.2 fun q => by simp only [List.count_append, List.count_cons, List.count_nil]; omega) ⟨_, rfl, ?_⟩)
 refine m_ rfl rfl ?_
 rw [getD_val, isSome_val]
 obtain ⟨e10, he10⟩ : ∃ e, e = (findB L o).getD ⟨0#32, 0, 0⟩ := ⟨_, rfl⟩
 rw [← he10]
 refine x_ rfl rfl rfl (x_ rfl rfl rfl (WL.h rfl (Hd.alloc (zs := [.int .u32 0, .int .i64 0, .int .i64 0]) kr_ fun b5 => ⟨_, rfl, ?_⟩)))
 refine WL.s (Hd.storeN (n := 3) (b := b5) (cs := [.int .u32 0, .int .i64 0, .int .i64 0]) (T' := 157) (v := e10.val) (D := row p [.slice xo rs.length xc, .map (some bm)] 203 :: (Cr ++ Cm)) kr_ rfl rfl rfl (by simp [Bk.val, Value.cells, Value.oneCell']) (List.Perm.refl _) (by simp) ⟨rfl, ?_⟩)
 refine a_ rfl rfl (nt_ (WC.seq (sr_ (m_ rfl rfl (WL.y rfl (Yd.notB rfl) (nt_ (WC.cond rfl (fun h19 => ?_) (fun h19 => ?_))))))))
 have hnone : findB L o = none := by simpa using h19
 refine sr_ (a_ rfl rfl (nt_ (WC.ret (DN.then_ret (DN.forget (row p [.slice xo rs.length xc, .map (some bm)] 203 :: (Cr ++ Cm)) (List.sublist_cons_self _ _) (DN.ret1 Tryz.results123 rfl ?_))))))
 rw [hnone]
 exact ⟨rfl, rfl⟩
 obtain ⟨bk, hbk⟩ : ∃ bk, findB L o = some bk := by
   cases h : findB L o with
   | none => rw [h] at h19; simp at h19
   | some b => exact ⟨b, rfl⟩
 have e10b : e10 = bk := by rw [he10, hbk]; rfl
 subst e10b
 have hb3 := hb e10 hbk
 obtain ⟨bk, hbk9⟩ : ∃ bk, bk = e10 := ⟨_, rfl⟩
 rw [← hbk9] at hb3 hbk ⊢
 refine WC.skip (ts_ (WC.region (m_ rfl rfl (n_ rfl rfl (f_ 1 kr_ rfl rfl ?_)))))
 refine WL.h rfl (Hd.load1 (v := .map (some bm)) (b := p) (cs := [.slice xo rs.length xc, .map (some bm)]) kr_ rfl (by first | exact List.mem_cons_self | exact List.mem_cons_of_mem _ List.mem_cons_self) rfl ⟨_, rfl, ?_⟩)
 refine m_ rfl rfl ?_
 refine WL.h0 (Hd.delete (KT := 49) (ET := 157) (kt := .u32) (C := Cm) (D := row b5 (splice [.int .u32 0, .int .i64 0, .int .i64 0] 0 bk.val.cells.toList) 157 :: row p [.slice xo rs.length xc, .map (some bm)] 203 :: Cr) kr_ kr_ rfl rfl rfl hm (keys_nodup hnd) (by classical exact List.perm_iff_count.2 fun q => by simp only [List.count_append, List.count_cons, List.count_nil]; omega) fun Cm2 hm2 => ⟨_, rfl, ?_⟩)
 refine nt_ (WC.seq ?_)
 rw [delM_bks] at hm2
 rcases hvr with ⟨_, h0, _⟩ | ⟨br, cap, extra, he, hc1, hc2, hx1, hx2, hCr⟩
 · omega
 simp only [Value.slice.injEq] at he
 obtain ⟨rfl, _, rfl⟩ := he
 subst hCr
 obtain ⟨Q, hQ⟩ : ∃ Q, Q = Cm2 ++ (row b5 (splice [.int .u32 0, .int .i64 0, .int .i64 0] 0 bk.val.cells.toList) 157 :: row p [.slice (some ⟨br, 0, none⟩) rs.length xc, .map (some bm)] 203 :: [row br (ic rs ++ extra) 3]) := ⟨_, rfl⟩
 have hmem5 : row b5 (splice [.int .u32 0, .int .i64 0, .int .i64 0] 0 bk.val.cells.toList) 157 ∈ Cm2 ++ (row b5 (splice [.int .u32 0, .int .i64 0, .int .i64 0] 0 bk.val.cells.toList) 157 :: row p [.slice (some ⟨br, 0, none⟩) rs.length xc, .map (some bm)] 203 :: [row br (ic rs ++ extra) 3]) := by simp
 have hmemp : row p [.slice (some ⟨br, 0, none⟩) rs.length xc, .map (some bm)] 203 ∈ Cm2 ++ (row b5 (splice [.int .u32 0, .int .i64 0, .int .i64 0] 0 bk.val.cells.toList) 157 :: row p [.slice (some ⟨br, 0, none⟩) rs.length xc, .map (some bm)] 203 :: [row br (ic rs ++ extra) 3]) := by simp
 have hmemr : row br (ic rs ++ extra) 3 ∈ Cm2 ++ (row b5 (splice [.int .u32 0, .int .i64 0, .int .i64 0] 0 bk.val.cells.toList) 157 :: row p [.slice (some ⟨br, 0, none⟩) rs.length xc, .map (some bm)] 203 :: [row br (ic rs ++ extra) 3]) := by simp
 rw [← hQ]
 refine WC.draw 13 kr_ rfl ?_
 refine WAG.start (N := 13) rfl (wy_ 0 [] rfl (Yd.move rfl) kr_ ?_)
 refine wy_ 1 [0] rfl (Yd.notNil rfl) kr_ ?_
 refine wy_ 2 [1] rfl (Yd.fieldAddr (k := 0) kr_ rfl) kr_ ?_
 refine wq_ (wf_ (i := 3) [2] rfl (QAt.rd Wt.none (Rd.load1 (v := .slice (some ⟨br, 0, none⟩) rs.length xc) (b := p) (cs := [.slice (some ⟨br, 0, none⟩) rs.length xc, .map (some bm)]) kr_ rfl (by rw [hQ]; exact hmemp) rfl)) kr_) kr_ ?_
 refine wy_ 4 [] rfl (Yd.fieldAddr (k := 1) kr_ rfl) kr_ ?_
 refine wq_ (wf_ (i := 5) [4] rfl (QAt.rd Wt.none (Rd.load1 (v := .int .i64 bk.day) (b := b5) (cs := splice [.int .u32 0, .int .i64 0, .int .i64 0] 0 bk.val.cells.toList) kr_ rfl (by rw [hQ]; exact hmem5) rfl)) kr_) kr_ ?_
 refine wy_ 6 [5, 3] rfl (Yd.indexAddr (e := 3) (s := 1) kr_ kr_ rfl rfl (by omega) (by omega)) kr_ ?_
 refine wq_ (wf_ (i := 7) [6] rfl (QAt.rd Wt.none (Rd.load1 (v := .int .i64 (rs.getD bk.day 0)) (b := br) (cs := ic rs ++ extra) kr_ rfl (by rw [hQ]; exact hmemr) (by rw [show 0 + (bk.day : Int).toNat * 1 = bk.day by omega, List.getElem?_append_left (by rw [ic_length]; exact hb3.1)]; exact ic_getD hb3.1))) kr_) kr_ ?_
 refine wy_ 8 [] rfl (Yd.fieldAddr (k := 2) kr_ rfl) kr_ ?_
 refine wq_ (wf_ (i := 9) [8] rfl (QAt.rd Wt.none (Rd.load1 (v := .int .i64 bk.n) (b := b5) (cs := splice [.int .u32 0, .int .i64 0, .int .i64 0] 0 bk.val.cells.toList) kr_ rfl (by rw [hQ]; exact hmem5) rfl)) kr_) kr_ ?_
 refine wy_ 10 [9, 7] rfl (Yd.add rfl rfl (by omega) (by omega)) kr_ ?_
 refine wy_ 11 [10, 9, 8, 7, 6, 5, 4, 3, 2, 1, 0] rfl (Yd.indexAddr (e := 3) (s := 1) kr_ kr_ rfl rfl (by omega) (by omega)) kr_ ?_
 refine ws_ [(12, [11, 10, 9, 8, 7, 6, 5, 4, 3, 2, 1, 0])] kr_ (all_c ?_ (all_n))
 refine so_ (j := 12) [_, _, _, _, _, _, _, _, _, _, _, _] rfl ?_
 refine SO.s rfl Wt.none (Hd.store1 (b := br) (cs := ic rs ++ extra) (T' := 3) (D := Cm2 ++ [row b5 (splice [.int .u32 0, .int .i64 0, .int .i64 0] 0 bk.val.cells.toList) 157, row p [.slice (some ⟨br, 0, none⟩) rs.length xc, .map (some bm)] 203]) kr_ rfl rfl rfl (by rw [hQ]; exact (by classical exact List.perm_iff_count.2 fun q => by simp only [List.count_append, List.count_cons, List.count_nil]; omega)) (by simp [ic_length]; omega) ⟨rfl, ?_⟩)
 refine wk_ [] (([_, _, _, _, _, _, _, _, _, _, _, _] ++ _)) rfl rfl all_n (wd_ [] rfl kr_ ?_)
 refine ts_ (WC.region (a_ rfl rfl (nt_ (WC.ret ?_))))
 refine DN.blocks (row b5 (splice [.int .u32 0, .int .i64 0, .int .i64 0] 0 bk.val.cells.toList) 157 :: (row p [.slice (some ⟨br, 0, none⟩) rs.length xc, .map (some bm)] 203 :: ([row br (ic (rs.set bk.day (rs.getD bk.day 0 + bk.n)) ++ extra) 3] ++ Cm2))) (by rw [show 0 + (bk.day : Int).toNat * 1 = bk.day by omega, set_front _ _ _ _ (by rw [ic_length]; omega), ic_set]; exact (by classical exact List.perm_iff_count.2 fun q => by simp only [List.count_append, List.count_cons, List.count_nil]; omega)) ?_
 refine DN.forget _ (List.sublist_cons_self _ _) (DN.ret1 Tryz.results123 rfl ?_)
 rw [hbk]
 exact ⟨rfl, _, [row br (ic (rs.set bk.day (rs.getD bk.day 0 + bk.n)) ++ extra) 3], bm, Cm2, rfl, .inr ⟨br, xc, extra, by simp, by simpa using hc1, hc2, by simp [ic_length], by simpa using hx2, rfl⟩, hm2, delB_nodup o hnd⟩
end Go.Proofs.YtkamlondepceiaaGreat.Do

set_option linter.unusedVariables false
set_option linter.unusedSimpArgs false
set_option maxHeartbeats 4000000
namespace Go.Proofs.YtkamlondepceiaaGreat
open Go.SL
theorem done_tells (n : Nt) (vk vd : Value) (hk : IsSl vk n.key.length) (hd : IsSl vd n.data.length) (code : Int) (vr : Value) (reply : List (BitVec 8)) (H : List Ck) (hvr : Bs vr reply H) (hl : reply.length ≤ 1000000) : Tells Tryz.prog 57 [.agg (ntc n vk vd).toArray, .int .i64 code, vr] H fun r H' => ∃ w A, r = .agg (ntc (doneN n code reply) (.slice none 0 0) w).toArray ∧ Ob 5 w reply A ∧ H' = A ++ H := by
 refine Tells.enter Tryz.func57 rfl Tryz.ntmps57 rfl ?_
 intro w0 R
 obtain ⟨ko, kc, rfl⟩ := hk
 obtain ⟨do_, dc, rfl⟩ := hd
 obtain ⟨ro, rc, rfl, hrc⟩ := hvr.form
 refine sr_ (WL.h rfl (Hd.boxA rfl fun b3 => ⟨_, rfl, ?_⟩))
 refine WL.h rfl (Hd.alloc (zs := [.int .i64 0, .int .u32 0, .int .u32 0, .int .u64 0, .int .u64 0, .int .u32 0, .int .i64 0, .bool false, .int .i64 0, .slice none 0 0, .slice none 0 0]) kr_ fun b6 => ⟨_, rfl, ?_⟩)
 refine nt_ (WC.seq (WC.draw 14 kr_ rfl ?_))
 refine WAG.start (N := 14) rfl (wy_ 0 [] rfl (Yd.fieldAddr (k := 1) kr_ rfl) kr_ ?_)
 refine wq_ (wf_ (i := 1) [0] rfl (QAt.rd Wt.none (Rd.load1 kr_ rfl mem_ (by rfl))) kr_) kr_ ?_
 refine wy_ 2 [] rfl (Yd.fieldAddr (k := 5) kr_ rfl) kr_ ?_
 refine wq_ (wf_ (i := 3) [2] rfl (QAt.rd Wt.none (Rd.load1 kr_ rfl mem_ (by rfl))) kr_) kr_ ?_
 refine wy_ 4 [] rfl (Yd.fieldAddr (k := 6) kr_ rfl) kr_ ?_
 refine wq_ (wf_ (i := 5) [4] rfl (QAt.rd Wt.none (Rd.load1 kr_ rfl mem_ (by rfl))) kr_) kr_ ?_
 refine wy_ 6 [] rfl (Yd.fieldAddr (k := 7) kr_ rfl) kr_ ?_
 refine wq_ (wf_ (i := 7) [6] rfl (QAt.rd Wt.none (Rd.load1 kr_ rfl mem_ (by rfl))) kr_) kr_ ?_
 refine wy_ 8 [] rfl (Yd.move rfl) kr_ ?_
 refine wy_ 10 [] rfl (Yd.move rfl) kr_ ?_
 refine ws_ [(9, [])] kr_ (all_c ?_ (all_n))
 refine so_ (j := 9) [] rfl (SO.h rfl Wt.none rfl (Hd.buildBytes (e := 5) [] kr_ kr_ kr_ rfl rfl kr_ fun b16 => ⟨_, rfl, ?_⟩))
 refine wk_ [_, _, _, _, _, _, _, _, _, _] (_ :: ([] ++ _)) rfl rfl (all_c (wf_ [6] rfl (QAt.rd Wt.none (Rd.load1 kr_ rfl mem_ (by rfl))) kr_) (all_c (wf_ [4] rfl (QAt.rd Wt.none (Rd.load1 kr_ rfl mem_ (by rfl))) kr_) (all_c (wf_ [2] rfl (QAt.rd Wt.none (Rd.load1 kr_ rfl mem_ (by rfl))) kr_) (all_c (wf_ [0] rfl (QAt.rd Wt.none (Rd.load1 kr_ rfl mem_ (by rfl))) kr_) all_n)))) ?_
 refine ws_ [(11, [10])] kr_ (all_c ?_ (all_n))
 refine so_ (j := 11) [_] rfl ?_
 refine SO.h rfl Wt.none rfl (Hd.appendBs (e := 5) (zs := [.int .u8 0]) kr_ kr_ rfl rfl rfl (Ob.block b16 [] (by simp)) sp_ (hvr.mono gr_) (by simp; omega) fun w A hA => ⟨_, rfl, ?_⟩)
 refine wk_ [_, _, _, _, _, _, _, _, _] (_ :: ([_] ++ _)) rfl rfl (all_c (wf_ [6] rfl (QAt.rd Wt.none (Rd.load1 kr_ rfl mem_ (by rfl))) kr_) (all_c (wf_ [4] rfl (QAt.rd Wt.none (Rd.load1 kr_ rfl mem_ (by rfl))) kr_) (all_c (wf_ [2] rfl (QAt.rd Wt.none (Rd.load1 kr_ rfl mem_ (by rfl))) kr_) (all_c (wf_ [0] rfl (QAt.rd Wt.none (Rd.load1 kr_ rfl mem_ (by rfl))) kr_) all_n)))) ?_
 rw [List.nil_append] at hA
 obtain ⟨wo, wc, rfl, hwc⟩ := hA.form
 refine wy_ 12 [8, 7, 5, 3, 1] rfl (Yd.buildL (pl := [(0, 1), (1, 1), (2, 1), (3, 1), (4, 1), (5, 1), (6, 1), (7, 1), (8, 1), (9, 1), (10, 1)]) (zs := [.int .i64 0, .int .u32 0, .int .u32 0, .int .u64 0, .int .u64 0, .int .u32 0, .int .i64 0, .bool false, .int .i64 0, .slice none 0 0, .slice none 0 0]) (parts := [(0, .const (.int .i64 8)), (1, .tmp 8), (5, .tmp 10), (6, .tmp 12), (7, .tmp 14), (8, .tmp 15), (10, .tmp 18)]) (vs := [(0, _), (1, _), (5, _), (6, _), (7, _), (8, _), (10, _)]) (cells := [_, _, .int .u32 0, .int .u64 0, .int .u64 0, _, _, _, _, .slice none 0 0, _]) kr_ kr_ rfl rfl) kr_ ?_
 refine ws_ [(13, [12, 8, 7, 6, 5, 4, 3, 2, 1, 0])] kr_ (all_c ?_ (all_n))
 refine so_ (j := 13) [_, _, _, _, _, _, _, _, _, _] rfl (SO.s rfl Wt.none (Hd.storeAll (n := 11) kr_ rfl rfl (by rfl) one_ fr_ (by rfl) ⟨rfl, ?_⟩))
 refine wk_ [] (([_, _, _, _, _, _, _, _, _, _] ++ _)) rfl rfl all_n (wd_ [] rfl kr_ ?_)
 refine DN.then_normal (WC.ret (DN.retCS (s := 11) (A ++ H) Tryz.results57 kr_ rfl mem_ (by rfl) sp_ ?_))
 exact ⟨_, A, rfl, hA, rfl⟩
theorem undo_tells (p : Nat) (s : Cw) (C : List Ck) (h : CwAt 189 198 203 3 5 118 111 22 116 p s C) {g0 : List Gd} {u0 : List Au} {r0 : List Int} (hst : SInv g0 s.K s.L) (hpu : PInv u0 s.U s.Y) (hdk : DInv r0 s.rs s.B) (hno : s.no.length ≤ 100000) (o : BitVec 32) (w : Wk) (v : Value) (H : List Ck) (hv : Bs v w.name H) (hwl : w.name.length ≤ 32) : Tells Tryz.prog 86 [.pointer (some ⟨p, 0, none⟩), .int .u32 o.toNat, .agg (wkc w v).toArray] (C ++ H) fun r H' => ∃ C', r = .int .i64 (undoV s o w) ∧ CwAt 189 198 203 3 5 118 111 22 116 p (undoS s o w) C' ∧ H' = C' ++ H := by
 refine Tells.enter Tryz.func86 rfl Tryz.ntmps86 rfl ?_
 intro w0 R
 obtain ⟨pd, ps, pp, vL, vE, vN, CS, CP, CD, CF, CE, cn, CN, DO, rfl, hS, hP, hD, hF, hE, hN, hO⟩ := h
 obtain ⟨lo, lc, rfl⟩ := hF.form
 obtain ⟨eo, ec, rfl, hec⟩ := hE.form
 obtain ⟨no, nc, rfl, hnc⟩ := hN.form
 obtain ⟨wo, wc, rfl, hwc⟩ := hv.form
 refine sr_ (WL.h rfl (Hd.boxA rfl fun b5 => ⟨_, rfl, ?_⟩))
 refine a_ rfl rfl (nt_ (WC.seq (sr_ (f_ 0 kr_ rfl rfl ?_))))
 refine d_ kr_ rfl mem_ (by rfl) rfl ?_
 refine nt_ (WC.block (sr_ (WL.y rfl (Yd.eql rfl rfl) (a_ rfl rfl (nt_ (WC.ite rfl (fun h9 => ?_) (fun h9 => ?_)))))))
 refine sr_ (m_ rfl rfl (n_ rfl rfl (f_ 1 kr_ rfl rfl ?_)))
 refine d_ kr_ rfl mem_ (by rfl) rfl ?_
 refine m_ rfl rfl (WL.c rfl (Ent.func Tryz.call120 rfl) (St.free_tells ps g0 s.K s.L CS hS hst o) (Sp.p sp_) ?_)
 rintro x H9 ⟨rfl, h9⟩
 refine a_ rfl rfl (nt_ (WC.ret (DN.block_ret (DN.then_ret (DN.fit (C := (row p [.pointer (some ⟨pd, 0, none⟩), .pointer (some ⟨ps, 0, none⟩), .pointer (some ⟨pp, 0, none⟩), .int .u32 s.e.toNat, .slice lo s.ks.length lc, .slice eo s.ef.length ec, .slice no s.no.length nc] 116 :: (H9 ++ (CP ++ (CD ++ (CF ++ (CE ++ (CN ++ DO))))))) ++ H) sp_ ?_)))))
 refine DN.ret1 Tryz.results86 rfl ?_
 rw [show undoV s o w = vd (findK Ho.o s.L o).isSome from if_pos (by omega), show undoS s o w = { s with K := leaveKs s.K s.L o false, L := delK Ho.o s.L o } from if_pos (by omega)]
 exact ⟨_, rfl, ⟨pd, ps, pp, _, _, _, _, _, _, _, _, _, _, _, rfl, h9, hP, hD, hF, hE, hN, hO⟩, rfl⟩
 refine sr_ (WL.y rfl (Yd.eql rfl rfl) (a_ rfl rfl (nt_ (WC.ite rfl (fun h17 => ?_) (fun h17 => ?_)))))
 refine sr_ (a_ rfl rfl (nt_ (WC.ret (DN.block_ret (DN.then_ret (DN.fit (C := (row p [.pointer (some ⟨pd, 0, none⟩), .pointer (some ⟨ps, 0, none⟩), .pointer (some ⟨pp, 0, none⟩), .int .u32 s.e.toNat, .slice lo s.ks.length lc, .slice eo s.ef.length ec, .slice no s.no.length nc] 116 :: (CS ++ (CP ++ (CD ++ (CF ++ (CE ++ (CN ++ DO))))))) ++ H) sp_ ?_))))))
 refine DN.ret1 Tryz.results86 rfl ?_
 have e1 : ¬ w.what = 1 := by omega
 rw [show undoV s o w = 2 by unfold undoV; rw [if_neg e1, if_pos (by omega)], show undoS s o w = s by unfold undoS; rw [if_neg e1, if_pos (by omega)]]
 exact ⟨_, rfl, ⟨pd, ps, pp, _, _, _, _, _, _, _, _, _, _, _, rfl, hS, hP, hD, hF, hE, hN, hO⟩, rfl⟩
 refine sr_ (WL.y rfl (Yd.eql rfl rfl) (a_ rfl rfl (nt_ (WC.ite rfl (fun h19 => ?_) (fun h19 => ?_)))))
 refine sr_ (m_ rfl rfl (n_ rfl rfl (f_ 2 kr_ rfl rfl ?_)))
 refine d_ kr_ rfl mem_ (by rfl) rfl ?_
 refine m_ rfl rfl (WL.c rfl (Ent.func Tryz.call121 rfl) (Pu.void_tells pp u0 s.U s.Y CP hP hpu o) (Sp.p sp_) ?_)
 rintro x H9 ⟨rfl, h9⟩
 refine a_ rfl rfl (nt_ (WC.ret (DN.block_ret (DN.then_ret (DN.fit (C := (row p [.pointer (some ⟨pd, 0, none⟩), .pointer (some ⟨ps, 0, none⟩), .pointer (some ⟨pp, 0, none⟩), .int .u32 s.e.toNat, .slice lo s.ks.length lc, .slice eo s.ef.length ec, .slice no s.no.length nc] 116 :: (CS ++ (H9 ++ (CD ++ (CF ++ (CE ++ (CN ++ DO))))))) ++ H) sp_ ?_)))))
 refine DN.ret1 Tryz.results86 rfl ?_
 have e1 : ¬ w.what = 1 := by omega
 have e2 : ¬ w.what = 2 := by omega
 rw [show undoV s o w = vdP (turnB s.Y o 1) by unfold undoV; rw [if_neg e1, if_neg e2, if_pos (by omega)], show undoS s o w = { s with U := turnKs s.U s.Y o 1 0 (-1), Y := turnLs s.Y o 1 3 } by unfold undoS; rw [if_neg e1, if_neg e2, if_pos (by omega)]]
 exact ⟨_, rfl, ⟨pd, ps, pp, _, _, _, _, _, _, _, _, _, _, _, rfl, hS, h9, hD, hF, hE, hN, hO⟩, rfl⟩
 refine sr_ (WL.y rfl (Yd.eql rfl rfl) (a_ rfl rfl (nt_ (WC.ite rfl (fun h27 => ?_) (fun h27 => ?_)))))
 refine sr_ (m_ rfl rfl (n_ rfl rfl (f_ 2 kr_ rfl rfl ?_)))
 refine d_ kr_ rfl mem_ (by rfl) rfl ?_
 refine m_ rfl rfl (WL.c rfl (Ent.func Tryz.call122 rfl) (Pu.refund_tells pp u0 s.U s.Y CP hP hpu o) (Sp.p sp_) ?_)
 rintro x H9 ⟨rfl, h9⟩
 refine a_ rfl rfl (nt_ (WC.ret (DN.block_ret (DN.then_ret (DN.fit (C := (row p [.pointer (some ⟨pd, 0, none⟩), .pointer (some ⟨ps, 0, none⟩), .pointer (some ⟨pp, 0, none⟩), .int .u32 s.e.toNat, .slice lo s.ks.length lc, .slice eo s.ef.length ec, .slice no s.no.length nc] 116 :: (CS ++ (H9 ++ (CD ++ (CF ++ (CE ++ (CN ++ DO))))))) ++ H) sp_ ?_)))))
 refine DN.ret1 Tryz.results86 rfl ?_
 have e1 : ¬ w.what = 1 := by omega
 have e2 : ¬ w.what = 2 := by omega
 have e3 : ¬ w.what = 3 := by omega
 rw [show undoV s o w = vdP (turnB s.Y o 2) by unfold undoV; rw [if_neg e1, if_neg e2, if_neg e3, if_pos (by omega)], show undoS s o w = { s with U := turnKs s.U s.Y o 2 1 0, Y := turnLs s.Y o 2 3 } by unfold undoS; rw [if_neg e1, if_neg e2, if_neg e3, if_pos (by omega)]]
 exact ⟨_, rfl, ⟨pd, ps, pp, _, _, _, _, _, _, _, _, _, _, _, rfl, hS, h9, hD, hF, hE, hN, hO⟩, rfl⟩
 refine sr_ (WL.y rfl (Yd.eql rfl rfl) (a_ rfl rfl (nt_ (WC.ite rfl (fun h35 => ?_) (fun h35 => ?_)))))
 refine sr_ (m_ rfl rfl (n_ rfl rfl (f_ 0 kr_ rfl rfl ?_)))
 refine d_ kr_ rfl mem_ (by rfl) rfl ?_
 refine m_ rfl rfl (WL.c rfl (Ent.func Tryz.call123 rfl) (Do.cancel_tells pd s.rs s.B CD hD o (hdk.cancelOk o)) (Sp.p sp_) ?_)
 intro x H9 h9
 obtain ⟨rfl, h8⟩ : x = .int .i64 (resC (findB s.B o)) ∧ DockAt 203 3 pd (roomsC s.rs (findB s.B o)) (listC s.B (findB s.B o) o) H9 := by
   cases hb : findB s.B o with
   | none => rw [hb] at h9; exact ⟨h9.1, by rw [h9.2]; exact hD⟩
   | some b => rw [hb] at h9; exact ⟨h9.1, h9.2⟩
 refine a_ rfl rfl (nt_ (WC.ret (DN.block_ret (DN.then_ret (DN.fit (C := (row p [.pointer (some ⟨pd, 0, none⟩), .pointer (some ⟨ps, 0, none⟩), .pointer (some ⟨pp, 0, none⟩), .int .u32 s.e.toNat, .slice lo s.ks.length lc, .slice eo s.ef.length ec, .slice no s.no.length nc] 116 :: (CS ++ (CP ++ (H9 ++ (CF ++ (CE ++ (CN ++ DO))))))) ++ H) sp_ ?_)))))
 refine DN.ret1 Tryz.results86 rfl ?_
 have e1 : ¬ w.what = 1 := by omega
 have e2 : ¬ w.what = 2 := by omega
 have e3 : ¬ w.what = 3 := by omega
 have e4 : ¬ w.what = 4 := by omega
 rw [show undoV s o w = resC (findB s.B o) by unfold undoV; rw [if_neg e1, if_neg e2, if_neg e3, if_neg e4, if_pos (by omega)], show undoS s o w = { s with rs := roomsC s.rs (findB s.B o), B := listC s.B (findB s.B o) o } by unfold undoS; rw [if_neg e1, if_neg e2, if_neg e3, if_neg e4, if_pos (by omega)]]
 exact ⟨_, rfl, ⟨pd, ps, pp, _, _, _, _, _, _, _, _, _, _, _, rfl, hS, hP, h8, hF, hE, hN, hO⟩, rfl⟩
 refine WC.skip (DN.block_normal (ts_ (WC.draw 14 kr_ rfl ?_)))
 refine WAG.start (N := 14) rfl (wy_ 0 [] rfl (Yd.move rfl) kr_ ?_)
 refine wy_ 1 [] rfl (Yd.move rfl) kr_ ?_
 refine wy_ 2 [1] rfl (Yd.notNil rfl) kr_ ?_
 refine wy_ 3 [2] rfl (Yd.fieldAddr (k := 6) kr_ rfl) kr_ ?_
 refine wq_ (wf_ (i := 4) [3] rfl (QAt.rd Wt.none (Rd.load1 kr_ rfl mem_ (by rfl))) kr_) kr_ ?_
 refine wy_ 6 [] rfl (Yd.fieldAddr (k := 2) kr_ rfl) kr_ ?_
 refine wq_ (wf_ (i := 7) [6] rfl (QAt.rd Wt.none (Rd.load1 kr_ rfl mem_ (by rfl))) kr_) kr_ ?_
 refine ws_ [(5, [])] kr_ (all_c ?_ (all_n))
 refine so_ (j := 5) [] rfl (SO.h rfl Wt.none rfl (Hd.buildBytes (e := 5) [33#8] kr_ kr_ kr_ rfl rfl kr_ fun b48 => ⟨_, rfl, ?_⟩))
 refine wk_ [_, _, _, _, _, _, _] (_ :: ([] ++ _)) rfl rfl (all_c (wf_ [6] rfl (QAt.rd Wt.none (Rd.load1 kr_ rfl mem_ (by rfl))) kr_) (all_c (wf_ [3] rfl (QAt.rd Wt.none (Rd.load1 kr_ rfl mem_ (by rfl))) kr_) all_n)) ?_
 refine ws_ [(8, [7])] kr_ (all_c ?_ (all_n))
 refine so_ (j := 8) [_] rfl ?_
 refine SO.h rfl Wt.none rfl (Hd.appendBs (e := 5) (zs := [.int .u8 0]) kr_ kr_ rfl rfl rfl (Ob.block (T := 5) b48 [33#8] (by simp only [maxLen, List.length_cons, List.length_nil]; omega)) sp_ (hv.mono gr_) (by simp only [List.length_cons, List.length_nil]; omega) fun x A hA => ⟨_, rfl, ?_⟩)
 refine wk_ [_, _, _, _, _, _] (_ :: ([_] ++ _)) rfl rfl (all_c (wf_ [3] rfl (QAt.rd Wt.none (Rd.load1 kr_ rfl mem_ (by rfl))) kr_) all_n) ?_
 refine ws_ [(9, [])] kr_ (all_c ?_ (all_n))
 refine so_ (j := 9) [] rfl ?_
 obtain ⟨xo, xc, rfl, hxc⟩ := hA.form
 refine SO.h rfl Wt.none rfl (Hd.build1 (e := 22) (z := .slice none 0 0) kr_ kr_ kr_ rfl (by rfl) fun b52 => ⟨_, rfl, ?_⟩)
 refine wk_ [_, _, _, _, _, _] (_ :: ([] ++ _)) rfl rfl (all_c (wf_ [3] rfl (QAt.rd Wt.none (Rd.load1 kr_ rfl mem_ (by rfl))) kr_) all_n) ?_
 refine ws_ [(10, [4])] kr_ (all_c ?_ (all_n))
 refine so_ (j := 10) [_] rfl ?_
 refine SO.h rfl Wt.none rfl (Hd.appendMany (e := 22) (sz := 1) (bytes := 24) (zs := [.slice none 0 0]) (m := 1) kr_ kr_ rfl (by omega) rfl rfl hN sp_ mem_ rfl (by intro u hu; rw [List.mem_singleton.1 hu]; rfl) (by simp only [maxLen]; omega) (by omega) fun v2 C2 ho2 => ⟨_, rfl, ?_⟩)
 refine wk_ [_, _, _, _, _] (_ :: ([_] ++ _)) rfl rfl all_n ?_
 obtain ⟨no2, nc2, rfl, _⟩ := ho2.form
 refine wy_ 11 [6, 3, 2, 1, 0] rfl (Yd.notNil rfl) kr_ ?_
 refine wy_ 12 [11, 6, 3, 2, 1, 0] rfl (Yd.fieldAddr (k := 6) kr_ rfl) kr_ ?_
 refine ws_ [(13, [12, 6, 3, 2, 1, 0])] kr_ (all_c ?_ (all_n))
 refine so_ (j := 13) [_, _, _, _, _, _] rfl ?_
 refine SO.s rfl Wt.none (Hd.store1s kr_ rfl rfl (by rfl) fr_ (by rfl) (by first | (simp only [List.set_cons_zero, List.set_cons_succ, Nat.zero_add, Nat.add_zero, Nat.reduceAdd]; rfl) | rfl) ⟨rfl, ?_⟩)
 refine wk_ [_] (([_, _, _, _, _, _] ++ _)) rfl rfl all_n (wd_ [_] rfl kr_ ?_)
 refine ts_ (WC.region (a_ rfl rfl (nt_ (WC.ret (DN.fit (C := (row p [.pointer (some ⟨pd, 0, none⟩), .pointer (some ⟨ps, 0, none⟩), .pointer (some ⟨pp, 0, none⟩), .int .u32 s.e.toNat, .slice lo s.ks.length lc, .slice eo s.ef.length ec, .slice no2 (s.no.length + 1) nc2] 116 :: (CS ++ (CP ++ (CD ++ (CF ++ (CE ++ (C2 ++ (DO ++ A)))))))) ++ H) sp_ ?_)))))
 refine DN.ret1 Tryz.results86 rfl ?_
 have e1 : ¬ w.what = 1 := by omega
 have e2 : ¬ w.what = 2 := by omega
 have e3 : ¬ w.what = 3 := by omega
 have e4 : ¬ w.what = 4 := by omega
 have e5 : ¬ w.what = 5 := by omega
 rw [show undoV s o w = 1 by unfold undoV; rw [if_neg e1, if_neg e2, if_neg e3, if_neg e4, if_neg e5], show undoS s o w = { s with no := s.no ++ [33#8 :: w.name] } by unfold undoS; rw [if_neg e1, if_neg e2, if_neg e3, if_neg e4, if_neg e5]]
 exact ⟨_, rfl, ⟨pd, ps, pp, _, _, _, _, _, _, _, _, _, _, _, rfl, hS, hP, hD, hF, hE, (by rw [List.length_append]; exact ho2), (hO.append (.one hA))⟩, rfl⟩
end Go.Proofs.YtkamlondepceiaaGreat

set_option linter.unusedVariables false
set_option linter.unusedSimpArgs false
set_option maxHeartbeats 4000000
namespace Go.Proofs.YtkamlondepceiaaGreat
open Go.SL
theorem do_tells (p : Nat) (s : Cw) (C : List Ck) (h : CwAt 189 198 203 3 5 118 111 22 116 p s C) {g0 : List Gd} {u0 : List Au} {r0 : List Int} (hst : SInv g0 s.K s.L) (hpu : PInv u0 s.U s.Y) (hdk : DInv r0 s.rs s.B) (hno : s.no.length ≤ 100000) (n : Nt) (vk vd : Value) (H : List Ck) (hk : IsSl vk n.key.length) (hvd : Bs vd n.data H) (hdl : n.data.length ≤ 1000) : Tells Tryz.prog 58 [.pointer (some ⟨p, 0, none⟩), .agg (ntc n vk vd).toArray] (C ++ H) fun r H' => ∃ C' x A, r = .tuple #[.int .i64 (doV s n), x] ∧ CwAt 189 198 203 3 5 118 111 22 116 p (doS s n) C' ∧ Ob 5 x (doR s n) A ∧ H' = C' ++ (A ++ H) := by
 refine Tells.enter Tryz.func58 rfl Tryz.ntmps58 rfl ?_
 intro w0 R
 have hAt := h
 obtain ⟨pd, ps, pp, vL, vE, vN, CS, CP, CD, CF, CE, cn, CN, DO, rfl, hS, hP, hD, hF, hE, hN, hO⟩ := h
 obtain ⟨lo, lc, rfl⟩ := hF.form
 obtain ⟨eo, ec, rfl, hec⟩ := hE.form
 obtain ⟨no, nc, rfl, hnc⟩ := hN.form
 obtain ⟨ko, kc, rfl⟩ := hk
 obtain ⟨do_, dc, rfl, hdc⟩ := hvd.form
 refine sr_ (WL.h rfl (Hd.boxA rfl fun b3 => ⟨_, rfl, ?_⟩))
 refine a_ rfl rfl (a_ rfl rfl (ntsr_ (f_ 10 kr_ rfl rfl ?_)))
 refine d_ kr_ rfl mem_ (by rfl) rfl ?_
 refine WL.c rfl (Ent.func Tryz.call13 rfl) (decode_tells _ n.data H hvd (by omega)) (Sp.p sp_) ?_
 rintro x H9 ⟨wv, AW, rfl, hW, rfl⟩
 obtain ⟨wo, wc, rfl, hwc⟩ := hW.form
 have hwn := decW_name n.data
 refine m_ rfl rfl (x_ rfl rfl rfl (x_ rfl rfl rfl (WL.h rfl (Hd.alloc (zs := [.int .i64 0, .int .i64 0, .slice none 0 0]) kr_ fun b6 => ⟨_, rfl, ?_⟩))))
 refine WL.s (Hd.storeAll (n := 3) kr_ rfl rfl (by rfl) one_ fr_ (by rfl) ⟨rfl, ?_⟩)
 refine a_ rfl rfl (nt_ (WC.seq (WC.block (sr_ (m_ rfl rfl (WL.y rfl (Yd.neq rfl rfl) (a_ rfl rfl (nt_ (WC.ite rfl (fun h16 => ?_) (fun h16 => ?_))))))))))
 have hde : decE n.data ≠ 0 := h16
 refine sr_ (a_ rfl rfl (a_ rfl rfl (nt_ (WC.ret (DN.block_ret (DN.then_ret (DN.fit (C := (row p [.pointer (some ⟨pd, 0, none⟩), .pointer (some ⟨ps, 0, none⟩), .pointer (some ⟨pp, 0, none⟩), .int .u32 s.e.toNat, .slice lo s.ks.length lc, .slice eo s.ef.length ec, .slice no s.no.length nc] 116 :: (CS ++ (CP ++ (CD ++ (CF ++ (CE ++ (CN ++ DO))))))) ++ H) sp_ ?_)))))))
 refine DN.ret2 Tryz.results58 rfl rfl ?_
 rw [show doV s n = 2 from if_pos hde, show doS s n = s from if_pos hde, show doR s n = [] from if_pos hde]
 exact ⟨_, _, [], rfl, ⟨pd, ps, pp, _, _, _, _, _, _, _, _, _, _, _, rfl, hS, hP, hD, hF, hE, hN, hO⟩, Ob.nil _, rfl⟩
 have hde : ¬ decE n.data ≠ 0 := h16
 refine sr_ (f_ 7 kr_ rfl rfl ?_)
 refine d_ kr_ rfl mem_ (by rfl) rfl ?_
 refine a_ rfl rfl (nt_ (WC.cond rfl (fun h19 => ?_) (fun h19 => ?_)))
 refine sr_ (m_ rfl rfl (f_ 5 kr_ rfl rfl ?_))
 refine d_ kr_ rfl mem_ (by rfl) rfl ?_
 refine WL.h rfl (Hd.loadAll (n := 3) kr_ rfl mem_ (by rfl) ⟨_, rfl, ?_⟩)
 refine WL.c rfl (Ent.func Tryz.call86 rfl) (undo_tells p s _ hAt hst hpu hdk hno n.order (decW n.data) _ AW hW.bs hwn) (Sp.p sp_) ?_
 rintro x H9 ⟨C9, rfl, h9, rfl⟩
 refine a_ rfl rfl (a_ rfl rfl (nt_ (WC.ret (DN.block_ret (DN.then_ret (DN.fit (C := C9 ++ H) sp_ ?_))))))
 refine DN.ret2 Tryz.results58 rfl rfl ?_
 rw [show doV s n = undoV s n.order (decW n.data) by unfold doV; rw [if_neg hde, if_pos h19], show doS s n = undoS s n.order (decW n.data) by unfold doS; rw [if_neg hde, if_pos h19], show doR s n = [] by unfold doR; rw [if_neg hde, if_pos h19]]
 exact ⟨_, _, [], rfl, h9, Ob.nil _, rfl⟩
 have hnu : ¬ n.undo = true := by rw [h19]; decide
 refine WC.skip (DN.block_normal (ts_ (sr_ (f_ 0 kr_ rfl rfl ?_))))
 refine d_ kr_ rfl mem_ (by rfl) rfl ?_
 refine nt_ (WC.block (sr_ (WL.y rfl (Yd.eql rfl rfl) (a_ rfl rfl (nt_ (WC.ite rfl (fun h29 => ?_) (fun h29 => ?_)))))))
 refine WC.seq (WC.draw 14 kr_ rfl ?_)
 refine WAG.start (N := 14) rfl (wy_ 0 [] rfl (Yd.move rfl) kr_ ?_)
 refine wy_ 1 [0] rfl (Yd.notNil rfl) kr_ ?_
 refine wy_ 2 [1] rfl (Yd.fieldAddr (k := 1) kr_ rfl) kr_ ?_
 refine wq_ (wf_ (i := 3) [2] rfl (QAt.rd Wt.none (Rd.load1 kr_ rfl mem_ (by rfl))) kr_) kr_ ?_
 refine wy_ 4 [] rfl (Yd.fieldAddr (k := 5) kr_ rfl) kr_ ?_
 refine wq_ (wf_ (i := 5) [4] rfl (QAt.rd Wt.none (Rd.load1 kr_ rfl mem_ (by rfl))) kr_) kr_ ?_
 refine wy_ 6 [] rfl (Yd.fieldAddr (k := 2) kr_ rfl) kr_ ?_
 refine wq_ (wf_ (i := 7) [6] rfl (QAt.rd Wt.none (Rd.load1 kr_ rfl mem_ (by rfl))) kr_) kr_ ?_
 refine wy_ 9 [] rfl (Yd.fieldAddr (k := 1) kr_ rfl) kr_ ?_
 refine wq_ (wf_ (i := 10) [9] rfl (QAt.rd Wt.none (Rd.load1 kr_ rfl mem_ (by rfl))) kr_) kr_ ?_
 refine ws_ [(8, [7])] kr_ (all_c ?_ (all_n))
 refine so_ (j := 8) [_] rfl (SO.h rfl Wt.none rfl (Hd.toStr (e := 5) (bs := (decW n.data).name) kr_ kr_ Tryz.underlying9 rfl (hW.bs.mono gr_) ⟨_, rfl, ?_⟩))
 refine wk_ [_, _, _, _, _, _, _, _, _] (_ :: ([_] ++ _)) rfl rfl (all_c (wf_ [9] rfl (QAt.rd Wt.none (Rd.load1 kr_ rfl mem_ (by rfl))) kr_) (all_c (wf_ [4] rfl (QAt.rd Wt.none (Rd.load1 kr_ rfl mem_ (by rfl))) kr_) (all_c (wf_ [2] rfl (QAt.rd Wt.none (Rd.load1 kr_ rfl mem_ (by rfl))) kr_) all_n))) ?_
 refine ws_ [(11, [10, 5, 3])] kr_ (all_c ?_ (all_n))
 refine so_ (j := 11) [_, _, _] rfl (SO.c rfl Wt.none rfl (Ent.func Tryz.call87 rfl) (St.hold_tells ps g0 s.K s.L CS hS hst n.order (str (decW n.data).name) (decW n.data).n) (Sp.p sp_) ?_)
 rintro x H9 ⟨rfl, h9⟩
 refine wk_ [_, _, _, _, _, _] (_ :: ([_, _, _] ++ _)) rfl rfl all_n (ws_ [(12, [9, 6, 4, 2, 1, 0])] kr_ (all_c ?_ (all_n)))
 refine so_ (j := 12) [_, _, _, _, _, _] rfl (SO.y rfl Wt.none rfl (Yd.assign rfl) (wk_ [] (_ :: ([_, _, _, _, _, _] ++ _)) rfl rfl all_n (ws_ [(13, [])] kr_ (all_c ?_ (all_n)))))
 refine so_ (j := 13) [] rfl (SO.y rfl Wt.none rfl (Yd.assign rfl) (wk_ [] (_ :: ([] ++ _)) rfl rfl all_n (wd_ [] rfl kr_ ?_)))
 refine DN.then_normal (WC.ret (DN.block_ret (DN.then_ret (DN.fit (C := (row p [.pointer (some ⟨pd, 0, none⟩), .pointer (some ⟨ps, 0, none⟩), .pointer (some ⟨pp, 0, none⟩), .int .u32 s.e.toNat, .slice lo s.ks.length lc, .slice eo s.ef.length ec, .slice no s.no.length nc] 116 :: (H9 ++ (CP ++ (CD ++ (CF ++ (CE ++ (CN ++ DO))))))) ++ H) sp_ ?_))))
 refine DN.ret2 Tryz.results58 rfl rfl ?_
 have e5 : ¬ (decW n.data).what = 5 := by omega
 have g1 : doV s n = vd (holdB s.K s.L n.order (str (decW n.data).name) (decW n.data).n) := by unfold doV; rw [if_neg hde, if_neg hnu]; unfold workV; rw [if_pos (by omega)]
 have g2 : doS s n = { s with K := holdKs s.K s.L n.order (str (decW n.data).name) (decW n.data).n, L := holdLs s.K s.L n.order (str (decW n.data).name) (decW n.data).n } := by unfold doS; rw [if_neg hde, if_neg hnu]; unfold workS; rw [if_pos (by omega)]
 have g3 : doR s n = [] := by unfold doR; rw [if_neg hde, if_neg hnu]; unfold workR; rw [if_neg e5]
 rw [g1, g2, g3]
 exact ⟨_, _, [], rfl, ⟨pd, ps, pp, _, _, _, _, _, _, _, _, _, _, _, rfl, h9, hP, hD, hF, hE, hN, hO⟩, Ob.nil _, rfl⟩
 refine sr_ (WL.y rfl (Yd.eql rfl rfl) (a_ rfl rfl (nt_ (WC.ite rfl (fun h43 => ?_) (fun h43 => ?_)))))
 refine WC.seq (WC.draw 9 kr_ rfl ?_)
 refine WAG.start (N := 9) rfl (wy_ 0 [] rfl (Yd.move rfl) kr_ ?_)
 refine wy_ 1 [0] rfl (Yd.notNil rfl) kr_ ?_
 refine wy_ 2 [1] rfl (Yd.fieldAddr (k := 1) kr_ rfl) kr_ ?_
 refine wq_ (wf_ (i := 3) [2] rfl (QAt.rd Wt.none (Rd.load1 kr_ rfl mem_ (by rfl))) kr_) kr_ ?_
 refine wy_ 4 [] rfl (Yd.fieldAddr (k := 5) kr_ rfl) kr_ ?_
 refine wq_ (wf_ (i := 5) [4] rfl (QAt.rd Wt.none (Rd.load1 kr_ rfl mem_ (by rfl))) kr_) kr_ ?_
 refine ws_ [(6, [5, 3])] kr_ (all_c ?_ (all_n))
 refine so_ (j := 6) [_, _] rfl (SO.c rfl Wt.none rfl (Ent.func Tryz.call88 rfl) (St.ship_tells ps g0 s.K s.L CS hS hst n.order) (Sp.p sp_) ?_)
 rintro x H9 ⟨rfl, h9⟩
 refine wk_ [_, _, _, _] (_ :: ([_, _] ++ _)) rfl rfl all_n (ws_ [(7, [4, 2, 1, 0])] kr_ (all_c ?_ (all_n)))
 refine so_ (j := 7) [_, _, _, _] rfl (SO.y rfl Wt.none rfl (Yd.assign rfl) (wk_ [] (_ :: ([_, _, _, _] ++ _)) rfl rfl all_n (ws_ [(8, [])] kr_ (all_c ?_ (all_n)))))
 refine so_ (j := 8) [] rfl (SO.y rfl Wt.none rfl (Yd.assign rfl) (wk_ [] (_ :: ([] ++ _)) rfl rfl all_n (wd_ [] rfl kr_ ?_)))
 refine DN.then_normal (WC.ret (DN.block_ret (DN.then_ret (DN.fit (C := (row p [.pointer (some ⟨pd, 0, none⟩), .pointer (some ⟨ps, 0, none⟩), .pointer (some ⟨pp, 0, none⟩), .int .u32 s.e.toNat, .slice lo s.ks.length lc, .slice eo s.ef.length ec, .slice no s.no.length nc] 116 :: (H9 ++ (CP ++ (CD ++ (CF ++ (CE ++ (CN ++ DO))))))) ++ H) sp_ ?_))))
 refine DN.ret2 Tryz.results58 rfl rfl ?_
 have e1 : ¬ (decW n.data).what = 1 := by omega
 have e5 : ¬ (decW n.data).what = 5 := by omega
 have g1 : doV s n = vd (findK Ho.o s.L n.order).isSome := by unfold doV; rw [if_neg hde, if_neg hnu]; unfold workV; rw [if_neg e1, if_pos (by omega)]
 have g2 : doS s n = { s with K := leaveKs s.K s.L n.order true, L := delK Ho.o s.L n.order } := by unfold doS; rw [if_neg hde, if_neg hnu]; unfold workS; rw [if_neg e1, if_pos (by omega)]
 have g3 : doR s n = [] := by unfold doR; rw [if_neg hde, if_neg hnu]; unfold workR; rw [if_neg e5]
 rw [g1, g2, g3]
 exact ⟨_, _, [], rfl, ⟨pd, ps, pp, _, _, _, _, _, _, _, _, _, _, _, rfl, h9, hP, hD, hF, hE, hN, hO⟩, Ob.nil _, rfl⟩
 refine sr_ (WL.y rfl (Yd.eql rfl rfl) (a_ rfl rfl (nt_ (WC.ite rfl (fun h52 => ?_) (fun h52 => ?_)))))
 refine WC.seq (WC.draw 14 kr_ rfl ?_)
 refine WAG.start (N := 14) rfl (wy_ 0 [] rfl (Yd.move rfl) kr_ ?_)
 refine wy_ 1 [0] rfl (Yd.notNil rfl) kr_ ?_
 refine wy_ 2 [1] rfl (Yd.fieldAddr (k := 2) kr_ rfl) kr_ ?_
 refine wq_ (wf_ (i := 3) [2] rfl (QAt.rd Wt.none (Rd.load1 kr_ rfl mem_ (by rfl))) kr_) kr_ ?_
 refine wy_ 4 [] rfl (Yd.fieldAddr (k := 5) kr_ rfl) kr_ ?_
 refine wq_ (wf_ (i := 5) [4] rfl (QAt.rd Wt.none (Rd.load1 kr_ rfl mem_ (by rfl))) kr_) kr_ ?_
 refine wy_ 6 [] rfl (Yd.fieldAddr (k := 2) kr_ rfl) kr_ ?_
 refine wq_ (wf_ (i := 7) [6] rfl (QAt.rd Wt.none (Rd.load1 kr_ rfl mem_ (by rfl))) kr_) kr_ ?_
 refine wy_ 9 [] rfl (Yd.fieldAddr (k := 1) kr_ rfl) kr_ ?_
 refine wq_ (wf_ (i := 10) [9] rfl (QAt.rd Wt.none (Rd.load1 kr_ rfl mem_ (by rfl))) kr_) kr_ ?_
 refine ws_ [(8, [7])] kr_ (all_c ?_ (all_n))
 refine so_ (j := 8) [_] rfl (SO.h rfl Wt.none rfl (Hd.toStr (e := 5) (bs := (decW n.data).name) kr_ kr_ Tryz.underlying9 rfl (hW.bs.mono gr_) ⟨_, rfl, ?_⟩))
 refine wk_ [_, _, _, _, _, _, _, _, _] (_ :: ([_] ++ _)) rfl rfl (all_c (wf_ [9] rfl (QAt.rd Wt.none (Rd.load1 kr_ rfl mem_ (by rfl))) kr_) (all_c (wf_ [4] rfl (QAt.rd Wt.none (Rd.load1 kr_ rfl mem_ (by rfl))) kr_) (all_c (wf_ [2] rfl (QAt.rd Wt.none (Rd.load1 kr_ rfl mem_ (by rfl))) kr_) all_n))) ?_
 refine ws_ [(11, [10, 5, 3])] kr_ (all_c ?_ (all_n))
 refine so_ (j := 11) [_, _, _] rfl (SO.c rfl Wt.none rfl (Ent.func Tryz.call89 rfl) (Pu.auth_tells pp u0 s.U s.Y CP hP hpu n.order (str (decW n.data).name) (decW n.data).n) (Sp.p sp_) ?_)
 rintro x H9 ⟨rfl, h9⟩
 refine wk_ [_, _, _, _, _, _] (_ :: ([_, _, _] ++ _)) rfl rfl all_n (ws_ [(12, [9, 6, 4, 2, 1, 0])] kr_ (all_c ?_ (all_n)))
 refine so_ (j := 12) [_, _, _, _, _, _] rfl (SO.y rfl Wt.none rfl (Yd.assign rfl) (wk_ [] (_ :: ([_, _, _, _, _, _] ++ _)) rfl rfl all_n (ws_ [(13, [])] kr_ (all_c ?_ (all_n)))))
 refine so_ (j := 13) [] rfl (SO.y rfl Wt.none rfl (Yd.assign rfl) (wk_ [] (_ :: ([] ++ _)) rfl rfl all_n (wd_ [] rfl kr_ ?_)))
 refine DN.then_normal (WC.ret (DN.block_ret (DN.then_ret (DN.fit (C := (row p [.pointer (some ⟨pd, 0, none⟩), .pointer (some ⟨ps, 0, none⟩), .pointer (some ⟨pp, 0, none⟩), .int .u32 s.e.toNat, .slice lo s.ks.length lc, .slice eo s.ef.length ec, .slice no s.no.length nc] 116 :: (CS ++ (H9 ++ (CD ++ (CF ++ (CE ++ (CN ++ DO))))))) ++ H) sp_ ?_))))
 refine DN.ret2 Tryz.results58 rfl rfl ?_
 have e1 : ¬ (decW n.data).what = 1 := by omega
 have e2 : ¬ (decW n.data).what = 2 := by omega
 have e5 : ¬ (decW n.data).what = 5 := by omega
 have g1 : doV s n = vdP (authB s.U s.Y n.order (str (decW n.data).name) (decW n.data).n) := by unfold doV; rw [if_neg hde, if_neg hnu]; unfold workV; rw [if_neg e1, if_neg e2, if_pos (by omega)]
 have g2 : doS s n = { s with U := authKs s.U s.Y n.order (str (decW n.data).name) (decW n.data).n, Y := authLs s.U s.Y n.order (str (decW n.data).name) (decW n.data).n } := by unfold doS; rw [if_neg hde, if_neg hnu]; unfold workS; rw [if_neg e1, if_neg e2, if_pos (by omega)]
 have g3 : doR s n = [] := by unfold doR; rw [if_neg hde, if_neg hnu]; unfold workR; rw [if_neg e5]
 rw [g1, g2, g3]
 exact ⟨_, _, [], rfl, ⟨pd, ps, pp, _, _, _, _, _, _, _, _, _, _, _, rfl, hS, h9, hD, hF, hE, hN, hO⟩, Ob.nil _, rfl⟩
 refine sr_ (WL.y rfl (Yd.eql rfl rfl) (a_ rfl rfl (nt_ (WC.ite rfl (fun h66 => ?_) (fun h66 => ?_)))))
 refine WC.seq (WC.draw 9 kr_ rfl ?_)
 refine WAG.start (N := 9) rfl (wy_ 0 [] rfl (Yd.move rfl) kr_ ?_)
 refine wy_ 1 [0] rfl (Yd.notNil rfl) kr_ ?_
 refine wy_ 2 [1] rfl (Yd.fieldAddr (k := 2) kr_ rfl) kr_ ?_
 refine wq_ (wf_ (i := 3) [2] rfl (QAt.rd Wt.none (Rd.load1 kr_ rfl mem_ (by rfl))) kr_) kr_ ?_
 refine wy_ 4 [] rfl (Yd.fieldAddr (k := 5) kr_ rfl) kr_ ?_
 refine wq_ (wf_ (i := 5) [4] rfl (QAt.rd Wt.none (Rd.load1 kr_ rfl mem_ (by rfl))) kr_) kr_ ?_
 refine ws_ [(6, [5, 3])] kr_ (all_c ?_ (all_n))
 refine so_ (j := 6) [_, _] rfl (SO.c rfl Wt.none rfl (Ent.func Tryz.call90 rfl) (Pu.capture_tells pp u0 s.U s.Y CP hP hpu n.order) (Sp.p sp_) ?_)
 rintro x H9 ⟨rfl, h9⟩
 refine wk_ [_, _, _, _] (_ :: ([_, _] ++ _)) rfl rfl all_n (ws_ [(7, [4, 2, 1, 0])] kr_ (all_c ?_ (all_n)))
 refine so_ (j := 7) [_, _, _, _] rfl (SO.y rfl Wt.none rfl (Yd.assign rfl) (wk_ [] (_ :: ([_, _, _, _] ++ _)) rfl rfl all_n (ws_ [(8, [])] kr_ (all_c ?_ (all_n)))))
 refine so_ (j := 8) [] rfl (SO.y rfl Wt.none rfl (Yd.assign rfl) (wk_ [] (_ :: ([] ++ _)) rfl rfl all_n (wd_ [] rfl kr_ ?_)))
 refine DN.then_normal (WC.ret (DN.block_ret (DN.then_ret (DN.fit (C := (row p [.pointer (some ⟨pd, 0, none⟩), .pointer (some ⟨ps, 0, none⟩), .pointer (some ⟨pp, 0, none⟩), .int .u32 s.e.toNat, .slice lo s.ks.length lc, .slice eo s.ef.length ec, .slice no s.no.length nc] 116 :: (CS ++ (H9 ++ (CD ++ (CF ++ (CE ++ (CN ++ DO))))))) ++ H) sp_ ?_))))
 refine DN.ret2 Tryz.results58 rfl rfl ?_
 have e1 : ¬ (decW n.data).what = 1 := by omega
 have e2 : ¬ (decW n.data).what = 2 := by omega
 have e3 : ¬ (decW n.data).what = 3 := by omega
 have e5 : ¬ (decW n.data).what = 5 := by omega
 have g1 : doV s n = vdP (turnB s.Y n.order 1) := by unfold doV; rw [if_neg hde, if_neg hnu]; unfold workV; rw [if_neg e1, if_neg e2, if_neg e3, if_pos (by omega)]
 have g2 : doS s n = { s with U := turnKs s.U s.Y n.order 1 (-1) (-1), Y := turnLs s.Y n.order 1 2 } := by unfold doS; rw [if_neg hde, if_neg hnu]; unfold workS; rw [if_neg e1, if_neg e2, if_neg e3, if_pos (by omega)]
 have g3 : doR s n = [] := by unfold doR; rw [if_neg hde, if_neg hnu]; unfold workR; rw [if_neg e5]
 rw [g1, g2, g3]
 exact ⟨_, _, [], rfl, ⟨pd, ps, pp, _, _, _, _, _, _, _, _, _, _, _, rfl, hS, h9, hD, hF, hE, hN, hO⟩, Ob.nil _, rfl⟩
 refine sr_ (WL.y rfl (Yd.eql rfl rfl) (a_ rfl rfl (nt_ (WC.ite rfl (fun h75 => ?_) (fun h75 => ?_)))))
 refine WC.seq (WC.draw 14 kr_ rfl ?_)
 refine WAG.start (N := 14) rfl (wy_ 0 [] rfl (Yd.move rfl) kr_ ?_)
 refine wy_ 1 [0] rfl (Yd.notNil rfl) kr_ ?_
 refine wy_ 2 [1] rfl (Yd.fieldAddr (k := 0) kr_ rfl) kr_ ?_
 refine wq_ (wf_ (i := 3) [2] rfl (QAt.rd Wt.none (Rd.load1 kr_ rfl mem_ (by rfl))) kr_) kr_ ?_
 refine wy_ 4 [] rfl (Yd.fieldAddr (k := 5) kr_ rfl) kr_ ?_
 refine wq_ (wf_ (i := 5) [4] rfl (QAt.rd Wt.none (Rd.load1 kr_ rfl mem_ (by rfl))) kr_) kr_ ?_
 refine wy_ 6 [] rfl (Yd.fieldAddr (k := 1) kr_ rfl) kr_ ?_
 refine wq_ (wf_ (i := 7) [6] rfl (QAt.rd Wt.none (Rd.load1 kr_ rfl mem_ (by rfl))) kr_) kr_ ?_
 refine ws_ [(8, [7, 5, 3])] kr_ (all_c ?_ (all_n))
 refine so_ (j := 8) [_, _, _] rfl ?_
 refine SO.c rfl Wt.none rfl (Ent.func Tryz.call91 rfl) (Do.book_tells pd s.rs s.B CD hD hdk.rooms (by have := hdk.few; have := hdk.len; omega) n.order 0 (decW n.data).n) (Sp.p sp_) ?_
 intro x H9 h9
 obtain ⟨bk, hbk⟩ : ∃ q, bookOf s.rs s.B n.order 0 (decW n.data).n = q := ⟨_, rfl⟩
 rw [hbk] at h9
 obtain ⟨rfl, h8⟩ : x = .tuple #[.int .i64 (resOf bk).1, .int .i64 (resOf bk).2] ∧ DockAt 203 3 pd (roomsB s.rs bk (decW n.data).n) (listB s.B bk n.order (decW n.data).n) H9 := by
   cases bk with
   | none => exact ⟨h9.1, by rw [h9.2]; exact hD⟩
   | some d => exact ⟨h9.1, h9.2⟩
 refine wk_ [_, _, _, _, _] (_ :: ([_, _, _] ++ _)) rfl rfl all_n (wy_ 9 [] rfl (Yd.move rfl) kr_ ?_)
 refine wy_ 10 [9] rfl (Yd.extract rfl rfl) kr_ ?_
 refine wy_ 11 [9] rfl (Yd.extract rfl rfl) kr_ ?_
 refine wy_ 12 [10, 9, 6, 4, 2, 1, 0] rfl (Yd.assign rfl) kr_ ?_
 refine wy_ 13 [12, 11, 10, 9, 6, 4, 2, 1, 0] rfl (Yd.assign rfl) kr_ ?_
 refine wd_ [_, _, _, _, _, _, _, _, _, _] rfl kr_ ?_
 refine ts_ (sr_ (m_ rfl rfl (WL.y rfl (Yd.neq rfl rfl) (nt_ (WC.ite rfl (fun h90 => ?_) (fun h90 => ?_))))))
 have hbn : bk = none := by
   cases bk with
   | none => rfl
   | some d => exact absurd rfl h90
 refine sr_ (m_ rfl rfl (a_ rfl rfl (a_ rfl rfl (nt_ (WC.ret (DN.then_ret (DN.block_ret (DN.then_ret (DN.fit (C := (row p [.pointer (some ⟨pd, 0, none⟩), .pointer (some ⟨ps, 0, none⟩), .pointer (some ⟨pp, 0, none⟩), .int .u32 s.e.toNat, .slice lo s.ks.length lc, .slice eo s.ef.length ec, .slice no s.no.length nc] 116 :: (CS ++ (CP ++ (H9 ++ (CF ++ (CE ++ (CN ++ DO))))))) ++ H) sp_ ?_)))))))))
 refine DN.ret2 Tryz.results58 rfl rfl ?_
 subst hbn
 have e1 : ¬ (decW n.data).what = 1 := by omega
 have e2 : ¬ (decW n.data).what = 2 := by omega
 have e3 : ¬ (decW n.data).what = 3 := by omega
 have e4 : ¬ (decW n.data).what = 4 := by omega
 have g1 : doV s n = (resOf none).2 := by unfold doV; rw [if_neg hde, if_neg hnu]; unfold workV; rw [if_neg e1, if_neg e2, if_neg e3, if_neg e4, if_pos (by omega)]; rw [hbk]
 have g2 : doS s n = { s with rs := roomsB s.rs none (decW n.data).n, B := listB s.B none n.order (decW n.data).n } := by unfold doS; rw [if_neg hde, if_neg hnu]; unfold workS; rw [if_neg e1, if_neg e2, if_neg e3, if_neg e4, if_pos (by omega)]; rw [hbk]
 have g3 : doR s n = [] := by unfold doR; rw [if_neg hde, if_neg hnu]; unfold workR; rw [if_pos (by omega)]; rw [hbk]
 rw [g1, g2, g3]
 exact ⟨_, _, [], rfl, ⟨pd, ps, pp, _, _, _, _, _, _, _, _, _, _, _, rfl, hS, hP, h8, hF, hE, hN, hO⟩, Ob.nil _, rfl⟩
 obtain ⟨d, rfl⟩ : ∃ d, bk = some d := by
   cases bk with
   | none => exact absurd (by decide) h90
   | some d => exact ⟨d, rfl⟩
 refine WC.skip (ts_ (WC.region (m_ rfl rfl (m_ rfl rfl (WL.y rfl (Yd.to8 _ kr_ kr_ rfl rfl) ?_)))))
 refine WL.h rfl (Hd.build1 (e := 5) (z := .int .u8 0) kr_ kr_ kr_ rfl rfl fun b95 => ⟨_, rfl, ?_⟩)
 refine a_ rfl rfl (a_ rfl rfl (nt_ (WC.ret (DN.block_ret (DN.then_ret (DN.fit (C := (row p [.pointer (some ⟨pd, 0, none⟩), .pointer (some ⟨ps, 0, none⟩), .pointer (some ⟨pp, 0, none⟩), .int .u32 s.e.toNat, .slice lo s.ks.length lc, .slice eo s.ef.length ec, .slice no s.no.length nc] 116 :: (CS ++ (CP ++ (H9 ++ (CF ++ (CE ++ (CN ++ DO))))))) ++ (row b95 (bc [BitVec.ofInt 8 (d : Int)]) 5 :: H)) sp_ ?_))))))
 refine DN.ret2 Tryz.results58 rfl rfl ?_
 have e1 : ¬ (decW n.data).what = 1 := by omega
 have e2 : ¬ (decW n.data).what = 2 := by omega
 have e3 : ¬ (decW n.data).what = 3 := by omega
 have e4 : ¬ (decW n.data).what = 4 := by omega
 have g1 : doV s n = (resOf (some d)).2 := by unfold doV; rw [if_neg hde, if_neg hnu]; unfold workV; rw [if_neg e1, if_neg e2, if_neg e3, if_neg e4, if_pos (by omega)]; rw [hbk]
 have g2 : doS s n = { s with rs := roomsB s.rs (some d) (decW n.data).n, B := listB s.B (some d) n.order (decW n.data).n } := by unfold doS; rw [if_neg hde, if_neg hnu]; unfold workS; rw [if_neg e1, if_neg e2, if_neg e3, if_neg e4, if_pos (by omega)]; rw [hbk]
 have g3 : doR s n = [BitVec.ofInt 8 (d : Int)] := by unfold doR; rw [if_neg hde, if_neg hnu]; unfold workR; rw [if_pos (by omega)]; rw [hbk]
 rw [g1, g2, g3]
 exact ⟨_, _, [_], rfl, ⟨pd, ps, pp, _, _, _, _, _, _, _, _, _, _, _, rfl, hS, hP, h8, hF, hE, hN, hO⟩, Ob.block b95 [BitVec.ofInt 8 (d : Int)] (by simp only [maxLen, List.length_cons, List.length_nil]; omega), rfl⟩
 refine WC.skip (DN.block_normal (ts_ (WC.draw 12 kr_ rfl ?_)))
 refine WAG.start (N := 12) rfl (wy_ 0 [] rfl (Yd.move rfl) kr_ ?_)
 refine wy_ 1 [] rfl (Yd.move rfl) kr_ ?_
 refine wy_ 2 [1] rfl (Yd.notNil rfl) kr_ ?_
 refine wy_ 3 [2] rfl (Yd.fieldAddr (k := 6) kr_ rfl) kr_ ?_
 refine wq_ (wf_ (i := 4) [3] rfl (QAt.rd Wt.none (Rd.load1 kr_ rfl mem_ (by rfl))) kr_) kr_ ?_
 refine wy_ 5 [] rfl (Yd.fieldAddr (k := 2) kr_ rfl) kr_ ?_
 refine wq_ (wf_ (i := 6) [5] rfl (QAt.rd Wt.none (Rd.load1 kr_ rfl mem_ (by rfl))) kr_) kr_ ?_
 refine ws_ [(7, [6])] kr_ (all_c ?_ (all_n))
 refine so_ (j := 7) [_] rfl (SO.h rfl Wt.none rfl (Hd.build1 (e := 22) (z := .slice none 0 0) kr_ kr_ kr_ rfl (by rfl) fun b103 => ⟨_, rfl, ?_⟩))
 refine wk_ [_, _, _, _, _, _] (_ :: ([_] ++ _)) rfl rfl (all_c (wf_ [3] rfl (QAt.rd Wt.none (Rd.load1 kr_ rfl mem_ (by rfl))) kr_) all_n) ?_
 refine ws_ [(8, [4])] kr_ (all_c ?_ (all_n))
 refine so_ (j := 8) [_] rfl ?_
 refine SO.h rfl Wt.none rfl (Hd.appendMany (e := 22) (sz := 1) (bytes := 24) (zs := [.slice none 0 0]) (m := 1) kr_ kr_ rfl (by omega) rfl rfl hN sp_ mem_ rfl (by intro u hu; rw [List.mem_singleton.1 hu]; rfl) (by simp only [maxLen]; omega) (by omega) fun v2 C2 ho2 => ⟨_, rfl, ?_⟩)
 refine wk_ [_, _, _, _, _] (_ :: ([_] ++ _)) rfl rfl all_n ?_
 obtain ⟨no2, nc2, rfl, _⟩ := ho2.form
 refine wy_ 9 [5, 3, 2, 1, 0] rfl (Yd.notNil rfl) kr_ ?_
 refine wy_ 10 [9, 5, 3, 2, 1, 0] rfl (Yd.fieldAddr (k := 6) kr_ rfl) kr_ ?_
 refine ws_ [(11, [10, 5, 3, 2, 1, 0])] kr_ (all_c ?_ (all_n))
 refine so_ (j := 11) [_, _, _, _, _, _] rfl ?_
 refine SO.s rfl Wt.none (Hd.store1s kr_ rfl rfl (by rfl) fr_ (by rfl) (by first | (simp only [List.set_cons_zero, List.set_cons_succ, Nat.zero_add, Nat.add_zero, Nat.reduceAdd]; rfl) | rfl) ⟨rfl, ?_⟩)
 refine wk_ [_] (([_, _, _, _, _, _] ++ _)) rfl rfl all_n (wd_ [_] rfl kr_ ?_)
 refine ts_ (WC.region (a_ rfl rfl (a_ rfl rfl (nt_ (WC.ret (DN.fit (C := (row p [.pointer (some ⟨pd, 0, none⟩), .pointer (some ⟨ps, 0, none⟩), .pointer (some ⟨pp, 0, none⟩), .int .u32 s.e.toNat, .slice lo s.ks.length lc, .slice eo s.ef.length ec, .slice no2 (s.no.length + 1) nc2] 116 :: (CS ++ (CP ++ (CD ++ (CF ++ (CE ++ (C2 ++ (DO ++ AW)))))))) ++ H) sp_ ?_))))))
 refine DN.ret2 Tryz.results58 rfl rfl ?_
 have e1 : ¬ (decW n.data).what = 1 := by omega
 have e2 : ¬ (decW n.data).what = 2 := by omega
 have e3 : ¬ (decW n.data).what = 3 := by omega
 have e4 : ¬ (decW n.data).what = 4 := by omega
 have e5 : ¬ (decW n.data).what = 5 := by omega
 have g1 : doV s n = 1 := by unfold doV; rw [if_neg hde, if_neg hnu]; unfold workV; rw [if_neg e1, if_neg e2, if_neg e3, if_neg e4, if_neg e5]
 have g2 : doS s n = { s with no := s.no ++ [(decW n.data).name] } := by unfold doS; rw [if_neg hde, if_neg hnu]; unfold workS; rw [if_neg e1, if_neg e2, if_neg e3, if_neg e4, if_neg e5]
 have g3 : doR s n = [] := by unfold doR; rw [if_neg hde, if_neg hnu]; unfold workR; rw [if_neg e5]
 rw [g1, g2, g3]
 exact ⟨_, _, [], rfl, ⟨pd, ps, pp, _, _, _, _, _, _, _, _, _, _, _, rfl, hS, hP, hD, hF, hE, (by rw [List.length_append]; exact ho2), (hO.append (.one hW))⟩, Ob.nil _, rfl⟩
end Go.Proofs.YtkamlondepceiaaGreat

set_option linter.unusedVariables false
set_option linter.unusedSimpArgs false
set_option maxHeartbeats 2000000
namespace Go.Proofs.YtkamlondepceiaaGreat
open Go.SL
theorem names_reads (k : Int) (H : List Ck) : Reads Tryz.prog 118 [.int .i64 k] H (.string (nmS k)) := by
 refine Tells.enter Tryz.func118 rfl Tryz.ntmps118 rfl ?_
 intro w0 R
 refine sr_ (a_ rfl rfl (nt_ (WC.seq (sr_ (m_ rfl rfl (nt_ (WC.block (sr_ (WL.y rfl (Yd.eql rfl rfl) (a_ rfl rfl (nt_ (WC.ite rfl (fun h4 => ?_) (fun h4 => ?_)))))))))))))
 refine sr_ (a_ rfl rfl (nt_ (WC.ret (DN.block_ret (DN.then_ret (DN.ret1 Tryz.results118 rfl ?_))))))
 first | (exfalso; omega) | exact ⟨by congr 1; simp [nmS, nm, *], rfl⟩
 refine WC.seq (sr_ (WL.y rfl (Yd.eql rfl rfl) (a_ rfl rfl (nt_ (WC.ite rfl (fun h6 => ?_) (fun h6 => ?_))))))
 refine WC.skip (DN.then_normal (WC.ite rfl (fun h6 => ?_) (fun h6 => ?_)))
 refine sr_ (a_ rfl rfl (nt_ (WC.ret (DN.block_ret (DN.then_ret (DN.ret1 Tryz.results118 rfl ?_))))))
 first | (exfalso; omega) | exact ⟨by congr 1; simp [nmS, nm, *], rfl⟩
 refine WC.seq (sr_ (WL.y rfl (Yd.eql rfl rfl) (a_ rfl rfl (nt_ (WC.ite rfl (fun h9 => ?_) (fun h9 => ?_))))))
 refine WC.skip (DN.then_normal (WC.ite rfl (fun h9 => ?_) (fun h9 => ?_)))
 refine sr_ (a_ rfl rfl (nt_ (WC.ret (DN.block_ret (DN.then_ret (DN.ret1 Tryz.results118 rfl ?_))))))
 first | (exfalso; omega) | exact ⟨by congr 1; simp [nmS, nm, *], rfl⟩
 refine sr_ (WL.y rfl (Yd.eql rfl rfl) (a_ rfl rfl (nt_ (WC.ite rfl (fun h12 => ?_) (fun h12 => ?_)))))
 refine sr_ (a_ rfl rfl (nt_ (WC.ret (DN.block_ret (DN.then_ret (DN.ret1 Tryz.results118 rfl ?_))))))
 first | (exfalso; omega) | exact ⟨by congr 1; simp [nmS, nm, *], rfl⟩
 refine sr_ (WL.y rfl (Yd.eql rfl rfl) (a_ rfl rfl (nt_ (WC.ite rfl (fun h14 => ?_) (fun h14 => ?_)))))
 refine sr_ (a_ rfl rfl (nt_ (WC.ret (DN.block_ret (DN.then_ret (DN.ret1 Tryz.results118 rfl ?_))))))
 first | (exfalso; omega) | exact ⟨by congr 1; simp [nmS, nm, *], rfl⟩
 refine sr_ (WL.y rfl (Yd.eql rfl rfl) (a_ rfl rfl (nt_ (WC.ite rfl (fun h16 => ?_) (fun h16 => ?_)))))
 refine sr_ (a_ rfl rfl (nt_ (WC.ret (DN.block_ret (DN.then_ret (DN.ret1 Tryz.results118 rfl ?_))))))
 first | (exfalso; omega) | exact ⟨by congr 1; simp [nmS, nm, *], rfl⟩
 refine sr_ (WL.y rfl (Yd.eql rfl rfl) (a_ rfl rfl (nt_ (WC.ite rfl (fun h18 => ?_) (fun h18 => ?_)))))
 refine sr_ (a_ rfl rfl (nt_ (WC.ret (DN.block_ret (DN.then_ret (DN.ret1 Tryz.results118 rfl ?_))))))
 first | (exfalso; omega) | exact ⟨by congr 1; simp [nmS, nm, *], rfl⟩
 refine sr_ (WL.y rfl (Yd.eql rfl rfl) (a_ rfl rfl (nt_ (WC.ite rfl (fun h20 => ?_) (fun h20 => ?_)))))
 refine sr_ (a_ rfl rfl (nt_ (WC.ret (DN.block_ret (DN.then_ret (DN.ret1 Tryz.results118 rfl ?_))))))
 first | (exfalso; omega) | exact ⟨by congr 1; simp [nmS, nm, *], rfl⟩
 refine WC.seq (sr_ (WL.y rfl (Yd.eql rfl rfl) (a_ rfl rfl (nt_ (WC.ite rfl (fun h22 => ?_) (fun h22 => ?_))))))
 refine WC.skip (DN.then_normal (WC.ite rfl (fun h22 => ?_) (fun h22 => ?_)))
 refine sr_ (a_ rfl rfl (nt_ (WC.ret (DN.block_ret (DN.then_ret (DN.ret1 Tryz.results118 rfl ?_))))))
 first | (exfalso; omega) | exact ⟨by congr 1; simp [nmS, nm, *], rfl⟩
 refine sr_ (WL.y rfl (Yd.eql rfl rfl) (a_ rfl rfl (nt_ (WC.ite rfl (fun h25 => ?_) (fun h25 => ?_)))))
 refine sr_ (a_ rfl rfl (nt_ (WC.ret (DN.block_ret (DN.then_ret (DN.ret1 Tryz.results118 rfl ?_))))))
 first | (exfalso; omega) | exact ⟨by congr 1; simp [nmS, nm, *], rfl⟩
 refine WC.skip (DN.block_normal (ts_ (WC.region (a_ rfl rfl (nt_ (WC.ret (DN.ret1 Tryz.results118 rfl ?_)))))))
 first | (exfalso; omega) | exact ⟨by congr 1; simp [nmS, nm, *], rfl⟩
 refine WC.region (WL.y rfl (Yd.eql rfl rfl) (a_ rfl rfl (nt_ (WC.ite rfl (fun h22 => ?_) (fun h22 => ?_)))))
 refine sr_ (a_ rfl rfl (nt_ (WC.ret (DN.block_ret (DN.then_ret (DN.ret1 Tryz.results118 rfl ?_))))))
 first | (exfalso; omega) | exact ⟨by congr 1; simp [nmS, nm, *], rfl⟩
 refine sr_ (WL.y rfl (Yd.eql rfl rfl) (a_ rfl rfl (nt_ (WC.ite rfl (fun h25 => ?_) (fun h25 => ?_)))))
 refine sr_ (a_ rfl rfl (nt_ (WC.ret (DN.block_ret (DN.then_ret (DN.ret1 Tryz.results118 rfl ?_))))))
 first | (exfalso; omega) | exact ⟨by congr 1; simp [nmS, nm, *], rfl⟩
 refine WC.skip (DN.block_normal (ts_ (WC.region (a_ rfl rfl (nt_ (WC.ret (DN.ret1 Tryz.results118 rfl ?_)))))))
 first | (exfalso; omega) | exact ⟨by congr 1; simp [nmS, nm, *], rfl⟩
 refine WC.region (WL.y rfl (Yd.eql rfl rfl) (a_ rfl rfl (nt_ (WC.ite rfl (fun h9 => ?_) (fun h9 => ?_)))))
 refine sr_ (a_ rfl rfl (nt_ (WC.ret (DN.block_ret (DN.then_ret (DN.ret1 Tryz.results118 rfl ?_))))))
 first | (exfalso; omega) | exact ⟨by congr 1; simp [nmS, nm, *], rfl⟩
 refine sr_ (WL.y rfl (Yd.eql rfl rfl) (a_ rfl rfl (nt_ (WC.ite rfl (fun h12 => ?_) (fun h12 => ?_)))))
 refine sr_ (a_ rfl rfl (nt_ (WC.ret (DN.block_ret (DN.then_ret (DN.ret1 Tryz.results118 rfl ?_))))))
 first | (exfalso; omega) | exact ⟨by congr 1; simp [nmS, nm, *], rfl⟩
 refine sr_ (WL.y rfl (Yd.eql rfl rfl) (a_ rfl rfl (nt_ (WC.ite rfl (fun h14 => ?_) (fun h14 => ?_)))))
 refine sr_ (a_ rfl rfl (nt_ (WC.ret (DN.block_ret (DN.then_ret (DN.ret1 Tryz.results118 rfl ?_))))))
 first | (exfalso; omega) | exact ⟨by congr 1; simp [nmS, nm, *], rfl⟩
 refine sr_ (WL.y rfl (Yd.eql rfl rfl) (a_ rfl rfl (nt_ (WC.ite rfl (fun h16 => ?_) (fun h16 => ?_)))))
 refine sr_ (a_ rfl rfl (nt_ (WC.ret (DN.block_ret (DN.then_ret (DN.ret1 Tryz.results118 rfl ?_))))))
 first | (exfalso; omega) | exact ⟨by congr 1; simp [nmS, nm, *], rfl⟩
 refine sr_ (WL.y rfl (Yd.eql rfl rfl) (a_ rfl rfl (nt_ (WC.ite rfl (fun h18 => ?_) (fun h18 => ?_)))))
 refine sr_ (a_ rfl rfl (nt_ (WC.ret (DN.block_ret (DN.then_ret (DN.ret1 Tryz.results118 rfl ?_))))))
 first | (exfalso; omega) | exact ⟨by congr 1; simp [nmS, nm, *], rfl⟩
 refine sr_ (WL.y rfl (Yd.eql rfl rfl) (a_ rfl rfl (nt_ (WC.ite rfl (fun h20 => ?_) (fun h20 => ?_)))))
 refine sr_ (a_ rfl rfl (nt_ (WC.ret (DN.block_ret (DN.then_ret (DN.ret1 Tryz.results118 rfl ?_))))))
 first | (exfalso; omega) | exact ⟨by congr 1; simp [nmS, nm, *], rfl⟩
 refine WC.seq (sr_ (WL.y rfl (Yd.eql rfl rfl) (a_ rfl rfl (nt_ (WC.ite rfl (fun h22 => ?_) (fun h22 => ?_))))))
 refine WC.skip (DN.then_normal (WC.ite rfl (fun h22 => ?_) (fun h22 => ?_)))
 refine sr_ (a_ rfl rfl (nt_ (WC.ret (DN.block_ret (DN.then_ret (DN.ret1 Tryz.results118 rfl ?_))))))
 first | (exfalso; omega) | exact ⟨by congr 1; simp [nmS, nm, *], rfl⟩
 refine sr_ (WL.y rfl (Yd.eql rfl rfl) (a_ rfl rfl (nt_ (WC.ite rfl (fun h25 => ?_) (fun h25 => ?_)))))
 refine sr_ (a_ rfl rfl (nt_ (WC.ret (DN.block_ret (DN.then_ret (DN.ret1 Tryz.results118 rfl ?_))))))
 first | (exfalso; omega) | exact ⟨by congr 1; simp [nmS, nm, *], rfl⟩
 refine WC.skip (DN.block_normal (ts_ (WC.region (a_ rfl rfl (nt_ (WC.ret (DN.ret1 Tryz.results118 rfl ?_)))))))
 first | (exfalso; omega) | exact ⟨by congr 1; simp [nmS, nm, *], rfl⟩
 refine WC.region (WL.y rfl (Yd.eql rfl rfl) (a_ rfl rfl (nt_ (WC.ite rfl (fun h22 => ?_) (fun h22 => ?_)))))
 refine sr_ (a_ rfl rfl (nt_ (WC.ret (DN.block_ret (DN.then_ret (DN.ret1 Tryz.results118 rfl ?_))))))
 first | (exfalso; omega) | exact ⟨by congr 1; simp [nmS, nm, *], rfl⟩
 refine sr_ (WL.y rfl (Yd.eql rfl rfl) (a_ rfl rfl (nt_ (WC.ite rfl (fun h25 => ?_) (fun h25 => ?_)))))
 refine sr_ (a_ rfl rfl (nt_ (WC.ret (DN.block_ret (DN.then_ret (DN.ret1 Tryz.results118 rfl ?_))))))
 first | (exfalso; omega) | exact ⟨by congr 1; simp [nmS, nm, *], rfl⟩
 refine WC.skip (DN.block_normal (ts_ (WC.region (a_ rfl rfl (nt_ (WC.ret (DN.ret1 Tryz.results118 rfl ?_)))))))
 first | (exfalso; omega) | exact ⟨by congr 1; simp [nmS, nm, *], rfl⟩
 refine WC.region (WL.y rfl (Yd.eql rfl rfl) (a_ rfl rfl (nt_ (WC.ite rfl (fun h6 => ?_) (fun h6 => ?_)))))
 refine sr_ (a_ rfl rfl (nt_ (WC.ret (DN.block_ret (DN.then_ret (DN.ret1 Tryz.results118 rfl ?_))))))
 first | (exfalso; omega) | exact ⟨by congr 1; simp [nmS, nm, *], rfl⟩
 refine WC.seq (sr_ (WL.y rfl (Yd.eql rfl rfl) (a_ rfl rfl (nt_ (WC.ite rfl (fun h9 => ?_) (fun h9 => ?_))))))
 refine WC.skip (DN.then_normal (WC.ite rfl (fun h9 => ?_) (fun h9 => ?_)))
 refine sr_ (a_ rfl rfl (nt_ (WC.ret (DN.block_ret (DN.then_ret (DN.ret1 Tryz.results118 rfl ?_))))))
 first | (exfalso; omega) | exact ⟨by congr 1; simp [nmS, nm, *], rfl⟩
 refine sr_ (WL.y rfl (Yd.eql rfl rfl) (a_ rfl rfl (nt_ (WC.ite rfl (fun h12 => ?_) (fun h12 => ?_)))))
 refine sr_ (a_ rfl rfl (nt_ (WC.ret (DN.block_ret (DN.then_ret (DN.ret1 Tryz.results118 rfl ?_))))))
 first | (exfalso; omega) | exact ⟨by congr 1; simp [nmS, nm, *], rfl⟩
 refine sr_ (WL.y rfl (Yd.eql rfl rfl) (a_ rfl rfl (nt_ (WC.ite rfl (fun h14 => ?_) (fun h14 => ?_)))))
 refine sr_ (a_ rfl rfl (nt_ (WC.ret (DN.block_ret (DN.then_ret (DN.ret1 Tryz.results118 rfl ?_))))))
 first | (exfalso; omega) | exact ⟨by congr 1; simp [nmS, nm, *], rfl⟩
 refine sr_ (WL.y rfl (Yd.eql rfl rfl) (a_ rfl rfl (nt_ (WC.ite rfl (fun h16 => ?_) (fun h16 => ?_)))))
 refine sr_ (a_ rfl rfl (nt_ (WC.ret (DN.block_ret (DN.then_ret (DN.ret1 Tryz.results118 rfl ?_))))))
 first | (exfalso; omega) | exact ⟨by congr 1; simp [nmS, nm, *], rfl⟩
 refine sr_ (WL.y rfl (Yd.eql rfl rfl) (a_ rfl rfl (nt_ (WC.ite rfl (fun h18 => ?_) (fun h18 => ?_)))))
 refine sr_ (a_ rfl rfl (nt_ (WC.ret (DN.block_ret (DN.then_ret (DN.ret1 Tryz.results118 rfl ?_))))))
 first | (exfalso; omega) | exact ⟨by congr 1; simp [nmS, nm, *], rfl⟩
 refine sr_ (WL.y rfl (Yd.eql rfl rfl) (a_ rfl rfl (nt_ (WC.ite rfl (fun h20 => ?_) (fun h20 => ?_)))))
 refine sr_ (a_ rfl rfl (nt_ (WC.ret (DN.block_ret (DN.then_ret (DN.ret1 Tryz.results118 rfl ?_))))))
 first | (exfalso; omega) | exact ⟨by congr 1; simp [nmS, nm, *], rfl⟩
 refine WC.seq (sr_ (WL.y rfl (Yd.eql rfl rfl) (a_ rfl rfl (nt_ (WC.ite rfl (fun h22 => ?_) (fun h22 => ?_))))))
 refine WC.skip (DN.then_normal (WC.ite rfl (fun h22 => ?_) (fun h22 => ?_)))
 refine sr_ (a_ rfl rfl (nt_ (WC.ret (DN.block_ret (DN.then_ret (DN.ret1 Tryz.results118 rfl ?_))))))
 first | (exfalso; omega) | exact ⟨by congr 1; simp [nmS, nm, *], rfl⟩
 refine sr_ (WL.y rfl (Yd.eql rfl rfl) (a_ rfl rfl (nt_ (WC.ite rfl (fun h25 => ?_) (fun h25 => ?_)))))
 refine sr_ (a_ rfl rfl (nt_ (WC.ret (DN.block_ret (DN.then_ret (DN.ret1 Tryz.results118 rfl ?_))))))
 first | (exfalso; omega) | exact ⟨by congr 1; simp [nmS, nm, *], rfl⟩
 refine WC.skip (DN.block_normal (ts_ (WC.region (a_ rfl rfl (nt_ (WC.ret (DN.ret1 Tryz.results118 rfl ?_)))))))
 first | (exfalso; omega) | exact ⟨by congr 1; simp [nmS, nm, *], rfl⟩
 refine WC.region (WL.y rfl (Yd.eql rfl rfl) (a_ rfl rfl (nt_ (WC.ite rfl (fun h22 => ?_) (fun h22 => ?_)))))
 refine sr_ (a_ rfl rfl (nt_ (WC.ret (DN.block_ret (DN.then_ret (DN.ret1 Tryz.results118 rfl ?_))))))
 first | (exfalso; omega) | exact ⟨by congr 1; simp [nmS, nm, *], rfl⟩
 refine sr_ (WL.y rfl (Yd.eql rfl rfl) (a_ rfl rfl (nt_ (WC.ite rfl (fun h25 => ?_) (fun h25 => ?_)))))
 refine sr_ (a_ rfl rfl (nt_ (WC.ret (DN.block_ret (DN.then_ret (DN.ret1 Tryz.results118 rfl ?_))))))
 first | (exfalso; omega) | exact ⟨by congr 1; simp [nmS, nm, *], rfl⟩
 refine WC.skip (DN.block_normal (ts_ (WC.region (a_ rfl rfl (nt_ (WC.ret (DN.ret1 Tryz.results118 rfl ?_)))))))
 first | (exfalso; omega) | exact ⟨by congr 1; simp [nmS, nm, *], rfl⟩
 refine WC.region (WL.y rfl (Yd.eql rfl rfl) (a_ rfl rfl (nt_ (WC.ite rfl (fun h9 => ?_) (fun h9 => ?_)))))
 refine sr_ (a_ rfl rfl (nt_ (WC.ret (DN.block_ret (DN.then_ret (DN.ret1 Tryz.results118 rfl ?_))))))
 first | (exfalso; omega) | exact ⟨by congr 1; simp [nmS, nm, *], rfl⟩
 refine sr_ (WL.y rfl (Yd.eql rfl rfl) (a_ rfl rfl (nt_ (WC.ite rfl (fun h12 => ?_) (fun h12 => ?_)))))
 refine sr_ (a_ rfl rfl (nt_ (WC.ret (DN.block_ret (DN.then_ret (DN.ret1 Tryz.results118 rfl ?_))))))
 first | (exfalso; omega) | exact ⟨by congr 1; simp [nmS, nm, *], rfl⟩
 refine sr_ (WL.y rfl (Yd.eql rfl rfl) (a_ rfl rfl (nt_ (WC.ite rfl (fun h14 => ?_) (fun h14 => ?_)))))
 refine sr_ (a_ rfl rfl (nt_ (WC.ret (DN.block_ret (DN.then_ret (DN.ret1 Tryz.results118 rfl ?_))))))
 first | (exfalso; omega) | exact ⟨by congr 1; simp [nmS, nm, *], rfl⟩
 refine sr_ (WL.y rfl (Yd.eql rfl rfl) (a_ rfl rfl (nt_ (WC.ite rfl (fun h16 => ?_) (fun h16 => ?_)))))
 refine sr_ (a_ rfl rfl (nt_ (WC.ret (DN.block_ret (DN.then_ret (DN.ret1 Tryz.results118 rfl ?_))))))
 first | (exfalso; omega) | exact ⟨by congr 1; simp [nmS, nm, *], rfl⟩
 refine sr_ (WL.y rfl (Yd.eql rfl rfl) (a_ rfl rfl (nt_ (WC.ite rfl (fun h18 => ?_) (fun h18 => ?_)))))
 refine sr_ (a_ rfl rfl (nt_ (WC.ret (DN.block_ret (DN.then_ret (DN.ret1 Tryz.results118 rfl ?_))))))
 first | (exfalso; omega) | exact ⟨by congr 1; simp [nmS, nm, *], rfl⟩
 refine sr_ (WL.y rfl (Yd.eql rfl rfl) (a_ rfl rfl (nt_ (WC.ite rfl (fun h20 => ?_) (fun h20 => ?_)))))
 refine sr_ (a_ rfl rfl (nt_ (WC.ret (DN.block_ret (DN.then_ret (DN.ret1 Tryz.results118 rfl ?_))))))
 first | (exfalso; omega) | exact ⟨by congr 1; simp [nmS, nm, *], rfl⟩
 refine WC.seq (sr_ (WL.y rfl (Yd.eql rfl rfl) (a_ rfl rfl (nt_ (WC.ite rfl (fun h22 => ?_) (fun h22 => ?_))))))
 refine WC.skip (DN.then_normal (WC.ite rfl (fun h22 => ?_) (fun h22 => ?_)))
 refine sr_ (a_ rfl rfl (nt_ (WC.ret (DN.block_ret (DN.then_ret (DN.ret1 Tryz.results118 rfl ?_))))))
 first | (exfalso; omega) | exact ⟨by congr 1; simp [nmS, nm, *], rfl⟩
 refine sr_ (WL.y rfl (Yd.eql rfl rfl) (a_ rfl rfl (nt_ (WC.ite rfl (fun h25 => ?_) (fun h25 => ?_)))))
 refine sr_ (a_ rfl rfl (nt_ (WC.ret (DN.block_ret (DN.then_ret (DN.ret1 Tryz.results118 rfl ?_))))))
 first | (exfalso; omega) | exact ⟨by congr 1; simp [nmS, nm, *], rfl⟩
 refine WC.skip (DN.block_normal (ts_ (WC.region (a_ rfl rfl (nt_ (WC.ret (DN.ret1 Tryz.results118 rfl ?_)))))))
 first | (exfalso; omega) | exact ⟨by congr 1; simp [nmS, nm, *], rfl⟩
 refine WC.region (WL.y rfl (Yd.eql rfl rfl) (a_ rfl rfl (nt_ (WC.ite rfl (fun h22 => ?_) (fun h22 => ?_)))))
 refine sr_ (a_ rfl rfl (nt_ (WC.ret (DN.block_ret (DN.then_ret (DN.ret1 Tryz.results118 rfl ?_))))))
 first | (exfalso; omega) | exact ⟨by congr 1; simp [nmS, nm, *], rfl⟩
 refine sr_ (WL.y rfl (Yd.eql rfl rfl) (a_ rfl rfl (nt_ (WC.ite rfl (fun h25 => ?_) (fun h25 => ?_)))))
 refine sr_ (a_ rfl rfl (nt_ (WC.ret (DN.block_ret (DN.then_ret (DN.ret1 Tryz.results118 rfl ?_))))))
 first | (exfalso; omega) | exact ⟨by congr 1; simp [nmS, nm, *], rfl⟩
 refine WC.skip (DN.block_normal (ts_ (WC.region (a_ rfl rfl (nt_ (WC.ret (DN.ret1 Tryz.results118 rfl ?_)))))))
 first | (exfalso; omega) | exact ⟨by congr 1; simp [nmS, nm, *], rfl⟩
theorem without_reads (n : Nt) (vk vd : Value) (c : Int) (h1 : vk.oneCell' = true) (h2 : vd.oneCell' = true) (H : List Ck) : Reads Tryz.prog 119 [.agg (ntc n vk vd).toArray, .int .i32 c] H (.agg (ntc (wo n c) (woK vk c) (woD vd c)).toArray) := by
 refine Tells.enter Tryz.func119 rfl Tryz.ntmps119 rfl ?_
 intro w0 R
 refine sr_ (WL.h rfl (Hd.boxA rfl fun b2 => ⟨_, rfl, ?_⟩))
 refine WL.h rfl (Hd.alloc (zs := [.int .i64 0, .int .u32 0, .int .u32 0, .int .u64 0, .int .u64 0, .int .u32 0, .int .i64 0, .bool false, .int .i64 0, .slice none 0 0, .slice none 0 0]) kr_ fun b4 => ⟨_, rfl, ?_⟩)
 refine nt_ (WC.seq (sr_ (m_ rfl rfl (nt_ (WC.block (sr_ (WL.y rfl (Yd.eql rfl rfl) (a_ rfl rfl (nt_ (WC.ite rfl (fun h6 => ?_) (fun h6 => ?_)))))))))))
 refine WC.region (f_ 1 kr_ rfl rfl ?_)
 refine WL.s (Hd.store1s kr_ rfl rfl (by rfl) fr_ (by rfl) (by first | (simp only [List.set_cons_zero, List.set_cons_succ, Nat.zero_add, Nat.add_zero, Nat.reduceAdd]; rfl) | rfl) ⟨rfl, ?_⟩)
 refine WL.nil (DN.block_normal (ts_ (WC.region (WL.h rfl (Hd.loadAll (n := 11) kr_ rfl mem_ (by rfl) ⟨_, rfl, ?_⟩)))))
 refine WL.s (Hd.storeAll (n := 11) kr_ rfl rfl (by rfl) one_ fr_ (by rfl) ⟨rfl, ?_⟩)
 refine nt_ (WC.ret (DN.retCF (s := 11) H Tryz.results119 kr_ rfl List.mem_cons_self (by rfl) ((List.sublist_cons_self _ _).trans (List.sublist_cons_self _ _)) ?_))
 exact ⟨by simp [wo, woK, woD, ntc, *], rfl⟩
 refine sr_ (WL.y rfl (Yd.eql rfl rfl) (a_ rfl rfl (nt_ (WC.ite rfl (fun h9 => ?_) (fun h9 => ?_)))))
 refine WC.region (f_ 2 kr_ rfl rfl ?_)
 refine WL.s (Hd.store1s kr_ rfl rfl (by rfl) fr_ (by rfl) (by first | (simp only [List.set_cons_zero, List.set_cons_succ, Nat.zero_add, Nat.add_zero, Nat.reduceAdd]; rfl) | rfl) ⟨rfl, ?_⟩)
 refine WL.nil (DN.block_normal (ts_ (WC.region (WL.h rfl (Hd.loadAll (n := 11) kr_ rfl mem_ (by rfl) ⟨_, rfl, ?_⟩)))))
 refine WL.s (Hd.storeAll (n := 11) kr_ rfl rfl (by rfl) one_ fr_ (by rfl) ⟨rfl, ?_⟩)
 refine nt_ (WC.ret (DN.retCF (s := 11) H Tryz.results119 kr_ rfl List.mem_cons_self (by rfl) ((List.sublist_cons_self _ _).trans (List.sublist_cons_self _ _)) ?_))
 exact ⟨by simp [wo, woK, woD, ntc, *], rfl⟩
 refine sr_ (WL.y rfl (Yd.eql rfl rfl) (a_ rfl rfl (nt_ (WC.ite rfl (fun h12 => ?_) (fun h12 => ?_)))))
 refine WC.region (f_ 3 kr_ rfl rfl ?_)
 refine WL.s (Hd.store1s kr_ rfl rfl (by rfl) fr_ (by rfl) (by first | (simp only [List.set_cons_zero, List.set_cons_succ, Nat.zero_add, Nat.add_zero, Nat.reduceAdd]; rfl) | rfl) ⟨rfl, ?_⟩)
 refine WL.nil (DN.block_normal (ts_ (WC.region (WL.h rfl (Hd.loadAll (n := 11) kr_ rfl mem_ (by rfl) ⟨_, rfl, ?_⟩)))))
 refine WL.s (Hd.storeAll (n := 11) kr_ rfl rfl (by rfl) one_ fr_ (by rfl) ⟨rfl, ?_⟩)
 refine nt_ (WC.ret (DN.retCF (s := 11) H Tryz.results119 kr_ rfl List.mem_cons_self (by rfl) ((List.sublist_cons_self _ _).trans (List.sublist_cons_self _ _)) ?_))
 exact ⟨by simp [wo, woK, woD, ntc, *], rfl⟩
 refine sr_ (WL.y rfl (Yd.eql rfl rfl) (a_ rfl rfl (nt_ (WC.ite rfl (fun h15 => ?_) (fun h15 => ?_)))))
 refine WC.region (f_ 4 kr_ rfl rfl ?_)
 refine WL.s (Hd.store1s kr_ rfl rfl (by rfl) fr_ (by rfl) (by first | (simp only [List.set_cons_zero, List.set_cons_succ, Nat.zero_add, Nat.add_zero, Nat.reduceAdd]; rfl) | rfl) ⟨rfl, ?_⟩)
 refine WL.nil (DN.block_normal (ts_ (WC.region (WL.h rfl (Hd.loadAll (n := 11) kr_ rfl mem_ (by rfl) ⟨_, rfl, ?_⟩)))))
 refine WL.s (Hd.storeAll (n := 11) kr_ rfl rfl (by rfl) one_ fr_ (by rfl) ⟨rfl, ?_⟩)
 refine nt_ (WC.ret (DN.retCF (s := 11) H Tryz.results119 kr_ rfl List.mem_cons_self (by rfl) ((List.sublist_cons_self _ _).trans (List.sublist_cons_self _ _)) ?_))
 exact ⟨by simp [wo, woK, woD, ntc, *], rfl⟩
 refine sr_ (WL.y rfl (Yd.eql rfl rfl) (a_ rfl rfl (nt_ (WC.ite rfl (fun h18 => ?_) (fun h18 => ?_)))))
 refine WC.region (f_ 5 kr_ rfl rfl ?_)
 refine WL.s (Hd.store1s kr_ rfl rfl (by rfl) fr_ (by rfl) (by first | (simp only [List.set_cons_zero, List.set_cons_succ, Nat.zero_add, Nat.add_zero, Nat.reduceAdd]; rfl) | rfl) ⟨rfl, ?_⟩)
 refine WL.nil (DN.block_normal (ts_ (WC.region (WL.h rfl (Hd.loadAll (n := 11) kr_ rfl mem_ (by rfl) ⟨_, rfl, ?_⟩)))))
 refine WL.s (Hd.storeAll (n := 11) kr_ rfl rfl (by rfl) one_ fr_ (by rfl) ⟨rfl, ?_⟩)
 refine nt_ (WC.ret (DN.retCF (s := 11) H Tryz.results119 kr_ rfl List.mem_cons_self (by rfl) ((List.sublist_cons_self _ _).trans (List.sublist_cons_self _ _)) ?_))
 exact ⟨by simp [wo, woK, woD, ntc, *], rfl⟩
 refine sr_ (WL.y rfl (Yd.eql rfl rfl) (a_ rfl rfl (nt_ (WC.ite rfl (fun h21 => ?_) (fun h21 => ?_)))))
 refine WC.region (f_ 6 kr_ rfl rfl ?_)
 refine WL.s (Hd.store1s kr_ rfl rfl (by rfl) fr_ (by rfl) (by first | (simp only [List.set_cons_zero, List.set_cons_succ, Nat.zero_add, Nat.add_zero, Nat.reduceAdd]; rfl) | rfl) ⟨rfl, ?_⟩)
 refine WL.nil (DN.block_normal (ts_ (WC.region (WL.h rfl (Hd.loadAll (n := 11) kr_ rfl mem_ (by rfl) ⟨_, rfl, ?_⟩)))))
 refine WL.s (Hd.storeAll (n := 11) kr_ rfl rfl (by rfl) one_ fr_ (by rfl) ⟨rfl, ?_⟩)
 refine nt_ (WC.ret (DN.retCF (s := 11) H Tryz.results119 kr_ rfl List.mem_cons_self (by rfl) ((List.sublist_cons_self _ _).trans (List.sublist_cons_self _ _)) ?_))
 exact ⟨by simp [wo, woK, woD, ntc, *], rfl⟩
 refine sr_ (WL.y rfl (Yd.eql rfl rfl) (a_ rfl rfl (nt_ (WC.ite rfl (fun h24 => ?_) (fun h24 => ?_)))))
 refine WC.region (f_ 7 kr_ rfl rfl ?_)
 refine WL.s (Hd.store1s kr_ rfl rfl (by rfl) fr_ (by rfl) (by first | (simp only [List.set_cons_zero, List.set_cons_succ, Nat.zero_add, Nat.add_zero, Nat.reduceAdd]; rfl) | rfl) ⟨rfl, ?_⟩)
 refine WL.nil (DN.block_normal (ts_ (WC.region (WL.h rfl (Hd.loadAll (n := 11) kr_ rfl mem_ (by rfl) ⟨_, rfl, ?_⟩)))))
 refine WL.s (Hd.storeAll (n := 11) kr_ rfl rfl (by rfl) one_ fr_ (by rfl) ⟨rfl, ?_⟩)
 refine nt_ (WC.ret (DN.retCF (s := 11) H Tryz.results119 kr_ rfl List.mem_cons_self (by rfl) ((List.sublist_cons_self _ _).trans (List.sublist_cons_self _ _)) ?_))
 exact ⟨by simp [wo, woK, woD, ntc, *], rfl⟩
 refine sr_ (WL.y rfl (Yd.eql rfl rfl) (a_ rfl rfl (nt_ (WC.ite rfl (fun h27 => ?_) (fun h27 => ?_)))))
 refine WC.region (f_ 8 kr_ rfl rfl ?_)
 refine WL.s (Hd.store1s kr_ rfl rfl (by rfl) fr_ (by rfl) (by first | (simp only [List.set_cons_zero, List.set_cons_succ, Nat.zero_add, Nat.add_zero, Nat.reduceAdd]; rfl) | rfl) ⟨rfl, ?_⟩)
 refine WL.nil (DN.block_normal (ts_ (WC.region (WL.h rfl (Hd.loadAll (n := 11) kr_ rfl mem_ (by rfl) ⟨_, rfl, ?_⟩)))))
 refine WL.s (Hd.storeAll (n := 11) kr_ rfl rfl (by rfl) one_ fr_ (by rfl) ⟨rfl, ?_⟩)
 refine nt_ (WC.ret (DN.retCF (s := 11) H Tryz.results119 kr_ rfl List.mem_cons_self (by rfl) ((List.sublist_cons_self _ _).trans (List.sublist_cons_self _ _)) ?_))
 exact ⟨by simp [wo, woK, woD, ntc, *], rfl⟩
 refine sr_ (WL.y rfl (Yd.eql rfl rfl) (a_ rfl rfl (nt_ (WC.ite rfl (fun h30 => ?_) (fun h30 => ?_)))))
 refine WC.region (f_ 9 kr_ rfl rfl ?_)
 refine WL.s (Hd.store1s kr_ rfl rfl (by rfl) fr_ (by rfl) (by first | (simp only [List.set_cons_zero, List.set_cons_succ, Nat.zero_add, Nat.add_zero, Nat.reduceAdd]; rfl) | rfl) ⟨rfl, ?_⟩)
 refine WL.nil (DN.block_normal (ts_ (WC.region (WL.h rfl (Hd.loadAll (n := 11) kr_ rfl mem_ (by rfl) ⟨_, rfl, ?_⟩)))))
 refine WL.s (Hd.storeAll (n := 11) kr_ rfl rfl (by rfl) one_ fr_ (by rfl) ⟨rfl, ?_⟩)
 refine nt_ (WC.ret (DN.retCF (s := 11) H Tryz.results119 kr_ rfl List.mem_cons_self (by rfl) ((List.sublist_cons_self _ _).trans (List.sublist_cons_self _ _)) ?_))
 exact ⟨by simp [wo, woK, woD, ntc, *], rfl⟩
 refine sr_ (WL.y rfl (Yd.eql rfl rfl) (a_ rfl rfl (nt_ (WC.ite rfl (fun h33 => ?_) (fun h33 => ?_)))))
 refine WC.region (f_ 10 kr_ rfl rfl ?_)
 refine WL.s (Hd.store1s kr_ rfl rfl (by rfl) fr_ (by rfl) (by first | (simp only [List.set_cons_zero, List.set_cons_succ, Nat.zero_add, Nat.add_zero, Nat.reduceAdd]; rfl) | rfl) ⟨rfl, ?_⟩)
 refine WL.nil (DN.block_normal (ts_ (WC.region (WL.h rfl (Hd.loadAll (n := 11) kr_ rfl mem_ (by rfl) ⟨_, rfl, ?_⟩)))))
 refine WL.s (Hd.storeAll (n := 11) kr_ rfl rfl (by rfl) one_ fr_ (by rfl) ⟨rfl, ?_⟩)
 refine nt_ (WC.ret (DN.retCF (s := 11) H Tryz.results119 kr_ rfl List.mem_cons_self (by rfl) ((List.sublist_cons_self _ _).trans (List.sublist_cons_self _ _)) ?_))
 exact ⟨by simp [wo, woK, woD, ntc, *], rfl⟩
 refine WC.skip (DN.block_normal (ts_ (WC.region (WL.h rfl (Hd.loadAll (n := 11) kr_ rfl mem_ (by rfl) ⟨_, rfl, ?_⟩)))))
 refine WL.s (Hd.storeAll (n := 11) kr_ rfl rfl (by rfl) one_ fr_ (by rfl) ⟨rfl, ?_⟩)
 refine nt_ (WC.ret (DN.retCF (s := 11) H Tryz.results119 kr_ rfl List.mem_cons_self (by rfl) ((List.sublist_cons_self _ _).trans (List.sublist_cons_self _ _)) ?_))
 exact ⟨by simp [wo, woK, woD, ntc, *], rfl⟩
theorem check_reads (n : Nt) (vk vd : Value) (hk : IsSl vk n.key.length) (hd : IsSl vd n.data.length) (H : List Ck) : Reads Tryz.prog 83 [.agg (ntc n vk vd).toArray] H (.int .i64 (if noteBad n then 50 else 0)) := by
 refine Tells.enter Tryz.func83 rfl Tryz.ntmps83 rfl ?_
 intro w0 R
 obtain ⟨ko, kc, rfl⟩ := hk
 obtain ⟨eo, ec, rfl⟩ := hd
 refine sr_ (WL.h rfl (Hd.boxA rfl fun b1 => ⟨_, rfl, ?_⟩))
 refine a_ rfl rfl (ntsr_ (f_ 0 kr_ rfl rfl ?_))
 refine d_ kr_ rfl mem_ (by rfl) rfl ?_
 refine WL.r rfl (Ent.func Tryz.call118 rfl) (names_reads n.kind _) (a_ rfl rfl (ntsr_ (WL.h rfl (Hd.loadAll (n := 11) kr_ rfl mem_ (by rfl) ⟨_, rfl, ?_⟩))))
 refine WL.h rfl (Hd.alloc (zs := [.int .i64 0, .int .u32 0, .int .u32 0, .int .u64 0, .int .u64 0, .int .u32 0, .int .i64 0, .bool false, .int .i64 0, .slice none 0 0, .slice none 0 0]) kr_ fun b4 => ⟨_, rfl, ?_⟩)
 refine WL.s (Hd.storeAll (n := 11) kr_ rfl rfl (by rfl) one_ fr_ (by rfl) ⟨rfl, ?_⟩)
 refine nt_ (WC.seq (sr_ (m_ rfl rfl (WL.h rfl (Hd.rangeS kr_ rfl fun b14 => ⟨_, rfl, ?_⟩)))))
 refine nt_ (WC.block (WC.loopK (fun z : Nat × Value × Value => z.1 ≤ (nm n.kind).length ∧ IsSl z.2.1 (restTo n z.1).key.length ∧ IsSl z.2.2 (restTo n z.1).data.length) (fun z : Nat × Value × Value => []) (fun z : Nat × Value × Value => row b4 (ntc (restTo n z.1) z.2.1 z.2.2) 52 :: ⟨b14, .stringIter (nmS n.kind) z.1, true⟩ :: row b1 (ntc n (.slice ko n.key.length kc) (.slice eo n.data.length ec)) 52 :: H) (fun z : Nat × Value × Value => (nm n.kind).length - z.1) ((0, .slice ko n.key.length kc, .slice eo n.data.length ec)) (⟨Nat.zero_le _, ⟨_, _, rfl⟩, ⟨_, _, rfl⟩⟩) (sx_) (Sp.all sp_) ?_))
 rintro ⟨i, vk, vd⟩ ⟨hi, hs1, hs2⟩
 simp only at hi hs1 hs2
 obtain ⟨mo, mc, rfl⟩ := hs1
 obtain ⟨oo, oc, rfl⟩ := hs2
 refine sr_ (WL.h rfl (Hd.nextS rfl fr_ (fun hlt => ⟨nmS_small n.kind i hlt, ⟨_, rfl, ?_⟩⟩) (fun hge => ⟨_, rfl, ?_⟩)))
 rw [nmS_at _ _ hlt]
 rw [nmS_size] at hlt
 refine x_ rfl rfl rfl (nt_ (WC.seq (WC.yes rfl (WC.skip (DN.then_normal (WC.block (sr_ (x_ rfl rfl rfl (a_ rfl rfl (ntr_ (WL.h rfl (Hd.loadAll (n := 11) kr_ rfl mem_ (by rfl) ⟨_, rfl, ?_⟩))))))))))))
 refine m_ rfl rfl (WL.r rfl (Ent.func Tryz.call119 rfl) (without_reads (restTo n i) (.slice mo _ mc) (.slice oo _ oc) _ rfl rfl _) (WL.s (Hd.storeAll (n := 11) kr_ rfl rfl (by rfl) (ntc_one (IsSl.woK (v := .slice mo (restTo n i).key.length mc) (n := restTo n i) ⟨_, _, rfl⟩ _).one (IsSl.woD (v := .slice oo (restTo n i).data.length oc) (n := restTo n i) ⟨_, _, rfl⟩ _).one) fr_ (by rfl) ⟨rfl, ?_⟩)))
 refine WL.nil (DN.block_normal ?_)
 have en := restTo_next n i hlt
 have hsl1 := IsSl.woK (v := .slice mo (restTo n i).key.length mc) (n := restTo n i) ⟨_, _, rfl⟩ ((nm n.kind).getD i 0 : Nat)
 have hsl2 := IsSl.woD (v := .slice oo (restTo n i).data.length oc) (n := restTo n i) ⟨_, _, rfl⟩ ((nm n.kind).getD i 0 : Nat)
 rw [← en] at hsl1 hsl2 ⊢
 exact DN.againK ((i + 1, _, _)) (⟨by show i + 1 ≤ (nm n.kind).length; omega, hsl1, hsl2⟩) (show (nm n.kind).length - (i + 1) < (nm n.kind).length - i by omega) (sx_) (Sp.all sp_)
 rw [nmS_size] at hge
 obtain rfl : i = (nm n.kind).length := by omega
 rw [show restTo n (nm n.kind).length = rest n from rfl]
 refine x_ rfl rfl rfl (nt_ (WC.seq (WC.no rfl (WC.exit (DN.then_exit (DN.then_exit (DN.block_exit (DN.then_normal (WC.cutK (fun z : Bool => z = moreB (rest n)) (fun z : Bool => [(7, .bool z)]) (fun z : Bool => row b4 (ntc (rest n) (.slice mo (rest n).key.length mc) (.slice oo (rest n).data.length oc)) 52 :: ⟨b14, .stringIter (nmS n.kind) (nm n.kind).length, true⟩ :: row b1 (ntc n (.slice ko n.key.length kc) (.slice eo n.data.length ec)) 52 :: H) ?_ ?_)))))))))
 refine WC.region (f_ 1 kr_ rfl rfl ?_)
 refine d_ kr_ rfl mem_ (by rfl) rfl ?_
 refine WL.y rfl (Yd.gtr rfl rfl) (m_ rfl rfl (WL.partP (t := 24) rfl (fun hg24 => ?_) (fun hg24 => ?_)))
 iterate 3 refine gn_ 24 rfl rfl rfl rfl ?_
 refine WL.y rfl (Yd.pickT rfl rfl) (m_ rfl rfl ?_)
 iterate 3 refine gn_ 29 rfl rfl rfl rfl ?_
 refine WL.y rfl (Yd.pickT rfl rfl) (m_ rfl rfl ?_)
 iterate 3 refine gn_ 34 rfl rfl rfl rfl ?_
 refine WL.y rfl (Yd.pickT rfl rfl) (m_ rfl rfl ?_)
 iterate 3 refine gn_ 39 rfl rfl rfl rfl ?_
 refine WL.y rfl (Yd.pickT rfl rfl) (m_ rfl rfl ?_)
 iterate 3 refine gn_ 44 rfl rfl rfl rfl ?_
 refine WL.y rfl (Yd.pickT rfl rfl) (m_ rfl rfl (gn_ 49 rfl rfl rfl rfl (gn_ 49 rfl rfl rfl rfl (WL.y rfl (Yd.pickT rfl rfl) (m_ rfl rfl ?_)))))
 iterate 3 refine gn_ 53 rfl rfl rfl rfl ?_
 refine WL.y rfl (Yd.pickT rfl rfl) (m_ rfl rfl ?_)
 iterate 4 refine gn_ 58 rfl rfl rfl rfl ?_
 refine WL.y rfl (Yd.pickT rfl rfl) (m_ rfl rfl ?_)
 iterate 4 refine gn_ 64 rfl rfl rfl rfl ?_
 refine WL.y rfl (Yd.pickT rfl rfl) (a_ rfl rfl (WL.nil ?_))
 exact DN.reachK (_) (by rw [Bool.eq_iff_iff]; simp only [moreB, Bool.or_eq_true, decide_eq_true_eq, true_iff]; first | omega | (simp only [*, Bool.false_eq_true, false_or, true_or, or_true]; omega) | (simp [*]; done) | (simp [*]; omega)) (Sx.put rfl (sx_)) (Sp.all sp_)
 refine gy_ 24 rfl rfl rfl (Yd.fieldAddr (k := 2) kr_ rfl) ?_
 refine WL.gh (dj := 24) rfl rfl rfl (Hd.load1 kr_ rfl mem_ (by rfl) ⟨_, rfl, ?_⟩)
 refine gy_ 24 rfl rfl rfl (Yd.gtr rfl rfl) (WL.y rfl (Yd.pickF rfl rfl) (m_ rfl rfl (WL.partP (t := 29) rfl (fun hg29 => ?_) (fun hg29 => ?_))))
 iterate 3 refine gn_ 29 rfl rfl rfl rfl ?_
 refine WL.y rfl (Yd.pickT rfl rfl) (m_ rfl rfl ?_)
 iterate 3 refine gn_ 34 rfl rfl rfl rfl ?_
 refine WL.y rfl (Yd.pickT rfl rfl) (m_ rfl rfl ?_)
 iterate 3 refine gn_ 39 rfl rfl rfl rfl ?_
 refine WL.y rfl (Yd.pickT rfl rfl) (m_ rfl rfl ?_)
 iterate 3 refine gn_ 44 rfl rfl rfl rfl ?_
 refine WL.y rfl (Yd.pickT rfl rfl) (m_ rfl rfl (gn_ 49 rfl rfl rfl rfl (gn_ 49 rfl rfl rfl rfl (WL.y rfl (Yd.pickT rfl rfl) (m_ rfl rfl ?_)))))
 iterate 3 refine gn_ 53 rfl rfl rfl rfl ?_
 refine WL.y rfl (Yd.pickT rfl rfl) (m_ rfl rfl ?_)
 iterate 4 refine gn_ 58 rfl rfl rfl rfl ?_
 refine WL.y rfl (Yd.pickT rfl rfl) (m_ rfl rfl ?_)
 iterate 4 refine gn_ 64 rfl rfl rfl rfl ?_
 refine WL.y rfl (Yd.pickT rfl rfl) (a_ rfl rfl (WL.nil ?_))
 exact DN.reachK (_) (by rw [Bool.eq_iff_iff]; simp only [moreB, Bool.or_eq_true, decide_eq_true_eq, true_iff]; first | omega | (simp only [*, Bool.false_eq_true, false_or, true_or, or_true]; omega) | (simp [*]; done) | (simp [*]; omega)) (Sx.put rfl (sx_)) (Sp.all sp_)
 refine gy_ 29 rfl rfl rfl (Yd.fieldAddr (k := 3) kr_ rfl) ?_
 refine WL.gh (dj := 29) rfl rfl rfl (Hd.load1 kr_ rfl mem_ (by rfl) ⟨_, rfl, ?_⟩)
 refine gy_ 29 rfl rfl rfl (Yd.gtr rfl rfl) (WL.y rfl (Yd.pickF rfl rfl) (m_ rfl rfl (WL.partP (t := 34) rfl (fun hg34 => ?_) (fun hg34 => ?_))))
 iterate 3 refine gn_ 34 rfl rfl rfl rfl ?_
 refine WL.y rfl (Yd.pickT rfl rfl) (m_ rfl rfl ?_)
 iterate 3 refine gn_ 39 rfl rfl rfl rfl ?_
 refine WL.y rfl (Yd.pickT rfl rfl) (m_ rfl rfl ?_)
 iterate 3 refine gn_ 44 rfl rfl rfl rfl ?_
 refine WL.y rfl (Yd.pickT rfl rfl) (m_ rfl rfl (gn_ 49 rfl rfl rfl rfl (gn_ 49 rfl rfl rfl rfl (WL.y rfl (Yd.pickT rfl rfl) (m_ rfl rfl ?_)))))
 iterate 3 refine gn_ 53 rfl rfl rfl rfl ?_
 refine WL.y rfl (Yd.pickT rfl rfl) (m_ rfl rfl ?_)
 iterate 4 refine gn_ 58 rfl rfl rfl rfl ?_
 refine WL.y rfl (Yd.pickT rfl rfl) (m_ rfl rfl ?_)
 iterate 4 refine gn_ 64 rfl rfl rfl rfl ?_
 refine WL.y rfl (Yd.pickT rfl rfl) (a_ rfl rfl (WL.nil ?_))
 exact DN.reachK (_) (by rw [Bool.eq_iff_iff]; simp only [moreB, Bool.or_eq_true, decide_eq_true_eq, true_iff]; first | omega | (simp only [*, Bool.false_eq_true, false_or, true_or, or_true]; omega) | (simp [*]; done) | (simp [*]; omega)) (Sx.put rfl (sx_)) (Sp.all sp_)
 refine gy_ 34 rfl rfl rfl (Yd.fieldAddr (k := 4) kr_ rfl) ?_
 refine WL.gh (dj := 34) rfl rfl rfl (Hd.load1 kr_ rfl mem_ (by rfl) ⟨_, rfl, ?_⟩)
 refine gy_ 34 rfl rfl rfl (Yd.gtr rfl rfl) (WL.y rfl (Yd.pickF rfl rfl) (m_ rfl rfl (WL.partP (t := 39) rfl (fun hg39 => ?_) (fun hg39 => ?_))))
 iterate 3 refine gn_ 39 rfl rfl rfl rfl ?_
 refine WL.y rfl (Yd.pickT rfl rfl) (m_ rfl rfl ?_)
 iterate 3 refine gn_ 44 rfl rfl rfl rfl ?_
 refine WL.y rfl (Yd.pickT rfl rfl) (m_ rfl rfl (gn_ 49 rfl rfl rfl rfl (gn_ 49 rfl rfl rfl rfl (WL.y rfl (Yd.pickT rfl rfl) (m_ rfl rfl ?_)))))
 iterate 3 refine gn_ 53 rfl rfl rfl rfl ?_
 refine WL.y rfl (Yd.pickT rfl rfl) (m_ rfl rfl ?_)
 iterate 4 refine gn_ 58 rfl rfl rfl rfl ?_
 refine WL.y rfl (Yd.pickT rfl rfl) (m_ rfl rfl ?_)
 iterate 4 refine gn_ 64 rfl rfl rfl rfl ?_
 refine WL.y rfl (Yd.pickT rfl rfl) (a_ rfl rfl (WL.nil ?_))
 exact DN.reachK (_) (by rw [Bool.eq_iff_iff]; simp only [moreB, Bool.or_eq_true, decide_eq_true_eq, true_iff]; first | omega | (simp only [*, Bool.false_eq_true, false_or, true_or, or_true]; omega) | (simp [*]; done) | (simp [*]; omega)) (Sx.put rfl (sx_)) (Sp.all sp_)
 refine gy_ 39 rfl rfl rfl (Yd.fieldAddr (k := 5) kr_ rfl) ?_
 refine WL.gh (dj := 39) rfl rfl rfl (Hd.load1 kr_ rfl mem_ (by rfl) ⟨_, rfl, ?_⟩)
 refine gy_ 39 rfl rfl rfl (Yd.gtr rfl rfl) (WL.y rfl (Yd.pickF rfl rfl) (m_ rfl rfl (WL.partP (t := 44) rfl (fun hg44 => ?_) (fun hg44 => ?_))))
 iterate 3 refine gn_ 44 rfl rfl rfl rfl ?_
 refine WL.y rfl (Yd.pickT rfl rfl) (m_ rfl rfl (gn_ 49 rfl rfl rfl rfl (gn_ 49 rfl rfl rfl rfl (WL.y rfl (Yd.pickT rfl rfl) (m_ rfl rfl ?_)))))
 iterate 3 refine gn_ 53 rfl rfl rfl rfl ?_
 refine WL.y rfl (Yd.pickT rfl rfl) (m_ rfl rfl ?_)
 iterate 4 refine gn_ 58 rfl rfl rfl rfl ?_
 refine WL.y rfl (Yd.pickT rfl rfl) (m_ rfl rfl ?_)
 iterate 4 refine gn_ 64 rfl rfl rfl rfl ?_
 refine WL.y rfl (Yd.pickT rfl rfl) (a_ rfl rfl (WL.nil ?_))
 exact DN.reachK (_) (by rw [Bool.eq_iff_iff]; simp only [moreB, Bool.or_eq_true, decide_eq_true_eq, true_iff]; first | omega | (simp only [*, Bool.false_eq_true, false_or, true_or, or_true]; omega) | (simp [*]; done) | (simp [*]; omega)) (Sx.put rfl (sx_)) (Sp.all sp_)
 refine gy_ 44 rfl rfl rfl (Yd.fieldAddr (k := 6) kr_ rfl) ?_
 refine WL.gh (dj := 44) rfl rfl rfl (Hd.load1 kr_ rfl mem_ (by rfl) ⟨_, rfl, ?_⟩)
 refine gy_ 44 rfl rfl rfl (Yd.neq rfl rfl) (WL.y rfl (Yd.pickF rfl rfl) (m_ rfl rfl (WL.partP (t := 49) rfl (fun hg49 => ?_) (fun hg49 => ?_))))
 refine gn_ 49 rfl rfl rfl rfl (gn_ 49 rfl rfl rfl rfl (WL.y rfl (Yd.pickT rfl rfl) (m_ rfl rfl ?_)))
 iterate 3 refine gn_ 53 rfl rfl rfl rfl ?_
 refine WL.y rfl (Yd.pickT rfl rfl) (m_ rfl rfl ?_)
 iterate 4 refine gn_ 58 rfl rfl rfl rfl ?_
 refine WL.y rfl (Yd.pickT rfl rfl) (m_ rfl rfl ?_)
 iterate 4 refine gn_ 64 rfl rfl rfl rfl ?_
 refine WL.y rfl (Yd.pickT rfl rfl) (a_ rfl rfl (WL.nil ?_))
 exact DN.reachK (_) (by rw [Bool.eq_iff_iff]; simp only [moreB, Bool.or_eq_true, decide_eq_true_eq, true_iff]; first | omega | (simp only [*, Bool.false_eq_true, false_or, true_or, or_true]; omega) | (simp [*]; done) | (simp [*]; omega)) (Sx.put rfl (sx_)) (Sp.all sp_)
 refine gy_ 49 rfl rfl rfl (Yd.fieldAddr (k := 7) kr_ rfl) ?_
 refine WL.gh (dj := 49) rfl rfl rfl (Hd.load1 kr_ rfl mem_ (by rfl) ⟨_, rfl, ?_⟩)
 refine WL.y rfl (Yd.pickF rfl rfl) (m_ rfl rfl (WL.part (t := 53) rfl (fun hg53 => ?_) (fun hg53 => ?_)))
 iterate 3 refine gn_ 53 rfl rfl rfl rfl ?_
 refine WL.y rfl (Yd.pickT rfl rfl) (m_ rfl rfl ?_)
 iterate 4 refine gn_ 58 rfl rfl rfl rfl ?_
 refine WL.y rfl (Yd.pickT rfl rfl) (m_ rfl rfl ?_)
 iterate 4 refine gn_ 64 rfl rfl rfl rfl ?_
 refine WL.y rfl (Yd.pickT rfl rfl) (a_ rfl rfl (WL.nil ?_))
 exact DN.reachK (_) (by rw [Bool.eq_iff_iff]; simp only [moreB, Bool.or_eq_true, decide_eq_true_eq, true_iff]; first | omega | (simp only [*, Bool.false_eq_true, false_or, true_or, or_true]; omega) | (simp [*]; done) | (simp [*]; omega)) (Sx.put rfl (sx_)) (Sp.all sp_)
 refine gy_ 53 rfl rfl rfl (Yd.fieldAddr (k := 8) kr_ rfl) ?_
 refine WL.gh (dj := 53) rfl rfl rfl (Hd.load1 kr_ rfl mem_ (by rfl) ⟨_, rfl, ?_⟩)
 refine gy_ 53 rfl rfl rfl (Yd.neq rfl rfl) (WL.y rfl (Yd.pickF rfl rfl) (m_ rfl rfl (WL.partP (t := 58) rfl (fun hg58 => ?_) (fun hg58 => ?_))))
 iterate 4 refine gn_ 58 rfl rfl rfl rfl ?_
 refine WL.y rfl (Yd.pickT rfl rfl) (m_ rfl rfl ?_)
 iterate 4 refine gn_ 64 rfl rfl rfl rfl ?_
 refine WL.y rfl (Yd.pickT rfl rfl) (a_ rfl rfl (WL.nil ?_))
 exact DN.reachK (_) (by rw [Bool.eq_iff_iff]; simp only [moreB, Bool.or_eq_true, decide_eq_true_eq, true_iff]; first | omega | (simp only [*, Bool.false_eq_true, false_or, true_or, or_true]; omega) | (simp [*]; done) | (simp [*]; omega)) (Sx.put rfl (sx_)) (Sp.all sp_)
 refine gy_ 58 rfl rfl rfl (Yd.fieldAddr (k := 9) kr_ rfl) ?_
 refine WL.gh (dj := 58) rfl rfl rfl (Hd.load1 kr_ rfl mem_ (by rfl) ⟨_, rfl, ?_⟩)
 refine gy_ 58 rfl rfl rfl (Yd.len (e := 5) kr_ rfl) ?_
 refine gy_ 58 rfl rfl rfl (Yd.gtr rfl rfl) (WL.y rfl (Yd.pickF rfl rfl) (m_ rfl rfl (WL.partP (t := 64) rfl (fun hg64 => ?_) (fun hg64 => ?_))))
 iterate 4 refine gn_ 64 rfl rfl rfl rfl ?_
 refine WL.y rfl (Yd.pickT rfl rfl) (a_ rfl rfl (WL.nil ?_))
 exact DN.reachK (_) (by rw [Bool.eq_iff_iff]; simp only [moreB, Bool.or_eq_true, decide_eq_true_eq, true_iff]; first | omega | (simp only [*, Bool.false_eq_true, false_or, true_or, or_true]; omega) | (simp [*]; done) | (simp [*]; omega)) (Sx.put rfl (sx_)) (Sp.all sp_)
 refine gy_ 64 rfl rfl rfl (Yd.fieldAddr (k := 10) kr_ rfl) ?_
 refine WL.gh (dj := 64) rfl rfl rfl (Hd.load1 kr_ rfl mem_ (by rfl) ⟨_, rfl, ?_⟩)
 refine gy_ 64 rfl rfl rfl (Yd.len (e := 5) kr_ rfl) ?_
 refine gy_ 64 rfl rfl rfl (Yd.gtr rfl rfl) (WL.y rfl (Yd.pickF rfl rfl) (a_ rfl rfl (WL.nil ?_)))
 exact DN.reachK (_) (by rw [Bool.eq_iff_iff]; simp only [moreB, Bool.or_eq_true, decide_eq_true_eq, true_iff]; first | omega | (simp only [*, Bool.false_eq_true, false_or, true_or, or_true]; omega) | (simp [*]; done) | (simp [*]; omega)) (Sx.put rfl (sx_)) (Sp.all sp_)
 intro z7 hz7
 refine WC.cutK (fun z : Bool => z = farB n) (fun z : Bool => [(8, .bool z)]) (fun z : Bool => row b4 (ntc (rest n) (.slice mo (rest n).key.length mc) (.slice oo (rest n).data.length oc)) 52 :: ⟨b14, .stringIter (nmS n.kind) (nm n.kind).length, true⟩ :: row b1 (ntc n (.slice ko n.key.length kc) (.slice eo n.data.length ec)) 52 :: H) ?_ ?_
 refine WC.region (f_ 6 kr_ rfl rfl ?_)
 refine d_ kr_ rfl mem_ (by rfl) rfl ?_
 refine WL.y rfl (Yd.lss rfl rfl) (m_ rfl rfl (WL.partP (t := 73) rfl (fun hg73 => ?_) (fun hg73 => ?_)))
 iterate 3 refine gn_ 73 rfl rfl rfl rfl ?_
 refine WL.y rfl (Yd.pickT rfl rfl) (m_ rfl rfl ?_)
 iterate 3 refine gn_ 78 rfl rfl rfl rfl ?_
 refine WL.y rfl (Yd.pickT rfl rfl) (m_ rfl rfl ?_)
 iterate 3 refine gn_ 83 rfl rfl rfl rfl ?_
 refine WL.y rfl (Yd.pickT rfl rfl) (m_ rfl rfl ?_)
 iterate 4 refine gn_ 88 rfl rfl rfl rfl ?_
 refine WL.y rfl (Yd.pickT rfl rfl) (m_ rfl rfl ?_)
 iterate 4 refine gn_ 94 rfl rfl rfl rfl ?_
 refine WL.y rfl (Yd.pickT rfl rfl) (a_ rfl rfl (WL.nil ?_))
 exact DN.reachK (_) (by rw [Bool.eq_iff_iff]; simp only [farB, Bool.or_eq_true, decide_eq_true_eq, true_iff]; omega) (Sx.put rfl (sx_)) (Sp.all sp_)
 refine gy_ 73 rfl rfl rfl (Yd.fieldAddr (k := 6) kr_ rfl) ?_
 refine WL.gh (dj := 73) rfl rfl rfl (Hd.load1 kr_ rfl mem_ (by rfl) ⟨_, rfl, ?_⟩)
 refine gy_ 73 rfl rfl rfl (Yd.geq rfl rfl) (WL.y rfl (Yd.pickF rfl rfl) (m_ rfl rfl (WL.partP (t := 78) rfl (fun hg78 => ?_) (fun hg78 => ?_))))
 iterate 3 refine gn_ 78 rfl rfl rfl rfl ?_
 refine WL.y rfl (Yd.pickT rfl rfl) (m_ rfl rfl ?_)
 iterate 3 refine gn_ 83 rfl rfl rfl rfl ?_
 refine WL.y rfl (Yd.pickT rfl rfl) (m_ rfl rfl ?_)
 iterate 4 refine gn_ 88 rfl rfl rfl rfl ?_
 refine WL.y rfl (Yd.pickT rfl rfl) (m_ rfl rfl ?_)
 iterate 4 refine gn_ 94 rfl rfl rfl rfl ?_
 refine WL.y rfl (Yd.pickT rfl rfl) (a_ rfl rfl (WL.nil ?_))
 exact DN.reachK (_) (by rw [Bool.eq_iff_iff]; simp only [farB, Bool.or_eq_true, decide_eq_true_eq, true_iff]; omega) (Sx.put rfl (sx_)) (Sp.all sp_)
 refine gy_ 78 rfl rfl rfl (Yd.fieldAddr (k := 8) kr_ rfl) ?_
 refine WL.gh (dj := 78) rfl rfl rfl (Hd.load1 kr_ rfl mem_ (by rfl) ⟨_, rfl, ?_⟩)
 refine gy_ 78 rfl rfl rfl (Yd.lss rfl rfl) (WL.y rfl (Yd.pickF rfl rfl) (m_ rfl rfl (WL.partP (t := 83) rfl (fun hg83 => ?_) (fun hg83 => ?_))))
 iterate 3 refine gn_ 83 rfl rfl rfl rfl ?_
 refine WL.y rfl (Yd.pickT rfl rfl) (m_ rfl rfl ?_)
 iterate 4 refine gn_ 88 rfl rfl rfl rfl ?_
 refine WL.y rfl (Yd.pickT rfl rfl) (m_ rfl rfl ?_)
 iterate 4 refine gn_ 94 rfl rfl rfl rfl ?_
 refine WL.y rfl (Yd.pickT rfl rfl) (a_ rfl rfl (WL.nil ?_))
 exact DN.reachK (_) (by rw [Bool.eq_iff_iff]; simp only [farB, Bool.or_eq_true, decide_eq_true_eq, true_iff]; omega) (Sx.put rfl (sx_)) (Sp.all sp_)
 refine gy_ 83 rfl rfl rfl (Yd.fieldAddr (k := 8) kr_ rfl) ?_
 refine WL.gh (dj := 83) rfl rfl rfl (Hd.load1 kr_ rfl mem_ (by rfl) ⟨_, rfl, ?_⟩)
 refine gy_ 83 rfl rfl rfl (Yd.gtr rfl rfl) (WL.y rfl (Yd.pickF rfl rfl) (m_ rfl rfl (WL.partP (t := 88) rfl (fun hg88 => ?_) (fun hg88 => ?_))))
 iterate 4 refine gn_ 88 rfl rfl rfl rfl ?_
 refine WL.y rfl (Yd.pickT rfl rfl) (m_ rfl rfl ?_)
 iterate 4 refine gn_ 94 rfl rfl rfl rfl ?_
 refine WL.y rfl (Yd.pickT rfl rfl) (a_ rfl rfl (WL.nil ?_))
 exact DN.reachK (_) (by rw [Bool.eq_iff_iff]; simp only [farB, Bool.or_eq_true, decide_eq_true_eq, true_iff]; omega) (Sx.put rfl (sx_)) (Sp.all sp_)
 refine gy_ 88 rfl rfl rfl (Yd.fieldAddr (k := 9) kr_ rfl) ?_
 refine WL.gh (dj := 88) rfl rfl rfl (Hd.load1 kr_ rfl mem_ (by rfl) ⟨_, rfl, ?_⟩)
 refine gy_ 88 rfl rfl rfl (Yd.len (e := 5) kr_ rfl) ?_
 refine gy_ 88 rfl rfl rfl (Yd.gtr rfl rfl) (WL.y rfl (Yd.pickF rfl rfl) (m_ rfl rfl (WL.partP (t := 94) rfl (fun hg94 => ?_) (fun hg94 => ?_))))
 iterate 4 refine gn_ 94 rfl rfl rfl rfl ?_
 refine WL.y rfl (Yd.pickT rfl rfl) (a_ rfl rfl (WL.nil ?_))
 exact DN.reachK (_) (by rw [Bool.eq_iff_iff]; simp only [farB, Bool.or_eq_true, decide_eq_true_eq, true_iff]; omega) (Sx.put rfl (sx_)) (Sp.all sp_)
 refine gy_ 94 rfl rfl rfl (Yd.fieldAddr (k := 10) kr_ rfl) ?_
 refine WL.gh (dj := 94) rfl rfl rfl (Hd.load1 kr_ rfl mem_ (by rfl) ⟨_, rfl, ?_⟩)
 refine gy_ 94 rfl rfl rfl (Yd.len (e := 5) kr_ rfl) ?_
 refine gy_ 94 rfl rfl rfl (Yd.gtr rfl rfl) (WL.y rfl (Yd.pickF rfl rfl) (a_ rfl rfl (WL.nil ?_)))
 exact DN.reachK (_) (by rw [Bool.eq_iff_iff]; simp only [farB, Bool.or_eq_true, decide_eq_true_eq, true_iff]; omega) (Sx.put rfl (sx_)) (Sp.all sp_)
 intro z8 hz8
 refine WC.seq (sr_ (m_ rfl rfl (WL.y rfl (Yd.eqlS rfl rfl) (m_ rfl rfl (WL.partP (t := 102) rfl (fun hg102 => ?_) (fun hg102 => ?_))))))
 refine gn_ 102 rfl rfl rfl rfl (WL.y rfl (Yd.pickT rfl rfl) (m_ rfl rfl (gn_ 105 rfl rfl rfl rfl (WL.y rfl (Yd.pickT rfl rfl) (m_ rfl rfl ?_)))))
 iterate 4 refine gn_ 108 rfl rfl rfl rfl ?_
 iterate 3 refine gu_ 112 rfl rfl rfl ?_
 refine gn_ 108 rfl rfl rfl rfl (gn_ 108 rfl rfl rfl rfl ?_)
 iterate 4 refine gu_ 117 rfl rfl rfl ?_
 refine gn_ 108 rfl rfl rfl rfl (WL.y rfl (Yd.pickT rfl rfl) (nt_ (WC.yes rfl (sr_ (a_ rfl rfl (nt_ (WC.ret (DN.then_ret (DN.fit (C := H) sp_ ?_)))))))))
 refine DN.ret1 Tryz.results83 rfl ?_
 rotate_left
 refine gy_ 102 rfl rfl rfl (Yd.move rfl) (WL.y rfl (Yd.pickF rfl rfl) (m_ rfl rfl (WL.part (t := 105) rfl (fun hg105 => ?_) (fun hg105 => ?_))))
 refine gn_ 105 rfl rfl rfl rfl (WL.y rfl (Yd.pickT rfl rfl) (m_ rfl rfl ?_))
 iterate 4 refine gn_ 108 rfl rfl rfl rfl ?_
 iterate 3 refine gu_ 112 rfl rfl rfl ?_
 refine gn_ 108 rfl rfl rfl rfl (gn_ 108 rfl rfl rfl rfl ?_)
 iterate 4 refine gu_ 117 rfl rfl rfl ?_
 refine gn_ 108 rfl rfl rfl rfl (WL.y rfl (Yd.pickT rfl rfl) (nt_ (WC.yes rfl (sr_ (a_ rfl rfl (nt_ (WC.ret (DN.then_ret (DN.fit (C := H) sp_ ?_)))))))))
 refine DN.ret1 Tryz.results83 rfl ?_
 rotate_left
 refine gy_ 105 rfl rfl rfl (Yd.move rfl) (WL.y rfl (Yd.pickF rfl rfl) (m_ rfl rfl (WL.part (t := 108) rfl (fun hg108 => ?_) (fun hg108 => ?_))))
 iterate 4 refine gn_ 108 rfl rfl rfl rfl ?_
 iterate 3 refine gu_ 112 rfl rfl rfl ?_
 refine gn_ 108 rfl rfl rfl rfl (gn_ 108 rfl rfl rfl rfl ?_)
 iterate 4 refine gu_ 117 rfl rfl rfl ?_
 refine gn_ 108 rfl rfl rfl rfl (WL.y rfl (Yd.pickT rfl rfl) (nt_ (WC.yes rfl (sr_ (a_ rfl rfl (nt_ (WC.ret (DN.then_ret (DN.fit (C := H) sp_ ?_)))))))))
 refine DN.ret1 Tryz.results83 rfl ?_
 rotate_left
 refine gy_ 108 rfl rfl rfl (Yd.fieldAddr (k := 0) kr_ rfl) ?_
 refine WL.gh (dj := 108) rfl rfl rfl (Hd.load1 kr_ rfl mem_ (by rfl) ⟨_, rfl, ?_⟩)
 refine gy_ 108 rfl rfl rfl (Yd.geq rfl rfl) (gy_ 108 rfl rfl rfl (Yd.move rfl) (WL.partP (t := 112) rfl (fun hg112 => ?_) (fun hg112 => ?_)))
 refine gy_ 112 rfl rfl rfl (Yd.fieldAddr (k := 0) kr_ rfl) ?_
 refine WL.gh (dj := 112) rfl rfl rfl (Hd.load1 kr_ rfl mem_ (by rfl) ⟨_, rfl, ?_⟩)
 refine gy_ 112 rfl rfl rfl (Yd.leq rfl rfl) (gy_ 108 rfl rfl rfl (Yd.pickT rfl rfl) (gy_ 108 rfl rfl rfl (Yd.move rfl) (WL.partP (t := 117) rfl (fun hg117 => ?_) (fun hg117 => ?_))))
 refine gy_ 117 rfl rfl rfl (Yd.fieldAddr (k := 9) kr_ rfl) ?_
 refine WL.gh (dj := 117) rfl rfl rfl (Hd.load1 kr_ rfl mem_ (by rfl) ⟨_, rfl, ?_⟩)
 refine gy_ 117 rfl rfl rfl (Yd.len (e := 5) kr_ rfl) ?_
 refine gy_ 117 rfl rfl rfl (Yd.eql rfl rfl) (gy_ 108 rfl rfl rfl (Yd.pickT rfl rfl) (WL.y rfl (Yd.pickF rfl rfl) (nt_ (WC.ite rfl (fun h123 => ?_) (fun h123 => ?_)))))
 refine sr_ (a_ rfl rfl (nt_ (WC.ret (DN.then_ret (DN.fit (C := H) sp_ ?_)))))
 refine DN.ret1 Tryz.results83 rfl ?_
 rotate_left
 refine WC.skip (ts_ (WC.region (a_ rfl rfl (nt_ (WC.ret (DN.fit (C := H) sp_ ?_))))))
 refine DN.ret1 Tryz.results83 rfl ?_
 rotate_left
 iterate 4 refine gn_ 117 rfl rfl rfl rfl ?_
 refine gy_ 108 rfl rfl rfl (Yd.pickF rfl rfl) (WL.y rfl (Yd.pickF rfl rfl) (nt_ (WC.no rfl (WC.skip (ts_ (WC.region (a_ rfl rfl (nt_ (WC.ret (DN.fit (C := H) sp_ ?_))))))))))
 refine DN.ret1 Tryz.results83 rfl ?_
 rotate_left
 iterate 3 refine gn_ 112 rfl rfl rfl rfl ?_
 refine gy_ 108 rfl rfl rfl (Yd.pickF rfl rfl) (gy_ 108 rfl rfl rfl (Yd.move rfl) ?_)
 iterate 4 refine gn_ 117 rfl rfl rfl rfl ?_
 refine gy_ 108 rfl rfl rfl (Yd.pickF rfl rfl) (WL.y rfl (Yd.pickF rfl rfl) (nt_ (WC.no rfl (WC.skip (ts_ (WC.region (a_ rfl rfl (nt_ (WC.ret (DN.fit (C := H) sp_ ?_))))))))))
 refine DN.ret1 Tryz.results83 rfl ?_
 rotate_left
 all_goals
  first
    | (have e : noteBad n = true := by
        simp only [noteBad, Bool.or_eq_true, Bool.and_eq_true, decide_eq_true_eq, ← hz7, ← hz8, ← nmS_empty]
        first | exact .inl hg102 | exact .inr (.inl hg105) | exact .inr (.inr (.inl hg108)) | exact .inr (.inr (.inr ⟨hg112, hg117, h123⟩))
       exact ⟨by rw [e]; rfl, rfl⟩)
    | (have e : noteBad n = false := by
        rw [Bool.eq_false_iff]
        intro h
        simp only [noteBad, Bool.or_eq_true, Bool.and_eq_true, decide_eq_true_eq, ← hz7, ← hz8, ← nmS_empty] at h
        rcases h with h | h | h | ⟨h1, h2, h3⟩
        · exact hg102 h
        · rw [hg105] at h; cases h
        · rw [hg108] at h; cases h
        omega
       exact ⟨by rw [e]; rfl, rfl⟩)
end Go.Proofs.YtkamlondepceiaaGreat

set_option linter.unusedVariables false
set_option linter.unusedSimpArgs false
set_option maxHeartbeats 2000000
namespace Go.Proofs.YtkamlondepceiaaGreat
open Go.SL
theorem right_reads (k : Kp) (va vr : Value) (ha : IsSl va k.asked.length) (hr : IsSl vr k.reply.length) (H : List Ck) : Reads Tryz.prog 92 [.agg (kc k va vr).toArray] H (.bool (decide (rightP k))) := by
 refine Tells.enter Tryz.func92 rfl Tryz.ntmps92 rfl ?_
 intro w0 R
 obtain ⟨ao, ac, rfl⟩ := ha
 obtain ⟨ro, rc, rfl⟩ := hr
 refine sr_ (WL.h rfl (Hd.boxA rfl fun b1 => ⟨_, rfl, ?_⟩))
 refine a_ rfl rfl (ntsr_ (f_ 0 kr_ rfl rfl ?_))
 refine d_ kr_ rfl mem_ (by rfl) rfl ?_
 refine WL.y rfl (Yd.gtr rfl rfl) (m_ rfl rfl (WL.partP (t := 6) rfl (fun hg6 => ?_) (fun hg6 => ?_)))
 refine gy_ 6 rfl rfl rfl (Yd.fieldAddr (k := 1) kr_ rfl) ?_
 refine WL.gh (dj := 6) rfl rfl rfl (Hd.load1 kr_ rfl mem_ (by rfl) ⟨_, rfl, ?_⟩)
 refine gy_ 6 rfl rfl rfl (Yd.geq rfl rfl) (WL.y rfl (Yd.pickT rfl rfl) (m_ rfl rfl (WL.part (t := 11) rfl (fun hg11 => ?_) (fun hg11 => ?_))))
 refine gy_ 11 rfl rfl rfl (Yd.fieldAddr (k := 1) kr_ rfl) ?_
 refine WL.gh (dj := 11) rfl rfl rfl (Hd.load1 kr_ rfl mem_ (by rfl) ⟨_, rfl, ?_⟩)
 refine gy_ 11 rfl rfl rfl (Yd.lss rfl rfl) (WL.y rfl (Yd.pickT rfl rfl) (m_ rfl rfl (WL.part (t := 16) rfl (fun hg16 => ?_) (fun hg16 => ?_))))
 refine gy_ 16 rfl rfl rfl (Yd.fieldAddr (k := 3) kr_ rfl) ?_
 refine WL.gh (dj := 16) rfl rfl rfl (Hd.load1 kr_ rfl mem_ (by rfl) ⟨_, rfl, ?_⟩)
 refine gy_ 16 rfl rfl rfl (Yd.len (e := 5) kr_ rfl) ?_
 refine gy_ 16 rfl rfl rfl (Yd.leq rfl rfl) (WL.y rfl (Yd.pickT rfl rfl) (m_ rfl rfl (WL.part (t := 22) rfl (fun hg22 => ?_) (fun hg22 => ?_))))
 refine gy_ 22 rfl rfl rfl (Yd.fieldAddr (k := 5) kr_ rfl) ?_
 refine WL.gh (dj := 22) rfl rfl rfl (Hd.load1 kr_ rfl mem_ (by rfl) ⟨_, rfl, ?_⟩)
 refine gy_ 22 rfl rfl rfl (Yd.len (e := 5) kr_ rfl) ?_
 refine gy_ 22 rfl rfl rfl (Yd.leq rfl rfl) (WL.y rfl (Yd.pickT rfl rfl) (m_ rfl rfl (WL.part (t := 28) rfl (fun hg28 => ?_) (fun hg28 => ?_))))
 refine gy_ 28 rfl rfl rfl (Yd.fieldAddr (k := 4) kr_ rfl) ?_
 refine WL.gh (dj := 28) rfl rfl rfl (Hd.load1 kr_ rfl mem_ (by rfl) ⟨_, rfl, ?_⟩)
 refine gy_ 28 rfl rfl rfl (Yd.eql rfl rfl) (gy_ 28 rfl rfl rfl (Yd.move rfl) (WL.partP (t := 32) rfl (fun hg32 => ?_) (fun hg32 => ?_)))
 iterate 3 refine gn_ 32 rfl rfl rfl rfl ?_
 refine gy_ 28 rfl rfl rfl (Yd.pickT rfl rfl) (WL.y rfl (Yd.pickT rfl rfl) (a_ rfl rfl (nt_ (WC.ret (DN.fit (C := H) sp_ ?_)))))
 refine DN.ret1 Tryz.results92 rfl (⟨?_, rfl⟩)
 congr 1
 rw [Bool.eq_iff_iff]
 simp only [decide_eq_true_eq, decide_eq_false_iff_not, eq_self, Bool.false_eq_true, false_iff, true_iff] at *
 simp only [rightP]
 omega
 refine gy_ 32 rfl rfl rfl (Yd.fieldAddr (k := 4) kr_ rfl) ?_
 refine WL.gh (dj := 32) rfl rfl rfl (Hd.load1 kr_ rfl mem_ (by rfl) ⟨_, rfl, ?_⟩)
 refine gy_ 32 rfl rfl rfl (Yd.eql rfl rfl) (gy_ 28 rfl rfl rfl (Yd.pickF rfl rfl) (WL.y rfl (Yd.pickT rfl rfl) (a_ rfl rfl (nt_ (WC.ret (DN.fit (C := H) sp_ ?_))))))
 refine DN.ret1 Tryz.results92 rfl (⟨?_, rfl⟩)
 congr 1
 rw [Bool.eq_iff_iff]
 simp only [decide_eq_true_eq, decide_eq_false_iff_not, eq_self, Bool.false_eq_true, false_iff, true_iff] at *
 simp only [rightP]
 omega
 iterate 4 refine gn_ 28 rfl rfl rfl rfl ?_
 iterate 3 refine gu_ 32 rfl rfl rfl ?_
 refine gn_ 28 rfl rfl rfl rfl (WL.y rfl (Yd.pickF rfl rfl) (a_ rfl rfl (nt_ (WC.ret (DN.fit (C := H) sp_ ?_)))))
 refine DN.ret1 Tryz.results92 rfl (⟨?_, rfl⟩)
 congr 1
 rw [Bool.eq_iff_iff]
 simp only [decide_eq_true_eq, decide_eq_false_iff_not, eq_self, Bool.false_eq_true, false_iff, true_iff] at *
 simp only [rightP]
 omega
 iterate 4 refine gn_ 22 rfl rfl rfl rfl ?_
 refine WL.y rfl (Yd.pickF rfl rfl) (m_ rfl rfl ?_)
 iterate 4 refine gn_ 28 rfl rfl rfl rfl ?_
 iterate 3 refine gu_ 32 rfl rfl rfl ?_
 refine gn_ 28 rfl rfl rfl rfl (WL.y rfl (Yd.pickF rfl rfl) (a_ rfl rfl (nt_ (WC.ret (DN.fit (C := H) sp_ ?_)))))
 refine DN.ret1 Tryz.results92 rfl (⟨?_, rfl⟩)
 congr 1
 rw [Bool.eq_iff_iff]
 simp only [decide_eq_true_eq, decide_eq_false_iff_not, eq_self, Bool.false_eq_true, false_iff, true_iff] at *
 simp only [rightP]
 omega
 iterate 4 refine gn_ 16 rfl rfl rfl rfl ?_
 refine WL.y rfl (Yd.pickF rfl rfl) (m_ rfl rfl ?_)
 iterate 4 refine gn_ 22 rfl rfl rfl rfl ?_
 refine WL.y rfl (Yd.pickF rfl rfl) (m_ rfl rfl ?_)
 iterate 4 refine gn_ 28 rfl rfl rfl rfl ?_
 iterate 3 refine gu_ 32 rfl rfl rfl ?_
 refine gn_ 28 rfl rfl rfl rfl (WL.y rfl (Yd.pickF rfl rfl) (a_ rfl rfl (nt_ (WC.ret (DN.fit (C := H) sp_ ?_)))))
 refine DN.ret1 Tryz.results92 rfl (⟨?_, rfl⟩)
 congr 1
 rw [Bool.eq_iff_iff]
 simp only [decide_eq_true_eq, decide_eq_false_iff_not, eq_self, Bool.false_eq_true, false_iff, true_iff] at *
 simp only [rightP]
 omega
 iterate 3 refine gn_ 11 rfl rfl rfl rfl ?_
 refine WL.y rfl (Yd.pickF rfl rfl) (m_ rfl rfl ?_)
 iterate 4 refine gn_ 16 rfl rfl rfl rfl ?_
 refine WL.y rfl (Yd.pickF rfl rfl) (m_ rfl rfl ?_)
 iterate 4 refine gn_ 22 rfl rfl rfl rfl ?_
 refine WL.y rfl (Yd.pickF rfl rfl) (m_ rfl rfl ?_)
 iterate 4 refine gn_ 28 rfl rfl rfl rfl ?_
 iterate 3 refine gu_ 32 rfl rfl rfl ?_
 refine gn_ 28 rfl rfl rfl rfl (WL.y rfl (Yd.pickF rfl rfl) (a_ rfl rfl (nt_ (WC.ret (DN.fit (C := H) sp_ ?_)))))
 refine DN.ret1 Tryz.results92 rfl (⟨?_, rfl⟩)
 congr 1
 rw [Bool.eq_iff_iff]
 simp only [decide_eq_true_eq, decide_eq_false_iff_not, eq_self, Bool.false_eq_true, false_iff, true_iff] at *
 simp only [rightP]
 omega
 iterate 3 refine gn_ 6 rfl rfl rfl rfl ?_
 refine WL.y rfl (Yd.pickF rfl rfl) (m_ rfl rfl ?_)
 iterate 3 refine gn_ 11 rfl rfl rfl rfl ?_
 refine WL.y rfl (Yd.pickF rfl rfl) (m_ rfl rfl ?_)
 iterate 4 refine gn_ 16 rfl rfl rfl rfl ?_
 refine WL.y rfl (Yd.pickF rfl rfl) (m_ rfl rfl ?_)
 iterate 4 refine gn_ 22 rfl rfl rfl rfl ?_
 refine WL.y rfl (Yd.pickF rfl rfl) (m_ rfl rfl ?_)
 iterate 4 refine gn_ 28 rfl rfl rfl rfl ?_
 iterate 3 refine gu_ 32 rfl rfl rfl ?_
 refine gn_ 28 rfl rfl rfl rfl (WL.y rfl (Yd.pickF rfl rfl) (a_ rfl rfl (nt_ (WC.ret (DN.fit (C := H) sp_ ?_)))))
 refine DN.ret1 Tryz.results92 rfl (⟨?_, rfl⟩)
 congr 1
 rw [Bool.eq_iff_iff]
 simp only [decide_eq_true_eq, decide_eq_false_iff_not, eq_self, Bool.false_eq_true, false_iff, true_iff] at *
 simp only [rightP]
 omega
theorem of_reads (k : Kp) (va vr : Value) (h1 : va.oneCell' = true) (h2 : vr.oneCell' = true) (H : List Ck) : Reads Tryz.prog 94 [.agg (kc k va vr).toArray] H (.agg (keyc k.order k.step k.undo).toArray) := by
 refine Tells.enter Tryz.func94 rfl Tryz.ntmps94 rfl ?_
 intro w0 R
 refine sr_ (WL.h rfl (Hd.boxA rfl fun b1 => ⟨_, rfl, ?_⟩))
 refine WL.h rfl (Hd.alloc (zs := [.int .u32 0, .int .i64 0, .bool false]) kr_ fun b2 => ⟨_, rfl, ?_⟩)
 refine ntsr_ (f_ 0 kr_ rfl rfl ?_)
 refine d_ kr_ rfl mem_ (by rfl) rfl ?_
 refine f_ 1 kr_ rfl rfl ?_
 refine d_ kr_ rfl mem_ (by rfl) rfl ?_
 refine f_ 2 kr_ rfl rfl ?_
 refine d_ kr_ rfl mem_ (by rfl) rfl ?_
 refine WL.y rfl (Yd.buildL (pl := [(0, 1), (1, 1), (2, 1)]) (zs := [.int .u32 0, .int .i64 0, .bool false]) (parts := [(0, .tmp 4), (1, .tmp 6), (2, .tmp 8)]) (vs := [(0, _), (1, _), (2, _)]) (cells := [_, _, _]) kr_ kr_ rfl rfl) ?_
 refine WL.s (Hd.storeAll (n := 3) kr_ rfl rfl (by rfl) one_ fr_ (by rfl) ⟨rfl, ?_⟩)
 refine nt_ (WC.ret (DN.retCF (s := 3) H Tryz.results94 kr_ rfl List.mem_cons_self (by rfl) ((List.sublist_cons_self _ _).trans (List.sublist_cons_self _ _)) ?_))
 exact ⟨rfl, rfl⟩
theorem number_reads (o : BitVec 32) (s : Int) (u : Bool) (h0 : 0 ≤ s) (h : s < 16) (H : List Ck) : Reads Tryz.prog 117 [.agg (keyc o s u).toArray] H (.int .u64 (numb o s u : Nat)) := by
 refine Tells.enter Tryz.func117 rfl Tryz.ntmps117 rfl ?_
 intro w0 R
 refine sr_ (WL.h rfl (Hd.boxA rfl fun b1 => ⟨_, rfl, ?_⟩))
 refine WL.y rfl (Yd.assign (v := .int .u64 ((0#64).toNat : Int)) rfl) (ntsr_ (f_ 0 kr_ rfl rfl ?_))
 refine d_ kr_ rfl mem_ (by rfl) rfl ?_
 refine WL.y rfl (Yd.conv32_64 _ kr_ kr_ rfl rfl) ?_
 refine WL.y rfl (Yd.shl64 _ 8 rfl rfl rfl rfl) (f_ 1 kr_ rfl rfl ?_)
 refine d_ kr_ rfl mem_ (by rfl) rfl ?_
 refine WL.y rfl (Yd.to64 _ kr_ kr_ rfl rfl) ?_
 refine WL.y rfl (Yd.shl64 _ 1 rfl rfl rfl rfl) (WL.y rfl (Yd.or64 _ _ rfl rfl rfl rfl) (a_ rfl rfl (nt_ (WC.seq (sr_ (f_ 2 kr_ rfl rfl ?_))))))
 refine d_ kr_ rfl mem_ (by rfl) rfl ?_
 refine nt_ (WC.cond rfl (fun h14 => ?_) (fun h14 => ?_))
 refine WC.region (m_ rfl rfl (WL.y rfl (Yd.or64 _ (1#64) rfl rfl rfl rfl) (a_ rfl rfl (ntsr_ (m_ rfl rfl (a_ rfl rfl (nt_ (WC.ret (DN.fit (C := H) sp_ ?_)))))))))
 refine DN.ret1 Tryz.results117 rfl (⟨?_, rfl⟩)
 subst h14
 rw [numB_u h0 h]
 simp [numb]
 refine WC.skip (ts_ (WC.region (m_ rfl rfl (a_ rfl rfl (nt_ (WC.ret (DN.fit (C := H) sp_ ?_)))))))
 refine DN.ret1 Tryz.results117 rfl (⟨?_, rfl⟩)
 subst h14
 rw [numB_of h0 h]
 simp [numb]
end Go.Proofs.YtkamlondepceiaaGreat
