/-
  The walks of the frames' package.
-/
import Derived.Test.YtfacofbobmlmiaaRows
import Derived.Test.YtfacofbobmlmiaaField
import Derived.Test.YtfacofbobmlmiaaSum
import Derived.Test.YtfacofbobmlmiaaFrameMath3
set_option linter.unusedVariables false
set_option linter.unusedSimpArgs false
set_option maxHeartbeats 2000000
namespace Go.Proofs.Ytfacofbobmlmiaa
open Go.SL Go.Sum
theorem ofInt16_nat (k : Nat) : BitVec.ofInt 16 (k : Int) = BitVec.ofNat 16 k := by simp
theorem of_more' (a b : List B8') : crcMore (crcOf a) b = crcOf (a ++ b) := crcMore_append 0#32 a b
theorem frame_bytes (l : List B8') : ([] ++ beW ((55206#16).setWidth 64) 2 ++ beW ((BitVec.ofNat 16 l.length).setWidth 64) 2) ++ beW ((crcMore (crcOf (be2 l.length)) l).setWidth 64) 4 ++ l = frameOf l := by
  rw [of_more']
  have : beW ((55206#16).setWidth 64) 2 = [215#8, 166#8] := by decide
  rw [this]
  rfl


/-- drayage/frame.Size -/
theorem size_reads (n : Int) (H : List Ck) : Reads Try.prog 32 [.int .i64 n] H (.int .i64 (frameSize n)) := by
  refine Tells.enter Try.func32 rfl Try.ntmps32 rfl ?_
  intro w0 R
  refine WC.seq ?_
  refine WC.region ?_
  refine WL.y rfl (Yd.assign rfl) ?_
  refine WL.nil ?_
  refine DN.then_normal ?_
  refine WC.seq ?_
  refine WC.seq ?_
  refine WC.region ?_
  refine WL.y rfl (Yd.move rfl) ?_
  refine WL.y rfl (Yd.lss rfl rfl) ?_
  refine WL.y rfl (Yd.move rfl) ?_
  refine WL.partP (t := 5) rfl (fun hg5 => ?_) (fun hg5 => ?_)
  · refine WL.gn (dj := 5) rfl rfl rfl rfl ?_
    refine WL.gn (dj := 5) rfl rfl rfl rfl ?_
    refine WL.y rfl (Yd.pickT rfl rfl) ?_
    refine WL.nil ?_
    refine DN.then_normal ?_
    refine WC.yes rfl ?_
    refine WC.seq ?_
    refine WC.region ?_
    refine WL.y rfl (Yd.assign rfl) ?_
    refine WL.nil ?_
    refine DN.then_normal ?_
    refine WC.ret ?_
    refine DN.then_ret ?_
    refine DN.ret1 Try.results32 rfl ?_
    exact ⟨by rw [frameSize, if_neg (by omega)], rfl⟩
  · refine WL.gy (dj := 5) rfl rfl rfl (Yd.move rfl) ?_
    refine WL.gy (dj := 5) rfl rfl rfl (Yd.gtr rfl rfl) ?_
    refine WL.y rfl (Yd.pickF rfl rfl) ?_
    refine WL.nil ?_
    refine DN.then_normal ?_
    refine WC.ite rfl (fun h8 => ?_) (fun h8 => ?_)
    · refine WC.seq ?_
      refine WC.region ?_
      refine WL.y rfl (Yd.assign rfl) ?_
      refine WL.nil ?_
      refine DN.then_normal ?_
      refine WC.ret ?_
      refine DN.then_ret ?_
      refine DN.ret1 Try.results32 rfl ?_
      exact ⟨by rw [frameSize, if_neg (by omega)], rfl⟩
    · refine WC.skip ?_
      refine DN.then_normal ?_
      refine WC.seq ?_
      refine WC.region ?_
      refine WL.y rfl (Yd.move rfl) ?_
      refine WL.y rfl (Yd.add rfl rfl (by omega) (by omega)) ?_
      refine WL.y rfl (Yd.assign rfl) ?_
      refine WL.nil ?_
      refine DN.then_normal ?_
      refine WC.ret ?_
      refine DN.ret1 Try.results32 rfl ?_
      exact ⟨by rw [frameSize, if_pos (by omega)]; congr 1; omega, rfl⟩

/-- drayage/frame.Put -/
theorem put2_tells (v : Value) (l : List B8') (H : List Ck) (hv : Bs v l H) (hl : l.length ≤ 9223372036854775807) : Tells Try.prog 28 [v] H fun r H' => ∃ v' C', r = .tuple #[v', .int .i64 (putErr l)] ∧ Ob 5 v' (putOf l) C' ∧ H' = C' ++ H := by
  refine Tells.enter Try.func28 rfl Try.ntmps28 rfl ?_
  intro w0 R
  obtain ⟨vo, vc, rfl, hvc⟩ := hv.form
  refine WC.seq ?_
  refine WC.region ?_
  refine WL.y rfl (Yd.assign rfl) ?_
  refine WL.y rfl (Yd.assign rfl) ?_
  refine WL.nil ?_
  refine DN.then_normal ?_
  refine WC.seq ?_
  refine WC.seq ?_
  refine WC.region ?_
  refine WL.y rfl (Yd.move rfl) ?_
  refine WL.y rfl (Yd.len (e := 5) (by kernel_rfl) rfl) ?_
  refine WL.y rfl (Yd.gtr rfl rfl) ?_
  refine WL.nil ?_
  refine DN.then_normal ?_
  refine WC.ite rfl (fun h10 => ?_) (fun h10 => ?_)
  · have h2 : ¬ l.length ≤ 2000 := by omega
    refine WC.seq ?_
    refine WC.region ?_
    refine WL.y rfl (Yd.assign rfl) ?_
    refine WL.y rfl (Yd.assign rfl) ?_
    refine WL.nil ?_
    refine DN.then_normal ?_
    refine WC.ret ?_
    refine DN.then_ret ?_
    try (refine DN.forget (C7 ++ H) (List.Sublist.append (List.Sublist.refl _) (List.sublist_append_right _ _)) ?_)
    refine DN.ret2 Try.results28 rfl rfl ?_
    exact ⟨_, [], by rw [putErr, if_neg h2], by rw [putOf, if_neg h2]; exact Ob.nil _, rfl⟩
  · have h2 : l.length ≤ 2000 := by omega
    refine WC.skip ?_
    refine DN.then_normal ?_
    refine WC.seq ?_
    refine WC.region ?_
    refine WL.c (C := []) (D := H) rfl (Ent.func Try.call43 rfl) (newWriter_tells) (List.Perm.refl _) ?_
    rintro x H1 ⟨b1, rfl, rfl⟩
    refine WL.y rfl (Yd.move rfl) ?_
    refine WL.y rfl (Yd.len (e := 5) (by kernel_rfl) rfl) ?_
    refine WL.y rfl (Yd.to16 (BitVec.ofNat 16 l.length) (by kernel_rfl) (by kernel_rfl) rfl (ofInt16_nat _)) ?_
    refine WL.c (D := H) rfl (Ent.func Try.call44 rfl) (wU16_tells b1 _ [] [] (BitVec.ofNat 16 l.length) (Ob.nil _) (by simp)) (List.Perm.refl _) ?_
    rintro x H2 ⟨rfl, v1, C1, ho1, rfl⟩
    refine WL.c (D := H) rfl (Ent.func Try.call45 rfl) (wDone_tells b1 v1 _ C1 ho1 (by simp [beW_length])) (List.Perm.refl _) ?_
    rintro x C2 ⟨v2, K2, rfl, ho2, hne2, rfl⟩
    replace ho2 : Ob 5 v2 (be2 l.length) C2 := ho2
    refine WL.y rfl (Yd.move rfl) ?_
    refine WL.y rfl (Yd.extract rfl rfl) ?_
    refine WL.y rfl (Yd.extract rfl rfl) ?_
    refine WL.y rfl (Yd.assign rfl) ?_
    refine WL.y rfl (Yd.assign rfl) ?_
    refine WL.nil ?_
    refine DN.then_normal ?_
    refine WC.seq ?_
    refine WC.region ?_
    refine WL.c (C := []) (D := C2 ++ H) rfl (Ent.func Try.call43 rfl) (newWriter_tells) (List.Perm.refl _) ?_
    rintro x H4 ⟨b3, rfl, rfl⟩
    refine WL.c (D := C2 ++ H) rfl (Ent.func Try.call44 rfl) (wU16_tells b3 _ [] [] 55206#16 (Ob.nil _) (by simp)) (List.Perm.refl _) ?_
    rintro x H5 ⟨rfl, v3, C3, ho3, rfl⟩
    refine WL.y rfl (Yd.move rfl) ?_
    refine WL.y rfl (Yd.len (e := 5) (by kernel_rfl) rfl) ?_
    refine WL.y rfl (Yd.to16 (BitVec.ofNat 16 l.length) (by kernel_rfl) (by kernel_rfl) rfl (ofInt16_nat _)) ?_
    refine WL.c (D := C2 ++ H) rfl (Ent.func Try.call44 rfl) (wU16_tells b3 v3 _ C3 (BitVec.ofNat 16 l.length) ho3 (by simp [beW_length])) (List.Perm.refl _) ?_
    rintro x H6 ⟨rfl, v4, C4, ho4, rfl⟩
    refine WL.y rfl (Yd.move rfl) ?_
    refine WL.r rfl (Ent.func Try.call19 rfl) (of_reads _ (be2 l.length) _ (ho2.bs.mono fun x hx => by simp [hx]) (by rw [be2_length]; omega)) ?_
    refine WL.y rfl (Yd.move rfl) ?_
    refine WL.r rfl (Ent.func Try.call22 rfl) (more_reads _ _ l _ (hv.mono fun x hx => by simp [hx]) (by omega)) ?_
    refine WL.c (D := C2 ++ H) rfl (Ent.func Try.call46 rfl) (wU32_tells b3 v4 _ C4 _ ho4 (by simp [beW_length])) (List.Perm.refl _) ?_
    rintro x H7 ⟨rfl, v5, C5, ho5, rfl⟩
    refine WL.c (D := C2 ++ H) rfl (Ent.func Try.call45 rfl) (wDone_tells b3 v5 _ C5 ho5 (by simp [beW_length])) (List.Perm.refl _) ?_
    rintro x C6 ⟨v6, K6, rfl, ho6, hne6, rfl⟩
    refine WL.y rfl (Yd.move rfl) ?_
    refine WL.y rfl (Yd.extract rfl rfl) ?_
    refine WL.y rfl (Yd.extract rfl rfl) ?_
    refine WL.y rfl (Yd.assign rfl) ?_
    refine WL.y rfl (Yd.assign rfl) ?_
    refine WL.nil ?_
    refine DN.then_normal ?_
    refine WC.seq ?_
    refine WC.region ?_
    refine WL.y rfl (Yd.move rfl) ?_
    refine WL.y rfl (Yd.move rfl) ?_
    refine WL.h rfl (Hd.appendB (e := 5) (zs := [.int .u8 0]) (C := C6) (D := C2 ++ H) (by kernel_rfl) (by kernel_rfl) rfl rfl rfl ho6 (hv.mono fun x hx => by simp [hx]) (by simp [beW_length]; omega) (List.Perm.refl _) fun v7 C7 ho7 _ => ⟨_, rfl, ?_⟩)
    refine WL.y rfl (Yd.assign rfl) ?_
    refine WL.y rfl (Yd.assign rfl) ?_
    refine WL.nil ?_
    refine DN.then_normal ?_
    refine WC.ret ?_
    try (refine DN.forget (C7 ++ H) (List.Sublist.append (List.Sublist.refl _) (List.sublist_append_right _ _)) ?_)
    refine DN.ret2 Try.results28 rfl rfl ?_
    refine ⟨v7, C7, by rw [putErr, if_pos h2], ?_, rfl⟩
    rw [frame_bytes] at ho7
    rw [putOf, if_pos h2]
    exact ho7

/-- drayage/frame.Get -/
theorem get2_tells (v : Value) (b : List B8') (at_ : Int) (H : List Ck) (hv : Bs v b H) (hl : b.length ≤ 1000000) (ha : at_ ≤ 9223372036854775807) : Tells Try.prog 34 [v, .int .i64 at_] H fun r H' => ∃ u C, r = .tuple #[u, .int .i64 (getOf b at_).2.1, .int .i64 (getOf b at_).2.2] ∧ Ob 5 u (getOf b at_).1 C ∧ H' = C ++ H := by
  refine Tells.enter Try.func34 rfl Try.ntmps34 rfl ?_
  intro w0 R
  obtain ⟨vo, vc, rfl, hvc⟩ := hv.form
  refine WC.seq ?_
  refine WC.region ?_
  refine WL.y rfl (Yd.assign rfl) ?_
  refine WL.y rfl (Yd.assign rfl) ?_
  refine WL.y rfl (Yd.assign rfl) ?_
  refine WL.nil ?_
  refine DN.then_normal ?_
  refine WC.seq ?_
  refine WC.block ?_
  refine WC.seq ?_
  refine WC.region ?_
  refine WL.y rfl (Yd.move rfl) ?_
  refine WL.y rfl (Yd.lss rfl rfl) ?_
  refine WL.y rfl (Yd.move rfl) ?_
  refine WL.partP (t := 15) rfl (fun hg15 => ?_) (fun hg15 => ?_)
  · refine WL.gn (dj := 15) rfl rfl rfl rfl ?_
    refine WL.gn (dj := 15) rfl rfl rfl rfl ?_
    refine WL.gn (dj := 15) rfl rfl rfl rfl ?_
    refine WL.gn (dj := 15) rfl rfl rfl rfl ?_
    refine WL.y rfl (Yd.pickT rfl rfl) ?_
    refine WL.y rfl (Yd.assign rfl) ?_
    refine WL.nil ?_
    refine DN.then_normal ?_
    refine WC.yes rfl ?_
    refine WC.seq ?_
    refine WC.region ?_
    refine WL.y rfl (Yd.assign rfl) ?_
    refine WL.y rfl (Yd.assign rfl) ?_
    refine WL.y rfl (Yd.assign rfl) ?_
    refine WL.nil ?_
    refine DN.then_normal ?_
    refine WC.ret ?_
    refine DN.block_ret ?_
    refine DN.then_ret ?_
    refine DN.ret3 Try.results34 rfl rfl rfl ?_
    have hg : getOf b at_ = ([], 0, 2) := by rw [getOf, if_pos (by omega)]
    rw [hg]
    exact ⟨_, [], rfl, Ob.nil _, rfl⟩
  · refine WL.gy (dj := 15) rfl rfl rfl (Yd.move rfl) ?_
    refine WL.gy (dj := 15) rfl rfl rfl (Yd.move rfl) ?_
    refine WL.gy (dj := 15) rfl rfl rfl (Yd.len (e := 5) (by kernel_rfl) rfl) ?_
    refine WL.gy (dj := 15) rfl rfl rfl (Yd.gtr rfl rfl) ?_
    refine WL.y rfl (Yd.pickF rfl rfl) ?_
    refine WL.y rfl (Yd.assign rfl) ?_
    refine WL.nil ?_
    refine DN.then_normal ?_
    refine WC.ite rfl (fun h12 => ?_) (fun h12 => ?_)
    · refine WC.seq ?_
      refine WC.region ?_
      refine WL.y rfl (Yd.assign rfl) ?_
      refine WL.y rfl (Yd.assign rfl) ?_
      refine WL.y rfl (Yd.assign rfl) ?_
      refine WL.nil ?_
      refine DN.then_normal ?_
      refine WC.ret ?_
      refine DN.block_ret ?_
      refine DN.then_ret ?_
      refine DN.ret3 Try.results34 rfl rfl rfl ?_
      have hg : getOf b at_ = ([], 0, 2) := by rw [getOf, if_pos (by omega)]
      rw [hg]
      exact ⟨_, [], rfl, Ob.nil _, rfl⟩
    · obtain ⟨k, rfl⟩ : ∃ k : Nat, at_ = k := ⟨at_.toNat, by omega⟩
      have hkl : k ≤ b.length := by omega
      obtain ⟨p, hp⟩ : ∃ p, p = (b.drop k).take 8 := ⟨_, rfl⟩
      have hpb : Bs (.slice (if vc = k then vo else vo.map (·.add (k * 1))) (min b.length (k + 8) - k) (vc - k)) p H := by
        have := hv.sub (i := k) (j := min b.length (k + 8)) (by omega) (by omega)
        rwa [piece_eq b k hkl, ← hp] at this
      have hpl : p.length ≤ 8 := by rw [hp]; exact piece_length _
      refine WC.seq ?_
      refine WC.region ?_
      refine WL.y rfl (Yd.move rfl) ?_
      refine WL.y rfl (Yd.move rfl) ?_
      refine WL.y rfl (Yd.len (e := 5) (by kernel_rfl) rfl) ?_
      refine WL.y rfl (Yd.eql rfl rfl) ?_
      refine WL.y rfl (Yd.move rfl) ?_
      refine WL.partP (t := 26) rfl (fun hg26 => ?_) (fun hg26 => ?_)
      · refine WL.gn (dj := 26) rfl rfl rfl rfl ?_
        refine WL.gn (dj := 26) rfl rfl rfl rfl ?_
        refine WL.gn (dj := 26) rfl rfl rfl rfl ?_
        refine WL.gn (dj := 26) rfl rfl rfl rfl ?_
        refine WL.gn (dj := 26) rfl rfl rfl rfl ?_
        refine WL.y rfl (Yd.pickT rfl rfl) ?_
        refine WL.y rfl (Yd.assign rfl) ?_
        refine WL.nil ?_
        refine DN.then_normal ?_
        refine WC.yes rfl ?_
        refine WC.seq ?_
        refine WC.region ?_
        refine WL.y rfl (Yd.assign rfl) ?_
        refine WL.y rfl (Yd.assign rfl) ?_
        refine WL.y rfl (Yd.assign rfl) ?_
        refine WL.nil ?_
        refine DN.then_normal ?_
        refine WC.ret ?_
        refine DN.block_ret ?_
        refine DN.then_ret ?_
        refine DN.ret3 Try.results34 rfl rfl rfl ?_
        have hg : getOf b k = ([], 0, 30) := by rw [getOf, if_neg (by omega), if_pos (.inl (by omega))]
        rw [hg]
        exact ⟨_, [], rfl, Ob.nil _, rfl⟩
      · refine WL.gy (dj := 26) rfl rfl rfl (Yd.move rfl) ?_
        refine WL.gy (dj := 26) rfl rfl rfl (Yd.move rfl) ?_
        refine WL.elemN (e := 5) (dj := 26) (by kernel_rfl) (by kernel_rfl) (by kernel_rfl) rfl rfl (rfl) (hv) (bc_get (i := k) (by omega)) (by omega) rfl rfl rfl rfl rfl ?_
        intro _
        refine WL.gy (dj := 26) rfl rfl rfl (Yd.eql8 _ (0#8) rfl rfl rfl rfl) ?_
        refine WL.y rfl (Yd.pickF rfl rfl) ?_
        refine WL.y rfl (Yd.assign rfl) ?_
        refine WL.nil ?_
        refine DN.then_normal ?_
        refine WC.ite rfl (fun h21 => ?_) (fun h21 => ?_)
        · refine WC.seq ?_
          refine WC.region ?_
          refine WL.y rfl (Yd.assign rfl) ?_
          refine WL.y rfl (Yd.assign rfl) ?_
          refine WL.y rfl (Yd.assign rfl) ?_
          refine WL.nil ?_
          refine DN.then_normal ?_
          refine WC.ret ?_
          refine DN.block_ret ?_
          refine DN.then_ret ?_
          refine DN.ret3 Try.results34 rfl rfl rfl ?_
          have hg : getOf b k = ([], 0, 30) := by
            have hkb : k < b.length := by omega
            rw [getOf, if_neg (by omega), if_pos (.inr (by simpa [List.getD, hkb] using h21))]
          rw [hg]
          exact ⟨_, [], rfl, Ob.nil _, rfl⟩
        · refine WC.skip ?_
          refine DN.block_normal ?_
          refine DN.then_normal ?_
          refine WC.seq ?_
          refine WC.region ?_
          have hkb : k < b.length := by omega
          refine WL.y rfl (Yd.move rfl) ?_
          refine WL.y rfl (Yd.move rfl) ?_
          refine WL.y rfl (Yd.move rfl) ?_
          refine WL.y rfl (Yd.len (e := 5) (by kernel_rfl) rfl) ?_
          refine WL.y rfl (Yd.move rfl) ?_
          refine WL.y rfl (Yd.add rfl rfl (by omega) (by omega)) ?_
          refine WL.y rfl (Yd.min2 rfl rfl) ?_
          refine WL.renamed (t := 39) (v := .int .i64 ((min b.length (k + 8) : Nat) : Int)) rfl (congrArg (Value.int .i64) (by omega)) ?_
          refine WL.y rfl (Yd.slice (e := 5) (s := 1) (i := k) (j := min b.length (k + 8)) (by kernel_rfl) (by kernel_rfl) rfl ⟨_, _, rfl, rfl⟩ ⟨_, _, rfl, rfl⟩ (by omega) (by omega)) ?_
          refine WL.ca rfl (Ent.func Try.call48 rfl) (newReader_tells _ p H hpb (by omega)) ?_
          rintro x H1 ⟨br, v1, C1, rfl, hv1, rfl⟩
          refine WL.y rfl (Yd.assign rfl) ?_
          refine WL.nil ?_
          refine DN.then_normal ?_
          refine WC.seq ?_
          refine WC.region ?_
          refine WL.y rfl (Yd.move rfl) ?_
          refine WL.c (D := H) rfl (Ent.func Try.call49 rfl) (rU16_tells br v1 p false C1 hv1 (by omega)) (List.Perm.refl _) ?_
          rintro x H2 ⟨v2, rfl, hv2, rfl⟩
          refine WL.y rfl (Yd.move rfl) ?_
          refine WL.c (D := H) rfl (Ent.func Try.call49 rfl) (rU16_tells br v2 (r1 p) (s1 p) C1 hv2 (Nat.le_trans (rdRest_le _ _ _) (by omega))) (List.Perm.refl _) ?_
          rintro x H3 ⟨v3, rfl, hv3, rfl⟩
          refine WL.y rfl (Yd.int16 _ (by kernel_rfl) (by kernel_rfl) rfl rfl) ?_
          refine WL.y rfl (Yd.move rfl) ?_
          refine WL.c (D := H) rfl (Ent.func Try.call50 rfl) (rU32_tells br v3 (r2 p) (s2 p) C1 hv3 (Nat.le_trans (rdRest_le _ _ _) (Nat.le_trans (rdRest_le _ _ _) (by omega)))) (List.Perm.refl _) ?_
          rintro x H4 ⟨v4, rfl, hv4, rfl⟩
          refine WL.y rfl (Yd.assign rfl) ?_
          refine WL.y rfl (Yd.assign rfl) ?_
          refine WL.y rfl (Yd.assign rfl) ?_
          refine WL.nil ?_
          refine DN.then_normal ?_
          refine WC.seq ?_
          refine WC.seq ?_
          refine WC.region ?_
          obtain ⟨n, hn⟩ : ∃ n, n = ((beN (rdGot (r1 p) (s1 p) 2)).setWidth 16).toNat := ⟨_, rfl⟩
          rw [← hn]
          have hn9 : n < 65536 := by rw [hn]; exact BitVec.isLt _
          refine WL.y rfl (Yd.move rfl) ?_
          refine WL.c (D := H) rfl (Ent.func Try.call51 rfl) (rDone_tells br v4 (r3 p) (s3 p) C1 hv4) (List.Perm.refl _) ?_
          rintro x H5 ⟨rfl, rfl⟩
          refine WL.renamed (t := 50) (v := .int .i64 (doneOf p)) rfl (rfl) ?_
          refine WL.y rfl (Yd.neq rfl rfl) ?_
          refine WL.y rfl (Yd.move rfl) ?_
          refine WL.partP (t := 52) rfl (fun hg52 => ?_) (fun hg52 => ?_)
          · refine WL.gn (dj := 52) rfl rfl rfl rfl ?_
            refine WL.gn (dj := 52) rfl rfl rfl rfl ?_
            refine WL.y rfl (Yd.pickT rfl rfl) ?_
            refine WL.y rfl (Yd.move rfl) ?_
            refine WL.gn (dj := 56) rfl rfl rfl rfl ?_
            refine WL.gn (dj := 56) rfl rfl rfl rfl ?_
            refine WL.y rfl (Yd.pickT rfl rfl) ?_
            refine WL.y rfl (Yd.move rfl) ?_
            refine WL.gn (dj := 60) rfl rfl rfl rfl ?_
            refine WL.gn (dj := 60) rfl rfl rfl rfl ?_
            refine WL.gn (dj := 60) rfl rfl rfl rfl ?_
            refine WL.gn (dj := 60) rfl rfl rfl rfl ?_
            refine WL.gn (dj := 60) rfl rfl rfl rfl ?_
            refine WL.gn (dj := 60) rfl rfl rfl rfl ?_
            refine WL.gn (dj := 60) rfl rfl rfl rfl ?_
            refine WL.y rfl (Yd.pickT rfl rfl) ?_
            refine WL.nil ?_
            refine DN.then_normal ?_
            refine WC.yes rfl ?_
            refine WC.seq ?_
            refine WC.region ?_
            refine WL.y rfl (Yd.assign rfl) ?_
            refine WL.y rfl (Yd.assign rfl) ?_
            refine WL.y rfl (Yd.assign rfl) ?_
            refine WL.nil ?_
            refine DN.then_normal ?_
            refine WC.ret ?_
            refine DN.then_ret ?_
            refine DN.forget H (List.sublist_append_right _ _) ?_
            refine DN.ret3 Try.results34 rfl rfl rfl ?_
            have hg := getOf_bad hkb h21 (code_short hp hg52)
            rw [hg]
            exact ⟨_, [], rfl, Ob.nil _, rfl⟩
          · refine WL.gy (dj := 52) rfl rfl rfl (Yd.move rfl) ?_
            refine WL.gy (dj := 52) rfl rfl rfl (Yd.neq16 _ (55206#16) rfl rfl rfl rfl) ?_
            refine WL.y rfl (Yd.pickF rfl rfl) ?_
            refine WL.y rfl (Yd.move rfl) ?_
            refine WL.partP (t := 56) rfl (fun hg56 => ?_) (fun hg56 => ?_)
            · refine WL.gn (dj := 56) rfl rfl rfl rfl ?_
              refine WL.gn (dj := 56) rfl rfl rfl rfl ?_
              refine WL.y rfl (Yd.pickT rfl rfl) ?_
              refine WL.y rfl (Yd.move rfl) ?_
              refine WL.gn (dj := 60) rfl rfl rfl rfl ?_
              refine WL.gn (dj := 60) rfl rfl rfl rfl ?_
              refine WL.gn (dj := 60) rfl rfl rfl rfl ?_
              refine WL.gn (dj := 60) rfl rfl rfl rfl ?_
              refine WL.gn (dj := 60) rfl rfl rfl rfl ?_
              refine WL.gn (dj := 60) rfl rfl rfl rfl ?_
              refine WL.gn (dj := 60) rfl rfl rfl rfl ?_
              refine WL.y rfl (Yd.pickT rfl rfl) ?_
              refine WL.nil ?_
              refine DN.then_normal ?_
              refine WC.yes rfl ?_
              refine WC.seq ?_
              refine WC.region ?_
              refine WL.y rfl (Yd.assign rfl) ?_
              refine WL.y rfl (Yd.assign rfl) ?_
              refine WL.y rfl (Yd.assign rfl) ?_
              refine WL.nil ?_
              refine DN.then_normal ?_
              refine WC.ret ?_
              refine DN.then_ret ?_
              refine DN.forget H (List.sublist_append_right _ _) ?_
              refine DN.ret3 Try.results34 rfl rfl rfl ?_
              have hg := getOf_bad hkb h21 (by
                obtain ⟨h8, e1, e2, e3⟩ := code_facts hp (show doneOf p = 0 by first | exact hg52 | omega)
                unfold codeAt
                rw [if_neg]
                rintro ⟨c1, c2, c3, c4, c5⟩
                rw [e2] at hn
                rw [← hn] at c3 c4 c5
                rw [e1] at hg56
                exact hg56 c2)
              rw [hg]
              exact ⟨_, [], rfl, Ob.nil _, rfl⟩
            · refine WL.gy (dj := 56) rfl rfl rfl (Yd.move rfl) ?_
              refine WL.gy (dj := 56) rfl rfl rfl (Yd.gtr rfl rfl) ?_
              refine WL.y rfl (Yd.pickF rfl rfl) ?_
              refine WL.y rfl (Yd.move rfl) ?_
              refine WL.partP (t := 60) rfl (fun hg60 => ?_) (fun hg60 => ?_)
              · refine WL.gn (dj := 60) rfl rfl rfl rfl ?_
                refine WL.gn (dj := 60) rfl rfl rfl rfl ?_
                refine WL.gn (dj := 60) rfl rfl rfl rfl ?_
                refine WL.gn (dj := 60) rfl rfl rfl rfl ?_
                refine WL.gn (dj := 60) rfl rfl rfl rfl ?_
                refine WL.gn (dj := 60) rfl rfl rfl rfl ?_
                refine WL.gn (dj := 60) rfl rfl rfl rfl ?_
                refine WL.y rfl (Yd.pickT rfl rfl) ?_
                refine WL.nil ?_
                refine DN.then_normal ?_
                refine WC.yes rfl ?_
                refine WC.seq ?_
                refine WC.region ?_
                refine WL.y rfl (Yd.assign rfl) ?_
                refine WL.y rfl (Yd.assign rfl) ?_
                refine WL.y rfl (Yd.assign rfl) ?_
                refine WL.nil ?_
                refine DN.then_normal ?_
                refine WC.ret ?_
                refine DN.then_ret ?_
                refine DN.forget H (List.sublist_append_right _ _) ?_
                refine DN.ret3 Try.results34 rfl rfl rfl ?_
                have hg := getOf_bad hkb h21 (by
                  obtain ⟨h8, e1, e2, e3⟩ := code_facts hp (show doneOf p = 0 by first | exact hg52 | omega)
                  unfold codeAt
                  rw [if_neg]
                  rintro ⟨c1, c2, c3, c4, c5⟩
                  rw [e2] at hn
                  rw [← hn] at c3 c4 c5
                  omega)
                rw [hg]
                exact ⟨_, [], rfl, Ob.nil _, rfl⟩
              · refine WL.gy (dj := 60) rfl rfl rfl (Yd.move rfl) ?_
                refine WL.gy (dj := 60) rfl rfl rfl (Yd.move rfl) ?_
                refine WL.gy (dj := 60) rfl rfl rfl (Yd.len (e := 5) (by kernel_rfl) rfl) ?_
                refine WL.gy (dj := 60) rfl rfl rfl (Yd.move rfl) ?_
                refine WL.gy (dj := 60) rfl rfl rfl (Yd.sub rfl rfl (by omega) (by omega)) ?_
                refine WL.gy (dj := 60) rfl rfl rfl (Yd.sub rfl rfl (by omega) (by omega)) ?_
                refine WL.gy (dj := 60) rfl rfl rfl (Yd.gtr rfl rfl) ?_
                refine WL.y rfl (Yd.pickF rfl rfl) ?_
                refine WL.nil ?_
                refine DN.then_normal ?_
                refine WC.ite rfl (fun h68 => ?_) (fun h68 => ?_)
                · refine WC.seq ?_
                  refine WC.region ?_
                  refine WL.y rfl (Yd.assign rfl) ?_
                  refine WL.y rfl (Yd.assign rfl) ?_
                  refine WL.y rfl (Yd.assign rfl) ?_
                  refine WL.nil ?_
                  refine DN.then_normal ?_
                  refine WC.ret ?_
                  refine DN.then_ret ?_
                  refine DN.forget H (List.sublist_append_right _ _) ?_
                  refine DN.ret3 Try.results34 rfl rfl rfl ?_
                  have hg := getOf_bad hkb h21 (by
                    obtain ⟨h8, e1, e2, e3⟩ := code_facts hp (show doneOf p = 0 by first | exact hg52 | omega)
                    unfold codeAt
                    rw [if_neg]
                    rintro ⟨c1, c2, c3, c4, c5⟩
                    rw [e2] at hn
                    rw [← hn] at c3 c4 c5
                    simp only [List.length_drop] at c4
                    omega)
                  rw [hg]
                  exact ⟨_, [], rfl, Ob.nil _, rfl⟩
                · have hn2 : n ≤ 2000 := by omega
                  have hn3 : k + 8 + n ≤ b.length := by omega
                  refine WC.skip ?_
                  refine DN.then_normal ?_
                  refine WC.seq ?_
                  refine WC.region ?_
                  refine WL.y rfl (Yd.move rfl) ?_
                  refine WL.y rfl (Yd.move rfl) ?_
                  refine WL.y rfl (Yd.add rfl rfl (by omega) (by omega)) ?_
                  refine WL.y rfl (Yd.move rfl) ?_
                  refine WL.y rfl (Yd.add rfl rfl (by omega) (by omega)) ?_
                  refine WL.y rfl (Yd.move rfl) ?_
                  refine WL.y rfl (Yd.add rfl rfl (by omega) (by omega)) ?_
                  refine WL.y rfl (Yd.slice (e := 5) (s := 1) (i := k + 8) (j := k + 8 + n) (by kernel_rfl) (by kernel_rfl) rfl ⟨_, _, rfl, rfl⟩ ⟨_, _, rfl, rfl⟩ (by omega) (by omega)) ?_
                  refine WL.y rfl (Yd.assign rfl) ?_
                  refine WL.nil ?_
                  refine DN.then_normal ?_
                  refine WC.seq ?_
                  refine WC.seq ?_
                  refine WC.region ?_
                  refine WL.y rfl (Yd.move rfl) ?_
                  refine WL.y rfl (Yd.move rfl) ?_
                  refine WL.y rfl (Yd.add rfl rfl (by omega) (by omega)) ?_
                  refine WL.y rfl (Yd.move rfl) ?_
                  refine WL.y rfl (Yd.add rfl rfl (by omega) (by omega)) ?_
                  refine WL.y rfl (Yd.slice (e := 5) (s := 1) (i := k + 2) (j := k + 4) (by kernel_rfl) (by kernel_rfl) rfl ⟨_, _, rfl, rfl⟩ ⟨_, _, rfl, rfl⟩ (by omega) (by omega)) ?_
                  refine WL.r rfl (Ent.func Try.call19 rfl) (of_reads _ (((b.drop (k + 2)).take 2)) _ ((hv.cut (i := k + 2) (n := 2) (by omega) (by omega)).mono fun x hx => List.mem_append_right _ hx) (by simp; omega)) ?_
                  refine WL.y rfl (Yd.move rfl) ?_
                  refine WL.r rfl (Ent.func Try.call22 rfl) (more_reads _ _ ((b.drop (k + 8)).take n) _ ((hv.cut (i := k + 8) (n := n) rfl (by omega)).mono fun x hx => List.mem_append_right _ hx) (by simp; omega)) ?_
                  refine WL.y rfl (Yd.move rfl) ?_
                  refine WL.y rfl (Yd.neq32 _ _ rfl rfl rfl rfl) ?_
                  refine WL.nil ?_
                  refine DN.then_normal ?_
                  refine WC.ite rfl (fun h87 => ?_) (fun h87 => ?_)
                  · refine WC.seq ?_
                    refine WC.region ?_
                    refine WL.y rfl (Yd.assign rfl) ?_
                    refine WL.y rfl (Yd.assign rfl) ?_
                    refine WL.y rfl (Yd.assign rfl) ?_
                    refine WL.nil ?_
                    refine DN.then_normal ?_
                    refine WC.ret ?_
                    refine DN.then_ret ?_
                    refine DN.forget H (List.sublist_append_right _ _) ?_
                    refine DN.ret3 Try.results34 rfl rfl rfl ?_
                    have hg := getOf_bad hkb h21 (by
                      obtain ⟨h8, e1, e2, e3⟩ := code_facts hp (show doneOf p = 0 by first | exact hg52 | omega)
                      unfold codeAt
                      rw [if_neg]
                      rintro ⟨c1, c2, c3, c4, c5⟩
                      rw [e2] at hn
                      rw [← hn] at c3 c4 c5
                      rw [e3] at h87
                      apply h87
                      rw [← c5]
                      simp only [List.drop_drop])
                    rw [hg]
                    exact ⟨_, [], rfl, Ob.nil _, rfl⟩
                  · refine WC.skip ?_
                    refine DN.then_normal ?_
                    refine WC.seq ?_
                    refine WC.region ?_
                    refine WL.h rfl (Hd.buildBytes (e := 5) [] (by kernel_rfl) (by kernel_rfl) (by kernel_rfl) rfl rfl (by kernel_rfl) fun rb => ⟨_, rfl, ?_⟩)
                    refine WL.y rfl (Yd.move rfl) ?_
                    refine WL.h rfl (Hd.appendB (e := 5) (zs := [.int .u8 0]) (a := []) (b := (b.drop (k + 8)).take n) (C := [row rb (bc []) 5]) (D := row br [v4, .bool (s3 p)] 85 :: C1 ++ H) (by kernel_rfl) (by kernel_rfl) rfl rfl rfl (.inr ⟨rb, 0, [], rfl, Nat.le_refl _, by simp only [maxLen]; omega, rfl, rfl, rfl⟩) ((hv.cut (i := k + 8) (n := n) rfl (by omega)).mono fun x hx => by simp [hx]) (by simp; omega) (List.Perm.refl _) fun v' C' ho' hn' => ⟨_, rfl, ?_⟩)
                    refine WL.y rfl (Yd.move rfl) ?_
                    refine WL.y rfl (Yd.add rfl rfl (by omega) (by omega)) ?_
                    refine WL.y rfl (Yd.move rfl) ?_
                    refine WL.y rfl (Yd.add rfl rfl (by omega) (by omega)) ?_
                    refine WL.y rfl (Yd.assign rfl) ?_
                    refine WL.y rfl (Yd.assign rfl) ?_
                    refine WL.y rfl (Yd.assign rfl) ?_
                    refine WL.nil ?_
                    refine DN.then_normal ?_
                    refine WC.ret ?_
                    refine DN.forget (C' ++ H) (List.Sublist.append (List.Sublist.refl _) (List.sublist_append_right _ _)) ?_
                    refine DN.ret3 Try.results34 rfl rfl rfl ?_
                    have hg : getOf b k = ((b.drop (k + 8)).take n, (k : Int) + 8 + n, 0) := by
                      have hl9 : ((b.drop (k + 8)).take n).length = n := by simp; omega
                      have := getOf_good (l := (b.drop (k + 8)).take n) hkb h21 (by
                        obtain ⟨h8, e1, e2, e3⟩ := code_facts hp (show doneOf p = 0 by first | exact hg52 | omega)
                        rw [e2] at hn
                        rw [e1] at hg56
                        rw [e3] at h87
                        unfold codeAt
                        rw [← hn, if_pos]
                        · simp only [List.drop_drop]
                        · refine ⟨h8, by simpa using hg56, hn2, by simp only [List.length_drop]; omega, ?_⟩
                          simp only [List.drop_drop]
                          simpa using h87)
                      rw [this, hl9]
                    rw [hg]
                    exact ⟨v', C', rfl, by simpa using ho', rfl⟩

/-- drayage/frame.All -/
theorem all2_tells (v : Value) (b : List B8') (H : List Ck) (hv : Bs v b H) (hl : b.length ≤ 1000000) : Tells Try.prog 36 [v] H fun r H' => ∃ u vs C D, r = .tuple #[u, .int .i64 (allOf b).2.1, .int .i64 (allOf b).2.2] ∧ Own u (allOf b).1.length vs 22 1 C ∧ Obs 5 vs (allOf b).1 D ∧ H' = C ++ (D ++ H) := by
  refine Tells.enter Try.func36 rfl Try.ntmps36 rfl ?_
  intro w0 R
  obtain ⟨vo, vc, rfl, hvc⟩ := hv.form
  refine WC.seq ?_
  refine WC.region ?_
  refine WL.y rfl (Yd.assign rfl) ?_
  refine WL.y rfl (Yd.assign rfl) ?_
  refine WL.y rfl (Yd.assign rfl) ?_
  refine WL.nil ?_
  refine DN.then_normal ?_
  refine WC.scope ?_
  refine WC.seq ?_
  refine WC.region ?_
  refine WL.y rfl (Yd.assign rfl) ?_
  refine WL.nil ?_
  refine DN.then_normal ?_
  refine WC.seq ?_
  refine WC.region ?_
  refine WL.y rfl (Yd.assign rfl) ?_
  refine WL.nil ?_
  refine DN.then_normal ?_
  refine WC.seq ?_
  refine WC.label ?_
  refine DN.then_normal ?_
  refine WC.seq ?_
  refine WC.block ?_
  refine WC.loop (fun z : Nat × Nat × List (List B8') × Value × List Value × List Ck × List Ck => FrRest b z.2.2.1 z.1 z.2.1 ∧ Own z.2.2.2.1 z.2.2.1.length z.2.2.2.2.1 22 1 z.2.2.2.2.2.1 ∧ Obs 5 z.2.2.2.2.1 z.2.2.1 z.2.2.2.2.2.2) (fun z => [(0, .slice vo b.length vc), (5, z.2.2.2.1), (6, .int .i64 z.2.1)]) (fun z => z.2.2.2.2.2.1 ++ (z.2.2.2.2.2.2 ++ H)) (fun z => z.1) (b.length + 1, 0, [], .slice none 0 0, [], [], []) ⟨FrRest.start b, Own.nil _ _, Obs.nil⟩ ⟨rfl, rfl, rfl, trivial⟩ (List.Perm.refl _) ?_
  rintro ⟨f, k, acc, u, vs, C, D⟩ ⟨hr, ho, hos⟩
  simp only at hr ho hos
  have hkl := hr.here
  have hfew := hr.few
  refine WC.block ?_
  refine WC.seq ?_
  refine WC.region ?_
  refine WL.y rfl (Yd.move rfl) ?_
  refine WL.y rfl (Yd.move rfl) ?_
  refine WL.ca rfl (Ent.func Try.call34 rfl) (get2_tells _ b k _ (hv.mono fun x hx => by simp [hx]) hl (by omega)) ?_
  rintro q H1 ⟨x, G, rfl, hx, rfl⟩
  refine WL.y rfl (Yd.move rfl) ?_
  refine WL.y rfl (Yd.extract rfl rfl) ?_
  refine WL.y rfl (Yd.extract rfl rfl) ?_
  refine WL.y rfl (Yd.extract rfl rfl) ?_
  refine WL.y rfl (Yd.assign rfl) ?_
  refine WL.y rfl (Yd.assign rfl) ?_
  refine WL.y rfl (Yd.assign rfl) ?_
  refine WL.nil ?_
  refine DN.then_normal ?_
  refine WC.seq ?_
  refine WC.region ?_
  refine WL.y rfl (Yd.move rfl) ?_
  refine WL.nil ?_
  refine DN.then_normal ?_
  refine WC.block ?_
  refine WC.seq ?_
  refine WC.region ?_
  refine WL.y rfl (Yd.eql rfl rfl) ?_
  refine WL.y rfl (Yd.assign rfl) ?_
  refine WL.nil ?_
  refine DN.then_normal ?_
  refine WC.ite rfl (fun h20 => ?_) (fun h20 => ?_)
  · obtain ⟨k', f', hk2, hf2, hr2, hlt⟩ := hr.next h20
    refine WC.seq ?_
    refine WC.region ?_
    refine WL.y rfl (Yd.move rfl) ?_
    refine WL.y rfl (Yd.move rfl) ?_
    refine WL.h rfl (Hd.build1 (e := 22) (z := .slice none 0 0) (by kernel_rfl) (by kernel_rfl) (by kernel_rfl) rfl hx.one_cell fun rb => ⟨_, rfl, ?_⟩)
    refine WL.h rfl (Hd.append (e := 22) (sz := 1) (bytes := 24) (zs := [.slice none 0 0]) (C := C) (D := row rb [x] 22 :: (G ++ (D ++ H))) (m := 1) (news := [x]) (by kernel_rfl) (by kernel_rfl) rfl (by omega) rfl rfl ho (.inr ⟨rb, 0, 1, [x], 22, (0, 0), true, rfl, by omega, List.mem_append_right _ List.mem_cons_self, rfl⟩) rfl (by intro y hy; rw [List.mem_singleton.1 hy]; exact hx.one_cell) (by simp only [maxLen]; omega) (by omega) (perm_out _ _ _ _) fun u2 C2 ho2 _ => ⟨_, rfl, ?_⟩)
    refine WL.y rfl (Yd.assign rfl) ?_
    refine WL.nil ?_
    refine DN.then_normal ?_
    refine WC.region ?_
    refine WL.y rfl (Yd.move rfl) ?_
    refine WL.y rfl (Yd.assign rfl) ?_
    refine WL.nil ?_
    refine DN.block_normal ?_
    refine DN.block_normal ?_
    refine DN.forget (C2 ++ (G ++ (D ++ H))) (List.Sublist.append (List.Sublist.refl _) (List.sublist_cons_self _ _)) ?_
    refine DN.again (f', k', acc ++ [(getOf b k).1], u2, vs ++ [x], C2, D ++ G) ⟨hr2, by simpa using ho2, hos.append (.one hx)⟩ (by show f' < f; omega) ⟨rfl, rfl, by rw [hk2]; rfl, trivial⟩ (perm_in _ _ _ _)
  · refine WC.seq ?_
    refine WC.region ?_
    refine WL.y rfl (Yd.eql rfl rfl) ?_
    refine WL.y rfl (Yd.assign rfl) ?_
    refine WL.nil ?_
    refine DN.then_normal ?_
    refine WC.ite rfl (fun h27 => ?_) (fun h27 => ?_)
    · refine WC.exit ?_
      refine DN.block_other rfl ?_
      refine DN.block_other rfl ?_
      refine DN.then_exit ?_
      refine DN.block_exit ?_
      refine DN.then_normal ?_
      refine WC.seq ?_
      refine WC.region ?_
      refine WL.y rfl (Yd.move rfl) ?_
      refine WL.y rfl (Yd.move rfl) ?_
      refine WL.y rfl (Yd.assign rfl) ?_
      refine WL.y rfl (Yd.assign rfl) ?_
      refine WL.y rfl (Yd.assign rfl) ?_
      refine WL.nil ?_
      refine DN.then_normal ?_
      refine WC.ret ?_
      refine DN.scope_ret ?_
      refine DN.forget (C ++ (D ++ H)) (List.sublist_append_right _ _) ?_
      refine DN.ret3 Try.results36 rfl rfl rfl ?_
      have hall := hr.stop h27
      rw [hall]
      exact ⟨u, vs, C, D, rfl, ho, hos, rfl⟩
    · refine WC.seq ?_
      refine WC.region ?_
      refine WL.y rfl (Yd.move rfl) ?_
      refine WL.y rfl (Yd.move rfl) ?_
      refine WL.y rfl (Yd.assign rfl) ?_
      refine WL.y rfl (Yd.assign rfl) ?_
      refine WL.y rfl (Yd.assign rfl) ?_
      refine WL.nil ?_
      refine DN.then_normal ?_
      refine WC.ret ?_
      refine DN.block_ret ?_
      refine DN.block_ret ?_
      refine DN.then_ret ?_
      refine DN.block_ret ?_
      refine DN.then_ret ?_
      refine DN.scope_ret ?_
      refine DN.forget (C ++ (D ++ H)) (List.sublist_append_right _ _) ?_
      refine DN.ret3 Try.results36 rfl rfl rfl ?_
      have hall := hr.bad h20 h27
      rw [hall]
      exact ⟨u, vs, C, D, rfl, ho, hos, rfl⟩

end Go.Proofs.Ytfacofbobmlmiaa
